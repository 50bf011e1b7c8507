-- Written by wip/tools/myprint.py, a program of the prover's own, over the kit's print; the contracts named 'HAND' there are typed by hand.
import Derived.Test.YtjihemgadbpebaaPTlx0
namespace Go.Proofs.Ytjihemgadbpebaa.PTl
open Go.RowKit Go.Proofs.YtjihemgadbpebaaW.PrintWords Go.Proofs.YtjihemgadbpebaaW.PrintLast Go.Proofs.YtjihemgadbpebaaW.PrintMore
attribute [local go_sem] max2_int min2_int max_two min_two max_three min_three max_four min_four   -- for this text's walks alone
set_option linter.unusedVariables false
set_option linter.unusedSimpArgs false

/-! ### crc_table: function 34 -/
set_option maxHeartbeats 400000
theorem hide {p : Prop} (h : p) : Hid p := h
def stp (n : Int) : Int := if Go.bits .and .u32 n 1 = 1 then Go.bits .xor .u32 (n / 2) 3988292384 else n / 2

theorem step_any (n : Int) (w : World) :
    Calls Try.prog 36 #[.int .u32 n] w fun e w' => e = .returned (.int .u32 (stp n)) ∧ w = w' := by
  unfold stp
  by_cases h : Go.bits .and .u32 n 1 = 1
  · have h1 : (Go.bits .and .u32 n 1 == 1) = true := beq_iff_eq.mpr h
    rw [if_pos h]
    clear h
    go_enter Try.func36, Try.ntmps36
    go_wp2
    go_ret
    exact ⟨rfl, rfl⟩
  · have h1 : (Go.bits .and .u32 n 1 == 1) = false := beq_eq_false_iff_ne.mpr h
    rw [if_neg h]
    clear h
    go_enter Try.func36, Try.ntmps36
    go_wp2
    go_ret
    exact ⟨rfl, rfl⟩
def Z256 : Array Value := Array.replicate 256 (.int .u32 0)
theorem zero35 (w : World) : (zeroValue 54).run Try.prog w = .ok (.agg Z256) w := by kernel_rfl

/-- The 256 cells of a function on numbers. -/
def Tab (g : Nat → Int) : Array Value := Array.ofFn (n := 256) fun j => .int .u32 (g j.val)
theorem Tab_size (g : Nat → Int) : (Tab g).size = 256 := by simp [Tab]
theorem Tab_get (g : Nat → Int) (i : Nat) (h : i < 256) : (Tab g)[i]? = some (.int .u32 (g i)) := by
  simp [Tab, h]
def upd (g : Nat → Int) (i : Nat) (x : Int) : Nat → Int := fun j => if j = i then x else g j
theorem Tab_set (g : Nat → Int) (i : Nat) (x : Int) : (Tab g).setIfInBounds i (.int .u32 x) = Tab (upd g i x) := by
  apply Array.ext
  · simp [Tab]
  · intro j h1 h2
    simp only [Tab, Array.size_setIfInBounds, Array.size_ofFn] at h1
    rw [Array.getElem_setIfInBounds]
    · by_cases e : i = j
      · subst e; simp [Tab, upd]
      · simp [Tab, upd, e]; omega
    · simpa [Tab] using h1
theorem Z_tab : Z256 = Tab (fun _ => 0) := by
  apply Array.ext
  · simp [Z256, Tab]
  · intro j h1 h2
    simp [Z256, Tab]

/-- block N holds the table of g -/
def HasTab (N : Nat) (g : Nat → Int) (w : World) : Prop := w.heap[N]? = some (.cells (Tab g) 54 (0, 0))
theorem HasTab.cell {N : Nat} {g : Nat → Int} {w : World} (h : HasTab N g w) (i : Nat) (hi : i < 256) : w.cell? ⟨N, i, none⟩ = some (.int .u32 (g i)) := by
  unfold HasTab at h
  simp [World.cell?, h, Tab_get g i hi]
theorem HasTab.frozen {N : Nat} {g : Nat → Int} {w : World} (h : HasTab N g w) (i : Nat) : w.frozen? ⟨N, i, none⟩ = false := by
  unfold HasTab at h
  simp [World.frozen?, h]
theorem HasTab.set {N : Nat} {g : Nat → Int} {w : World} (h : HasTab N g w) (i : Nat) (x : Int) : HasTab N (upd g i x) (w.setCell ⟨N, i, none⟩ (.int .u32 x)) := by
  unfold HasTab at *
  simp only [World.setCell, Array.getElem?_modify, if_true, h, Option.map_some, Option.isSome_none, Bool.false_eq_true, if_false, Tab_set]
theorem HasTab.start (w : World) : HasTab (w.heap.size + 1) (fun _ => 0) ((w.alloc (.cells Z256 54)).alloc (.cells Z256 54)) := by
  unfold HasTab
  rw [← Z_tab]
  have h : w.heap.size + 1 = (w.alloc (.cells Z256 54)).heap.size := by simp
  rw [h]
  simp only [World.alloc, Array.getElem?_push_size]


def itr : Nat → Int → Int
  | 0, x => x
  | m + 1, x => stp (itr m x)
def tb (j : Nat) : Int := itr 8 j
theorem Tab_congr {g h : Nat → Int} (e : ∀ j, j < 256 → g j = h j) : Tab g = Tab h := by
  apply Array.ext
  · simp [Tab]
  · intro j h1 h2
    have : j < 256 := by simpa [Tab] using h1
    simp [Tab, e j this]
theorem Tab_one {g : Nat → Int} : (Tab g).all (·.oneCell') = true := by
  rw [Array.all_eq_true]
  intro i h
  simp [Tab, Value.oneCell']
theorem crc_below_setRow {B g : Nat} {w0 w : World} (hb : Below B w0 w) (hBg : B ≤ g) (cs : Array Value) : Below B w0 (w.setRow g cs) :=
  hb.trans ⟨rfl, rfl, rfl, by simp, fun k hk => setRow_other w g k cs (by omega)⟩
theorem und35 : Try.prog.underlying 54 = some (.array 256 38) := by kernel_rfl
theorem sz35 : (Try.prog.info? 54).map (·.size) = some 256 := by kernel_rfl

set_option maxRecDepth 100000 in
theorem table_any (w : World) :
    Calls Try.prog 34 #[] w fun e w' => e = .returned (.agg (Tab tb)) ∧ Below w.heap.size w w' := by
  have hz := zero35
  go_enter Try.func34, Try.ntmps34
  go_wp2
  go_loopw [4] (fun v4 wr => ∃ (k : Nat) (g : Nat → Int), k ≤ 256 ∧ v4 = .int .i64 k ∧ Hid (∀ j, j < k → g j = tb j) ∧ HasTab (w.heap.size + 1) g wr ∧ wr.heap[w.heap.size]? = some (.cells Z256 54 (0, 0)) ∧ Below w.heap.size w wr) (fun v _ => 256 - (intOf v).toNat)
  case atStart => exact ⟨0, fun _ => 0, by omega, rfl, hide (fun j hj => absurd hj (by omega)), HasTab.start w, heap_alloc2_old w _ _, ((Below.refl _ _).alloc (Nat.le_refl _) _).alloc (by simp) _⟩
  case round =>
    obtain ⟨k, g, hk, rfl, HG, HT, HZ, HB⟩ := hrel
    have HZ' := hide HZ
    clear HZ
    by_cases hlt : k < 256
    · have hb : decide ((k : Int) < 256) = true := decide_eq_true (by omega)
      have hc := HT.cell k hlt
      have hf := HT.frozen k
      have HT' := hide HT
      clear HT
      go_wp2
      obtain ⟨wo, hwo⟩ : ∃ wo : World, wo = wr.setCell ⟨w.heap.size + 1, k, none⟩ (.int .u32 k) := ⟨_, rfl⟩
      rw [← hwo]
      have HT1 : HasTab (w.heap.size + 1) (upd g k k) wo := hwo ▸ HT'.out.set k k
      have HZ1 : wo.heap[w.heap.size]? = some (.cells Z256 54 (0, 0)) := by rw [hwo, heap_setCell_other _ _ _ _ (by simp)]; exact HZ'.out
      have HB1 : Below w.heap.size w wo := hwo ▸ HB.setCell (by simp) _
      clear hwo hc hf HT' HZ' HB
      go_loopw [11] (fun v11 wr' => ∃ (m : Nat) (g' : Nat → Int), m ≤ 8 ∧ v11 = .int .i64 m ∧ Hid (g' k = itr m k ∧ ∀ j, j ≠ k → g' j = g j) ∧ HasTab (w.heap.size + 1) g' wr' ∧ wr'.heap[w.heap.size]? = some (.cells Z256 54 (0, 0)) ∧ Below w.heap.size w wr') (fun v _ => 8 - (intOf v).toNat)
      case atStart => exact ⟨0, _, by omega, rfl, hide ⟨by simp [upd, itr], fun j hj => by simp [upd, hj]⟩, HT1, HZ1, HB1⟩
      case round =>
        obtain ⟨m, g', hm, rfl, HG', HT, HZ, HB⟩ := hrel
        have HZ' := hide HZ
        clear HZ
        by_cases hlt' : m < 8
        · have hc := HT.cell k hlt
          have hf := HT.frozen k
          have HT' := hide HT
          clear HT
          go_wp2_with (go_at_call 36; refine (step_any _ _).mono ?_; rintro e w' ⟨rfl, rfl⟩)
          go_roundw
          case rel => exact ⟨m + 1, upd g' k (stp (g' k)), by omega, by go_num, hide ⟨by simp [upd, itr, HG'.out.1], fun j hj => by simp [upd, hj]; exact HG'.out.2 j hj⟩, HT'.out.set k _, by rw [heap_setCell_other _ _ _ _ (by simp)]; exact HZ'.out, HB.setCell (by simp) _⟩
          case measure => simp [intOf]; omega
        · go_wp2
          go_roundw
          case rel => exact ⟨k + 1, g', by omega, by go_num, hide (fun j hj => by
            by_cases e : j = k
            · subst e; obtain rfl : m = 8 := by omega
              exact HG'.out.1
            · rw [HG'.out.2 j e]; exact HG.out j (by omega)), HT, HZ'.out, HB⟩
          case measure => simp [intOf]; omega
    · have HT' := hide HT
      clear HT
      go_wp2_with (first
        | (refine wpList_load_row rfl 54 (.tmp 2) rfl (w.heap.size + 1) rfl 54 (Tab g) (0, 0) _ HT'.out und35 rfl (by rw [sz35]; simp [Tab]) ?_)
        | (refine wpList_store_row rfl 54 (.tmp 0) (.tmp 22) rfl w.heap.size (Tab g) rfl rfl 54 Z256 HZ'.out (by rw [sz35]; simp [Tab]) (by simp [Tab, Z256]) Tab_one ?_))
      obtain rfl : k = 256 := by omega
      have E : Tab g = Tab tb := Tab_congr HG.out
      have HZ2 : (wr.setRow w.heap.size (Tab g)).heap[w.heap.size]? = some (.cells (Tab tb) 54 (0, 0)) := by rw [setRow_heap _ _ _ _ _ _ HZ'.out, E]
      refine bodyPost_ret (results_cell_row Try.results34 _ _ w.heap.size 54 (Tab tb) (0, 0) _ rfl HZ2 und35 rfl (by rw [sz35]; simp [Tab])) rfl ⟨rfl, crc_below_setRow HB (Nat.le_refl _) _⟩


/-! ### crc_With: function 32 -/
def crcStep (n c : Int) : Int := Go.bits .xor .u32 (n / 256) (tb (Go.bits .xor .u8 (n % 256) c).toNat)
def crcFold (n : Int) (l : List Int) : Int := l.foldl crcStep n
def crc_With.f (a0 : Int) (l1 : List Int) : Option Int := some (Go.bits .xor .u32 (crcFold (Go.bits .xor .u32 a0 4294967295) l1) 4294967295)
theorem xor8_range (a b : Int) : 0 ≤ Go.bits .xor .u8 a b ∧ Go.bits .xor .u8 a b < 256 := by
  simp only [Go.bits, IntKind.wrap_u8]; omega
theorem xor32_range (a b : Int) : 0 ≤ Go.bits .xor .u32 a b ∧ Go.bits .xor .u32 a b < 4294967296 := by
  simp only [Go.bits, IntKind.wrap_u32]; omega
theorem take_snoc (l : List Int) (k : Nat) (h : k < l.length) : l.take (k + 1) = l.take k ++ [rd l (k : Int)] := by
  rw [List.take_succ_eq_append_getElem h]; simp [rd, List.getD_eq_getElem?_getD, List.getElem?_eq_getElem h]
theorem crcFold_snoc (n : Int) (l : List Int) (k : Nat) (h : k < l.length) : crcFold n (l.take (k + 1)) = crcStep (crcFold n (l.take k)) (rd l (k : Int)) := by
  rw [take_snoc l k h]; simp [crcFold]
set_option maxHeartbeats 8000000 in
set_option maxRecDepth 100000 in
theorem crc_With.calls (a0 : Int) (A1 : Option Addr) (c1 : Nat) (l1 : List Int) (r : Int) (w : World) (hr1 : Kd.C (Kd.int .u8) w A1 l1.length l1) (hc1 : l1.length ≤ c1) (h : crc_With.f a0 l1 = some r) :
    Calls Try.prog 32 #[.int .u32 a0, .slice A1 l1.length c1] w fun e w' => e = .returned (.int .u32 r) ∧ Below w.heap.size w w' := by
  have HR1 := Aside0.mk hr1
  clear hr1 hc1
  obtain rfl := Option.some.inj h
  clear h
  have hz := zero35
  go_enter Try.func32, Try.ntmps32
  go_wp2_with (first
    | (go_at_call 34; refine (table_any _).mono ?_; rintro e w1 ⟨rfl, HB⟩)
    | (refine wpList_store_row rfl 54 (.tmp 5) (.tmp 9) rfl w1.heap.size (Tab tb) rfl rfl 54 Z256 (heap_alloc_new _ _) (by rw [sz35]; simp [Tab]) (by simp [Tab, Z256]) Tab_one ?_))
  obtain ⟨w2, hw2⟩ : ∃ w2 : World, w2 = (w1.alloc (Obj.cells Z256 54)).setRow w1.heap.size (Tab tb) := ⟨_, rfl⟩
  rw [← hw2]
  have HT : HasTab w1.heap.size tb w2 := by rw [hw2]; exact setRow_heap _ _ _ _ _ _ (heap_alloc_new _ _)
  have HB2 : Below w.heap.size w w2 := by rw [hw2]; exact crc_below_setRow (HB.alloc HB.size _) HB.size _
  have HR2 := Aside0.mk (Kd.C_below HR1.out HB2)
  clear hw2 HR1 HB
  have HT' := hide HT
  clear HT
  go_loop [6, 14] (fun v6 v14 => ∃ (k : Nat) (n : Int), k ≤ l1.length ∧ v6 = .int .u32 n ∧ v14 = .int .i64 k ∧ 0 ≤ n ∧ n < 4294967296 ∧ Hid (n = crcFold (Go.bits .xor .u32 a0 4294967295) (l1.take k))) (fun _ v => l1.length - (intOf v).toNat)
  case atStart => exact ⟨0, _, by omega, rfl, rfl, (xor32_range _ _).1, (xor32_range _ _).2, hide (by simp [crcFold])⟩
  case round =>
    obtain ⟨k, n, hk, rfl, rfl, hn0, hn1, HN⟩ := hrel
    have hm : l1.length ≤ 9223372036854775807 := HR2.out.2.1
    by_cases hlt : k < l1.length
    · obtain ⟨ad, e1, hx⟩ := Kd.at_int HR2.out (k : Int) (by omega) (by omega)
      cases e1
      simp only [Int.toNat_natCast] at hx
      have hi0 := (xor8_range (n % 256) (rd l1 k)).1
      have hi1 := (xor8_range (n % 256) (rd l1 k)).2
      have hc := HT'.out.cell (Go.bits .xor .u8 (n % 256) (rd l1 k)).toNat (by omega)
      go_wp2
      go_round
      case rel => exact ⟨k + 1, _, by omega, rfl, by go_num, (xor32_range _ _).1, (xor32_range _ _).2, hide (by rw [crcFold_snoc _ _ _ hlt, ← HN.out]; rfl)⟩
      case measure => simp [intOf]; omega
    · go_wp2
      go_ret
      obtain rfl : k = l1.length := by omega
      have e := HN.out
      rw [List.take_length] at e
      exact ⟨by rw [← e]; rfl, HB2⟩

/-! ### crc_Sum: function 29 -/
def crc_Sum.f (l0 : List Int) : Option (Int) := (crc_With.f 0 l0).bind fun t101 => (some t101)
set_option maxHeartbeats 8000000 in
set_option maxRecDepth 100000 in
theorem crc_Sum.calls (A0 : Option Addr) (c0 : Nat) (l0 : List Int) (r : Int) (w : World) (hr0 : Kd.C (Kd.int .u8) w A0 l0.length l0) (hc0 : l0.length ≤ c0) (h : crc_Sum.f l0 = some r) :
    Calls Try.prog 29 #[.slice A0 l0.length c0] w fun e w' => e = .returned (.int .u32 r) ∧ Below w.heap.size w w' := by
  have HR0 := Aside0.mk hr0
  have HC0 := Aside0.mk hc0
  clear hr0 hc0
  have HB := Aside0.mk (Below.refl w.heap.size w)
  have H : ((crc_With.f 0 l0).bind fun t101 => (some t101)) = some r := h
  clear h
  replace H := Option.bind_eq_some_iff.mp H
  obtain ⟨t101, A20, H⟩ := H
  replace H : (some t101) = some r := H
  have A2 := Aside0.mk A20
  clear A20
  obtain rfl := Option.some.inj H
  go_enter Try.func29, Try.ntmps29
  go_wp2_with (first | ((with_reducible refine gate_callee (f := 32) rfl ?_); refine goesL_ (some 4) rfl rfl Try.func32 (by kernel_rfl) rfl #[.int .u32 0, .slice A0 l0.length c0] rfl (by (try simp only [List.map_toArray, List.map_cons, List.map_nil]); first | done | rfl | (simp only [List.length_drop, List.length_take]; rfl)) ?_; (with_reducible refine (crc_With.calls 0 _ _ l0 t101 _ ?side1 ?side2 A2.out).mono ?_); (case side1 => repeat (first | exact HR0.out | (with_reducible refine Kd.C_alloc ?_ _) | (with_reducible refine Kd.C_drewN ?_ _) | (with_reducible refine Kd.C_drew ?_))); (case side2 => exact HC0.out); rintro e w3 ⟨rfl, hb⟩; refine ⟨_, rfl, ?_⟩; have n0_ := Aside0.mk (below_step (by repeat (first | (with_reducible first | exact HB.out | apply below_alloc | apply pw_below_drewN | apply below_drew1) | exact HB.out)) hb); clear HB; have HB := n0_; clear n0_; (try clear hb); (try clear hb2); (try clear hk); (try clear hi)))
  go_ret
  exact ⟨by first | rfl | (simp [errW_none, errW_some] <;> rfl) | (simp [*, errW_none, errW_some] <;> rfl), by repeat (first | (with_reducible first | exact HB.out | apply below_alloc | apply pw_below_drewN | apply below_drew1) | exact HB.out)⟩

end Go.Proofs.Ytjihemgadbpebaa.PTl
