-- Written by wip/tools/myprint.py, a program of the prover's own, over the kit's print; the contracts named 'HAND' there are typed by hand.
import Derived.Test.YtlcanmndeempfaaPMox0
import Derived.Test.YtlcanmndeempfaaPMox3
namespace Go.Proofs.Ytlcanmndeempfaa.PMo
open Go.RowKit Go.Proofs.YtlcanmndeempfaaW.PrintWords Go.Proofs.YtlcanmndeempfaaW.PrintLast Go.Proofs.YtlcanmndeempfaaW.PrintMore
attribute [local go_sem] max2_int min2_int max_two min_two max_three min_three max_four min_four   -- for this text's walks alone
set_option linter.unusedVariables false
set_option linter.unusedSimpArgs false

/-! ### schema_Text: function 19 -/
/-- how fields' kinds are written -/
def kindsL : List ByteArray := [⟨#[105, 56]⟩, ⟨#[105, 49, 54]⟩, ⟨#[105, 51, 50]⟩, ⟨#[105, 54, 52]⟩, ⟨#[116]⟩, ⟨#[42]⟩]
def kindB (k : Int) : ByteArray := kindsL.getD k.toNat ⟨#[]⟩
def fieldT (f : S40) : ByteArray := ((f.f0 ++ (⟨#[58]⟩ : ByteArray)) ++ kindB f.f1) ++ f.f2
def typeT (t : S34) : ByteArray := ((t.f0 ++ (⟨#[123]⟩ : ByteArray)) ++ (⟨(Lib.join ((t.f1.map fieldT).map (·.data.toList)) [44]).toArray⟩ : ByteArray)) ++ (⟨#[125]⟩ : ByteArray)
def smallF (f : S40) : Bool := (decide (f.f0.size ≤ 1000) && decide (f.f2.size ≤ 1000)) && (decide (0 ≤ f.f1) && decide (f.f1 < 6))
def smallT (t : S34) : Bool := (decide (t.f0.size ≤ 1000) && decide (t.f1.length ≤ 1000)) && t.f1.all smallF
def smallS (l : List S34) : Bool := decide (l.length ≤ 1000) && l.all smallT
def textL (l : List S34) : List UInt8 := l.flatMap fun t => (typeT t).data.toList
def textT (l : List S34) : ByteArray := ⟨(textL l).toArray⟩
theorem smallF_iff {f : S40} (h : smallF f = true) : f.f0.size ≤ 1000 ∧ f.f2.size ≤ 1000 ∧ 0 ≤ f.f1 ∧ f.f1 < 6 := by
  simpa [smallF, Bool.and_eq_true, and_assoc] using h
theorem smallT_iff {t : S34} (h : smallT t = true) : t.f0.size ≤ 1000 ∧ t.f1.length ≤ 1000 ∧ ∀ f ∈ t.f1, smallF f = true := by
  simpa [smallT, Bool.and_eq_true, and_assoc] using h
theorem kindB_size (k : Int) (h0 : 0 ≤ k) (h6 : k < 6) : (kindB k).size ≤ 3 := by
  have h : k = 0 ∨ k = 1 ∨ k = 2 ∨ k = 3 ∨ k = 4 ∨ k = 5 := by omega
  rcases h with rfl | rfl | rfl | rfl | rfl | rfl <;> decide
theorem fieldT_size (f : S40) (h : smallF f = true) : (fieldT f).size ≤ 2100 := by
  obtain ⟨h1, h2, h3, h4⟩ := smallF_iff h
  have := kindB_size f.f1 h3 h4
  have e : (⟨#[58]⟩ : ByteArray).size = 1 := rfl
  unfold fieldT
  rw [ByteArray.size_append, ByteArray.size_append, ByteArray.size_append, e]
  omega
theorem lt_big {a : Nat} (h : a ≤ 100000000) : (9223372036854775807 < a) = False := eq_false (Nat.not_lt.2 (Nat.le_trans h (by decide)))
theorem run_kind (k : Int) (h0 : 0 ≤ k) (h6 : k < 6) (W : World) : (Instr.index 63 (.agg #[.string ⟨#[105, 56]⟩, .string ⟨#[105, 49, 54]⟩, .string ⟨#[105, 51, 50]⟩, .string ⟨#[105, 54, 52]⟩, .string ⟨#[116]⟩, .string ⟨#[42]⟩]) (.int .i64 k)).run Try.prog W = .ok (.string (kindB k)) W := by
  have h : k = 0 ∨ k = 1 ∨ k = 2 ∨ k = 3 ∨ k = 4 ∨ k = 5 := by omega
  rcases h with rfl | rfl | rfl | rfl | rfl | rfl <;> go_simp <;> rfl
def text11_T : Bool × List (List Nat × List Nat) := (true, [([], []), ([], []), ([1], [1]), ([2], [2]), ([], []), ([], []), ([5], [5]), ([4, 6], [4, 6]), ([3, 7], [3, 7]), ([], []), ([9], [9]), ([8, 10], [8, 10]), ([11], [11]), ([0, 12, 4], [0, 12]), ([13, 13, 0, 1, 2, 3, 4, 5, 6, 7, 8, 9, 10, 11, 12, 13], [0, 13])])
def text11_B : List Nat := [0, 0, 2, 6, 0, 0, 32, 112, 254, 0, 512, 2046, 4094, 8191, 16383]
def text13_T : Bool × List (List Nat × List Nat) := (true, [([], []), ([0], [0]), ([1], [1]), ([], []), ([3], [3]), ([2, 4], [2, 4]), ([5], [5]), ([6, 4], [6])])
def text13_B : List Nat := [0, 1, 3, 0, 8, 31, 63, 127]
theorem text13_tab : rtab .any (opsOf Try.f19 13) = text13_T := by kernel_rfl
theorem text13_bits : waitsOk text13_T.2 text13_B = true := by kernel_rfl
theorem text11_tab : rtab .any (opsOf Try.f19 11) = text11_T := by kernel_rfl
theorem text11_bits : waitsOk text11_T.2 text11_B = true := by kernel_rfl
theorem join_len : ∀ (xs : List (List UInt8)) (m : Nat), (∀ x ∈ xs, x.length ≤ m) → (Lib.join xs [44]).length ≤ xs.length * (m + 1)
  | [], _, _ => by simp [Lib.join]
  | [x], m, h => by
    have h1 := h x List.mem_cons_self
    have e : Lib.join [x] [44] = x := by simp [Lib.join, List.intercalate]
    rw [e]
    simp only [List.length_cons, List.length_nil]
    omega
  | x :: y :: t, m, h => by
    have h1 := h x List.mem_cons_self
    have ih := join_len (y :: t) m fun z hz => h z (List.mem_cons_of_mem _ hz)
    have e : Lib.join (x :: y :: t) [44] = x ++ [44] ++ Lib.join (y :: t) [44] := by simp [Lib.join, List.intercalate, List.intersperse]
    have e2 : (x :: y :: t).length * (m + 1) = (y :: t).length * (m + 1) + (m + 1) := Nat.succ_mul _ _
    have e3 : ([44] : List UInt8).length = 1 := rfl
    rw [e, List.length_append, List.length_append, e2, e3]
    omega
theorem join_any (xs : List ByteArray) (W : World) (base : Nat) (ok : Nat → Prop) (v : Value) (h : Kd.R Kd.string 9 W base ok v xs) (hn : xs.length ≤ 1000) (hs : ∀ x ∈ xs, x.size ≤ 10000) :
    Calls Try.prog 38 #[v, .string ⟨#[44]⟩] W fun e w' => e = .returned (.string ⟨(Lib.join (xs.map (·.data.toList)) [44]).toArray⟩) ∧ Below W.heap.size W w' := by
  obtain ⟨A, c, e, hc, hC⟩ := Kd.R_reads h
  subst e
  cases xs with
  | nil =>
    refine (Try.strings_Join_none A c ⟨#[44]⟩ W).mono ?_
    rintro e w' ⟨rfl, rfl⟩
    exact ⟨rfl, Below.refl _ _⟩
  | cons x t =>
    obtain ⟨g, cap, e, hb, hlt, _⟩ := Kd.R_form h (by simp)
    injection e with eA e2 e3
    subst eA e3
    have hcells : ∀ (j : Nat) y, (x :: t)[j]? = some y → W.cell? ⟨g, 0 + j, none⟩ = some (.string y) := fun j y hj => by
      obtain ⟨hl, hy⟩ := List.getElem?_eq_some_iff.1 hj
      obtain ⟨ad, cs, e, _, hK, hc0⟩ := Kd.C_get hC (⟨#[]⟩ : ByteArray) (j : Int) (by omega) (by omega)
      injection e with e
      subst e
      have h1 : cs = [.string y] := by
        have h2 : cs = [.string ((x :: t).getD j ⟨#[]⟩)] := hK
        rw [h2, List.getD_eq_getElem?_getD, hj]
        rfl
      have h3 := hc0 0 (.string y) (by rw [h1]; rfl)
      have e1 : j * Kd.string.sz = j := Nat.mul_one j
      rw [Int.toNat_natCast, Nat.add_zero, e1] at h3
      rw [Nat.zero_add]
      unfold Addr.add at h3
      by_cases hj0 : j = 0
      · subst hj0
        exact h3
      · rw [if_neg hj0] at h3
        rw [show (⟨g, j, none⟩ : Addr) = ⟨g, 0 + j, none⟩ by rw [Nat.zero_add]]
        exact h3
    refine (Try.strings_Join g 0 c (x :: t) ⟨#[44]⟩ W hcells hlt (by omega) hc ?_).mono ?_
    · have := join_len ((x :: t).map (·.data.toList)) 10000 (fun z hz => by
        obtain ⟨y, hy, rfl⟩ := List.mem_map.1 hz
        have := hs y hy
        simpa using this)
      rw [List.length_map] at this
      have h5 : (x :: t).length * (10000 + 1) ≤ 1000 * (10000 + 1) := Nat.mul_le_mul_right _ hn
      have e1 : (⟨#[44]⟩ : ByteArray).data.toList = [44] := rfl
      rw [e1]
      omega
    · rintro e w' ⟨rfl, hb'⟩
      exact ⟨rfl, hb'⟩
theorem own_below {W W' : World} {B e size n : Nat} {v : Value} {xs : List Value} (h : W.ownsRow B e size v n xs) (hb : Below W.heap.size W W') : W'.ownsRow B e size v n xs := by
  refine ⟨h.1, h.2.imp id ?_⟩
  rintro ⟨g, cap, cur, e1, e2, e3, e4⟩
  exact ⟨g, cap, cur, e1, e2, blk_below e3 hb, e4⟩
theorem typeT_size (t : S34) (h : smallT t = true) : (typeT t).size ≤ 10003000 := by
  obtain ⟨h1, h2, h3⟩ := smallT_iff h
  have hj := join_len ((t.f1.map fieldT).map (·.data.toList)) 10000 (fun z hz => by
    obtain ⟨y, hy, rfl⟩ := List.mem_map.1 hz
    obtain ⟨f, hf, rfl⟩ := List.mem_map.1 hy
    have := fieldT_size f (h3 f hf)
    have e : (fieldT f).data.toList.length = (fieldT f).size := by simp
    omega)
  rw [List.length_map, List.length_map] at hj
  have h5 : t.f1.length * (10000 + 1) ≤ 1000 * (10000 + 1) := Nat.mul_le_mul_right _ h2
  have e1 : (⟨#[123]⟩ : ByteArray).size = 1 := rfl
  have e2 : (⟨#[125]⟩ : ByteArray).size = 1 := rfl
  have e3 : (⟨(Lib.join ((t.f1.map fieldT).map (·.data.toList)) [44]).toArray⟩ : ByteArray).size = (Lib.join ((t.f1.map fieldT).map (·.data.toList)) [44]).length := by simp [ByteArray.size]
  unfold typeT
  rw [ByteArray.size_append, ByteArray.size_append, ByteArray.size_append, e1, e2, e3]
  omega
theorem textL_len : ∀ (l : List S34), (∀ t ∈ l, smallT t = true) → (textL l).length ≤ l.length * 10003000
  | [], _ => Nat.le_refl _
  | t :: l, h => by
    have h1 := typeT_size t (h t List.mem_cons_self)
    have ih := textL_len l fun z hz => h z (List.mem_cons_of_mem _ hz)
    have e : textL (t :: l) = (typeT t).data.toList ++ textL l := rfl
    have e2 : (typeT t).data.toList.length = (typeT t).size := by simp
    rw [e, List.length_append, List.length_cons, Nat.succ_mul]
    omega
theorem builder_below {T e : TypeId} {B b : Nat} {bs : List Value} {w w' : World} (h : Lib.IsBuilder T e B b bs w) (hb : Below w.heap.size w w') : Lib.IsBuilder T e B b bs w' := by
  rcases h with ⟨h1, v, h2, h3, h4⟩ | ⟨h1, v, h2, h3, h4⟩
  · exact .inl ⟨h1, v, blk_below h2 hb, own_below h3 hb, h4⟩
  · exact .inr ⟨h1, v, blk_below h2 hb, own_below h3 hb, h4⟩
theorem write_any (B b : Nat) (bs : List Value) (s : ByteArray) (w : World) (h : Lib.IsBuilder 61 5 B b bs w) (hlen : bs.length + s.size ≤ 140737488355328) (hBw : B ≤ w.heap.size) :
    Calls Try.prog 37 #[.pointer (some ⟨b, 0, none⟩), .string s] w fun e w' => e = .returned (.tuple #[.int .i64 s.size, .nilIface]) ∧ (Lib.IsBuilder 61 5 B b (bs ++ Lib.strCells s) w' ∧ Below B w w') := by
  refine (Go.Proofs.Any.Builder_WriteString { Try.lays156 with } Try.Builder_Extra_156 B b bs s w h hlen hBw).mono ?_
  rintro e w' ⟨rfl, h1, h2⟩
  exact ⟨rfl, .inr h1, h2⟩
def schema_Text.f (k : Nat) (l0_0 : List S34) : Option ByteArray := (schema_May.f k l0_0).bind fun b => if b = true then (if smallS l0_0 = true then some (textT l0_0) else none) else some ⟨#[]⟩
theorem schema_Text.mono : ∀ a0 k, LeO (schema_Text.f k a0) (schema_Text.f (k + 1) a0) := fun _ _ => LeO.bind (schema_May.mono _ _) fun _ => LeO.refl _
set_option maxHeartbeats 8000000 in
set_option maxRecDepth 100000 in
theorem schema_Text.calls (k : Nat) (A0_0 : Option Addr) (c0_0 : Nat) (l0_0 : List S34) (r : ByteArray) (w : World) (hr0_0 : Kd.C k34 w A0_0 l0_0.length l0_0) (hc0_0 : l0_0.length ≤ c0_0) (h : schema_Text.f k l0_0 = some r) :
    Calls Try.prog 19 #[.agg #[.slice A0_0 l0_0.length c0_0]] w fun e w' => e = .returned (.string r) ∧ Below w.heap.size w w' := by
  have HR := Aside0.mk hr0_0
  have HC := Aside0.mk hc0_0
  unfold schema_Text.f at h
  obtain ⟨b, hb, h⟩ := Option.bind_eq_some_iff.mp h
  have HM := Aside0.mk hb
  clear hr0_0 hc0_0 hb
  cases b with
  | false =>
    obtain rfl := Option.some.inj (show some (⟨#[]⟩ : ByteArray) = some r from h)
    clear h
    go_enter Try.func19, Try.ntmps19
    go_wp2_with (go_at_call 17; refine (schema_May.calls k A0_0 c0_0 l0_0 false _ (Kd.C_alloc HR.out _) HC.out HM.out).mono ?_; rintro e w1 ⟨rfl, hb⟩)
    go_ret
    exact ⟨rfl, below_step (below_alloc (Below.refl _ _) _) hb⟩
  | true =>
    have hsm : smallS l0_0 = true ∧ r = textT l0_0 := by
      have h' : (if smallS l0_0 = true then some (textT l0_0) else none) = some r := h
      by_cases c : smallS l0_0 = true
      · rw [if_pos c] at h'
        exact ⟨c, (Option.some.inj h').symm⟩
      · rw [if_neg c] at h'
        exact absurd h' (by simp)
    obtain ⟨hs, rfl⟩ := hsm
    have HS := Aside0.mk hs
    clear h hs
    go_enter Try.func19, Try.ntmps19
    go_wp2_with (go_at_call 17; refine (schema_May.calls k A0_0 c0_0 l0_0 true _ (Kd.C_alloc HR.out _) HC.out HM.out).mono ?_; rintro e w1 ⟨rfl, hb⟩; have HB1 := Aside0.mk hb; have HX1 : w1.cell? ⟨w.heap.size, 0, none⟩ = some (.slice A0_0 l0_0.length c0_0) := (blk_cell (blk_below (blk_new w _) hb) 0).trans rfl; have HX1a : ∀ o, (w1.alloc o).cell? ⟨w.heap.size, 0, none⟩ = some (.slice A0_0 l0_0.length c0_0) := fun o => (World.cell?_alloc_lt _ _ _ (World.block_lt_of_cell? _ _ HX1)).trans HX1; clear hb)
    obtain ⟨n, hn⟩ : ∃ n, n = l0_0.length := ⟨_, rfl⟩
    have HN := Aside0.mk hn
    have HRW := Aside0.mk (Kd.C_below (Kd.C_alloc HR.out _) HB1.out)
    rw [← hn] at HRW ⊢
    rw [← hn] at HR HC
    clear HX1 HX1a h hn
    go_loopw [15] (fun i wr => ∃ j : Nat, j ≤ n ∧ i = .int .i64 (j : Int) ∧ Aside0 (Lib.IsBuilder 61 5 w1.heap.size w1.heap.size (Lib.byteCells (textL (l0_0.take j))) wr) ∧ Aside0 (Below w1.heap.size w1 wr)) (fun i _ => match i with | .int _ m => ((n : Int) - m).toNat | _ => 0)
    case atStart => exact ⟨0, by omega, rfl, ⟨Lib.fresh_isBuilder _ _ w1⟩, ⟨below_alloc (Below.refl _ _) _⟩⟩
    case round =>
      obtain ⟨j, hj, rfl, HI, HB⟩ := hrel
      by_cases hlt : j < n
      · have hb : decide ((j : Int) < (n : Int)) = true := decide_eq_true (by omega)
        have hb2 : decide (j < n) = true := decide_eq_true (by omega)
        obtain ⟨ad, A2, c2, e1, hx0, hx1, hrl, hrC⟩ := at_T34 (Kd.C_below HRW.out HB.out) (j : Int) (by omega) (by omega)
        subst e1
        have il : j < l0_0.length := by have := HN.out; omega
        have er : rd_T34 l0_0 (j : Int) = l0_0[j] := by
          unfold rd_T34
          rw [Int.toNat_natCast, List.getD_eq_getElem?_getD, List.getElem?_eq_getElem il]
          rfl
        have hst : smallT l0_0[j] = true := by
          have h := HS.out
          unfold smallS at h
          rw [Bool.and_eq_true, List.all_eq_true] at h
          exact h.2 _ (List.getElem_mem il)
        have htk : textL (l0_0.take (j + 1)) = textL (l0_0.take j) ++ (typeT l0_0[j]).data.toList := by
          unfold textL
          rw [List.take_add_one, List.getElem?_eq_getElem il, List.flatMap_append]
          simp
        rw [er, Int.toNat_natCast] at hx0 hx1
        rw [er] at hrl hrC
        generalize l0_0[j] = t at hx0 hx1 hrl hrC hst htk
        obtain ⟨hs1, hs2, hs3⟩ := smallT_iff hst
        obtain ⟨m, hm⟩ : ∃ m, m = t.f1.length := ⟨_, rfl⟩
        rw [← hm] at hx1 hrl hrC hs2
        have HM1 := Aside0.mk hm
        have HST := Aside0.mk hst
        have HTK := Aside0.mk htk
        have HLT := Aside0.mk hlt
        have HRC := Aside0.mk (Kd.C_alloc hrC (.cells #[.string t.f0, .slice A2 m c2] 34))
        have HS1 := Aside0.mk hs1
        have HS2 := Aside0.mk hs2
        have HS3 := Aside0.mk hs3
        have HI1 := Aside0.mk (builder_below HI.out (below_alloc (Below.refl _ _) (.cells #[.string t.f0, .slice A2 m c2] 34)))
        have hk1 : wrap64 ((j : Int) + 1) = ((j + 1 : Nat) : Int) := by have := HS.out; unfold smallS at this; rw [Bool.and_eq_true] at this; have h2 := of_decide_eq_true this.1; unfold wrap64; omega
        have HK1 := Aside0.mk hk1
        clear er hst htk hrl hrC hs1 hs2 hs3 hm hk1 hj il
        have HBX := Aside0.mk (blk_new wr (.cells #[.string t.f0, .slice A2 m c2] 34))
        have HB2 := Aside0.mk (below_alloc HB.out (.cells #[.string t.f0, .slice A2 m c2] 34))
        go_wp2_with (fail)
        generalize wr.alloc (.cells #[.string t.f0, .slice A2 m c2] 34) = W1 at HRC HI1 HBX HB2 ⊢
        obtain ⟨g1, hg1⟩ : ∃ g1, g1 = wr.heap.size := ⟨_, rfl⟩
        rw [← hg1] at HBX ⊢
        clear hg1
        have HTL := Aside0.mk (show (textL (l0_0.take j)).length ≤ 10003000000 by
          have h := HS.out
          unfold smallS at h
          rw [Bool.and_eq_true, List.all_eq_true] at h
          have h1 := textL_len (l0_0.take j) fun t ht => h.2 t (List.mem_of_mem_take ht)
          have h2 := of_decide_eq_true h.1
          have h3 : (l0_0.take j).length ≤ 1000 := by rw [List.length_take]; omega
          have h4 : (l0_0.take j).length * 10003000 ≤ 1000 * 10003000 := Nat.mul_le_mul_right _ h3
          omega)
        have HTS := Aside0.mk (show (typeT t).size ≤ 10003000 from typeT_size t HST.out)
        go_loopw [6, 22] (fun v i wi => ∃ q : Nat, q ≤ m ∧ i = .int .i64 (q : Int) ∧ Aside0 (Kd.R Kd.string 9 wi W1.heap.size (fun _ => True) v ((t.f1.take q).map fieldT)) ∧ Aside0 (Below W1.heap.size W1 wi)) (fun _ i _ => match i with | .int _ z => ((m : Int) - z).toNat | _ => 0)
        case atStart => exact ⟨0, by omega, rfl, ⟨Kd.R_nil _ _ _ _ _⟩, ⟨Below.refl _ _⟩⟩
        case round =>
          obtain ⟨q, hq, rfl, HV, HBI⟩ := hrel
          by_cases hqt : q < m
          · have hb3 : decide ((q : Int) < (m : Int)) = true := decide_eq_true (by omega)
            have hb4 : decide (q < m) = true := decide_eq_true (by omega)
            obtain ⟨ad2, e2, hy0, hy1, hy2⟩ := at_T40 (Kd.C_below HRC.out HBI.out) (q : Int) (by omega) (by omega)
            subst e2
            have iq : q < t.f1.length := by have := HM1.out; omega
            have er : rd_T40 t.f1 (q : Int) = t.f1[q] := by
              unfold rd_T40
              rw [Int.toNat_natCast, List.getD_eq_getElem?_getD, List.getElem?_eq_getElem iq]
              rfl
            have hsf : smallF t.f1[q] = true := HS3.out _ (List.getElem_mem iq)
            have htk : (t.f1.take (q + 1)).map fieldT = (t.f1.take q).map fieldT ++ [fieldT t.f1[q]] := by
              rw [List.take_add_one, List.getElem?_eq_getElem iq, List.map_append]
              rfl
            rw [er, Int.toNat_natCast] at hy0 hy1 hy2
            generalize t.f1[q] = f at hy0 hy1 hy2 hsf htk
            obtain ⟨hs1, hs2, hs3, hs4⟩ := smallF_iff hsf
            have hk2 : wrap64 ((q : Int) + 1) = ((q + 1 : Nat) : Int) := by have := HS2.out; unfold wrap64; omega
            have HK2 := Aside0.mk hk2
            have HTF := Aside0.mk htk
            have HQT := Aside0.mk hqt
            have HLQ := Aside0.mk (show ((t.f1.take q).map fieldT).length ≤ 1000 by rw [List.length_map, List.length_take]; have := HS2.out; omega)
            have hkb := kindB_size f.f1 hs3 hs4
            have z1 : (9223372036854775807 < f.f0.size + 1) = False := lt_big (by omega)
            have hsz1 : (f.f0 ++ (⟨#[58]⟩ : ByteArray)).size = f.f0.size + 1 := ByteArray.size_append
            have z2 : (9223372036854775807 < (f.f0 ++ (⟨#[58]⟩ : ByteArray)).size + (kindB f.f1).size) = False := lt_big (by rw [hsz1]; omega)
            have hsz2 : (f.f0 ++ (⟨#[58]⟩ : ByteArray) ++ kindB f.f1).size = f.f0.size + 1 + (kindB f.f1).size := by rw [ByteArray.size_append, hsz1]
            have z3 : (9223372036854775807 < (f.f0 ++ (⟨#[58]⟩ : ByteArray) ++ kindB f.f1).size + f.f2.size) = False := lt_big (by rw [hsz2]; omega)
            have z4 : (9223372036854775807 < f.f0.size + 1 + (kindB f.f1).size) = False := lt_big (by omega)
            have z5 : (9223372036854775807 < f.f0.size + 1 + (kindB f.f1).size + f.f2.size) = False := lt_big (by omega)
            have hrk := run_kind f.f1 hs3 hs4
            clear er hsf htk hs1 hs2 hs3 hs4 hkb hsz1 hsz2 hk2 hq iq
            go_upto_region 11 with (fail)
            have HF0 := Aside0.mk (blk_new wr (.cells #[.string f.f0, .int .i64 f.f1, .string f.f2] 40))
            have HV1 := Aside0.mk (Kd.R_drew (Kd.R_alloc HV.out (.cells #[.string f.f0, .int .i64 f.f1, .string f.f2] 40)))
            have HBI1 := Aside0.mk (below_drew1 (below_alloc HBI.out (.cells #[.string f.f0, .int .i64 f.f1, .string f.f2] 40)))
            generalize hwg : (wr.alloc (.cells #[.string f.f0, .int .i64 f.f1, .string f.f2] 40)) = w2 at HF0 HV1 HBI1 ⊢
            obtain ⟨g2, hg2⟩ : ∃ g2, g2 = wr.heap.size := ⟨_, rfl⟩
            rw [← hg2] at HF0 ⊢
            clear hwg hg2 hy0 hy1 hy2
            refine start_ (n := 15) (S := fun w' => w'.cell? ⟨g2, 0, none⟩ = some (.string f.f0) ∧ w'.cell? ⟨g2, 1, none⟩ = some (.int .i64 f.f1) ∧ w'.cell? ⟨g2, 2, none⟩ = some (.string f.f2)) (ds := []) #[false, false, false, false, false, false, false, false, false, false, false, false, false, false, false] (by kernel_rfl) rfl rfl ⟨(blk_cell (blk_drew HF0.out) 0).trans rfl, (blk_cell (blk_drew HF0.out) 1).trans rfl, (blk_cell (blk_drew HF0.out) 2).trans rfl⟩ (fun hHeld => ?_)
            refine with_tabW text11_tab text11_bits (fun HT_ HW_ => ?_)
            have HF1 := Aside0.mk (blk_drew HF0.out)
            generalize w2.drew = w3 at HV1 HBI1 HF1 hHeld ⊢
            refine pure_ (i := 0) (N := some 26) (v := ?_) (a' := ?_) #[true, false, false, false, false, false, false, false, false, false, false, false, false, false, false] rfl rfl (any_of HT_.out (by kernel_rfl)) (fun _ _ _ h => h) (Or.inl ⟨by rfl, ?_⟩) ?_ ?_
            rotate_left
            · intro w'
              go_simp
              with_reducible rfl
            rotate_left
            · simp only [Act.put, List.setIfInBounds_toArray, List.set_cons_zero, List.set_cons_succ, i64_w, i32_w]
              rfl
            refine pure_ (i := 1) (N := some 27) (v := ?_) (a' := ?_) #[true, true, false, false, false, false, false, false, false, false, false, false, false, false, false] rfl rfl (any_of HT_.out (by kernel_rfl)) (fun _ _ _ h => h) (Or.inl ⟨by rfl, ?_⟩) ?_ ?_
            rotate_left
            · intro w'
              go_simp
              with_reducible rfl
            rotate_left
            · simp only [Act.put, List.setIfInBounds_toArray, List.set_cons_zero, List.set_cons_succ, i64_w, i32_w]
              rfl
            refine pure_ (i := 5) (N := some 31) (v := ?_) (a' := ?_) #[true, true, false, false, false, true, false, false, false, false, false, false, false, false, false] rfl rfl (any_of HT_.out (by kernel_rfl)) (fun _ _ _ h => h) (Or.inl ⟨by rfl, ?_⟩) ?_ ?_
            rotate_left
            · intro w'
              go_simp
              with_reducible rfl
            rotate_left
            · simp only [Act.put, List.setIfInBounds_toArray, List.set_cons_zero, List.set_cons_succ, i64_w, i32_w]
              rfl
            refine pure_ (i := 9) (N := some 35) (v := ?_) (a' := ?_) #[true, true, false, false, false, true, false, false, false, true, false, false, false, false, false] rfl rfl (any_of HT_.out (by kernel_rfl)) (fun _ _ _ h => h) (Or.inl ⟨by rfl, ?_⟩) ?_ ?_
            rotate_left
            · intro w'
              go_simp
              with_reducible rfl
            rotate_left
            · simp only [Act.put, List.setIfInBounds_toArray, List.set_cons_zero, List.set_cons_succ, i64_w, i32_w]
              rfl
            refine take_ (i := 2) (N := some 28) (v := ?_) (a' := ?_) #[true, true, true, false, false, true, false, false, false, true, false, false, false, false, false] rfl rfl (take_ofW HT_.out HW_.out (by kernel_rfl)) (fun _ _ _ h => h) (Or.inl ⟨by rfl, ?_⟩) hHeld ?_ ?_
            rotate_left
            · rintro w' ⟨s0, s1, s2⟩
              go_simp
              with_reducible rfl
            rotate_left
            · simp only [Act.put, List.setIfInBounds_toArray, List.set_cons_zero, List.set_cons_succ, i64_w, i32_w]
              rfl
            refine take_ (i := 6) (N := some 32) (v := ?_) (a' := ?_) #[true, true, true, false, false, true, true, false, false, true, false, false, false, false, false] rfl rfl (take_ofW HT_.out HW_.out (by kernel_rfl)) (fun _ _ _ h => h) (Or.inl ⟨by rfl, ?_⟩) hHeld ?_ ?_
            rotate_left
            · rintro w' ⟨s0, s1, s2⟩
              go_simp
              with_reducible rfl
            rotate_left
            · simp only [Act.put, List.setIfInBounds_toArray, List.set_cons_zero, List.set_cons_succ, i64_w, i32_w]
              rfl
            refine take_ (i := 10) (N := some 36) (v := ?_) (a' := ?_) #[true, true, true, false, false, true, true, false, false, true, true, false, false, false, false] rfl rfl (take_ofW HT_.out HW_.out (by kernel_rfl)) (fun _ _ _ h => h) (Or.inl ⟨by rfl, ?_⟩) hHeld ?_ ?_
            rotate_left
            · rintro w' ⟨s0, s1, s2⟩
              go_simp
              with_reducible rfl
            rotate_left
            · simp only [Act.put, List.setIfInBounds_toArray, List.set_cons_zero, List.set_cons_succ, i64_w, i32_w]
              rfl
            refine pure_ (i := 3) (N := some 29) (v := ?_) (a' := ?_) #[true, true, true, true, false, true, true, false, false, true, true, false, false, false, false] rfl rfl (any_of HT_.out (by kernel_rfl)) (fun _ _ _ h => h) (Or.inl ⟨by rfl, ?_⟩) ?_ ?_
            rotate_left
            · intro w'
              go_simp
              with_reducible rfl
            rotate_left
            · simp only [Act.put, List.setIfInBounds_toArray, List.set_cons_zero, List.set_cons_succ, i64_w, i32_w]
              rfl
            refine one_ (i := 4) (N := some 30) #[true, true, true, true, true, true, true, false, false, true, true, false, false, false, false] rfl rfl (one_of HT_.out (by kernel_rfl)) (by decide) (fun K hK => ?_)
            refine goes_ Try.func36 (by kernel_rfl) rfl #[] (by rfl) rfl rfl (by simp) ?_
            with_reducible refine (schema_kinds.calls w3).mono ?_
            rintro e w4 ⟨rfl, rfl⟩
            refine ⟨_, rfl, ?_⟩
            have HV2 := Aside0.mk (Kd.R_alloc HV1.out (.cells #[.string ⟨#[105, 56]⟩, .string ⟨#[105, 49, 54]⟩, .string ⟨#[105, 51, 50]⟩, .string ⟨#[105, 54, 52]⟩, .string ⟨#[116]⟩, .string ⟨#[42]⟩] 63))
            have HBI2 := Aside0.mk (below_alloc HBI1.out (.cells #[.string ⟨#[105, 56]⟩, .string ⟨#[105, 49, 54]⟩, .string ⟨#[105, 51, 50]⟩, .string ⟨#[105, 54, 52]⟩, .string ⟨#[116]⟩, .string ⟨#[42]⟩] 63))
            refine hK.out _ _ ⟨(World.cell?_alloc_lt _ _ _ (World.block_lt_of_cell? _ _ hHeld.1)).trans hHeld.1, (World.cell?_alloc_lt _ _ _ (World.block_lt_of_cell? _ _ hHeld.2.1)).trans hHeld.2.1, (World.cell?_alloc_lt _ _ _ (World.block_lt_of_cell? _ _ hHeld.2.2)).trans hHeld.2.2⟩ (fun hHeld => ?_)
            clear hK K
            have HF2 := Aside0.mk (blk_alloc HF1.out (.cells #[.string ⟨#[105, 56]⟩, .string ⟨#[105, 49, 54]⟩, .string ⟨#[105, 51, 50]⟩, .string ⟨#[105, 54, 52]⟩, .string ⟨#[116]⟩, .string ⟨#[42]⟩] 63))
            generalize w3.alloc (.cells #[.string ⟨#[105, 56]⟩, .string ⟨#[105, 49, 54]⟩, .string ⟨#[105, 51, 50]⟩, .string ⟨#[105, 54, 52]⟩, .string ⟨#[116]⟩, .string ⟨#[42]⟩] 63) = w4 at HV2 HBI2 HF2 hHeld ⊢
            refine norm_ (a' := ?_) ?_ ?_
            rotate_left
            · show Act.put _ (some 30) _ = _
              simp only [Act.put, List.setIfInBounds_toArray, List.set_cons_zero, List.set_cons_succ, i64_w, i32_w]
              rfl
            refine pure_ (i := 7) (N := some 33) (v := ?_) (a' := ?_) #[true, true, true, true, true, true, true, true, false, true, true, false, false, false, false] rfl rfl (any_of HT_.out (by kernel_rfl)) (fun _ _ _ h => h) (Or.inl ⟨by rfl, ?_⟩) ?_ ?_
            rotate_left
            · intro w'
              go_simp
              with_reducible rfl
            rotate_left
            · simp only [Act.put, List.setIfInBounds_toArray, List.set_cons_zero, List.set_cons_succ, i64_w, i32_w]
              rfl
            refine pure_ (i := 8) (N := some 34) (v := ?_) (a' := ?_) #[true, true, true, true, true, true, true, true, true, true, true, false, false, false, false] rfl rfl (any_of HT_.out (by kernel_rfl)) (fun _ _ _ h => h) (Or.inl ⟨by rfl, ?_⟩) ?_ ?_
            rotate_left
            · intro w'
              go_simp
              with_reducible rfl
            rotate_left
            · simp only [Act.put, List.setIfInBounds_toArray, List.set_cons_zero, List.set_cons_succ, i64_w, i32_w]
              rfl
            refine pure_ (i := 11) (N := some 37) (v := ?_) (a' := ?_) #[true, true, true, true, true, true, true, true, true, true, true, true, false, false, false] rfl rfl (any_of HT_.out (by kernel_rfl)) (fun _ _ _ h => h) (Or.inl ⟨by rfl, ?_⟩) ?_ ?_
            rotate_left
            · intro w'
              go_simp
              with_reducible rfl
            rotate_left
            · simp only [Act.put, List.setIfInBounds_toArray, List.set_cons_zero, List.set_cons_succ, i64_w, i32_w]
              rfl
            refine one_ (i := 12) (N := some 38) #[true, true, true, true, true, true, true, true, true, true, true, true, true, false, false] rfl rfl (one_of HT_.out (by kernel_rfl)) (by decide) (fun K hK => ?_)
            refine value_ (w1 := w4.alloc (.cells #[.string (((f.f0 ++ (⟨#[58]⟩ : ByteArray)) ++ kindB f.f1) ++ f.f2)] 9)) (v := .slice (some ⟨w4.heap.size, 0, none⟩) 1 1) (by rfl) rfl ?_ ?_
            · go_simp
            refine hK.out _ _ ⟨(World.cell?_alloc_lt _ _ _ (World.block_lt_of_cell? _ _ hHeld.1)).trans hHeld.1, (World.cell?_alloc_lt _ _ _ (World.block_lt_of_cell? _ _ hHeld.2.1)).trans hHeld.2.1, (World.cell?_alloc_lt _ _ _ (World.block_lt_of_cell? _ _ hHeld.2.2)).trans hHeld.2.2⟩ (fun hHeld => ?_)
            clear hK K
            refine norm_ (a' := ?_) ?_ ?_
            rotate_left
            · show Act.put _ (some 38) _ = _
              simp only [Act.put, List.setIfInBounds_toArray, List.set_cons_zero, List.set_cons_succ, i64_w, i32_w]
              rfl
            refine one_ (i := 13) (N := some 39) #[true, true, true, true, true, true, true, true, true, true, true, true, true, true, false] rfl rfl (one_of HT_.out (by kernel_rfl)) (by decide) (fun K hK => ?_)
            refine Kd.R_append_step Kd.string (w0 := W1) W1.heap.size (by rfl) (.tmp 26) (.tmp 38) 62 9 (.string ⟨#[]⟩) 16 rfl Try.underlying62 info9 rfl (by decide) (by omega) u6 ((t.f1.take q).map fieldT) (fieldT f) [.string (((f.f0 ++ (⟨#[58]⟩ : ByteArray)) ++ kindB f.f1) ++ f.f2)] (fun _ => True) (fun _ => False) rfl rfl ?aP (fun _ hk => hk.elim) ?aF ?aO ?aB ?aS ?aL ?_
            case aP => rfl
            case aF => exact fun _ _ => trivial
            case aO => exact HV2.out
            case aB => exact HBI2.out
            case aS => exact HBI2.out.size
            case aL => have := HLQ.out; omega
            intro v1 w5 ho hb5 hg5 hat
            rw [← HTF.out] at ho
            have HV4 := Aside0.mk ho
            have HBI4 := Aside0.mk hb5
            have HF4 := Aside0.mk (blk_grown (g := g2) HF2.out hg5 (Kd.R_ne HV2.out HF2.out (by decide)))
            have HX4 : Aside0 (w5.cell? ⟨g2, 0, none⟩ = some (.string f.f0) ∧ w5.cell? ⟨g2, 1, none⟩ = some (.int .i64 f.f1) ∧ w5.cell? ⟨g2, 2, none⟩ = some (.string f.f2)) := ⟨(blk_cell HF4.out 0).trans rfl, (blk_cell HF4.out 1).trans rfl, (blk_cell HF4.out 2).trans rfl⟩
            refine hK.out _ _ HX4.out (fun hHeld => ?_)
            clear hK K ho hb5 hg5
            refine norm_ (a' := ?_) ?_ ?_
            rotate_left
            · show Act.put _ (some 39) _ = _
              simp only [Act.put, List.setIfInBounds_toArray, List.set_cons_zero, List.set_cons_succ, i64_w, i32_w]
              rfl
            refine pure_ (i := 14) (N := some 6) (v := ?_) (a' := ?_) #[true, true, true, true, true, true, true, true, true, true, true, true, true, true, true] rfl rfl (any_of HT_.out (by kernel_rfl)) (fun _ _ _ h => h) (Or.inl ⟨by rfl, ?_⟩) ?_ ?_
            rotate_left
            · intro w'
              go_simp
              with_reducible rfl
            rotate_left
            · simp only [Act.put, List.setIfInBounds_toArray, List.set_cons_zero, List.set_cons_succ, i64_w, i32_w]
              rfl
            refine done_ (done_of HT_.out (by kernel_rfl)) ?_
            clear HX4 hHeld
            go_wp2
            go_roundw
            case rel => exact ⟨q + 1, HQT.out, by rw [HK2.out], HV4, HBI4⟩
            case measure => rw [HK2.out]; have := HQT.out; simp; omega
          · have hb3 : decide ((q : Int) < (m : Int)) = false := decide_eq_false (by omega)
            have hb4 : decide (q < m) = false := decide_eq_false (by omega)
            obtain rfl : q = m := by omega
            have hv := HV.out
            rw [List.take_of_length_le (by have := HM1.out; omega)] at hv
            have HV5 := Aside0.mk hv
            have hsz : ∀ x ∈ t.f1.map fieldT, x.size ≤ 10000 := fun x hx => by
              obtain ⟨f, hf, rfl⟩ := List.mem_map.1 hx
              have := fieldT_size f (HS3.out f hf)
              omega
            have hln : (t.f1.map fieldT).length ≤ 1000 := by rw [List.length_map]; have := HS2.out; have := HM1.out; omega
            have HSZ := Aside0.mk hsz
            have HLN := Aside0.mk hln
            have z1 : (9223372036854775807 < t.f0.size + 1) = False := lt_big (by have := HS1.out; omega)
            clear hv hsz hln hqt hq HV
            obtain ⟨J, hJ⟩ : ∃ J : ByteArray, J = ⟨(Lib.join ((t.f1.map fieldT).map (·.data.toList)) [44]).toArray⟩ := ⟨_, rfl⟩
            have hT : typeT t = ((t.f0 ++ (⟨#[123]⟩ : ByteArray)) ++ J) ++ (⟨#[125]⟩ : ByteArray) := by rw [hJ]; rfl
            have PJ : ∀ W, Kd.R Kd.string 9 W W1.heap.size (fun _ => True) u6 (t.f1.map fieldT) → Calls Try.prog 38 #[u6, .string ⟨#[44]⟩] W fun e w' => e = .returned (.string J) ∧ Below W.heap.size W w' := fun W h => by
              rw [hJ]
              exact join_any _ W _ _ u6 h HLN.out HSZ.out
            have hJs : t.f0.size + 1 + J.size + 1 ≤ 10003000 := by
              have h := HTS.out
              have e1 : (⟨#[123]⟩ : ByteArray).size = 1 := rfl
              have e2 : (⟨#[125]⟩ : ByteArray).size = 1 := rfl
              rw [hT, ByteArray.size_append, ByteArray.size_append, ByteArray.size_append, e1, e2] at h
              exact h
            have z2 : (9223372036854775807 < t.f0.size + 1 + J.size) = False := lt_big (by omega)
            have z3 : (9223372036854775807 < t.f0.size + 1 + J.size + 1) = False := lt_big (by omega)
            have HT := Aside0.mk hT
            clear hJ hJs hT
            have HXT := Aside0.mk (blk_drew (blk_below HBX.out HBI.out))
            have HVT := Aside0.mk (Kd.R_drew HV5.out)
            have HIT := Aside0.mk (show Lib.IsBuilder 61 5 w1.heap.size w1.heap.size (Lib.byteCells (textL (l0_0.take j))) wr.drew from builder_below HI1.out (below_drew1 HBI.out))
            have HBT := Aside0.mk (below_drew1 (below_then HB2.out HB2.out.size HBI.out))
            go_upto_region 13 with (fail)
            refine start_ (n := 8) (S := fun w' => w'.cell? ⟨g1, 0, none⟩ = some (.string t.f0)) (ds := [7]) #[false, false, false, false, false, false, false, false] (by kernel_rfl) rfl rfl ((blk_cell HXT.out 0).trans rfl) (fun hHeld => ?_)
            refine with_tabW text13_tab text13_bits (fun HT_ HW_ => ?_)
            generalize wr.drew = w3 at HXT HVT HIT HBT hHeld ⊢
            refine pure_ (i := 0) (N := some 41) (v := ?_) (a' := ?_) #[true, false, false, false, false, false, false, false] rfl rfl (any_of HT_.out (by kernel_rfl)) (fun _ _ _ h => h) (Or.inl ⟨by rfl, ?_⟩) ?_ ?_
            rotate_left
            · intro w'
              go_simp
              with_reducible rfl
            rotate_left
            · simp only [Act.put, List.setIfInBounds_toArray, List.set_cons_zero, List.set_cons_succ, i64_w, i32_w]
              rfl
            refine pure_ (i := 3) (N := some 44) (v := ?_) (a' := ?_) #[true, false, false, true, false, false, false, false] rfl rfl (any_of HT_.out (by kernel_rfl)) (fun _ _ _ h => h) (Or.inl ⟨by rfl, ?_⟩) ?_ ?_
            rotate_left
            · intro w'
              go_simp
              with_reducible rfl
            rotate_left
            · simp only [Act.put, List.setIfInBounds_toArray, List.set_cons_zero, List.set_cons_succ, i64_w, i32_w]
              rfl
            refine take_ (i := 1) (N := some 42) (v := ?_) (a' := ?_) #[true, true, false, true, false, false, false, false] rfl rfl (take_ofW HT_.out HW_.out (by kernel_rfl)) (fun _ _ _ h => h) (Or.inl ⟨by rfl, ?_⟩) hHeld ?_ ?_
            rotate_left
            · rintro w' s0
              go_simp
              with_reducible rfl
            rotate_left
            · simp only [Act.put, List.setIfInBounds_toArray, List.set_cons_zero, List.set_cons_succ, i64_w, i32_w]
              rfl
            refine pure_ (i := 2) (N := some 43) (v := ?_) (a' := ?_) #[true, true, true, true, false, false, false, false] rfl rfl (any_of HT_.out (by kernel_rfl)) (fun _ _ _ h => h) (Or.inl ⟨by rfl, ?_⟩) ?_ ?_
            rotate_left
            · intro w'
              go_simp
              with_reducible rfl
            rotate_left
            · simp only [Act.put, List.setIfInBounds_toArray, List.set_cons_zero, List.set_cons_succ, i64_w, i32_w]
              rfl
            refine one_ (i := 4) (N := some 45) #[true, true, true, true, true, false, false, false] rfl rfl (one_of HT_.out (by kernel_rfl)) (by decide) (fun K hK => ?_)
            refine goes_ Try.func38 (by kernel_rfl) rfl #[u6, .string ⟨#[44]⟩] (by rfl) rfl rfl (by simp only [List.map_toArray, List.map_cons, List.map_nil]; rfl) ?_
            with_reducible refine (PJ w3 HVT.out).mono ?_
            rintro e w4 ⟨rfl, hb4⟩
            refine ⟨_, rfl, ?_⟩
            have HI4 := Aside0.mk (builder_below HIT.out hb4)
            have HB4 := Aside0.mk (below_then HBT.out HBT.out.size hb4)
            have hw4 := HB4.out.size
            have HX4 := Aside0.mk ((hb4.cell (World.block_lt_of_cell? _ _ hHeld)).trans hHeld)
            refine hK.out _ _ HX4.out (fun hHeld => ?_)
            clear hK K hb4 HXT HVT HX4
            refine norm_ (a' := ?_) ?_ ?_
            rotate_left
            · show Act.put _ (some 45) _ = _
              simp only [Act.put, List.setIfInBounds_toArray, List.set_cons_zero, List.set_cons_succ, i64_w, i32_w]
              rfl
            refine pure_ (i := 5) (N := some 46) (v := ?_) (a' := ?_) #[true, true, true, true, true, true, false, false] rfl rfl (any_of HT_.out (by kernel_rfl)) (fun _ _ _ h => h) (Or.inl ⟨by rfl, ?_⟩) ?_ ?_
            rotate_left
            · intro w'
              go_simp
              with_reducible rfl
            rotate_left
            · simp only [Act.put, List.setIfInBounds_toArray, List.set_cons_zero, List.set_cons_succ, i64_w, i32_w]
              rfl
            refine pure_ (i := 6) (N := some 47) (v := ?_) (a' := ?_) #[true, true, true, true, true, true, true, false] rfl rfl (any_of HT_.out (by kernel_rfl)) (fun _ _ _ h => h) (Or.inl ⟨by rfl, ?_⟩) ?_ ?_
            rotate_left
            · intro w'
              go_simp
              with_reducible rfl
            rotate_left
            · simp only [Act.put, List.setIfInBounds_toArray, List.set_cons_zero, List.set_cons_succ, i64_w, i32_w]
              rfl
            refine last_ (i := 7) (N := some 48) #[true, true, true, true, true, true, true, true] rfl rfl (one_of HT_.out (by kernel_rfl)) (by decide) (fun K hK => ?_)
            refine goes_ Try.func37 (by kernel_rfl) rfl #[.pointer (some ⟨w1.heap.size, 0, none⟩), .string (((t.f0 ++ (⟨#[123]⟩ : ByteArray)) ++ J) ++ (⟨#[125]⟩ : ByteArray))] (by rfl) rfl rfl (by simp only [List.map_toArray, List.map_cons, List.map_nil]; rfl) ?_
            with_reducible refine (write_any w1.heap.size w1.heap.size (Lib.byteCells (textL (l0_0.take j))) (((t.f0 ++ (⟨#[123]⟩ : ByteArray)) ++ J) ++ (⟨#[125]⟩ : ByteArray)) w4 HI4.out ?wl ?wb).mono ?_
            case wl => rw [← HT.out, Lib.byteCells_length]; have := HTL.out; have := HTS.out; omega
            case wb => exact HB4.out.size
            rintro e w5 ⟨rfl, hI5, hb5⟩
            refine ⟨_, rfl, ?_⟩
            have HI5 := Aside0.mk hI5
            have HB5 := Aside0.mk (HB4.out.trans hb5)
            refine hK.out _ _ ?_
            clear hK K hI5 hb5
            refine norm_ (a' := ?_) ?_ ?_
            rotate_left
            · show Act.put _ (some 48) _ = _
              simp only [Act.put, List.setIfInBounds_toArray, List.set_cons_zero, List.set_cons_succ, i64_w, i32_w]
              rfl
            refine done_ (done_of HT_.out (by kernel_rfl)) ?_
            go_wp2
            go_roundw
            case rel =>
              refine ⟨j + 1, HLT.out, by rw [HK1.out], ⟨?_⟩, HB5⟩
              have h := HI5.out
              rw [← HT.out, Lib.strCells_eq, ← Lib.byteCells_append, ← HTK.out] at h
              exact h
            case measure => rw [HK1.out]; have := HLT.out; simp; omega
      · have hb : decide ((j : Int) < (n : Int)) = false := decide_eq_false (by omega)
        have hb2 : decide (j < n) = false := decide_eq_false (by omega)
        obtain rfl : j = n := by omega
        have hi := HI.out
        rw [List.take_of_length_le (by have := HN.out; omega)] at hi
        have HI2 := Aside0.mk hi
        have hsz := HB.out.size
        clear hlt hj hi HI
        go_wp2_with (go_at_call 39; refine (Try.Builder_String_any w1.heap.size w1.heap.size (textL l0_0) _ HI2.out hsz).mono ?_; rintro e w5 ⟨rfl, hb5⟩)
        go_ret
        have h0 := below_step (below_alloc (Below.refl w.heap.size w) _) HB1.out
        exact ⟨rfl, h0.trans ((HB.out.trans hb5).mono h0.size)⟩

/-! ### schema_reader_take: function 42 -/
/-- the string of a row of runes -/
theorem C_runes {w : World} {A : Option Addr} {n c : Nat} {xs : List Int} (h : Kd.C (Kd.int .i32) w A n xs) : (convert 45 9 (.slice A n c)).run Try.prog w = .ok (.string (runesBytes xs)) w := by
  rw [run_convert_runes_string w 45 9 21 A n c Try.underlying45 Try.underlying21 Try.underlying9]
  have hn := h.1
  cases A with
  | none =>
    have hx : xs = [] := by
      have h2 := h.2.2
      by_cases h0 : 0 < n
      · obtain ⟨ad, e, _⟩ := h2 h0
        exact absurd e (by simp)
      · exact List.eq_nil_of_length_eq_zero (by omega)
    subst hx
    rfl
  | some a =>
    subst hn
    refine run_runesToString w a _ c xs ?_
    have hl := run_loadCells_list (P := Try.prog) w a (xs.map (Value.int .i32)) (fun j v hj => by
      rw [List.getElem?_map] at hj
      obtain ⟨x, hx, rfl⟩ := Option.map_eq_some_iff.1 hj
      have hjl := (List.getElem?_eq_some_iff.1 hx).1
      obtain ⟨ad, e, hc⟩ := h.2.2 (by omega)
      injection e with e
      subst e
      obtain ⟨cs, _, hK, hcell⟩ := hc j x hx
      have hK' : cs = [.int .i32 x] := hK
      have h3 := hcell 0 (.int .i32 x) (by rw [hK']; rfl)
      have e1 : j * (Kd.int .i32).sz + 0 = j := Nat.mul_one j
      rw [e1] at h3
      exact h3)
    rw [List.length_map] at hl
    exact hl
/-- what lies below B stands, and so do the iterators over strings -/
def BI (B : Nat) (w w' : World) : Prop := Below B w w' ∧ ∀ (k : Nat) (s : ByteArray) (p : Nat), w.heap[k]? = some (Obj.stringIter s p) → w'.heap[k]? = some (Obj.stringIter s p)
theorem BI.refl (B : Nat) (w : World) : BI B w w := ⟨Below.refl B w, fun _ _ _ h => h⟩
theorem BI.trans {B : Nat} {a b c : World} (h : BI B a b) (k : BI B b c) : BI B a c := ⟨h.1.trans k.1, fun i s p hi => k.2 i s p (h.2 i s p hi)⟩
theorem BI.drew {B : Nat} {a w : World} (h : BI B a w) : BI B a w.drew := ⟨h.1.drew, h.2⟩
theorem bi_drewN {B : Nat} {a w : World} (h : BI B a w) (m : Nat) : BI B a (w.drewN m) := ⟨pw_below_drewN h.1 m, h.2⟩
theorem BI.alloc {B : Nat} {a w : World} (h : BI B a w) (hB : B ≤ w.heap.size) (o : Obj) : BI B a (w.alloc o) := ⟨h.1.alloc hB o, fun k s p hk => blk_alloc (h.2 k s p hk) o⟩
theorem BI.setCell {B : Nat} {a w : World} (h : BI B a w) {g t : Nat} {cells : Array Value} (hb : w.heap[g]? = some (.cells cells t (0, 0))) (hg : B ≤ g) (j : Nat) (u : Value) : BI B a (w.setCell ⟨g, j, none⟩ u) :=
  ⟨h.1.setCell (p := ⟨g, j, none⟩) hg u, fun k s p hk => (Below.heap_setCell w ⟨g, j, none⟩ u k (fun e => by
    have e' : k = g := e
    subst e'
    have h1 := h.2 k s p hk
    rw [hb] at h1
    exact Obj.noConfusion (Option.some.inj h1))).trans (h.2 k s p hk)⟩
theorem BI.grown {B e : Nat} {a w w1 : World} {row : Option Nat} (h : BI B a w) (hB : Below B a w1) (hg : w.grownBy w1 row) (hrow : ∀ k, row = some k → ∃ cells, w.heap[k]? = some (.cells cells e (0, 0))) : BI B a w1 :=
  ⟨hB, fun k s p hk => (hg.block k (blk_lt (h.2 k s p hk)) (fun he => by
    obtain ⟨cells, hc⟩ := hrow k he.symm
    rw [h.2 k s p hk] at hc
    exact Obj.noConfusion (Option.some.inj hc))).trans (h.2 k s p hk)⟩
/-- a reader of the call's own, in block g: the types, the word's runes, a name, and where it is -/
def IsRd (B g : Nat) (w : World) (T : List S34) (wd : List Int) (nm : ByteArray) (inn fld : Bool) : Prop :=
  B ≤ g ∧ ∃ vT vW, w.heap[g]? = some (.cells #[vT, vW, .string nm, .bool inn, .bool fld] 47 (0, 0)) ∧ Kd.S k34 34 w B (fun _ => True) vT T ∧ Kd.R (Kd.int .i32) 21 w B (fun _ => True) vW wd
/-- .. whose word is empty -/
def IsRd0 (B g : Nat) (w : World) (T : List S34) (nm : ByteArray) (inn fld : Bool) : Prop :=
  B ≤ g ∧ ∃ vT, w.heap[g]? = some (.cells #[vT, .slice none 0 0, .string nm, .bool inn, .bool fld] 47 (0, 0)) ∧ Kd.S k34 34 w B (fun _ => True) vT T
theorem IsRd0.rd {B g : Nat} {w : World} {T : List S34} {nm : ByteArray} {inn fld : Bool} (h : IsRd0 B g w T nm inn fld) : IsRd B g w T [] nm inn fld := by
  obtain ⟨h0, vT, h1, h2⟩ := h
  exact ⟨h0, vT, _, h1, h2, Kd.R_nil _ _ _ _ _⟩
theorem IsRd.below {B g : Nat} {w w' : World} {T : List S34} {wd : List Int} {nm : ByteArray} {inn fld : Bool} (h : IsRd B g w T wd nm inn fld) (hb : Below w.heap.size w w') : IsRd B g w' T wd nm inn fld := by
  obtain ⟨h0, vT, vW, h1, h2, h3⟩ := h
  exact ⟨h0, vT, vW, blk_below h1 hb, Kd.S_below h2 hb, Kd.R_below h3 hb⟩
set_option maxHeartbeats 4000000 in
theorem take_at (B g : Nat) (vT vW : Value) (T : List S34) (wd : List Int) (nm : ByteArray) (inn fld : Bool) (w : World) (hBg : B ≤ g) (hb : w.heap[g]? = some (.cells #[vT, vW, .string nm, .bool inn, .bool fld] 47 (0, 0))) (hS : Kd.S k34 34 w B (fun _ => True) vT T) (hR : Kd.R (Kd.int .i32) 21 w B (fun _ => True) vW wd) :
    Calls Try.prog 42 #[.pointer (some ⟨g, 0, none⟩)] w fun e w' => e = .returned (.string (runesBytes wd)) ∧ w'.heap[g]? = some (.cells #[vT, .slice none 0 0, .string nm, .bool inn, .bool fld] 47 (0, 0)) ∧ Kd.S k34 34 w' B (fun _ => True) vT T ∧ BI B w w' := by
  obtain ⟨A, c, e, _, hC⟩ := Kd.R_reads hR
  subst e
  have hcv := C_runes (c := c) hC
  have HB := Aside0.mk hb
  have HS := Aside0.mk hS
  have HBG := Aside0.mk hBg
  have hx1 : w.cell? ⟨g, 1, none⟩ = some (.slice A wd.length c) := (blk_cell hb 1).trans rfl
  have hfz : w.frozen? ⟨g, 1, none⟩ = false := blk_frozen hb 1
  have HR := Aside0.mk hR
  clear hb hS hBg hR hC
  go_enter Try.func42, Try.ntmps42
  go_wp2
  go_ret
  exact ⟨rfl, blk_put HB.out 1 _ rfl, Kd.S_set HS.out HB.out (by decide) 1 _, (BI.refl _ _).setCell HB.out HBG.out 1 _⟩
theorem take_calls (B g : Nat) (T : List S34) (wd : List Int) (nm : ByteArray) (inn fld : Bool) (w : World) (h : IsRd B g w T wd nm inn fld) :
    Calls Try.prog 42 #[.pointer (some ⟨g, 0, none⟩)] w fun e w' => e = .returned (.string (runesBytes wd)) ∧ IsRd0 B g w' T nm inn fld ∧ BI B w w' := by
  obtain ⟨hBg, vT, vW, hb, hS, hR⟩ := h
  refine (take_at B g vT vW T wd nm inn fld w hBg hb hS hR).mono ?_
  rintro e w' ⟨rfl, h1, h2, h3⟩
  exact ⟨rfl, ⟨hBg, vT, h1, h2⟩, h3⟩

/-! ### slices_Index_string_string: function 50 -/
def slices_Index_string_string.l0 : Nat → List ByteArray → ByteArray → Int → Int → Option (Int)
  | 0, _, _, _, _ => none
  | k + 1, x0, x1, x7, x8 => if x8 < x7 then (if 0 ≤ x8 then (if x8 < (x0.length : Int) then (if x1.toList = (rdOf ByteArray.empty x0 x8).toList then (some x8) else (slices_Index_string_string.l0 k x0 x1 x7 (wrap64 (x8 + 1)))) else (none)) else (none)) else (some (-1))
def slices_Index_string_string.f (k : Nat) (l0 : List ByteArray) (a1 : ByteArray) : Option (Int) := slices_Index_string_string.l0 k l0 a1 (l0.length : Int) 0
theorem slices_Index_string_string.mono_l : ∀ k, (∀ y0 y1 y2 y3, LeO (slices_Index_string_string.l0 k y0 y1 y2 y3) (slices_Index_string_string.l0 (k + 1) y0 y1 y2 y3))
  | 0 => fun _ _ _ _ r h => by simp [slices_Index_string_string.l0] at h
  | k + 1 => by
    have ih0 := slices_Index_string_string.mono_l k
    · intro y0 y1 y2 y3
      unfold slices_Index_string_string.l0
      repeat' first
      | (with_reducible exact ih0 _ _ _ _)
      | (with_reducible exact LeO.refl _)
      | (with_reducible exact LeO.none _)
      | (with_reducible refine LeO.ite ?_ ?_)
      | (with_reducible refine LeO.bind ?_ (fun _ => ?_))
      | exact ih0 _ _ _ _
      | exact LeO.none _
      | refine LeO.ite ?_ ?_
      | refine LeO.bind ?_ (fun _ => ?_)
theorem slices_Index_string_string.mono : ∀ a0 a1 k, LeO (slices_Index_string_string.f k a0 a1) (slices_Index_string_string.f (k + 1) a0 a1) := by
  intro a0 a1 k
  have ih0 := slices_Index_string_string.mono_l k
  unfold slices_Index_string_string.f
  repeat' first
      | (with_reducible exact ih0 _ _ _ _)
      | (with_reducible exact LeO.refl _)
      | (with_reducible exact LeO.none _)
      | (with_reducible refine LeO.ite ?_ ?_)
      | (with_reducible refine LeO.bind ?_ (fun _ => ?_))
      | exact ih0 _ _ _ _
      | exact LeO.none _
      | refine LeO.ite ?_ ?_
      | refine LeO.bind ?_ (fun _ => ?_)
set_option maxHeartbeats 8000000 in
set_option maxRecDepth 100000 in
theorem slices_Index_string_string.calls (k : Nat) (A0 : Option Addr) (c0 : Nat) (l0 : List ByteArray) (a1 : ByteArray) (r : Int) (w : World) (hr0 : Kd.C Kd.string w A0 l0.length l0) (hc0 : l0.length ≤ c0) (h : slices_Index_string_string.f k l0 a1 = some r) :
    Calls Try.prog 50 #[.slice A0 l0.length c0, .string a1] w fun e w' => e = .returned (.int .i64 r) ∧ Drawn0 w w' := by
  have HR0 := Aside0.mk hr0
  have HC0 := Aside0.mk hc0
  clear hr0 hc0
  have H : (slices_Index_string_string.l0 k l0 a1 (l0.length : Int) 0) = some r := h
  clear h
  have H' := Aside0.mk H
  clear H
  go_enter Try.func50, Try.ntmps50
  go_wp2
  go_loopg [8] k (fun kq v8 w' => ∃ (x8_1 : Int), v8 = .int .i64 x8_1 ∧ Aside0 (slices_Index_string_string.l0 kq l0 a1 (l0.length : Int) x8_1 = some r) ∧ Aside0 (kq ≤ k) ∧ Drawn0 w w')
  case atStart => exact ⟨(0), (by first | rfl | (simp; done) | (simp [*]; done)), H', ⟨Nat.le_refl _⟩, by repeat (first | exact Drawn0.refl _ | apply Drawn0.step)⟩
  case round =>
    clear H'
    try clear p2
    obtain ⟨x8_1, rfl, HA, HK1, ⟨m1, rfl⟩⟩ := hrel
    cases gk with
    | zero => exact absurd HA.out (by simp [slices_Index_string_string.l0])
    | succ k1 =>
      have H := HA.out
      clear HA
      simp only [slices_Index_string_string.l0] at H
      by_cases c3 : x8_1 < (l0.length : Int)
      · rw [if_pos c3] at H
        have c3b0 : decide (x8_1 < (l0.length : Int)) = true := decide_eq_true c3
        clear c3
        by_cases c4 : 0 ≤ x8_1
        · rw [if_pos c4] at H
          have c4b0 : decide (0 ≤ x8_1) = true := decide_eq_true c4
          clear c4
          by_cases c5 : x8_1 < (l0.length : Int)
          · rw [if_pos c5] at H
            have c5b0 : decide (x8_1 < (l0.length : Int)) = true := decide_eq_true c5
            clear c5
            by_cases c6 : a1.toList = (rdOf ByteArray.empty l0 x8_1).toList
            · rw [if_pos c6] at H
              have c6b0 : (a1.toList == (rdOf ByteArray.empty l0 x8_1).toList) = true := beq_iff_eq.mpr c6
              have c6b1 : (a1.toList != (rdOf ByteArray.empty l0 x8_1).toList) = false := bne_eq_false_iff_eq.mpr c6
              clear c6
              obtain rfl := Option.some.inj H
              have p117 : 0 ≤ (x8_1 : Int) := of_decide_eq_true (by first | (with_reducible assumption) | assumption)
              have q117 : x8_1 < (l0.length : Int) := of_decide_eq_true (by first | (with_reducible assumption) | assumption)
              obtain ⟨ad117, e117, hx117_0⟩ := Kd.at_string HR0.out x8_1 p117 q117
              cases e117
              replace p117 := eq_true p117
              replace q117 := eq_true q117
              go_wp2
              go_ret
              exact ⟨by first | rfl | (simp; done) | (simp [*]; done), by repeat (first | exact Drawn0.refl _ | apply Drawn0.step)⟩
            · rw [if_neg c6] at H
              have c6b0 : (a1.toList == (rdOf ByteArray.empty l0 x8_1).toList) = false := beq_eq_false_iff_ne.mpr c6
              have c6b1 : (a1.toList != (rdOf ByteArray.empty l0 x8_1).toList) = true := bne_iff_ne.mpr c6
              have H' := Aside0.mk H
              clear H
              have p117 : 0 ≤ (x8_1 : Int) := of_decide_eq_true (by first | (with_reducible assumption) | assumption)
              have q117 : x8_1 < (l0.length : Int) := of_decide_eq_true (by first | (with_reducible assumption) | assumption)
              obtain ⟨ad117, e117, hx117_0⟩ := Kd.at_string HR0.out x8_1 p117 q117
              cases e117
              replace p117 := eq_true p117
              replace q117 := eq_true q117
              go_wp2
              go_roundg k1
              case measure => have := HK1.out; omega
              case rel => exact ⟨(wrap64 (x8_1 + 1)), (by first | rfl | (simp; done) | (simp [*]; done)), H', ⟨by have := HK1.out; omega⟩, by repeat (first | exact Drawn0.refl _ | apply Drawn0.step)⟩
          · rw [if_neg c5] at H
            exact absurd H (by simp)
        · rw [if_neg c4] at H
          exact absurd H (by simp)
      · rw [if_neg c3] at H
        have c3b0 : decide (x8_1 < (l0.length : Int)) = false := decide_eq_false c3
        clear c3
        obtain rfl := Option.some.inj H
        go_wp2
        go_ret
        exact ⟨by first | rfl | (simp; done) | (simp [*]; done), by repeat (first | exact Drawn0.refl _ | apply Drawn0.step)⟩

/-! ### stringslite_HasPrefix: function 60 -/
def stringslite_HasPrefix.f (a0 : ByteArray) (a1 : ByteArray) : Option (Bool) := if (a0.size : Int) ≥ (a1.size : Int) then (if 0 ≤ (a1.size : Int) then (if (a1.size : Int) ≤ (a0.size : Int) then (some ((a0.extract 0 ((a1.size : Int) : Int).toNat).toList == a1.toList)) else (none)) else (none)) else (some false)
set_option maxHeartbeats 8000000 in
set_option maxRecDepth 100000 in
theorem stringslite_HasPrefix.calls (a0 : ByteArray) (a1 : ByteArray) (r : Bool) (w : World) (h : stringslite_HasPrefix.f a0 a1 = some r) :
    Calls Try.prog 60 #[.string a0, .string a1] w fun e w' => e = .returned (.bool r) ∧ Drawn0 w w' := by
  have H : (if (a0.size : Int) ≥ (a1.size : Int) then (if 0 ≤ (a1.size : Int) then (if (a1.size : Int) ≤ (a0.size : Int) then (some ((a0.extract 0 ((a1.size : Int) : Int).toNat).toList == a1.toList)) else (none)) else (none)) else (some false)) = some r := h
  clear h
  by_cases c3 : (a0.size : Int) ≥ (a1.size : Int)
  · rw [if_pos c3] at H
    have c3b0 : decide ((a1.size : Int) ≤ (a0.size : Int)) = true := decide_eq_true c3
    have c3b1 : decide (a1.size ≤ a0.size) = true := decide_eq_true (Int.ofNat_le.mp c3)
    clear c3
    by_cases c4 : 0 ≤ (a1.size : Int)
    · rw [if_pos c4] at H
      have c4b0 := eq_true c4
      have c4b1 : decide (0 ≤ (a1.size : Int)) = true := decide_eq_true c4
      clear c4
      by_cases c5 : (a1.size : Int) ≤ (a0.size : Int)
      · rw [if_pos c5] at H
        have c5b0 := eq_true c5
        have c5b1 : decide ((a1.size : Int) ≤ (a0.size : Int)) = true := decide_eq_true c5
        clear c5
        obtain rfl := Option.some.inj H
        go_enter Try.func60, Try.ntmps60
        go_wp2
        go_ret
        exact ⟨by first | rfl | (simp; done) | (simp [*]; done), by repeat (first | exact Drawn0.refl _ | apply Drawn0.step)⟩
      · rw [if_neg c5] at H
        exact absurd H (by simp)
    · rw [if_neg c4] at H
      exact absurd H (by simp)
  · rw [if_neg c3] at H
    have c3b0 : decide ((a1.size : Int) ≤ (a0.size : Int)) = false := decide_eq_false c3
    have c3b1 : decide (a1.size ≤ a0.size) = false := decide_eq_false (fun h => c3 (Int.ofNat_le.mpr h))
    clear c3
    obtain rfl := Option.some.inj H
    go_enter Try.func60, Try.ntmps60
    go_wp2
    go_ret
    exact ⟨by first | rfl | (simp; done) | (simp [*]; done), by repeat (first | exact Drawn0.refl _ | apply Drawn0.step)⟩

/-! ### stringslite_CutPrefix: function 58 -/
def stringslite_CutPrefix.f (a0 : ByteArray) (a1 : ByteArray) : Option (ByteArray × Bool) := (stringslite_HasPrefix.f a0 a1).bind fun t118 => (if t118 = true then (if 0 ≤ (a1.size : Int) then (if (a1.size : Int) ≤ (a0.size : Int) then (some (a0.extract ((a1.size : Int) : Int).toNat a0.size, true)) else (none)) else (none)) else (some (a0, false)))
set_option maxHeartbeats 8000000 in
set_option maxRecDepth 100000 in
theorem stringslite_CutPrefix.calls (a0 : ByteArray) (a1 : ByteArray) (r1 : ByteArray) (r2 : Bool) (w : World) (h : stringslite_CutPrefix.f a0 a1 = some (r1, r2)) :
    Calls Try.prog 58 #[.string a0, .string a1] w fun e w' => e = .returned (.tuple #[.string r1, .bool r2]) ∧ Drawn0 w w' := by
  have H : ((stringslite_HasPrefix.f a0 a1).bind fun t118 => (if t118 = true then (if 0 ≤ (a1.size : Int) then (if (a1.size : Int) ≤ (a0.size : Int) then (some (a0.extract ((a1.size : Int) : Int).toNat a0.size, true)) else (none)) else (none)) else (some (a0, false)))) = some (r1, r2) := h
  clear h
  replace H := Option.bind_eq_some_iff.mp H
  obtain ⟨t118, A30, H⟩ := H
  replace H : (if t118 = true then (if 0 ≤ (a1.size : Int) then (if (a1.size : Int) ≤ (a0.size : Int) then (some (a0.extract ((a1.size : Int) : Int).toNat a0.size, true)) else (none)) else (none)) else (some (a0, false))) = some (r1, r2) := H
  have A3 := Aside0.mk A30
  clear A30
  by_cases c4 : t118 = true
  · subst c4
    have H1 : (if 0 ≤ (a1.size : Int) then (if (a1.size : Int) ≤ (a0.size : Int) then (some (a0.extract ((a1.size : Int) : Int).toNat a0.size, true)) else (none)) else (none)) = some (r1, r2) := by rw [if_pos rfl] at H; exact H
    clear H
    have H := H1
    clear H1
    by_cases c5 : 0 ≤ (a1.size : Int)
    · rw [if_pos c5] at H
      have c5b0 := eq_true c5
      have c5b1 : decide (0 ≤ (a1.size : Int)) = true := decide_eq_true c5
      clear c5
      by_cases c6 : (a1.size : Int) ≤ (a0.size : Int)
      · rw [if_pos c6] at H
        have c6b0 := eq_true c6
        have c6b1 : decide ((a1.size : Int) ≤ (a0.size : Int)) = true := decide_eq_true c6
        clear c6
        simp only [Option.some.injEq, Prod.mk.injEq] at H
        obtain ⟨rfl, rfl⟩ := H
        go_enter Try.func58, Try.ntmps58
        go_wp2_with (first | ((with_reducible refine gate_callee (f := 60) rfl ?_); refine goesL_ (some 8) rfl rfl Try.func60 (by kernel_rfl) rfl #[.string a0, .string a1] rfl (by (try simp only [List.map_toArray, List.map_cons, List.map_nil]); first | done | rfl | (simp only [List.length_drop, List.length_take]; rfl)) ?_; (with_reducible refine (stringslite_HasPrefix.calls a0 a1 true _ A3.out).mono ?_); rintro e w' ⟨rfl, ⟨nd, rfl⟩⟩; refine ⟨_, rfl, ?_⟩))
        go_ret2
        exact ⟨by first | rfl | (simp; done) | (simp [*]; done), by repeat (first | exact Drawn0.refl _ | apply Drawn0.step)⟩
      · rw [if_neg c6] at H
        exact absurd H (by simp)
    · rw [if_neg c5] at H
      exact absurd H (by simp)
  · replace c4 := Bool.eq_false_iff.mpr c4
    subst c4
    have H1 : (some (a0, false)) = some (r1, r2) := by rw [if_neg (show ¬ (false = true) by decide)] at H; exact H
    clear H
    have H := H1
    clear H1
    simp only [Option.some.injEq, Prod.mk.injEq] at H
    obtain ⟨rfl, rfl⟩ := H
    go_enter Try.func58, Try.ntmps58
    go_wp2_with (first | ((with_reducible refine gate_callee (f := 60) rfl ?_); refine goesL_ (some 8) rfl rfl Try.func60 (by kernel_rfl) rfl #[.string a0, .string a1] rfl (by (try simp only [List.map_toArray, List.map_cons, List.map_nil]); first | done | rfl | (simp only [List.length_drop, List.length_take]; rfl)) ?_; (with_reducible refine (stringslite_HasPrefix.calls a0 a1 false _ A3.out).mono ?_); rintro e w' ⟨rfl, ⟨nd, rfl⟩⟩; refine ⟨_, rfl, ?_⟩))
    go_ret2
    exact ⟨by first | rfl | (simp; done) | (simp [*]; done), by repeat (first | exact Drawn0.refl _ | apply Drawn0.step)⟩

/-! ### strings_CutPrefix: function 51 -/
def strings_CutPrefix.f (a0 : ByteArray) (a1 : ByteArray) : Option (ByteArray × Bool) := (stringslite_CutPrefix.f a0 a1).bind fun bt119 => (some (bt119.1, bt119.2))
set_option maxHeartbeats 8000000 in
set_option maxRecDepth 100000 in
theorem strings_CutPrefix.calls (a0 : ByteArray) (a1 : ByteArray) (r1 : ByteArray) (r2 : Bool) (w : World) (h : strings_CutPrefix.f a0 a1 = some (r1, r2)) :
    Calls Try.prog 51 #[.string a0, .string a1] w fun e w' => e = .returned (.tuple #[.string r1, .bool r2]) ∧ Drawn0 w w' := by
  have H : ((stringslite_CutPrefix.f a0 a1).bind fun bt119 => (some (bt119.1, bt119.2))) = some (r1, r2) := h
  clear h
  replace H := Option.bind_eq_some_iff.mp H
  obtain ⟨⟨t119, t120⟩, A30, H⟩ := H
  replace H : (some (t119, t120)) = some (r1, r2) := H
  have A3 := Aside0.mk A30
  clear A30
  simp only [Option.some.injEq, Prod.mk.injEq] at H
  obtain ⟨rfl, rfl⟩ := H
  go_enter Try.func51, Try.ntmps51
  go_wp2_with (first | ((with_reducible refine gate_callee (f := 58) rfl ?_); refine goesL_ (some 8) rfl rfl Try.func58 (by kernel_rfl) rfl #[.string a0, .string a1] rfl (by (try simp only [List.map_toArray, List.map_cons, List.map_nil]); first | done | rfl | (simp only [List.length_drop, List.length_take]; rfl)) ?_; (with_reducible refine (stringslite_CutPrefix.calls a0 a1 t119 t120 _ A3.out).mono ?_); rintro e w' ⟨rfl, ⟨nd, rfl⟩⟩; refine ⟨_, rfl, ?_⟩))
  go_ret2
  exact ⟨by first | rfl | (simp; done) | (simp [*]; done), by repeat (first | exact Drawn0.refl _ | apply Drawn0.step)⟩

/-! ### schema_reader_last: function 52 -/
set_option maxHeartbeats 4000000 in
theorem last_calls (g gT n cap : Nat) (vW : Value) (nm : ByteArray) (inn fld : Bool) (w : World) (hb : w.heap[g]? = some (.cells #[.slice (some ⟨gT, 0, none⟩) n cap, vW, .string nm, .bool inn, .bool fld] 47 (0, 0))) (h1 : 1 ≤ n) (h2 : n ≤ 1000000) :
    Calls Try.prog 52 #[.pointer (some ⟨g, 0, none⟩)] w fun e w' => e = .returned (.pointer (some ⟨gT, (n - 1) * 2, none⟩)) ∧ Drawn0 w w' := by
  have hx0 : w.cell? ⟨g, 0, none⟩ = some (.slice (some ⟨gT, 0, none⟩) n cap) := (blk_cell hb 0).trans rfl
  have hk : wrap64 ((n : Int) - 1) = ((n - 1 : Nat) : Int) := by unfold wrap64; omega
  have p1 : (0 ≤ ((n - 1 : Nat) : Int)) = True := eq_true (by omega)
  have p2 : (((n - 1 : Nat) : Int) < (n : Int)) = True := eq_true (by omega)
  have p3 : (n - 1 < n) = True := eq_true (by omega)
  have HX := Aside0.mk hx0
  clear hb h1 h2
  go_enter Try.func52, Try.ntmps52
  go_wp2
  repeat (go_quiet (fail); try go_wp2)
  go_ret
  exact ⟨rfl, ⟨_, rfl⟩⟩

end Go.Proofs.Ytlcanmndeempfaa.PMo
