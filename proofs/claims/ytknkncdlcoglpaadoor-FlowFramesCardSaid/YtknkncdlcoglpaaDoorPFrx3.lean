-- Written by wip/tools/myprint.py, a program of the prover's own, over the kit's print; the contracts named 'HAND' there are typed by hand.
import Derived.Test.YtknkncdlcoglpaaDoorPFrx0
import Derived.Test.YtknkncdlcoglpaaDoorPFrx1
namespace Go.Proofs.YtknkncdlcoglpaaDoor.PFr
open Go.RowKit Go.Proofs.YtknkncdlcoglpaaDoorW.PrintWords Go.Proofs.YtknkncdlcoglpaaDoorW.PrintLast Go.Proofs.YtknkncdlcoglpaaDoorW.PrintMore
attribute [local go_sem] max2_int min2_int max_two min_two max_three min_three max_four min_four   -- for this text's walks alone
set_option linter.unusedVariables false
set_option linter.unusedSimpArgs false

/-! ### errors_As: function 29 -/
section
open Go.Extern.Stop Go.Stop Go.Extern
/-- the package's own variable: the type of 'error' -/
def errT (w : World) : Prop := w.cell? ⟨0, 0, none⟩ = some (.iface 99 (.agg #[.pointer (some ⟨1, 62, none⟩)]))
theorem errT_pos {w : World} (h : errT w) : 0 < w.heap.size := by
  rcases Nat.eq_zero_or_pos w.heap.size with h0 | h1
  · unfold errT at h; simp [World.cell?, h0] at h
  · exact h1
theorem errT_below {w w' : World} {b : Nat} (h : errT w) (hb : Below b w w') (hb0 : w.heap.size ≤ b) : errT w' := (hb.cell (p := ⟨0, 0, none⟩) (Nat.lt_of_lt_of_le (errT_pos h) hb0)).trans h
theorem as_nil (t : Value) (w : World) : Calls Tryd.prog 29 #[.nilIface, t] w fun e w' => e = .returned (.bool false) ∧ w' = w := by
  go_enter Tryd.func29, Tryd.ntmps29
  go_wp2
  go_ret
  exact ⟨rfl, rfl⟩
theorem as_valueOfP (t : Addr) (w : World) : (ReflectliteValue.unpack (.iface 64 (.pointer (some t)))).run Tryd.prog w
    = .ok (.agg #[.pointer (some ⟨1, 64, none⟩), .pointer (some ⟨w.heap.size, 0, none⟩), .int .u64 150]) (w.alloc (.cells #[.pointer (some t)] 64)) := by kernel_rfl
theorem as_typeP (a : Addr) (w : World) : (ReflectliteValue.methodAny (ReflectliteValue.valueError "reflectlite.Value.Type" 0) (fun t _ _ _ => ReflectliteType.toType t) #[.agg #[.pointer (some ⟨1, 64, none⟩), .pointer (some a), .int .u64 150]]).run Tryd.prog w
    = .ok (.iface 99 (.agg #[.pointer (some ⟨1, 64, none⟩)])) w := by kernel_rfl
theorem as_kindP (w : World) : ((ReflectliteType.abiMethod fun t => (fun a : Nat => Value.int IntKind.u8 (a : Int)) <$> Rtype.kind t) #[.pointer (some ⟨1, 64, none⟩)]).run Tryd.prog w = .ok (.int .u8 22) w := by kernel_rfl
theorem as_kindB (w : World) : ((ReflectliteType.abiMethod fun t => (fun a : Nat => Value.int IntKind.u8 (a : Int)) <$> Rtype.kind t) #[.pointer (some ⟨1, 59, none⟩)]).run Tryd.prog w = .ok (.int .u8 25) w := by kernel_rfl
theorem as_rlm (z : Sem Value) (f : TypeId → Addr → Nat → Nat → Sem Value) (v : Value) :
    ReflectliteValue.method z f #[v] = (do match ← ReflectliteValue.parts v with | none => z | some (t, a, fl) => f t a fl (fl % 32)) := rfl
theorem as_partsP (a : Addr) (w : World) : (ReflectliteValue.parts (.agg #[.pointer (some ⟨1, 64, none⟩), .pointer (some a), .int .u64 150])).run Tryd.prog w = .ok (some (64, a, 150)) w := by kernel_rfl
theorem as_isNilP (a p : Addr) (W : World) (ha : W.cell? a = some (.pointer (some p))) :
    (ReflectliteValue.method (ReflectliteValue.valueError "reflectlite.Value.IsNil" 0) ReflectliteValue.isNil #[.agg #[.pointer (some ⟨1, 64, none⟩), .pointer (some a), .int .u64 150]]).run Tryd.prog W = .ok (.bool false) W := by
  rw [as_rlm]
  simp only [Sem.run_bind, as_partsP, Result.andThen]
  simp [ReflectliteValue.isNil, loadVar, isAgg, underlying, Tryd.underlying64, ha, Result.andThen]
theorem as_elemP (w : World) : (ReflectliteType.method ReflectliteType.elem #[.agg #[.pointer (some ⟨1, 64, none⟩)]]).run Tryd.prog w = .ok (.iface 99 (.agg #[.pointer (some ⟨1, 59, none⟩)])) w := by kernel_rfl
theorem as_implB (w : World) : (ReflectliteType.relation "Implements" ReflectliteType.implements_ #[.agg #[.pointer (some ⟨1, 59, none⟩)], .iface 99 (.agg #[.pointer (some ⟨1, 62, none⟩)])]).run Tryd.prog w = .ok (.bool true) w := by kernel_rfl
theorem as_typeOfB (v : Value) (w : World) : (ReflectliteType.typeOf #[.iface 59 v]).run Tryd.prog w = .ok (.iface 99 (.agg #[.pointer (some ⟨1, 59, none⟩)])) w := by kernel_rfl
theorem as_assignB (w : World) : (ReflectliteType.relation "AssignableTo" ReflectliteType.assignableTo #[.agg #[.pointer (some ⟨1, 59, none⟩)], .iface 99 (.agg #[.pointer (some ⟨1, 59, none⟩)])]).run Tryd.prog w = .ok (.bool true) w := by kernel_rfl
theorem as_elemOfP (w : World) : (Rtype.elem? 64).run Tryd.prog w = .ok (some 59) w := by kernel_rfl
theorem as_valueOfB (e : Int) (w : World) : (ReflectliteValue.unpack (.iface 59 (.agg #[.int .i64 e]))).run Tryd.prog w
    = .ok (.agg #[.pointer (some ⟨1, 59, none⟩), .pointer (some ⟨w.heap.size, 0, none⟩), .int .u64 153]) (w.alloc (.cells #[.int .i64 e] 59)) := by kernel_rfl
theorem as_mkB (p : Addr) (w : World) : (ReflectliteValue.mk 59 p ReflectliteValue.flagAddr).run Tryd.prog w = .ok (.agg #[.pointer (some ⟨1, 59, none⟩), .pointer (some p), .int .u64 409]) w := by kernel_rfl
theorem as_elemVP (a p : Addr) (W : World) (ha : W.cell? a = some (.pointer (some p))) :
    (ReflectliteValue.method (ReflectliteValue.valueError "reflectlite.Value.Elem" 0) ReflectliteValue.elem #[.agg #[.pointer (some ⟨1, 64, none⟩), .pointer (some a), .int .u64 150]]).run Tryd.prog W
      = .ok (.agg #[.pointer (some ⟨1, 59, none⟩), .pointer (some p), .int .u64 409]) W := by
  rw [as_rlm]
  simp only [Sem.run_bind, as_partsP, Result.andThen]
  simp [ReflectliteValue.elem, loadVar, isAgg, underlying, Tryd.underlying64, ha, Result.andThen, as_elemOfP, as_mkB]
theorem as_rls (v x : Value) : ReflectliteValue.set #[v, x] = (do
    let (some (dst, a, fl), some (src, b, _)) := (← ReflectliteValue.parts v, ← ReflectliteValue.parts x)
      | unsupported (.noEntry "extern/(internal/reflectlite.Value).Set.zeroValue")
    if fl / ReflectliteValue.flagAddr % 2 == 0 then unsupported (.noEntry "extern/(internal/reflectlite.Value).Set.unaddressable")
    let val ← loadVar src b
    if ← Rtype.directlyAssignable dst src then storeVar dst a val
    else if ← Rtype.implements dst src then
      if (← Rtype.kind src) == 20 then
        match val with
        | .nilIface => unsupported (.noEntry "extern/reflectlite: a nil value of one interface type handed on as a value of another")
        | _ => storeVar dst a val
      else storeVar dst a (.iface src val)
    else panicString ("reflectlite.Set: value of type " ++ (← Rtype.spelt src) ++ " is not assignable to type " ++ (← Rtype.spelt dst))
    pure (.tuple #[])) := rfl
theorem as_partsBa (a : Addr) (w : World) : (ReflectliteValue.parts (.agg #[.pointer (some ⟨1, 59, none⟩), .pointer (some a), .int .u64 409])).run Tryd.prog w = .ok (some (59, a, 409)) w := by kernel_rfl
theorem as_partsB (a : Addr) (w : World) : (ReflectliteValue.parts (.agg #[.pointer (some ⟨1, 59, none⟩), .pointer (some a), .int .u64 153])).run Tryd.prog w = .ok (some (59, a, 153)) w := by kernel_rfl
theorem as_directB (w : World) : (Rtype.directlyAssignable 59 59).run Tryd.prog w = .ok true w := by kernel_rfl
theorem as_sizeB (w : World) : (sizeOf 59).run Tryd.prog w = .ok 1 w := by kernel_rfl
theorem as_loadB (b : Nat) (e : Int) (W : World) (hb : W.heap[b]? = some (.cells #[.int .i64 e] 59 (0, 0))) : (loadVar 59 ⟨b, 0, none⟩).run Tryd.prog W = .ok (.agg #[.int .i64 e]) W := by
  have hc : W.cell? ⟨b, 0, none⟩ = some (.int .i64 e) := by simp [World.cell?, hb]
  simp [loadVar, isAgg, underlying, Tryd.underlying59, hc, Result.andThen, as_sizeB, loadCells, loadCellsFrom, Addr.add]
theorem as_setB (ta : Addr) (b : Nat) (e : Int) (old : Value) (W : World) (hb : W.heap[b]? = some (.cells #[.int .i64 e] 59 (0, 0))) (ht : W.cell? ta = some old) (hf : W.frozen? ta = false) :
    (ReflectliteValue.set #[.agg #[.pointer (some ⟨1, 59, none⟩), .pointer (some ta), .int .u64 409], .agg #[.pointer (some ⟨1, 59, none⟩), .pointer (some ⟨b, 0, none⟩), .int .u64 153]]).run Tryd.prog W
      = .ok (.tuple #[]) (W.setCell ta (.int .i64 e)) := by
  rw [as_rls]
  simp only [Sem.run_bind, as_partsBa, as_partsB, Result.andThen]
  simp [ReflectliteValue.flagAddr, as_loadB b e W hb, Result.andThen, as_directB, storeVar, Value.cells, storeCells, Addr.add]
  rw [run_store Tryd.prog W ta _ _ (by rfl)]
  simp [ht, hf]
theorem as_methodKind (h : Value) (w : World) : (Go.method 252 99 (.agg #[h]) "Kind").run Tryd.prog w = .ok (86, h) w := by kernel_rfl
theorem as_methodElem (h : Value) (w : World) : (Go.method 252 99 (.agg #[h]) "Elem").run Tryd.prog w = .ok (96, .agg #[h]) w := by kernel_rfl
theorem as_methodImplements (h : Value) (w : World) : (Go.method 252 99 (.agg #[h]) "Implements").run Tryd.prog w = .ok (97, .agg #[h]) w := by kernel_rfl
theorem as_methodAssignableTo (h : Value) (w : World) : (Go.method 252 99 (.agg #[h]) "AssignableTo").run Tryd.prog w = .ok (94, .agg #[h]) w := by kernel_rfl
set_option maxHeartbeats 8000000 in
theorem as_hit (e : Int) (t : Addr) (old : Value) (w : World) (hg : errT w) (ht0 : w.cell? t = some old) (hf0 : w.frozen? t = false) :
    Calls Tryd.prog 29 #[.iface 59 (.agg #[.int .i64 e]), .iface 64 (.pointer (some t))] w fun ev w' => ev = .returned (.bool true) ∧ w' = ((((w.alloc (.cells #[.pointer (some t)] 64)).alloc (.cells #[.pointer (some ⟨1, 64, none⟩), .pointer (some ⟨w.heap.size, 0, none⟩), .int .u64 150] 80)).alloc (.cells #[.pointer (some ⟨1, 64, none⟩), .pointer (some ⟨w.heap.size, 0, none⟩), .int .u64 150] 80)).alloc (.cells #[.int .i64 e] 59)).setCell t (.int .i64 e) := by
  have h6 := @run_callFunc_extern Tryd.prog 43 _ (fun args => ReflectliteValue.unpack (args.getD 0 (.tuple #[]))) Tryd.func43 (by kernel_rfl) (by kernel_rfl) (by kernel_rfl) (by kernel_rfl)
  have h7 := @run_callFunc_extern Tryd.prog 44 _ (ReflectliteValue.methodAny (ReflectliteValue.valueError "reflectlite.Value.Type" 0) (fun t _ _ _ => ReflectliteType.toType t)) Tryd.func44 (by kernel_rfl) (by kernel_rfl) (by kernel_rfl) (by kernel_rfl)
  have h8 := @run_callFunc_extern Tryd.prog 45 _ (ReflectliteValue.method (ReflectliteValue.valueError "reflectlite.Value.IsNil" 0) ReflectliteValue.isNil) Tryd.func45 (by kernel_rfl) (by kernel_rfl) (by kernel_rfl) (by kernel_rfl)
  have h27 := @run_callFunc_extern Tryd.prog 86 _ (ReflectliteType.abiMethod fun t => do pure (.int .u8 (← Rtype.kind t))) Tryd.func86 (by kernel_rfl) (by kernel_rfl) (by kernel_rfl) (by kernel_rfl)
  have h37 := @run_callFunc_extern Tryd.prog 96 _ (ReflectliteType.method ReflectliteType.elem) Tryd.func96 (by kernel_rfl) (by kernel_rfl) (by kernel_rfl) (by kernel_rfl)
  have h38 := @run_callFunc_extern Tryd.prog 97 _ (ReflectliteType.relation "Implements" ReflectliteType.implements_) Tryd.func97 (by kernel_rfl) (by kernel_rfl) (by kernel_rfl) (by kernel_rfl)
  have h10 := @run_callFunc_extern Tryd.prog 58 _ ReflectliteType.typeOf Tryd.func58 (by kernel_rfl) (by kernel_rfl) (by kernel_rfl) (by kernel_rfl)
  have h35 := @run_callFunc_extern Tryd.prog 94 _ (ReflectliteType.relation "AssignableTo" ReflectliteType.assignableTo) Tryd.func94 (by kernel_rfl) (by kernel_rfl) (by kernel_rfl) (by kernel_rfl)
  have h11 := @run_callFunc_extern Tryd.prog 59 _ (ReflectliteValue.method (ReflectliteValue.valueError "reflectlite.Value.Elem" 0) ReflectliteValue.elem) Tryd.func59 (by kernel_rfl) (by kernel_rfl) (by kernel_rfl) (by kernel_rfl)
  have h12 := @run_callFunc_extern Tryd.prog 60 _ ReflectliteValue.set Tryd.func60 (by kernel_rfl) (by kernel_rfl) (by kernel_rfl) (by kernel_rfl)
  have tO := as_typeOfB
  have mA := as_methodAssignableTo
  have a25 := as_assignB
  have v25 := as_valueOfB
  have f6 := as_valueOfP
  have f7 := as_typeP
  have mK := as_methodKind
  have mE := as_methodElem
  have mI := as_methodImplements
  have k27 := as_kindP
  have k25 := as_kindB
  have e27 := as_elemP
  have i25 := as_implB
  have n8 := as_isNilP ⟨w.heap.size, 0, none⟩ t ((w.alloc (.cells #[.pointer (some t)] 64)).alloc (.cells #[.pointer (some ⟨1, 64, none⟩), .pointer (some ⟨w.heap.size, 0, none⟩), .int .u64 150] 80)) (by simp)
  have hlt : 0 < w.heap.size := errT_pos hg
  have hg2 : ((w.alloc (.cells #[.pointer (some t)] 64)).alloc (.cells #[.pointer (some ⟨1, 64, none⟩), .pointer (some ⟨w.heap.size, 0, none⟩), .int .u64 150] 80)).cell? ⟨0, 0, none⟩ = some (.iface 99 (.agg #[.pointer (some ⟨1, 62, none⟩)])) := by
    rw [World.cell?_alloc_lt _ _ ⟨0, 0, none⟩ (by simp), World.cell?_alloc_lt _ _ ⟨0, 0, none⟩ hlt]; exact hg
  have htl : t.block < w.heap.size := by
    rcases Nat.lt_or_ge t.block w.heap.size with h | h
    · exact h
    · simp [World.cell?, Array.getElem?_eq_none h] at ht0
  have el := as_elemVP ⟨w.heap.size, 0, none⟩ t (((w.alloc (.cells #[.pointer (some t)] 64)).alloc (.cells #[.pointer (some ⟨1, 64, none⟩), .pointer (some ⟨w.heap.size, 0, none⟩), .int .u64 150] 80)).alloc (.cells #[.pointer (some ⟨1, 64, none⟩), .pointer (some ⟨w.heap.size, 0, none⟩), .int .u64 150] 80)) (by rw [World.cell?_alloc_lt _ _ ⟨w.heap.size, 0, none⟩ (by simp; omega)]; simp)
  have st := as_setB t (w.heap.size + 1 + 1 + 1) e old ((((w.alloc (.cells #[.pointer (some t)] 64)).alloc (.cells #[.pointer (some ⟨1, 64, none⟩), .pointer (some ⟨w.heap.size, 0, none⟩), .int .u64 150] 80)).alloc (.cells #[.pointer (some ⟨1, 64, none⟩), .pointer (some ⟨w.heap.size, 0, none⟩), .int .u64 150] 80)).alloc (.cells #[.int .i64 e] 59))
    (by have := World.alloc_heap_new (((w.alloc (.cells #[.pointer (some t)] 64)).alloc (.cells #[.pointer (some ⟨1, 64, none⟩), .pointer (some ⟨w.heap.size, 0, none⟩), .int .u64 150] 80)).alloc (.cells #[.pointer (some ⟨1, 64, none⟩), .pointer (some ⟨w.heap.size, 0, none⟩), .int .u64 150] 80)) (.cells #[.int .i64 e] 59); simpa using this)
    (by rw [World.cell?_alloc_lt _ _ t (by simp; omega), World.cell?_alloc_lt _ _ t (by simp; omega), World.cell?_alloc_lt _ _ t (by simp; omega), World.cell?_alloc_lt _ _ t htl]; exact ht0)
    (by rw [World.frozen?_alloc_old _ _ t (by simp; omega), World.frozen?_alloc_old _ _ t (by simp; omega), World.frozen?_alloc_old _ _ t (by simp; omega), World.frozen?_alloc_old _ _ t (Nat.ne_of_lt htl)]; exact hf0)
  go_enter Tryd.func29, Tryd.ntmps29
  go_wp2
  refine wp_loop_rounds 1 ?_
  rw [rounds_succ]
  go_wp2
  go_ret
  exact ⟨rfl, rfl⟩
end

/-! ### crc_Good: function 64 -/
def crc_Good.l0 : Nat → Int → List Int → Int → Int → Option (Bool)
  | 0, _, _, _, _ => none
  | k + 1, x4, x18, x19, x20 => if x20 < x19 then (if 0 ≤ x20 then (if x20 < (x18.length : Int) then (if 0 ≤ (wrap64 (8 * x20)) then (if ((shr .u32 x4 (wrap64 (8 * x20))) % 256) = (rd x18 x20) then (crc_Good.l0 k x4 x18 x19 (wrap64 (x20 + 1))) else (some false)) else (none)) else (none)) else (none)) else (some true)
def crc_Good.f (k : Nat) (l0 : List Int) : Option (Bool) := if (wrap64 ((l0.length : Int) - 4)) < 0 then (some false) else (if 0 ≤ (wrap64 ((l0.length : Int) - 4)) then (if (wrap64 ((l0.length : Int) - 4)) ≤ (l0.length : Int) then ((crc_Sum.f (l0.take ((wrap64 ((l0.length : Int) - 4)) : Int).toNat)).bind fun t174 => (crc_Good.l0 k t174 (l0.drop ((wrap64 ((l0.length : Int) - 4)) : Int).toNat) ((l0.drop ((wrap64 ((l0.length : Int) - 4)) : Int).toNat).length : Int) 0)) else (none)) else (none))
set_option maxHeartbeats 8000000 in
set_option maxRecDepth 100000 in
theorem crc_Good.calls (k : Nat) (A0 : Option Addr) (c0 : Nat) (l0 : List Int) (r : Bool) (w : World) (hr0 : Kd.C (Kd.int .u8) w A0 l0.length l0) (hc0 : l0.length ≤ c0) (h : crc_Good.f k l0 = some r) :
    Calls Tryd.prog 64 #[.slice A0 l0.length c0] w fun e w' => e = .returned (.bool r) ∧ Below w.heap.size w w' := by
  have HR0 := Aside0.mk hr0
  have HC0 := Aside0.mk hc0
  clear hr0 hc0
  have HB := Aside0.mk (Below.refl w.heap.size w)
  have H : (if (wrap64 ((l0.length : Int) - 4)) < 0 then (some false) else (if 0 ≤ (wrap64 ((l0.length : Int) - 4)) then (if (wrap64 ((l0.length : Int) - 4)) ≤ (l0.length : Int) then ((crc_Sum.f (l0.take ((wrap64 ((l0.length : Int) - 4)) : Int).toNat)).bind fun t174 => (crc_Good.l0 k t174 (l0.drop ((wrap64 ((l0.length : Int) - 4)) : Int).toNat) ((l0.drop ((wrap64 ((l0.length : Int) - 4)) : Int).toNat).length : Int) 0)) else (none)) else (none))) = some r := h
  clear h
  by_cases c2 : (wrap64 ((l0.length : Int) - 4)) < 0
  · rw [if_pos c2] at H
    have c2b0 : decide ((wrap64 ((l0.length : Int) - 4)) < 0) = true := decide_eq_true c2
    clear c2
    obtain rfl := Option.some.inj H
    go_enter Tryd.func64, Tryd.ntmps64
    go_wp2
    go_ret
    exact ⟨by first | rfl | (simp [errW_none, errW_some] <;> rfl) | (simp [*, errW_none, errW_some] <;> rfl), by repeat (first | (with_reducible first | exact HB.out | apply below_alloc | apply pw_below_drewN | apply below_drew1) | exact HB.out)⟩
  · rw [if_neg c2] at H
    have c2b0 : decide ((wrap64 ((l0.length : Int) - 4)) < 0) = false := decide_eq_false c2
    clear c2
    obtain ⟨ji3, hji3⟩ : ∃ j_ : Int, (wrap64 ((l0.length : Int) - 4)) = j_ := ⟨_, rfl⟩
    replace H : (if 0 ≤ (ji3) then (if (ji3) ≤ (l0.length : Int) then ((crc_Sum.f (l0.take ((ji3) : Int).toNat)).bind fun t174 => (crc_Good.l0 k t174 (l0.drop ((ji3) : Int).toNat) ((l0.drop ((ji3) : Int).toNat).length : Int) 0)) else (none)) else (none)) = some r := by first | (rw [hji3] at H; exact H) | (simp only [hji3] at H ⊢; exact H)
    (try rw [hji3] at c2b0)
    have hji3w : (IntKind.i64.wrap ((l0.length : Int) - 4)) = ji3 := (i64_w _).trans hji3
    by_cases c4 : 0 ≤ (ji3)
    · rw [if_pos c4] at H
      have c4b0 := eq_true c4
      have c4b1 : decide (0 ≤ (ji3)) = true := decide_eq_true c4
      clear c4
      by_cases c5 : (ji3) ≤ (l0.length : Int)
      · rw [if_pos c5] at H
        have c5b0 := eq_true c5
        have c5b1 : decide ((ji3) ≤ (l0.length : Int)) = true := decide_eq_true c5
        clear c5
        replace H := Option.bind_eq_some_iff.mp H
        obtain ⟨t174, A60, H⟩ := H
        replace H : (crc_Good.l0 k t174 (l0.drop ((ji3) : Int).toNat) ((l0.drop ((ji3) : Int).toNat).length : Int) 0) = some r := H
        have A6 := Aside0.mk A60
        clear A60
        have c7b0 := eq_true (of_decide_eq_true (by first | (with_reducible assumption) | assumption) : 0 ≤ (ji3))
        have c8b0 := eq_true (of_decide_eq_true (by first | (with_reducible assumption) | assumption) : (ji3) ≤ (l0.length : Int))
        have H' := Aside0.mk H
        clear H
        obtain ⟨i09, hi09, _, hsz9, _⟩ := info_parts info5
        obtain ⟨hcut9, hA9, hC9⟩ := print_take_of (P := Tryd.prog) (Value.int .u8) 0 26 5 .i64 Tryd.underlying26 hi09 hsz9 A0 c0 l0 (ji3) (of_decide_eq_true (by first | (with_reducible assumption) | assumption)) (of_decide_eq_true (by first | (with_reducible assumption) | assumption)) HC0.out
        have HR173 := Aside0.mk (Kd.C_of_reads (h1 := fun _ => rfl) (hA9 _ (Kd.reads_of_C HR0.out)))
        have HC173 := Aside0.mk hC9
        clear hA9 hC9 hi09 hsz9
        go_enter Tryd.func64, Tryd.ntmps64
        go_wp2_with (first | ((with_reducible refine gate_callee (f := 56) rfl ?_); refine goesL_ (some 15) rfl rfl Tryd.func56 (by kernel_rfl) rfl #[.slice A0 (l0.take ((ji3) : Int).toNat).length c0] rfl (by (try simp only [List.map_toArray, List.map_cons, List.map_nil]); first | done | (rw [show (l0.take ((ji3) : Int).toNat).length = (ji3).toNat from (by rw [List.length_take]; have h_ : ((ji3) : Int) ≤ (l0.length : Int) := of_decide_eq_true (by first | (with_reducible assumption) | assumption); omega)] <;> rfl) | (simp only [hji3]; rfl) | rfl | (simp only [List.length_drop, List.length_take]; rfl)) ?_; (with_reducible refine (crc_Sum.calls _ _ (l0.take ((ji3) : Int).toNat) t174 _ ?side1 ?side2 A6.out).mono ?_); (case side1 => repeat (first | exact HR173.out | (with_reducible refine Kd.C_alloc ?_ _) | (with_reducible refine Kd.C_drewN ?_ _) | (with_reducible refine Kd.C_drew ?_))); (case side2 => exact HC173.out); rintro e w10 ⟨rfl, hb⟩; refine ⟨_, rfl, ?_⟩; have n0_ := Aside0.mk (below_step (by repeat (first | (with_reducible first | exact HB.out | apply below_alloc | apply pw_below_drewN | apply below_drew1) | exact HB.out)) hb); clear HB; have HB := n0_; clear n0_; (try clear hb); (try clear hb2); (try clear hk); (try clear hi); obtain ⟨i011, hi011, _, hsz11, _⟩ := info_parts info5; obtain ⟨A11, hcut11, hA11, hC11⟩ := print_drop_of (P := Tryd.prog) (Value.int .u8) 0 26 5 .i64 Tryd.underlying26 hi011 hsz11 A0 c0 l0 (ji3) (of_decide_eq_true (by first | (with_reducible assumption) | assumption)) (of_decide_eq_true (by first | (with_reducible assumption) | assumption)) HC0.out; have HR175 := Aside0.mk (Kd.C_of_reads (h1 := fun _ => rfl) (hA11 _ (Kd.reads_of_C HR0.out))); have HC175 := Aside0.mk hC11; clear hA11 hC11 hi011 hsz11))
        go_loopg [20] k (fun kq v20 w' => ∃ (x20_1 : Int), v20 = .int .i64 x20_1 ∧ Aside0 (crc_Good.l0 kq t174 (l0.drop ((ji3) : Int).toNat) ((l0.drop ((ji3) : Int).toNat).length : Int) x20_1 = some r) ∧ Aside0 (kq ≤ k) ∧ Aside0 (Below w.heap.size w w'))
        case atStart => exact ⟨(0), (by first | rfl | (simp; done) | (simp [*]; done)), H', ⟨Nat.le_refl _⟩, ⟨by repeat (first | (with_reducible first | exact HB.out | apply below_alloc | apply pw_below_drewN | apply below_drew1) | exact HB.out)⟩⟩
        case round =>
          clear H'
          try clear c2
          try clear c2b0
          try clear p2
          try clear c4
          try clear c4b0
          try clear c4b1
          try clear c5
          try clear c5b0
          try clear c5b1
          try clear c6
          try clear p6
          try clear c7
          try clear c7b0
          try clear c8
          try clear c8b0
          obtain ⟨x20_1, rfl, HA, HK1, HB⟩ := hrel
          cases gk with
          | zero => exact absurd HA.out (by simp [crc_Good.l0])
          | succ k1 =>
            have H := HA.out
            clear HA
            simp only [crc_Good.l0] at H
            by_cases c12 : x20_1 < ((l0.drop ((ji3) : Int).toNat).length : Int)
            · rw [if_pos c12] at H
              have c12b0 : decide (x20_1 < ((l0.drop ((ji3) : Int).toNat).length : Int)) = true := decide_eq_true c12
              have c12b0z := c12b0
              simp only [List.length_drop] at c12b0z
              clear c12
              by_cases c13 : 0 ≤ x20_1
              · rw [if_pos c13] at H
                have c13b0 : decide (0 ≤ x20_1) = true := decide_eq_true c13
                clear c13
                by_cases c14 : x20_1 < ((l0.drop ((ji3) : Int).toNat).length : Int)
                · rw [if_pos c14] at H
                  have c14b0 : decide (x20_1 < ((l0.drop ((ji3) : Int).toNat).length : Int)) = true := decide_eq_true c14
                  have c14b0z := c14b0
                  simp only [List.length_drop] at c14b0z
                  clear c14
                  obtain ⟨ji15, hji15⟩ : ∃ j_ : Int, (wrap64 (8 * x20_1)) = j_ := ⟨_, rfl⟩
                  replace H : (if 0 ≤ (ji15) then (if ((shr .u32 t174 (ji15)) % 256) = (rd (l0.drop ((ji3) : Int).toNat) x20_1) then (crc_Good.l0 k1 t174 (l0.drop ((ji3) : Int).toNat) ((l0.drop ((ji3) : Int).toNat).length : Int) (wrap64 (x20_1 + 1))) else (some false)) else (none)) = some r := by first | (rw [hji15] at H; exact H) | (simp only [hji15] at H ⊢; exact H)
                  have hji15w : (IntKind.i64.wrap (8 * x20_1)) = ji15 := (i64_w _).trans hji15
                  by_cases c16 : 0 ≤ (ji15)
                  · rw [if_pos c16] at H
                    have c16b0 := eq_true c16
                    have c16b1 : decide (0 ≤ (ji15)) = true := decide_eq_true c16
                    clear c16
                    obtain ⟨ji17, hji17⟩ : ∃ j_ : Int, (shr .u32 t174 (ji15)) = j_ := ⟨_, rfl⟩
                    replace H : (if ((ji17) % 256) = (rd (l0.drop ((ji3) : Int).toNat) x20_1) then (crc_Good.l0 k1 t174 (l0.drop ((ji3) : Int).toNat) ((l0.drop ((ji3) : Int).toNat).length : Int) (wrap64 (x20_1 + 1))) else (some false)) = some r := by first | (rw [hji17] at H; exact H) | (simp only [hji17] at H ⊢; exact H)
                    have hji17_ : (t174 / 2 ^ min (ji15).toNat 32) = ji17 := hji17
                    have hji17z : (ji15) ≤ 32 → (t174 / 2 ^ (ji15).toNat) = ji17 := shr_small hji17
                    by_cases c18 : ((ji17) % 256) = (rd (l0.drop ((ji3) : Int).toNat) x20_1)
                    · rw [if_pos c18] at H
                      have c18b0 : (((ji17) % 256) == (rd (l0.drop ((ji3) : Int).toNat) x20_1)) = true := beq_iff_eq.mpr c18
                      have c18b1 : (((ji17) % 256) != (rd (l0.drop ((ji3) : Int).toNat) x20_1)) = false := bne_eq_false_iff_eq.mpr c18
                      clear c18
                      have H' := Aside0.mk H
                      clear H
                      have p176 : 0 ≤ (x20_1 : Int) := of_decide_eq_true (by first | (with_reducible assumption) | assumption)
                      have q176 : x20_1 < ((l0.drop ((ji3) : Int).toNat).length : Int) := of_decide_eq_true (by first | (with_reducible assumption) | assumption)
                      obtain ⟨ad176, e176, hx176_0⟩ := Kd.at_int HR175.out x20_1 p176 q176
                      cases e176
                      replace hx176_0 := (HB.out.cell (World.block_lt_of_cell? w _ hx176_0)).trans hx176_0
                      replace p176 := eq_true p176
                      replace q176 := eq_true q176
                      have q176z := q176
                      simp only [List.length_drop] at q176z
                      go_wp2
                      go_roundg k1
                      case measure => have := HK1.out; omega
                      case rel => exact ⟨(wrap64 (x20_1 + 1)), (by first | rfl | (simp; done) | (simp [*]; done)), H', ⟨by have := HK1.out; omega⟩, ⟨by repeat (first | (with_reducible first | exact HB.out | apply below_alloc | apply pw_below_drewN | apply below_drew1) | exact HB.out)⟩⟩
                    · rw [if_neg c18] at H
                      have c18b0 : (((ji17) % 256) == (rd (l0.drop ((ji3) : Int).toNat) x20_1)) = false := beq_eq_false_iff_ne.mpr c18
                      have c18b1 : (((ji17) % 256) != (rd (l0.drop ((ji3) : Int).toNat) x20_1)) = true := bne_iff_ne.mpr c18
                      obtain rfl := Option.some.inj H
                      have p176 : 0 ≤ (x20_1 : Int) := of_decide_eq_true (by first | (with_reducible assumption) | assumption)
                      have q176 : x20_1 < ((l0.drop ((ji3) : Int).toNat).length : Int) := of_decide_eq_true (by first | (with_reducible assumption) | assumption)
                      obtain ⟨ad176, e176, hx176_0⟩ := Kd.at_int HR175.out x20_1 p176 q176
                      cases e176
                      replace hx176_0 := (HB.out.cell (World.block_lt_of_cell? w _ hx176_0)).trans hx176_0
                      replace p176 := eq_true p176
                      replace q176 := eq_true q176
                      have q176z := q176
                      simp only [List.length_drop] at q176z
                      go_wp2
                      go_ret
                      exact ⟨by first | rfl | (simp [errW_none, errW_some] <;> rfl) | (simp only [← hji3, ← hji15, ← hji17]; first | rfl | (simp [errW_none, errW_some] <;> rfl)) | (simp [*, errW_none, errW_some] <;> rfl), by repeat (first | (with_reducible first | exact HB.out | apply below_alloc | apply pw_below_drewN | apply below_drew1) | exact HB.out)⟩
                  · rw [if_neg c16] at H
                    exact absurd H (by simp)
                · rw [if_neg c14] at H
                  exact absurd H (by simp)
              · rw [if_neg c13] at H
                exact absurd H (by simp)
            · rw [if_neg c12] at H
              have c12b0 : decide (x20_1 < ((l0.drop ((ji3) : Int).toNat).length : Int)) = false := decide_eq_false c12
              have c12b0z := c12b0
              simp only [List.length_drop] at c12b0z
              clear c12
              obtain rfl := Option.some.inj H
              go_wp2
              go_ret
              exact ⟨by first | rfl | (simp [errW_none, errW_some] <;> rfl) | (simp only [← hji3]; first | rfl | (simp [errW_none, errW_some] <;> rfl)) | (simp [*, errW_none, errW_some] <;> rfl), by repeat (first | (with_reducible first | exact HB.out | apply below_alloc | apply pw_below_drewN | apply below_drew1) | exact HB.out)⟩
      · rw [if_neg c5] at H
        exact absurd H (by simp)
    · rw [if_neg c4] at H
      exact absurd H (by simp)

/-! ### frame_part: function 53 -/
theorem part_info : (Tryd.prog.info? 5).map (fun i => (i.zero, i.size, i.bytes)) = some (some (.int .u8 0), 1, 1) := by kernel_rfl
def part_T : Bool × List (List Nat × List Nat) := (true, [([], []), ([], []), ([], []), ([0, 1, 2], [0, 1, 2]), ([], []), ([], []), ([4, 5], [4, 5]), ([3, 0, 1, 2, 3], [3]), ([6, 7, 0, 1, 2, 3, 4, 5, 6, 7], [6]), ([8, 0, 1, 2, 3, 4, 5, 6, 7, 8], [])])
def part_B : List Nat := [0, 0, 0, 7, 0, 0, 48, 15, 255, 511]
theorem part_tab : rtab .any (opsOf Tryd.f53 6) = part_T := by kernel_rfl
theorem part_bits : waitsOk part_T.2 part_B = true := by kernel_rfl
/-- what part answers: 0: cut; 2: too short; 3: another sum -/
def partE (k : Nat) (l : List Int) (n : Nat) : Option Int := if l.length < n + 4 then some 2 else (crc_Good.f k (l.take (n + 4))).bind fun b => if b = true then some 0 else some 3
set_option maxHeartbeats 4000000 in
theorem part_any (k : Nat) (A0 : Option Addr) (c0 : Nat) (l : List Int) (n : Nat) (r : Int) (w : World) (hr0 : Kd.C (Kd.int .u8) w A0 l.length l) (hc0 : l.length ≤ c0) (hn : n ≤ 1000000) (h : partE k l n = some r) :
    Calls Tryd.prog 53 #[.slice A0 l.length c0, .int .i64 n] w fun e w' => Below w.heap.size w w' ∧
      ((r = 0 ∧ ∃ A' : Option Addr, e = .returned (.tuple #[.slice A0 n n, .slice A' (l.length - (n + 4)) (c0 - (n + 4)), .int .i64 0]) ∧ Kd.C (Kd.int .u8) w A' (l.drop (n + 4)).length (l.drop (n + 4)) ∧ n + 4 ≤ l.length) ∨
       (r ≠ 0 ∧ e = .returned (.tuple #[.slice none 0 0, .slice none 0 0, .int .i64 r]))) := by
  have HR := Aside0.mk hr0
  have HC := Aside0.mk hc0
  obtain ⟨i0, hi0, _, hsz, _⟩ := info_parts part_info
  have kw : wrap64 ((n : Int) + 4) = ((n : Int) + 4) := by unfold wrap64; omega
  unfold partE at h
  by_cases hl : l.length < n + 4
  · rw [if_pos hl] at h
    obtain rfl := Option.some.inj h
    have kl : decide ((l.length : Int) < ((n : Int) + 4)) = true := decide_eq_true (by omega)
    have HL := Aside0.mk hl
    clear hr0 hc0 h hl
    go_enter Tryd.func53, Tryd.ntmps53
    go_wp2
    all_goals (refine bodyPost_ret (results_list (rs := [.tmp 4, .tmp 5, .tmp 6]) (vs := [_, _, _]) rfl (by simp) (.tmp (.tmp (.tmp .nil)))) rfl ?_)
    all_goals exact ⟨Below.refl _ _, .inr ⟨by decide, rfl⟩⟩
  · rw [if_neg hl] at h
    obtain ⟨b, hb, h⟩ := Option.bind_eq_some_iff.mp h
    have kl : decide ((l.length : Int) < ((n : Int) + 4)) = false := decide_eq_false (by omega)
    obtain ⟨hcutA, hA, hCA⟩ := print_take_of (P := Tryd.prog) (Value.int .u8) 0 26 5 .i64 Tryd.underlying26 hi0 hsz A0 c0 l ((n : Int) + 4) (by omega) (by omega) hc0
    obtain ⟨A7, hcut7, hA7, hC7⟩ := print_drop_of (P := Tryd.prog) (Value.int .u8) 0 26 5 .i64 Tryd.underlying26 hi0 hsz A0 c0 l ((n : Int) + 4) (by omega) (by omega) hc0
    have hRA := Aside0.mk (Kd.C_of_reads (h1 := fun _ => rfl) (hA _ (Kd.reads_of_C hr0)))
    have hR7 := Aside0.mk (Kd.C_of_reads (h1 := fun _ => rfl) (hA7 _ (Kd.reads_of_C hr0)))
    have HCA := Aside0.mk hCA
    have ht : ((n : Int) + 4).toNat = n + 4 := by omega
    have hlt : (l.take (n + 4)).length = n + 4 := by rw [List.length_take]; omega
    have hld : (l.drop (n + 4)).length = l.length - (n + 4) := List.length_drop
    rw [ht] at hcutA hcut7
    rw [hlt] at hcutA
    rw [hld] at hcut7
    have hcutn : ∀ W : World, (Instr.slice 26 (.slice A0 l.length c0) none (some (.int .i64 (n : Int))) (some (.int .i64 (n : Int)))).run Tryd.prog W = .ok (.slice A0 n n) W := fun W => by
      have a1 : (0 : Int) ≤ (n : Int) := by omega
      have a2 : (n : Int) ≤ (c0 : Int) := by omega
      have he : Tryd.prog.elem 26 = 5 := by kernel_rfl
      have hse : ∀ W, (sizeOf 5).run Tryd.prog W = .ok 1 W := fun W => by simp [sizeOf, typeInfo, hi0, hsz]
      have hu : Tryd.prog.underlying 26 = some (.slice (Tryd.prog.elem 26)) := by rw [he]; exact Tryd.underlying26
      rw [run_slice_hm (P := Tryd.prog) (w := W) 26 A0 l.length c0 hu .i64 .i64 (n : Int) (n : Int) a1 (Int.le_refl _) a2, he, hse]
      have ha : (A0.map fun x => x.add 0) = A0 := by cases A0 <;> simp [Addr.add]
      simp [sliced, Result.andThen, ha]
    have HL := Aside0.mk hl
    cases b with
    | true =>
      have hz := Option.some.inj h
      replace hz : (0 : Int) = r := hz
      subst hz
      clear hr0 hc0 h hl hA hA7 hCA hC7
      go_enter Tryd.func53, Tryd.ntmps53
      go_wp2_with (go_at_call 64; rw [← hlt]; refine (crc_Good.calls k A0 c0 (l.take (n + 4)) true _ (by have := hRA.out; rw [ht] at this; exact this) (by have := HCA.out; rw [ht] at this; exact this) hb).mono ?_; rintro e w1 ⟨rfl, hbw⟩)
      refine start_ (n := 10) (S := fun w' => True) (ds := []) #[false, false, false, false, false, false, false, false, false, false] (by kernel_rfl) rfl rfl trivial (fun hHeld => ?_)
      refine with_tabW part_tab part_bits (fun HT_ HW_ => ?_)
      refine pure_ (i := 0) (N := some 21) (v := ?_) (a' := ?_) #[true, false, false, false, false, false, false, false, false, false] rfl rfl (any_of HT_.out (by kernel_rfl)) (fun _ _ _ h => h) (Or.inl ⟨by rfl, ?_⟩) ?_ ?_
      rotate_left
      · intro w'
        go_simp
        with_reducible rfl
      rotate_left
      · simp only [Act.put, List.setIfInBounds_toArray, List.set_cons_zero, List.set_cons_succ, i64_w, i32_w]
        rfl
      refine pure_ (i := 1) (N := some 22) (v := ?_) (a' := ?_) #[true, true, false, false, false, false, false, false, false, false] rfl rfl (any_of HT_.out (by kernel_rfl)) (fun _ _ _ h => h) (Or.inl ⟨by rfl, ?_⟩) ?_ ?_
      rotate_left
      · intro w'
        go_simp
        with_reducible rfl
      rotate_left
      · simp only [Act.put, List.setIfInBounds_toArray, List.set_cons_zero, List.set_cons_succ, i64_w, i32_w]
        rfl
      refine pure_ (i := 2) (N := some 23) (v := ?_) (a' := ?_) #[true, true, true, false, false, false, false, false, false, false] rfl rfl (any_of HT_.out (by kernel_rfl)) (fun _ _ _ h => h) (Or.inl ⟨by rfl, ?_⟩) ?_ ?_
      rotate_left
      · intro w'
        go_simp
        with_reducible rfl
      rotate_left
      · simp only [Act.put, List.setIfInBounds_toArray, List.set_cons_zero, List.set_cons_succ, i64_w, i32_w]
        rfl
      refine pure_ (i := 3) (N := some 24) (v := ?_) (a' := ?_) #[true, true, true, true, false, false, false, false, false, false] rfl rfl (any_of HT_.out (by kernel_rfl)) (fun _ _ _ h => h) (Or.inl ⟨by rfl, ?_⟩) ?_ ?_
      rotate_left
      · intro w'
        go_simp
        with_reducible rfl
      rotate_left
      · simp only [Act.put, List.setIfInBounds_toArray, List.set_cons_zero, List.set_cons_succ, i64_w, i32_w]
        rfl
      refine pure_ (i := 4) (N := some 25) (v := ?_) (a' := ?_) #[true, true, true, true, true, false, false, false, false, false] rfl rfl (any_of HT_.out (by kernel_rfl)) (fun _ _ _ h => h) (Or.inl ⟨by rfl, ?_⟩) ?_ ?_
      rotate_left
      · intro w'
        go_simp
        with_reducible rfl
      rotate_left
      · simp only [Act.put, List.setIfInBounds_toArray, List.set_cons_zero, List.set_cons_succ, i64_w, i32_w]
        rfl
      refine pure_ (i := 5) (N := some 26) (v := ?_) (a' := ?_) #[true, true, true, true, true, true, false, false, false, false] rfl rfl (any_of HT_.out (by kernel_rfl)) (fun _ _ _ h => h) (Or.inl ⟨by rfl, ?_⟩) ?_ ?_
      rotate_left
      · intro w'
        go_simp
        with_reducible rfl
      rotate_left
      · simp only [Act.put, List.setIfInBounds_toArray, List.set_cons_zero, List.set_cons_succ, i64_w, i32_w]
        rfl
      refine pure_ (i := 6) (N := some 27) (v := ?_) (a' := ?_) #[true, true, true, true, true, true, true, false, false, false] rfl rfl (any_of HT_.out (by kernel_rfl)) (fun _ _ _ h => h) (Or.inl ⟨by rfl, ?_⟩) ?_ ?_
      rotate_left
      · intro w'
        go_simp
        with_reducible rfl
      rotate_left
      · simp only [Act.put, List.setIfInBounds_toArray, List.set_cons_zero, List.set_cons_succ, i64_w, i32_w]
        rfl
      refine pure_ (i := 7) (N := some 4) (v := ?_) (a' := ?_) #[true, true, true, true, true, true, true, true, false, false] rfl rfl (any_of HT_.out (by kernel_rfl)) (fun _ _ _ h => h) (Or.inl ⟨by rfl, ?_⟩) ?_ ?_
      rotate_left
      · intro w'
        go_simp
        with_reducible rfl
      rotate_left
      · simp only [Act.put, List.setIfInBounds_toArray, List.set_cons_zero, List.set_cons_succ, i64_w, i32_w]
        rfl
      refine pure_ (i := 8) (N := some 5) (v := ?_) (a' := ?_) #[true, true, true, true, true, true, true, true, true, false] rfl rfl (any_of HT_.out (by kernel_rfl)) (fun _ _ _ h => h) (Or.inl ⟨by rfl, ?_⟩) ?_ ?_
      rotate_left
      · intro w'
        go_simp
        with_reducible rfl
      rotate_left
      · simp only [Act.put, List.setIfInBounds_toArray, List.set_cons_zero, List.set_cons_succ, i64_w, i32_w]
        rfl
      refine pure_ (i := 9) (N := some 6) (v := ?_) (a' := ?_) #[true, true, true, true, true, true, true, true, true, true] rfl rfl (any_of HT_.out (by kernel_rfl)) (fun _ _ _ h => h) (Or.inl ⟨by rfl, ?_⟩) ?_ ?_
      rotate_left
      · intro w'
        go_simp
        with_reducible rfl
      rotate_left
      · simp only [Act.put, List.setIfInBounds_toArray, List.set_cons_zero, List.set_cons_succ, i64_w, i32_w]
        rfl
      refine done_ (done_of HT_.out (by kernel_rfl)) ?_
      simp only [Exit.then]
      go_at_K
      go_wp2
      refine bodyPost_ret (results_list (rs := [.tmp 4, .tmp 5, .tmp 6]) (vs := [_, _, _]) rfl (by simp) (.tmp (.tmp (.tmp .nil)))) rfl ?_
      exact ⟨below_drew1 hbw, .inl ⟨by first | rfl | trivial, A7, rfl, by have h_ := hR7.out; rw [ht] at h_; exact h_, by have := HL.out; omega⟩⟩
    | false =>
      have hz := Option.some.inj h
      replace hz : (3 : Int) = r := hz
      subst hz
      clear hr0 hc0 h hl hA hA7 hCA hC7
      go_enter Tryd.func53, Tryd.ntmps53
      go_wp2_with (go_at_call 64; rw [← hlt]; refine (crc_Good.calls k A0 c0 (l.take (n + 4)) false _ (by have := hRA.out; rw [ht] at this; exact this) (by have := HCA.out; rw [ht] at this; exact this) hb).mono ?_; rintro e w1 ⟨rfl, hbw⟩)
      all_goals (refine bodyPost_ret (results_list (rs := [.tmp 4, .tmp 5, .tmp 6]) (vs := [_, _, _]) rfl (by simp) (.tmp (.tmp (.tmp .nil)))) rfl ?_)
      all_goals exact ⟨hbw, .inr ⟨by decide, rfl⟩⟩

/-! ### slices_Clone_byte_byte: function 54 -/
theorem clone_info : (Tryd.prog.info? 5).map (fun i => (i.zero, i.size, i.bytes)) = some (some (.int .u8 0), 1, 1) := by kernel_rfl
theorem clone_eql (w : World) (a : Option Addr) (l c : Nat) : (binOp .eql 26 (.slice a l c) (.slice none 0 0)).run Tryd.prog w = .ok (.bool a.isNone) w := Lib.run_eql_slice_nil w 26 5 a l c 0 0 Tryd.underlying26
def slices_Clone_byte_byte.f (l0 : List Int) : Option (List Int) := if l0.length < 140737488355328 then some l0 else none
set_option maxHeartbeats 1000000 in
theorem slices_Clone_byte_byte.calls (A0 : Option Addr) (c0 : Nat) (l0 : List Int) (r : List Int) (w : World) (hr0 : Kd.C (Kd.int .u8) w A0 l0.length l0) (hc0 : l0.length ≤ c0) (h : slices_Clone_byte_byte.f l0 = some r) :
    Calls Tryd.prog 54 #[.slice A0 l0.length c0] w fun e w' => ∃ v0_ : Value, e = .returned (v0_) ∧ Kd.R (Kd.int .u8) 5 w' w.heap.size (fun _ => True) v0_ r ∧ Below w.heap.size w w' := by
  have HR0 := Aside0.mk hr0
  have hq := clone_eql
  unfold slices_Clone_byte_byte.f at h
  by_cases hl : l0.length < 140737488355328
  · rw [if_pos hl] at h
    obtain rfl := Option.some.inj h
    have HL := Aside0.mk hl
    clear h hl hr0 hc0
    cases A0 with
    | none =>
      have hz : l0.length = 0 := by
        rcases Nat.eq_zero_or_pos l0.length with h | h
        · exact h
        · obtain ⟨ad, e, _⟩ := HR0.out.2.2 h
          cases e
      have HZ := Aside0.mk (List.eq_nil_of_length_eq_zero hz)
      clear hz
      go_enter Tryd.func54, Tryd.ntmps54
      go_wp2
      go_ret
      exact ⟨_, rfl, by rw [HZ.out]; exact Kd.R_nil _ _ _ _ _, Below.refl _ _⟩
    | some ad =>
      go_enter Tryd.func54, Tryd.ntmps54
      go_wp2_with (first | ((with_reducible refine gate_builtin (b := .append) (xs := #[.tmp 5, .tmp 6]) rfl ?_); at_builtin; refine Kd.R_append_rows (Kd.int .u8) (w0 := w) w.heap.size rfl (.tmp 5) (.tmp 6) 26 5 (.int .u8 0) 1 rfl Tryd.underlying26 clone_info rfl (by decide) (by omega) (.slice (some ⟨w.heap.size, 0, none⟩) 0 0) [] l0 _ _ _ (fun _ => True) (fun _ => False) rfl rfl ?aO ?aR (fun _ _ h => h) (fun _ h => h.elim) ?aF ?aB ?aS ?aL ?_; (case aR => exact Kd.C_alloc HR0.out _); (case aO => exact Kd.R_of_own ⟨by simp [encs], .inr ⟨w.heap.size, 0, #[], rfl, Nat.le_refl _, heap_alloc_new _ _, by simp, by simp, by simp, by simp [encs]⟩⟩ (fun _ _ => trivial)); (case aF => exact fun _ _ => trivial); (case aB => exact (Below.refl _ _).alloc (Nat.le_refl _) _); (case aS => simp); (case aL => have := HL.out; simp; omega); intro v1 w1 ho hb hg hat))
      go_ret
      exact ⟨_, rfl, by simpa using ho, hb⟩
  · rw [if_neg hl] at h
    exact absurd h (by simp)

/-! ### frame_Get: function 37 -/
def frame_Get.f (k : Nat) (l0 : List Int) : Option (Int × List Int × Int × Int) :=
  (partE k l0 2).bind fun e => if e = 0 then
    (if ((0 ≤ l0.getD 0 0 ∧ l0.getD 0 0 ≤ 255) ∧ (0 ≤ l0.getD 1 0 ∧ l0.getD 1 0 ≤ 255)) ∧ l0.length < 140737488355328 then
      (partE k (l0.drop 6) (l0.getD 1 0).toNat).bind fun e2 => if e2 = 0 then some (l0.getD 0 0, (l0.drop 6).take (l0.getD 1 0).toNat, 10 + l0.getD 1 0, 0) else some (0, [], 0, e2)
    else none)
  else some (0, [], 0, e)
def get_T : Bool × List (List Nat × List Nat) := (true, [([], []), ([0], [0]), ([1], [1]), ([2], [2]), ([], []), ([4], [4]), ([3, 5], [3, 5]), ([], []), ([7], [7]), ([], []), ([9], [9]), ([8, 10], [8, 10]), ([6, 5, 0, 1, 2, 3, 4, 5, 6], [6]), ([11, 12, 0, 1, 2, 3, 4, 5, 6, 7, 8, 9, 10, 11, 12], [11]), ([13, 0, 1, 2, 3, 4, 5, 6, 7, 8, 9, 10, 11, 12, 13], [])])
def get_B : List Nat := [0, 1, 3, 7, 0, 16, 63, 0, 128, 0, 512, 1920, 127, 8191, 16383]
theorem get_tab : rtab .any (opsOf Tryd.f37 7) = get_T := by kernel_rfl
theorem get_bits : waitsOk get_T.2 get_B = true := by kernel_rfl
theorem get_info : (Tryd.prog.info? 5).map (fun i => (i.zero, i.size, i.bytes)) = some (some (.int .u8 0), 1, 1) := by kernel_rfl
set_option maxHeartbeats 8000000 in
set_option maxRecDepth 100000 in
theorem frame_Get.calls (k : Nat) (A0 : Option Addr) (c0 : Nat) (l0 : List Int) (r1 : Int) (r2 : List Int) (r3 : Int) (r4 : Int) (w : World) (hr0 : Kd.C (Kd.int .u8) w A0 l0.length l0) (hc0 : l0.length ≤ c0) (h : frame_Get.f k l0 = some (r1, r2, r3, r4)) :
    Calls Tryd.prog 37 #[.slice A0 l0.length c0] w fun e w' => ∃ v1_ : Value, e = .returned (.tuple #[.agg #[.int .i64 r1, v1_], .int .i64 r3, .int .i64 r4]) ∧ Kd.R (Kd.int .u8) 5 w' w.heap.size (fun _ => True) v1_ r2 ∧ Below w.heap.size w w' := by
  have hu24 := Tryd.underlying50
  have HR0 := Aside0.mk hr0
  have HC0 := Aside0.mk hc0
  clear hr0 hc0
  unfold frame_Get.f at h
  obtain ⟨e1, he1, h⟩ := Option.bind_eq_some_iff.mp h
  have HE1 := Aside0.mk he1
  by_cases c1 : e1 = 0
  · rw [if_pos c1] at h
    subst c1
    by_cases c2 : ((0 ≤ l0.getD 0 0 ∧ l0.getD 0 0 ≤ 255) ∧ (0 ≤ l0.getD 1 0 ∧ l0.getD 1 0 ≤ 255)) ∧ l0.length < 140737488355328
    · rw [if_pos c2] at h
      obtain ⟨e2, he2, h⟩ := Option.bind_eq_some_iff.mp h
      obtain ⟨⟨⟨z0, z1⟩, y0, y1⟩, hlen⟩ := c2
      have h6 : 6 ≤ l0.length := by
        unfold partE at he1
        by_cases hl : l0.length < 2 + 4
        · rw [if_pos hl] at he1
          exact absurd he1 (by decide)
        · omega
      obtain ⟨ad, rfl, hx1⟩ := Kd.at_int HR0.out 1 (by omega) (by omega)
      obtain ⟨ad', e', hx0⟩ := Kd.at_int HR0.out 0 (by omega) (by omega)
      obtain rfl : ad = ad' := by injection e'
      clear e'
      replace hx1 : w.cell? ⟨ad.block, ad.off + 1, none⟩ = some (.int .u8 (l0.getD 1 0)) := by have := add_field ad 0 1 (by omega); rw [Addr.add_zero'] at this; rw [← this]; exact hx1
      replace hx0 : w.cell? ad = some (.int .u8 (l0.getD 0 0)) := by have := hx0; rw [show ((0 : Int)).toNat = 0 from rfl, Addr.add_zero'] at this; exact this
      obtain ⟨n0, hn0⟩ : ∃ n : Nat, l0.getD 0 0 = (n : Int) := ⟨(l0.getD 0 0).toNat, by omega⟩
      obtain ⟨n1, hn1⟩ : ∃ n : Nat, l0.getD 1 0 = (n : Int) := ⟨(l0.getD 1 0).toNat, by omega⟩
      rw [hn0, hn1] at h
      rw [hn0] at hx0 z0 z1
      rw [hn1] at hx1 y0 y1 he2
      rw [show ((n1 : Int)).toNat = n1 from rfl] at he2 h
      have kw0 : wrap64 (n0 : Int) = (n0 : Int) := by unfold wrap64; omega
      have kw1 : wrap64 (n1 : Int) = (n1 : Int) := by unfold wrap64; omega
      have HE2 := Aside0.mk he2
      have hld : (l0.drop 6).length = l0.length - 6 := List.length_drop
      have HLD := Aside0.mk hld
      have H6 := Aside0.mk h6
      have HNN := Aside0.mk (show n1 ≤ 1000000 by omega)
      have HLL := Aside0.mk hlen
      clear he2 he1 hld hlen z0 z1 y0 y1 hn0 hn1
      have P1 : ∀ W, Kd.C (Kd.int .u8) W (some ad) l0.length l0 → Calls Tryd.prog 53 #[.slice (some ad) l0.length c0, .int .i64 2] W fun e w' => ∃ A7, e = .returned (.tuple #[.slice (some ad) 2 2, .slice A7 (l0.length - 6) (c0 - 6), .int .i64 0]) ∧ Aside0 (Kd.C (Kd.int .u8) w' A7 (l0.drop 6).length (l0.drop 6)) ∧ Aside0 (Below W.heap.size W w') := by
        intro W hC
        refine (part_any k (some ad) c0 l0 2 0 W hC HC0.out (by omega) HE1.out).mono ?_
        rintro e w1 ⟨hb, (⟨-, A7, rfl, hC7, -⟩ | ⟨h0, -⟩)⟩
        · exact ⟨A7, rfl, ⟨Kd.C_below hC7 hb⟩, ⟨hb⟩⟩
        · exact absurd rfl h0
      by_cases c3 : e2 = 0
      · rw [if_pos c3] at h
        subst c3
        simp only [Option.some.injEq, Prod.mk.injEq] at h
        obtain ⟨rfl, rfl, rfl, rfl⟩ := h
        have h2 : n1 + 4 ≤ (l0.drop 6).length := by
          have he := HE2.out
          unfold partE at he
          by_cases hl : (l0.drop 6).length < n1 + 4
          · rw [if_pos hl] at he
            exact absurd he (by decide)
          · omega
        obtain ⟨body, hbody⟩ : ∃ b, b = (l0.drop 6).take n1 := ⟨_, rfl⟩
        rw [← hbody]
        have hbl : body.length = n1 := by rw [hbody, List.length_take]; omega
        obtain ⟨L9, hL9⟩ : ∃ n, n = l0.length - 6 - (n1 + 4) := ⟨_, rfl⟩
        have k9 : wrap64 ((l0.length : Int) - (L9 : Int)) = 10 + (n1 : Int) := by have := HLD.out; have := HLL.out; unfold wrap64; omega
        have H01 : (0 < l0.length) := by omega
        have P2 : ∀ A7 W, Kd.C (Kd.int .u8) W A7 (l0.drop 6).length (l0.drop 6) → Calls Tryd.prog 53 #[.slice A7 (l0.length - 6) (c0 - 6), .int .i64 (n1 : Int)] W fun e w' => ∃ A9, e = .returned (.tuple #[.slice A7 n1 n1, .slice A9 L9 (c0 - 6 - (n1 + 4)), .int .i64 0]) ∧ Aside0 (Kd.C (Kd.int .u8) w' A7 n1 body) ∧ Aside0 (Below W.heap.size W w') := by
          intro A7 W hC
          rw [show l0.length - 6 = (l0.drop 6).length from HLD.out.symm]
          refine (part_any k A7 (c0 - 6) (l0.drop 6) n1 0 W hC (by have := HC0.out; have := HLD.out; omega) HNN.out HE2.out).mono ?_
          obtain ⟨i0, hi0, _, hsz, _⟩ := info_parts get_info
          obtain ⟨hcutA, hA, hCA⟩ := print_take_of (P := Tryd.prog) (Value.int .u8) 0 26 5 .i64 Tryd.underlying26 hi0 hsz A7 (l0.drop 6).length (l0.drop 6) (n1 : Int) (by omega) (by omega) (Nat.le_refl _)
          have hCb : Kd.C (Kd.int .u8) W A7 n1 body := by
            have := Kd.C_of_reads (h1 := fun _ => rfl) (hA _ (Kd.reads_of_C hC))
            rw [show ((n1 : Int)).toNat = n1 from rfl, ← hbody, hbl] at this
            exact this
          rintro e w2 ⟨hb2, (⟨-, A9, rfl, -, -⟩ | ⟨h0, -⟩)⟩
          · exact ⟨A9, by rw [HLD.out, hL9], ⟨Kd.C_below hCb hb2⟩, ⟨hb2⟩⟩
          · exact absurd rfl h0
        have P3 : ∀ A7 W, Kd.C (Kd.int .u8) W A7 n1 body → Calls Tryd.prog 54 #[.slice A7 n1 n1] W fun e w' => ∃ v0_ : Value, e = .returned (v0_) ∧ Aside0 (Kd.R (Kd.int .u8) 5 w' W.heap.size (fun _ => True) v0_ body) ∧ Aside0 (Below W.heap.size W w') := by
          intro A7 W hC
          have hf : slices_Clone_byte_byte.f body = some body := by
            unfold slices_Clone_byte_byte.f
            rw [if_pos (by have := HNN.out; omega)]
          have := slices_Clone_byte_byte.calls A7 body.length body body W (by rw [hbl]; exact hC) (Nat.le_refl _) hf
          rw [hbl] at this
          refine this.mono ?_
          rintro e w' ⟨v, rfl, h1, h2⟩
          exact ⟨v, rfl, ⟨h1⟩, ⟨h2⟩⟩
        have HBY := Aside0.mk hbody
        have HBL := Aside0.mk hbl
        clear h6 h2 hbody hbl hL9
        go_enter Tryd.func37, Tryd.ntmps37
        go_upto_region 7 with (first
          | (go_at_call 53; with_reducible refine (P1 _ (Kd.C_alloc HR0.out _)).mono ?_; rintro e w1 ⟨A7, rfl, HC7, hb⟩; have HB1 := Aside0.mk (below_then ((Below.refl w.heap.size w).alloc (Nat.le_refl _) _) (by simp) hb.out); have HBK : Aside0 (w1.heap[w.heap.size]? = some (.cells #[.int .i64 0, .slice none 0 0] 50 (0, 0))) := ⟨blk_below (heap_alloc_new _ _) hb.out⟩; have hx1' := (HB1.out.cell (World.block_lt_of_cell? w _ hx1)).trans hx1; clear hb)
          | (go_at_call 53; with_reducible refine (P2 A7 w1 HC7.out).mono ?_; rintro e w2 ⟨A9, rfl, HC8, hb2⟩; have HBK2 := Aside0.mk (blk_below HBK.out hb2.out); have HB2 := Aside0.mk (below_then HB1.out (HB1.out.size) hb2.out); clear hb2))
        have hxs := (HB2.out.cell (World.block_lt_of_cell? w _ hx0)).trans hx0
        have HXS := Aside0.mk hxs
        have HB3 := Aside0.mk (below_drew1 HB2.out)
        have HBK3 := Aside0.mk (blk_drew HBK2.out)
        have HC9 := Aside0.mk (Kd.C_drew HC8.out)
        have HLT := Aside0.mk (World.block_lt_of_cell? w _ hx0)
        clear hx1' hxs hx1
        refine start_ (n := 15) (S := fun w' => w'.cell? ad = some (.int .u8 (n0 : Int))) (ds := []) #[false, false, false, false, false, false, false, false, false, false, false, false, false, false, false] (by kernel_rfl) rfl rfl (HXS.out) (fun hHeld => ?_)
        refine with_tabW get_tab get_bits (fun HT_ HW_ => ?_)
        generalize w2.drew = w3 at HB3 HBK3 HC9 hHeld ⊢
        refine pure_ (i := 0) (N := some 33) (v := ?_) (a' := ?_) #[true, false, false, false, false, false, false, false, false, false, false, false, false, false, false] rfl rfl (any_of HT_.out (by kernel_rfl)) (fun _ _ _ h => h) (Or.inl ⟨by rfl, ?_⟩) ?_ ?_
        rotate_left
        · intro w'
          go_simp
          with_reducible rfl
        rotate_left
        · simp only [Act.put, List.setIfInBounds_toArray, List.set_cons_zero, List.set_cons_succ, i64_w, i32_w]
          rfl
        refine pure_ (i := 1) (N := some 34) (v := ?_) (a' := ?_) #[true, true, false, false, false, false, false, false, false, false, false, false, false, false, false] rfl rfl (any_of HT_.out (by kernel_rfl)) (fun _ _ _ h => h) (Or.inl ⟨by rfl, ?_⟩) ?_ ?_
        rotate_left
        · intro w'
          go_simp
          with_reducible rfl
        rotate_left
        · simp only [Act.put, List.setIfInBounds_toArray, List.set_cons_zero, List.set_cons_succ, i64_w, i32_w]
          rfl
        refine pure_ (i := 4) (N := some 37) (v := ?_) (a' := ?_) #[true, true, false, false, true, false, false, false, false, false, false, false, false, false, false] rfl rfl (any_of HT_.out (by kernel_rfl)) (fun _ _ _ h => h) (Or.inl ⟨by rfl, ?_⟩) ?_ ?_
        rotate_left
        · intro w'
          go_simp
          with_reducible rfl
        rotate_left
        · simp only [Act.put, List.setIfInBounds_toArray, List.set_cons_zero, List.set_cons_succ, i64_w, i32_w]
          rfl
        refine pure_ (i := 7) (N := some 40) (v := ?_) (a' := ?_) #[true, true, false, false, true, false, false, true, false, false, false, false, false, false, false] rfl rfl (any_of HT_.out (by kernel_rfl)) (fun _ _ _ h => h) (Or.inl ⟨by rfl, ?_⟩) ?_ ?_
        rotate_left
        · intro w'
          go_simp
          with_reducible rfl
        rotate_left
        · simp only [Act.put, List.setIfInBounds_toArray, List.set_cons_zero, List.set_cons_succ, i64_w, i32_w]
          rfl
        refine pure_ (i := 8) (N := some 41) (v := ?_) (a' := ?_) #[true, true, false, false, true, false, false, true, true, false, false, false, false, false, false] rfl rfl (any_of HT_.out (by kernel_rfl)) (fun _ _ _ h => h) (Or.inl ⟨by rfl, ?_⟩) ?_ ?_
        rotate_left
        · intro w'
          go_simp
          with_reducible rfl
        rotate_left
        · simp only [Act.put, List.setIfInBounds_toArray, List.set_cons_zero, List.set_cons_succ, i64_w, i32_w]
          rfl
        refine pure_ (i := 9) (N := some 42) (v := ?_) (a' := ?_) #[true, true, false, false, true, false, false, true, true, true, false, false, false, false, false] rfl rfl (any_of HT_.out (by kernel_rfl)) (fun _ _ _ h => h) (Or.inl ⟨by rfl, ?_⟩) ?_ ?_
        rotate_left
        · intro w'
          go_simp
          with_reducible rfl
        rotate_left
        · simp only [Act.put, List.setIfInBounds_toArray, List.set_cons_zero, List.set_cons_succ, i64_w, i32_w]
          rfl
        refine pure_ (i := 10) (N := some 43) (v := ?_) (a' := ?_) #[true, true, false, false, true, false, false, true, true, true, true, false, false, false, false] rfl rfl (any_of HT_.out (by kernel_rfl)) (fun _ _ _ h => h) (Or.inl ⟨by rfl, ?_⟩) ?_ ?_
        rotate_left
        · intro w'
          go_simp
          with_reducible rfl
        rotate_left
        · simp only [Act.put, List.setIfInBounds_toArray, List.set_cons_zero, List.set_cons_succ, i64_w, i32_w]
          rfl
        refine pure_ (i := 11) (N := some 44) (v := ?_) (a' := ?_) #[true, true, false, false, true, false, false, true, true, true, true, true, false, false, false] rfl rfl (any_of HT_.out (by kernel_rfl)) (fun _ _ _ h => h) (Or.inl ⟨by rfl, ?_⟩) ?_ ?_
        rotate_left
        · intro w'
          go_simp
          with_reducible rfl
        rotate_left
        · simp only [Act.put, List.setIfInBounds_toArray, List.set_cons_zero, List.set_cons_succ, i64_w, i32_w]
          rfl
        refine take_ (i := 2) (N := some 35) (v := ?_) (a' := ?_) #[true, true, true, false, true, false, false, true, true, true, true, true, false, false, false] rfl rfl (take_ofW HT_.out HW_.out (by kernel_rfl)) (fun _ _ _ h => h) (Or.inl ⟨by rfl, ?_⟩) hHeld ?_ ?_
        rotate_left
        · rintro w' s0
          go_simp
          with_reducible rfl
        rotate_left
        · simp only [Act.put, List.setIfInBounds_toArray, List.set_cons_zero, List.set_cons_succ, i64_w, i32_w]
          rfl
        refine pure_ (i := 3) (N := some 36) (v := ?_) (a' := ?_) #[true, true, true, true, true, false, false, true, true, true, true, true, false, false, false] rfl rfl (any_of HT_.out (by kernel_rfl)) (fun _ _ _ h => h) (Or.inl ⟨by rfl, ?_⟩) ?_ ?_
        rotate_left
        · intro w'
          go_simp
          with_reducible rfl
        rotate_left
        · simp only [Act.put, List.setIfInBounds_toArray, List.set_cons_zero, List.set_cons_succ, i64_w, i32_w]
          rfl
        refine one_ (i := 5) (N := some 38) #[true, true, true, true, true, true, false, true, true, true, true, true, false, false, false] rfl rfl (one_of HT_.out (by kernel_rfl)) (by decide) (fun K hK => ?_)
        refine goes_ Tryd.func54 (by kernel_rfl) rfl #[.slice A7 n1 n1] (by rfl) rfl rfl (by simp only [List.map_toArray, List.map_cons, List.map_nil]; rfl) ?_
        with_reducible refine (P3 A7 w3 HC9.out).mono ?_
        rintro e w4 ⟨v0, rfl, HO, hb4⟩
        refine ⟨_, rfl, ?_⟩
        have HBK4 := Aside0.mk (blk_below HBK3.out hb4.out)
        have HB4 := Aside0.mk (below_then HB3.out (HB3.out.size) hb4.out)
        have HX4 := Aside0.mk ((hb4.out.cell (World.block_lt_of_cell? _ _ hHeld)).trans hHeld)
        have HO4 := Aside0.mk (Kd.R_lower HO.out HB3.out.size)
        obtain ⟨Ao, co, eo⟩ := Kd.R_slice HO4.out
        subst eo
        refine hK.out _ _ HX4.out (fun hHeld => ?_)
        clear hK K HO hb4
        refine norm_ (a' := ?_) ?_ ?_
        rotate_left
        · show Act.put _ (some 38) _ = _
          simp only [Act.put, List.setIfInBounds_toArray, List.set_cons_zero, List.set_cons_succ, i64_w, i32_w]
          rfl
        refine pure_ (i := 6) (N := some 39) (v := ?_) (a' := ?_) #[true, true, true, true, true, true, true, true, true, true, true, true, false, false, false] rfl rfl (any_of HT_.out (by kernel_rfl)) (fun _ _ _ h => h) (Or.inl ⟨by rfl, ?_⟩) ?_ ?_
        rotate_left
        · intro w'
          go_simp
          with_reducible rfl
        rotate_left
        · simp only [Act.put, List.setIfInBounds_toArray, List.set_cons_zero, List.set_cons_succ, i64_w, i32_w]
          rfl
        refine one_ (i := 12) (N := none) #[true, true, true, true, true, true, true, true, true, true, true, true, true, false, false] rfl rfl (one_of HT_.out (by kernel_rfl)) (by decide) (fun K hK => ?_)
        have hs0 : w4.cell? ⟨w.heap.size, 0, none⟩ = some (.int .i64 0) := (blk_cell HBK4.out 0).trans rfl
        have hf0 := blk_frozen HBK4.out 0
        have hs1 : w4.cell? ⟨w.heap.size, 1, none⟩ = some (.slice none 0 0) := (blk_cell HBK4.out 1).trans rfl
        have hf1 := blk_frozen HBK4.out 1
        refine skip_ (w1 := ?_) (by rfl) rfl ?_ ?_
        rotate_left
        · go_simp
          rfl
        refine hK.out _ _ ((cell_far (p := ⟨w.heap.size, _, none⟩) (Nat.ne_of_lt HLT.out) _).trans ((cell_far (p := ⟨w.heap.size, _, none⟩) (Nat.ne_of_lt HLT.out) _).trans HX4.out)) (fun hHeld => ?_)
        clear hK K
        refine pure_ (i := 13) (N := some 3) (v := ?_) (a' := ?_) #[true, true, true, true, true, true, true, true, true, true, true, true, true, true, false] rfl rfl (any_of HT_.out (by kernel_rfl)) (fun _ _ _ h => h) (Or.inl ⟨by rfl, ?_⟩) ?_ ?_
        rotate_left
        · intro w'
          go_simp
          with_reducible rfl
        rotate_left
        · simp only [Act.put, List.setIfInBounds_toArray, List.set_cons_zero, List.set_cons_succ, i64_w, i32_w]
          rfl
        refine pure_ (i := 14) (N := some 4) (v := ?_) (a' := ?_) #[true, true, true, true, true, true, true, true, true, true, true, true, true, true, true] rfl rfl (any_of HT_.out (by kernel_rfl)) (fun _ _ _ h => h) (Or.inl ⟨by rfl, ?_⟩) ?_ ?_
        rotate_left
        · intro w'
          go_simp
          with_reducible rfl
        rotate_left
        · simp only [Act.put, List.setIfInBounds_toArray, List.set_cons_zero, List.set_cons_succ, i64_w, i32_w]
          rfl
        refine done_ (done_of HT_.out (by kernel_rfl)) ?_
        go_wp2
        refine bodyPost_ret (results_ctt rfl _ _ w.heap.size 50 #[.int .i64 (n0 : Int), .slice Ao body.length co] (0, 0) _ rfl (by (with_reducible repeat (first | refine blk_drewN ?_ _ | refine blk_drew ?_ | refine blk_alloc ?_ _)); refine blk_put (cs := #[.int .i64 (n0 : Int), .slice none 0 0]) ?_ 1 _ rfl; (with_reducible repeat (first | refine blk_drewN ?_ _ | refine blk_drew ?_ | refine blk_alloc ?_ _)); refine blk_put (cs := #[.int .i64 0, .slice none 0 0]) ?_ 0 _ rfl; (with_reducible repeat (first | refine blk_drewN ?_ _ | refine blk_drew ?_ | refine blk_alloc ?_ _)); exact HBK4.out) Tryd.underlying50 rfl (by kernel_rfl)) rfl ?_
        exact ⟨_, rfl, Kd.R_mono (Kd.R_far (p := ⟨w.heap.size, 1, none⟩) (Kd.R_far (p := ⟨w.heap.size, 0, none⟩) (Kd.R_types HO4.out HBK4.out (by decide)) (fun _ hk => hk.2) (.int .i64 (n0 : Int))) (fun _ hk => hk.2) (.slice Ao body.length co)) (fun _ hk => trivial), by repeat (first | (with_reducible first | apply below_alloc | apply pw_below_drewN | apply below_drew1 | refine below_set ?_ (Nat.le_refl _)) | exact HB4.out)⟩
      · rw [if_neg c3] at h
        simp only [Option.some.injEq, Prod.mk.injEq] at h
        obtain ⟨rfl, rfl, rfl, rfl⟩ := h
        have c3b : (e2 != 0) = true := bne_iff_ne.mpr c3
        have HN2 := Aside0.mk c3
        have H01 : (0 < l0.length) := by omega
        clear c3 h6
        go_enter Tryd.func37, Tryd.ntmps37
        have P2 : ∀ A7 W, Kd.C (Kd.int .u8) W A7 (l0.drop 6).length (l0.drop 6) → Calls Tryd.prog 53 #[.slice A7 (l0.length - 6) (c0 - 6), .int .i64 (n1 : Int)] W fun e w' => e = .returned (.tuple #[.slice none 0 0, .slice none 0 0, .int .i64 e2]) ∧ Aside0 (Below W.heap.size W w') := by
          intro A7 W hC
          rw [show l0.length - 6 = (l0.drop 6).length from HLD.out.symm]
          refine (part_any k A7 (c0 - 6) (l0.drop 6) n1 e2 W hC (by have := HC0.out; have := HLD.out; omega) HNN.out HE2.out).mono ?_
          rintro e w2 ⟨hb2, (⟨h0, -⟩ | ⟨-, rfl⟩)⟩
          · exact absurd h0 HN2.out
          · exact ⟨rfl, ⟨hb2⟩⟩
        go_wp2_with (first
          | (go_at_call 53; with_reducible refine (P1 _ (Kd.C_alloc HR0.out _)).mono ?_; rintro e w1 ⟨A7, rfl, HC7, hb⟩; have HB1 := Aside0.mk (below_then ((Below.refl w.heap.size w).alloc (Nat.le_refl _) _) (by simp) hb.out); have HBK : Aside0 (w1.heap[w.heap.size]? = some (.cells #[.int .i64 0, .slice none 0 0] 50 (0, 0))) := ⟨blk_below (heap_alloc_new _ _) hb.out⟩; have hx1' := (HB1.out.cell (World.block_lt_of_cell? w _ hx1)).trans hx1; have hx0' := (HB1.out.cell (World.block_lt_of_cell? w _ hx0)).trans hx0; clear hb)
          | (go_at_call 53; with_reducible refine (P2 A7 w1 HC7.out).mono ?_; rintro e w2 ⟨rfl, hb2⟩; have HBK2 := Aside0.mk (blk_below HBK.out hb2.out); have hs0 : w2.cell? ⟨w.heap.size, 0, none⟩ = some (.int .i64 0) := (blk_cell HBK2.out 0).trans rfl; have hs1 : w2.cell? ⟨w.heap.size, 1, none⟩ = some (.slice none 0 0) := (blk_cell HBK2.out 1).trans rfl; have hf0 := blk_frozen HBK2.out 0; have hf1 := blk_frozen HBK2.out 1; have HB2 := Aside0.mk (below_then HB1.out (HB1.out.size) hb2.out); clear hb2))
        refine bodyPost_ret (results_ctt rfl _ _ w.heap.size 50 #[.int .i64 0, .slice none 0 0] (0, 0) _ rfl (by (with_reducible repeat (first | refine blk_drewN ?_ _ | refine blk_drew ?_ | refine blk_alloc ?_ _)); refine blk_put (cs := #[.int .i64 0, .slice none 0 0]) ?_ 1 _ rfl; (with_reducible repeat (first | refine blk_drewN ?_ _ | refine blk_drew ?_ | refine blk_alloc ?_ _)); refine blk_put (cs := #[.int .i64 0, .slice none 0 0]) ?_ 0 _ rfl; (with_reducible repeat (first | refine blk_drewN ?_ _ | refine blk_drew ?_ | refine blk_alloc ?_ _)); exact HBK2.out) Tryd.underlying50 rfl (by kernel_rfl)) rfl ?_
        exact ⟨_, rfl, Kd.R_nil _ _ _ _ _, by repeat (first | (with_reducible first | apply below_alloc | apply pw_below_drewN | apply below_drew1 | refine below_set ?_ (Nat.le_refl _)) | exact HB2.out)⟩
    · rw [if_neg c2] at h
      exact absurd h (by simp)
  · rw [if_neg c1] at h
    simp only [Option.some.injEq, Prod.mk.injEq] at h
    obtain ⟨rfl, rfl, rfl, rfl⟩ := h
    have c1b : (e1 != 0) = true := bne_iff_ne.mpr c1
    clear he1
    have HN1 := Aside0.mk c1
    clear c1
    go_enter Tryd.func37, Tryd.ntmps37
    go_wp2_with (go_at_call 53; refine (part_any k A0 c0 l0 2 e1 _ (Kd.C_alloc HR0.out _) HC0.out (by omega) HE1.out).mono ?_; rintro e w1 ⟨hb, (⟨h0, -⟩ | ⟨-, rfl⟩)⟩; (exact absurd h0 HN1.out); have BK : w1.heap[w.heap.size]? = some (.cells #[.int .i64 0, .slice none 0 0] 50 (0, 0)) := blk_below (heap_alloc_new _ _) hb; have hs0 : w1.cell? ⟨w.heap.size, 0, none⟩ = some (.int .i64 0) := (blk_cell BK 0).trans rfl; have hs1 : w1.cell? ⟨w.heap.size, 1, none⟩ = some (.slice none 0 0) := (blk_cell BK 1).trans rfl; have hf0 := blk_frozen BK 0; have hf1 := blk_frozen BK 1; have HBK := Aside0.mk BK; clear BK)
    refine bodyPost_ret (results_ctt rfl _ _ w.heap.size 50 #[.int .i64 0, .slice none 0 0] (0, 0) _ rfl (by (with_reducible repeat (first | refine blk_drewN ?_ _ | refine blk_drew ?_ | refine blk_alloc ?_ _)); refine blk_put (cs := #[.int .i64 0, .slice none 0 0]) ?_ 1 _ rfl; (with_reducible repeat (first | refine blk_drewN ?_ _ | refine blk_drew ?_ | refine blk_alloc ?_ _)); refine blk_put (cs := #[.int .i64 0, .slice none 0 0]) ?_ 0 _ rfl; (with_reducible repeat (first | refine blk_drewN ?_ _ | refine blk_drew ?_ | refine blk_alloc ?_ _)); exact HBK.out) Tryd.underlying50 rfl (by kernel_rfl)) rfl ?_
    exact ⟨_, rfl, Kd.R_nil _ _ _ _ _, by repeat (first | (with_reducible first | apply below_alloc | apply pw_below_drewN | apply below_drew1 | refine below_set ?_ (Nat.le_refl _)) | exact below_then ((Below.refl _ _).alloc (Nat.le_refl _) _) (by simp) hb)⟩

end Go.Proofs.YtknkncdlcoglpaaDoor.PFr
