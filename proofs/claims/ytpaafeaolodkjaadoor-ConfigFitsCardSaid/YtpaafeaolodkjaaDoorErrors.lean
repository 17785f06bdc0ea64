/- The contracts of errors.As and errors.Is, of an error that is nil or a *config.Fault, of a target that is a pointer to a *config.Fault, or an Errno. -/
import Derived.Test.YtpaafeaolodkjaaDoorReflect
import Derived.RowKitTokens
import Derived.OwnWalk
import Derived.OpenShut
import Derived.LoopN
import Derived.Lib.Hide
import Derived.Great.BuildSlice
import Derived.Laws.NewBlocks
import Derived.Laws.CopyOwn
namespace Go.Proofs.YtpaafeaolodkjaaDoor.Hand
open Go.RowKit Go.Extern Go.Extern.Rtype Rl
set_option linter.unusedVariables false

set_option maxRecDepth 100000 in
/-- errors.As(nil, p) -/
theorem as_nil (v : Value) (w : World) : Calls Tryd.prog 30 #[.nilIface, v] w fun e w' => e = .returned (.bool false) ∧ w' = w := by
  go_enter Tryd.func30, Tryd.ntmps30
  go_wp2
  go_ret
  exact ⟨rfl, rfl⟩


set_option maxHeartbeats 2000000 in
set_option maxRecDepth 100000 in
theorem as_loop (g b p : Nat) (w : World) (hp : w.cell? ⟨p, 0, none⟩ = some (.pointer (some ⟨b, 0, none⟩))) (hb : w.heap[b]? = some (.cells #[.pointer none] 60 (0, 0))) :
    Calls Tryd.prog 55 #[.iface 60 (.pointer (some ⟨g, 0, none⟩)), .iface 62 (.pointer (some ⟨b, 0, none⟩)), .agg #[.pointer (some ⟨1, 62, none⟩), .pointer (some ⟨p, 0, none⟩), .int .u64 150], rt 60] w
      fun e w' => e = .returned (.bool true) ∧ w'.heap[b]? = some (.cells #[.pointer (some ⟨g, 0, none⟩)] 60 (0, 0)) ∧ Below b w w' := by
  have h52 := @run_callFunc_extern Tryd.prog 52 _ (fun args => ReflectliteValue.unpack (args.getD 0 (.tuple #[]))) Tryd.func52 (by kernel_rfl) (by kernel_rfl) (by kernel_rfl) (by kernel_rfl)
  have h56 := @run_callFunc_extern Tryd.prog 56 _ ReflectliteType.typeOf Tryd.func56 (by kernel_rfl) (by kernel_rfl) (by kernel_rfl) (by kernel_rfl)
  have h72 := @run_callFunc_extern Tryd.prog 72 _ (ReflectliteValue.method (ReflectliteValue.valueError "reflectlite.Value.Elem" 0) ReflectliteValue.elem) Tryd.func72 (by kernel_rfl) (by kernel_rfl) (by kernel_rfl) (by kernel_rfl)
  have h73 := @run_callFunc_extern Tryd.prog 73 _ ReflectliteValue.set Tryd.func73 (by kernel_rfl) (by kernel_rfl) (by kernel_rfl) (by kernel_rfl)
  have h107 := @run_callFunc_extern Tryd.prog 107 _ (ReflectliteType.relation "AssignableTo" ReflectliteType.assignableTo) Tryd.func107 (by kernel_rfl) (by kernel_rfl) (by kernel_rfl) (by kernel_rfl)
  have u2 := unpackF
  have t1 := typeOfF
  have a1 := mAssign
  have a2 := assign
  have hb0 : b < w.heap.size := (Array.getElem?_eq_some_iff.1 hb).1
  have hp0 : p < w.heap.size := by
    rcases Nat.lt_or_ge p w.heap.size with h | h
    · exact h
    · simp [World.cell?, Array.getElem?_eq_none h] at hp
  have E := elem1 (w.alloc (.cells #[.pointer (some ⟨1, 62, none⟩), .pointer (some ⟨p, 0, none⟩), .int .u64 150] 92)) ⟨p, 0, none⟩ ⟨b, 0, none⟩ (loadP _ _ _ rfl ((World.cell?_alloc_lt w _ _ hp0).trans hp))
  have hb2 : ((w.alloc (.cells #[.pointer (some ⟨1, 62, none⟩), .pointer (some ⟨p, 0, none⟩), .int .u64 150] 92)).alloc (.cells #[.pointer (some ⟨g, 0, none⟩)] 60)).heap[b]? = some (.cells #[.pointer none] 60 (0, 0)) := by
    exact ((((Below.refl _ w).alloc (Nat.le_refl _) _).alloc (by simp) _).block b hb0).trans hb
  have S := set1 ((w.alloc (.cells #[.pointer (some ⟨1, 62, none⟩), .pointer (some ⟨p, 0, none⟩), .int .u64 150] 92)).alloc (.cells #[.pointer (some ⟨g, 0, none⟩)] 60)) _ ⟨w.heap.size + 1, 0, none⟩ ⟨b, 0, none⟩ (.pointer (some ⟨g, 0, none⟩))
    (loadF _ _ _ rfl (by simp))
    (run_storeVar_one _ b 60 60 (.pointer none) _ hb2 (by kernel_rfl) rfl)
  have HB := Lib.hid hb2
  have HL := Lib.hid hb0
  clear hb2 hb0 hp0 hp hb
  go_enter Tryd.func55, Tryd.ntmps55
  go_wp2
  refine wp_loop_rounds 1 ?_
  rw [rounds_succ]
  go_wp2
  go_ret
  refine ⟨rfl, setRow_heap _ b _ _ _ _ HB.out, ?_⟩
  exact below_setRow (((Below.refl _ w).alloc (by have := HL.out; omega) _).alloc (by have := HL.out; simp; omega) _) (Nat.le_refl _) _

set_option maxHeartbeats 2000000 in
set_option maxRecDepth 100000 in
theorem as_fault (g b : Nat) (w : World) (hE : w.cell? ⟨0, 0, none⟩ = some (rt 58)) (hb : w.heap[b]? = some (.cells #[.pointer none] 60 (0, 0))) :
    Calls Tryd.prog 30 #[.iface 60 (.pointer (some ⟨g, 0, none⟩)), .iface 62 (.pointer (some ⟨b, 0, none⟩))] w
      fun e w' => e = .returned (.bool true) ∧ w'.heap[b]? = some (.cells #[.pointer (some ⟨g, 0, none⟩)] 60 (0, 0)) ∧ Below b w w' := by
  have h52 := @run_callFunc_extern Tryd.prog 52 _ (fun args => ReflectliteValue.unpack (args.getD 0 (.tuple #[]))) Tryd.func52 (by kernel_rfl) (by kernel_rfl) (by kernel_rfl) (by kernel_rfl)
  have h53 := @run_callFunc_extern Tryd.prog 53 _ (ReflectliteValue.methodAny (ReflectliteValue.valueError "reflectlite.Value.Type" 0) fun t _ _ _ => ReflectliteType.toType t) Tryd.func53 (by kernel_rfl) (by kernel_rfl) (by kernel_rfl) (by kernel_rfl)
  have h54 := @run_callFunc_extern Tryd.prog 54 _ (ReflectliteValue.method (ReflectliteValue.valueError "reflectlite.Value.IsNil" 0) ReflectliteValue.isNil) Tryd.func54 (by kernel_rfl) (by kernel_rfl) (by kernel_rfl) (by kernel_rfl)
  have h97 := @run_callFunc_extern Tryd.prog 97 _ (ReflectliteType.abiMethod (fun t => do pure (.int .u8 (← kind t)))) Tryd.func97 (by kernel_rfl) (by kernel_rfl) (by kernel_rfl) (by kernel_rfl)
  have h109 := @run_callFunc_extern Tryd.prog 109 _ (ReflectliteType.method ReflectliteType.elem) Tryd.func109 (by kernel_rfl) (by kernel_rfl) (by kernel_rfl) (by kernel_rfl)
  have h110 := @run_callFunc_extern Tryd.prog 110 _ (ReflectliteType.relation "Implements" ReflectliteType.implements_) Tryd.func110 (by kernel_rfl) (by kernel_rfl) (by kernel_rfl) (by kernel_rfl)
  have u1 := unpackP
  have u2 := unpackF
  have t1 := typeP
  have k1 := mKindP
  have k2 := mKindF
  have q1 := kindP
  have q2 := kindF
  have e1 := mElemP
  have e2 := elemP
  have m1 := mImpl
  have m2 := impl
  have hb0 : b < w.heap.size := (Array.getElem?_eq_some_iff.1 hb).1
  have hE0 : 0 < w.heap.size := by omega
  have B2 := ((Below.refl _ w).alloc (Nat.le_refl _) (.cells #[.pointer (some ⟨b, 0, none⟩)] 62)).alloc (by simp) (.cells #[.pointer (some ⟨1, 62, none⟩), .pointer (some ⟨w.heap.size, 0, none⟩), .int .u64 150] 92)
  have hp2 : ((w.alloc (.cells #[.pointer (some ⟨b, 0, none⟩)] 62)).alloc (.cells #[.pointer (some ⟨1, 62, none⟩), .pointer (some ⟨w.heap.size, 0, none⟩), .int .u64 150] 92)).cell? ⟨w.heap.size, 0, none⟩ = some (.pointer (some ⟨b, 0, none⟩)) := by
    rw [World.cell?_alloc_lt _ _ _ (by simp)]
    exact World.cell?_alloc_new _ _ _ _
  have N := nil1 ((w.alloc (.cells #[.pointer (some ⟨b, 0, none⟩)] 62)).alloc (.cells #[.pointer (some ⟨1, 62, none⟩), .pointer (some ⟨w.heap.size, 0, none⟩), .int .u64 150] 92)) ⟨w.heap.size, 0, none⟩ ⟨b, 0, none⟩ (loadP _ _ _ rfl hp2)
  have hE2 := (B2.cell (p := ⟨0, 0, none⟩) hE0).trans hE
  have L := Lib.hid (as_loop g b w.heap.size _ hp2 ((B2.block b hb0).trans hb))
  have HB := Lib.hid B2
  have HL := Lib.hid hb0
  clear hb0 hE0 B2 hp2 hb hE
  go_enter Tryd.func30, Tryd.ntmps30
  go_wp2_with (go_at_call 55; with_reducible refine L.out.mono ?_)
  rintro e w' ⟨rfl, h1, h2⟩
  have H1 := Lib.hid h1
  have H2 := Lib.hid ((HB.out.mono (Nat.le_of_lt HL.out)).trans h2)
  clear h1 h2 L N
  go_wp2
  go_ret
  exact ⟨rfl, H1.out, H2.out⟩

theorem comp2 (w : World) : ((ReflectliteType.method fun t => do noPackHeld "Comparable" t; (fun (a : TypeInfo) => Value.bool a.comparable) <$> typeInfo t) #[hd 25]).run Tryd.prog w = .ok (.bool true) w := by kernel_rfl
theorem eqlE (c t : Int) (w : World) : (binOp .eql 58 (.iface 25 (.int .i64 c)) (.iface 25 (.int .i64 t))).run Tryd.prog w = .ok (.bool (c == t)) w := by kernel_rfl
theorem noIsF (v : Value) (xT : TypeId) (w : World) : (Instr.typeAssert (.iface 60 v) xT 128 true).run Tryd.prog w = .ok (.tuple #[.nilIface, .bool false]) w := run_typeAssert_lacksB Tryd.underlying128 (by kernel_rfl) (by kernel_rfl) v xT w
theorem hasUnwrapF (v : Value) (xT : TypeId) (w : World) : (Instr.typeAssert (.iface 60 v) xT 123 true).run Tryd.prog w = .ok (.tuple #[.iface 60 v, .bool true]) w := run_typeAssert_hasB Tryd.underlying123 (by kernel_rfl) v xT w
theorem noIsE (v : Value) (xT : TypeId) (w : World) : (Instr.typeAssert (.iface 25 v) xT 128 true).run Tryd.prog w = .ok (.tuple #[.nilIface, .bool false]) w := run_typeAssert_lacksB Tryd.underlying128 (by kernel_rfl) (by kernel_rfl) v xT w
theorem noUnwrapE (v : Value) (xT : TypeId) (w : World) : (Instr.typeAssert (.iface 25 v) xT 123 true).run Tryd.prog w = .ok (.tuple #[.nilIface, .bool false]) w := run_typeAssert_lacksB Tryd.underlying123 (by kernel_rfl) (by kernel_rfl) v xT w
theorem noUnwrapsE (v : Value) (xT : TypeId) (w : World) : (Instr.typeAssert (.iface 25 v) xT 125 true).run Tryd.prog w = .ok (.tuple #[.nilIface, .bool false]) w := run_typeAssert_lacksB Tryd.underlying125 (by kernel_rfl) (by kernel_rfl) v xT w
theorem mUnwrap (v : Value) (w : World) : (Go.method 264 60 v "Unwrap").run Tryd.prog w = .ok (102, v) w := by kernel_rfl

set_option maxHeartbeats 2000000 in
set_option maxRecDepth 100000 in
theorem is_fault (g : Nat) (s : ByteArray) (c t : Int) (w : World) (h0 : w.cell? ⟨g, 0, none⟩ = some (.string s)) (h1 : w.cell? ⟨g, 1, none⟩ = some (.iface 25 (.int .i64 c))) :
    Calls Tryd.prog 31 #[.iface 60 (.pointer (some ⟨g, 0, none⟩)), .iface 25 (.int .i64 t)] w fun e w' => e = .returned (.bool (c == t)) ∧ w' = w := by
  have h56 := @run_callFunc_extern Tryd.prog 56 _ ReflectliteType.typeOf Tryd.func56 (by kernel_rfl) (by kernel_rfl) (by kernel_rfl) (by kernel_rfl)
  have h108 := @run_callFunc_extern Tryd.prog 108 _ (ReflectliteType.method fun t => do noPackHeld "Comparable" t; pure (.bool (← typeInfo t).comparable)) Tryd.func108 (by kernel_rfl) (by kernel_rfl) (by kernel_rfl) (by kernel_rfl)
  have t1 := typeOfE
  have m1 := mComp
  have m2 := comp2
  have n1 := noIsF
  have n2 := hasUnwrapF
  have n3 := noIsE
  have n4 := noUnwrapE
  have n5 := noUnwrapsE
  have n6 := mUnwrap
  have q1 := run_eql_iface_types (P := Tryd.prog) 60 25 (.pointer (some ⟨g, 0, none⟩)) (.int .i64 t) Tryd.underlying58 (by decide) w
  go_enter Tryd.func31, Tryd.ntmps31
  have q2 := eqlE
  cases hc : (c == t)
  · go_wp2
    refine wp_loop_rounds 2 ?_
    rw [rounds_succ]
    go_wp2
    rw [rounds_succ]
    go_wp2
    go_ret
    exact ⟨rfl, rfl⟩
  · go_wp2
    refine wp_loop_rounds 2 ?_
    rw [rounds_succ]
    go_wp2
    rw [rounds_succ]
    go_wp2
    go_ret
    exact ⟨rfl, rfl⟩
end Go.Proofs.YtpaafeaolodkjaaDoor.Hand
