/- What package reflectlite's entries of the model tell of a *config.Fault and of a pointer to one: closed facts, and the reads and the one write, as errors.As meets them. -/
import Derived.Test.YtpaafeaolodkjaaDoorChecked
import Derived.KernelRfl
import Derived.WalkKit
import Derived.Stop.Asserts
import Derived.LaidEql
import GoSem.Extern.ReflectliteValue
namespace Go.Proofs.YtpaafeaolodkjaaDoor.Hand.Rl
open Go Go.Extern Go.Extern.Rtype
set_option maxRecDepth 100000
set_option linter.unusedVariables false
/-- the type descriptor of a type -/
abbrev hd (t : Nat) : Value := .agg #[.pointer (some ⟨1, t, none⟩)]
abbrev rt (t : Nat) : Value := .iface 116 (hd t)
theorem unpackP (a : Addr) (w : World) : (ReflectliteValue.unpack (.iface 62 (.pointer (some a)))).run Tryd.prog w = .ok (.agg #[.pointer (some ⟨1, 62, none⟩), .pointer (some ⟨w.heap.size, 0, none⟩), .int .u64 150]) (w.alloc (.cells #[.pointer (some a)] 62)) := by kernel_rfl
theorem unpackF (a : Addr) (w : World) : (ReflectliteValue.unpack (.iface 60 (.pointer (some a)))).run Tryd.prog w = .ok (.agg #[.pointer (some ⟨1, 60, none⟩), .pointer (some ⟨w.heap.size, 0, none⟩), .int .u64 150]) (w.alloc (.cells #[.pointer (some a)] 60)) := by kernel_rfl
theorem typeP (w : World) (a : Addr) : ((ReflectliteValue.methodAny (ReflectliteValue.valueError "reflectlite.Value.Type" 0) fun t _ _ _ => ReflectliteType.toType t) #[.agg #[.pointer (some ⟨1, 62, none⟩), .pointer (some a), .int .u64 150]]).run Tryd.prog w = .ok (rt 62) w := by kernel_rfl
theorem typeOfF (v : Value) (w : World) : (ReflectliteType.typeOf #[.iface 60 v]).run Tryd.prog w = .ok (rt 60) w := by kernel_rfl
theorem typeOfE (v : Value) (w : World) : (ReflectliteType.typeOf #[.iface 25 v]).run Tryd.prog w = .ok (rt 25) w := by kernel_rfl
theorem mKindP (w : World) : (Go.method 264 116 (hd 62) "Kind").run Tryd.prog w = .ok (97, .pointer (some ⟨1, 62, none⟩)) w := by kernel_rfl
theorem mKindF (w : World) : (Go.method 264 116 (hd 60) "Kind").run Tryd.prog w = .ok (97, .pointer (some ⟨1, 60, none⟩)) w := by kernel_rfl
theorem kindP (w : World) : (ReflectliteType.abiMethod (fun t => (fun (a : Nat) => Value.int IntKind.u8 (a : Int)) <$> kind t) #[.pointer (some ⟨1, 62, none⟩)]).run Tryd.prog w = .ok (.int .u8 22) w := by kernel_rfl
theorem kindF (w : World) : (ReflectliteType.abiMethod (fun t => (fun (a : Nat) => Value.int IntKind.u8 (a : Int)) <$> kind t) #[.pointer (some ⟨1, 60, none⟩)]).run Tryd.prog w = .ok (.int .u8 22) w := by kernel_rfl
theorem mElemP (w : World) : (Go.method 264 116 (hd 62) "Elem").run Tryd.prog w = .ok (109, hd 62) w := by kernel_rfl
theorem mImpl (w : World) : (Go.method 264 116 (hd 60) "Implements").run Tryd.prog w = .ok (110, hd 60) w := by kernel_rfl
theorem mAssign (w : World) : (Go.method 264 116 (hd 60) "AssignableTo").run Tryd.prog w = .ok (107, hd 60) w := by kernel_rfl
theorem mComp (w : World) : (Go.method 264 116 (hd 25) "Comparable").run Tryd.prog w = .ok (108, hd 25) w := by kernel_rfl
theorem impl (w : World) : ((ReflectliteType.relation "Implements" ReflectliteType.implements_) #[hd 60, rt 58]).run Tryd.prog w = .ok (.bool true) w := by kernel_rfl
theorem assign (w : World) : ((ReflectliteType.relation "AssignableTo" ReflectliteType.assignableTo) #[hd 60, rt 60]).run Tryd.prog w = .ok (.bool true) w := by kernel_rfl
theorem elemP (w : World) : ((ReflectliteType.method ReflectliteType.elem) #[hd 62]).run Tryd.prog w = .ok (rt 60) w := by kernel_rfl
theorem comp (w : World) : ((ReflectliteType.method fun t => do noPackHeld "Comparable" t; pure (.bool (← typeInfo t).comparable)) #[hd 25]).run Tryd.prog w = .ok (.bool true) w := by kernel_rfl
theorem oh (w : World)  : (ofHandle (.pointer (some ⟨1, 62, none⟩))).run Tryd.prog w = .ok 62 w := by kernel_rfl
theorem oh' (w : World)  : (ofHandle (.pointer (some ⟨1, 60, none⟩))).run Tryd.prog w = .ok 60 w := by kernel_rfl
theorem np (w : World) (s : String) : (noPack s 62).run Tryd.prog w = .ok () w := by kernel_rfl
theorem np' (w : World) (s : String) : (noPack s 60).run Tryd.prog w = .ok () w := by kernel_rfl
theorem da (w : World) : (directlyAssignable 60 60).run Tryd.prog w = .ok true w := by kernel_rfl
theorem el (w : World) : (elem? 62).run Tryd.prog w = .ok (some 60) w := by kernel_rfl
theorem mk1 (w : World) (b : Addr) : (ReflectliteValue.mk 60 b 256).run Tryd.prog w = .ok (.agg #[.pointer (some ⟨1, 60, none⟩), .pointer (some b), .int .u64 406]) w := by kernel_rfl
theorem parts1 (w : World) (a : Addr) : (ReflectliteValue.parts (.agg #[.pointer (some ⟨1, 62, none⟩), .pointer (some a), .int .u64 150])).run Tryd.prog w = .ok (some (62, a, 150)) w := by
  have h : (ReflectliteValue.partsAny (.agg #[.pointer (some ⟨1, 62, none⟩), .pointer (some a), .int .u64 150])).run Tryd.prog w = .ok (some (62, a, 150)) w := by
    show ((ofHandle (.pointer (some ⟨1, 62, none⟩))) >>= fun t => pure (some (t, a, 150))).run Tryd.prog w = _
    simp [oh]
  unfold ReflectliteValue.parts
  simp [h, np]
theorem parts2 (w : World) (a : Addr) : (ReflectliteValue.parts (.agg #[.pointer (some ⟨1, 60, none⟩), .pointer (some a), .int .u64 406])).run Tryd.prog w = .ok (some (60, a, 406)) w := by
  have h : (ReflectliteValue.partsAny (.agg #[.pointer (some ⟨1, 60, none⟩), .pointer (some a), .int .u64 406])).run Tryd.prog w = .ok (some (60, a, 406)) w := by
    show ((ofHandle (.pointer (some ⟨1, 60, none⟩))) >>= fun t => pure (some (t, a, 406))).run Tryd.prog w = _
    simp [oh']
  unfold ReflectliteValue.parts
  simp [h, np']
theorem parts3 (w : World) (a : Addr) : (ReflectliteValue.parts (.agg #[.pointer (some ⟨1, 60, none⟩), .pointer (some a), .int .u64 150])).run Tryd.prog w = .ok (some (60, a, 150)) w := by
  have h : (ReflectliteValue.partsAny (.agg #[.pointer (some ⟨1, 60, none⟩), .pointer (some a), .int .u64 150])).run Tryd.prog w = .ok (some (60, a, 150)) w := by
    show ((ofHandle (.pointer (some ⟨1, 60, none⟩))) >>= fun t => pure (some (t, a, 150))).run Tryd.prog w = _
    simp [oh']
  unfold ReflectliteValue.parts
  simp [h, np']
theorem meth (P : Program) (w : World) (zero : Sem Value) (f : TypeId → Addr → Nat → Nat → Sem Value) (v : Value) (t : TypeId) (a : Addr) (fl : Nat) (h : (ReflectliteValue.parts v).run P w = .ok (some (t, a, fl)) w) : (ReflectliteValue.method zero f #[v]).run P w = (f t a fl (fl % 32)).run P w := by
  show (ReflectliteValue.parts v >>= fun x => match x with | none => zero | some (t, a, fl) => f t a fl (fl % 32)).run P w = _
  simp [h]
theorem loadP (w : World) (p : Addr) (x : Option Addr) (hs : p.spot = none) (hc : w.cell? p = some (.pointer x)) : (loadVar 62 p).run Tryd.prog w = .ok (.pointer x) w := by
  have h : (isAgg 62).run Tryd.prog w = .ok false w := by kernel_rfl
  simp [loadVar, Sem.run_bind, h, hc]
theorem loadF (w : World) (p : Addr) (x : Option Addr) (hs : p.spot = none) (hc : w.cell? p = some (.pointer x)) : (loadVar 60 p).run Tryd.prog w = .ok (.pointer x) w := by
  have h : (isAgg 60).run Tryd.prog w = .ok false w := by kernel_rfl
  simp [loadVar, Sem.run_bind, h, hc]
theorem nil1 (w : World) (a b : Addr) (hl : (loadVar 62 a).run Tryd.prog w = .ok (.pointer (some b)) w) : ((ReflectliteValue.method (ReflectliteValue.valueError "reflectlite.Value.IsNil" 0) ReflectliteValue.isNil) #[.agg #[.pointer (some ⟨1, 62, none⟩), .pointer (some a), .int .u64 150]]).run Tryd.prog w = .ok (.bool false) w := by
  rw [meth _ _ _ _ _ _ _ _ (parts1 w a)]
  simp [ReflectliteValue.isNil, hl]
theorem elem1 (w : World) (a b : Addr) (hl : (loadVar 62 a).run Tryd.prog w = .ok (.pointer (some b)) w) : ((ReflectliteValue.method (ReflectliteValue.valueError "reflectlite.Value.Elem" 0) ReflectliteValue.elem) #[.agg #[.pointer (some ⟨1, 62, none⟩), .pointer (some a), .int .u64 150]]).run Tryd.prog w = .ok (.agg #[.pointer (some ⟨1, 60, none⟩), .pointer (some b), .int .u64 406]) w := by
  rw [meth _ _ _ _ _ _ _ _ (parts1 w a)]
  simp [ReflectliteValue.elem, hl, el, mk1, ReflectliteValue.flagAddr]
theorem set1 (w w1 : World) (a b : Addr) (v : Value) (hl : (loadVar 60 a).run Tryd.prog w = .ok v w) (hs : (storeVar 60 b v).run Tryd.prog w = .ok () w1) : (ReflectliteValue.set #[.agg #[.pointer (some ⟨1, 60, none⟩), .pointer (some b), .int .u64 406], .agg #[.pointer (some ⟨1, 60, none⟩), .pointer (some a), .int .u64 150]]).run Tryd.prog w = .ok (.tuple #[]) w1 := by
  have e : ∀ v x, ReflectliteValue.set #[v, x] = (do
    let (some (dst, a, fl), some (src, b, _)) := (← ReflectliteValue.parts v, ← ReflectliteValue.parts x)
      | unsupported (.noEntry "extern/(internal/reflectlite.Value).Set.zeroValue")
    if fl / ReflectliteValue.flagAddr % 2 == 0 then unsupported (.noEntry "extern/(internal/reflectlite.Value).Set.unaddressable")
    let val ← loadVar src b
    if ← directlyAssignable dst src then storeVar dst a val
    else if ← implements dst src then
      if (← kind src) == 20 then
        match val with
        | .nilIface => unsupported (.noEntry "extern/reflectlite: a nil value of one interface type handed on as a value of another")
        | _ => storeVar dst a val
      else storeVar dst a (.iface src val)
    else panicString ("reflectlite.Set: value of type " ++ (← spelt src) ++ " is not assignable to type " ++ (← spelt dst))
    pure (.tuple #[])) := fun _ _ => rfl
  rw [e]
  simp [parts2, parts3, hl, hs, da, ReflectliteValue.flagAddr]
end Go.Proofs.YtpaafeaolodkjaaDoor.Hand.Rl
