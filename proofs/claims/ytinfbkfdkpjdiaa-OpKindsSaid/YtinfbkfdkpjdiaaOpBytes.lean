/- The contract of op.Bytes: of a right operation its bytes, of another one none; nothing that lay in memory is changed. No condition but that its words are uint64s. -/
import Derived.Test.YtinfbkfdkpjdiaaOpRight
import Derived.Test.YtinfbkfdkpjdiaaStrings
import Derived.Test.YtinfbkfdkpjdiaaPcountedx1
namespace Go.Proofs.Ytinfbkfdkpjdiaa.Hand
open Go.RowKit Go.Proofs.YtinfbkfdkpjdiaaW.PrintWords Go.Proofs.YtinfbkfdkpjdiaaW.PrintLast Go.Proofs.YtinfbkfdkpjdiaaW.PrintMore
set_option linter.unusedVariables false

/-- a builder is one behind a call that changes nothing below -/
theorem builder_below {B b : Nat} {p : Value} {bs : List Value} {w w' : World} (h : Lib.BuilderAtF 49 5 B b p bs w) (hb : Below w.heap.size w w') : Lib.BuilderAtF 49 5 B b p bs w' := by
  have hlt := h.lt
  obtain ⟨hB, v, hbk, hown, hne⟩ := h
  refine ⟨hB, v, (hb.block b hlt).trans hbk, ?_, hne⟩
  obtain ⟨hl, hown⟩ := hown
  refine ⟨hl, ?_⟩
  rcases hown with h | ⟨g, cap, cur, fz, hv, hBg, hg, r⟩
  · exact .inl h
  · have hlt : g < w.heap.size := by
      rcases Nat.lt_or_ge g w.heap.size with h' | h'
      · exact h'
      · simp [Array.getElem?_eq_none h'] at hg
    exact .inr ⟨g, cap, cur, fz, hv, hBg, (hb.block g hlt).trans hg, r⟩

theorem u8_cell (c : UInt8) : Lib.byteCells [c] = [.int .u8 (c.toNat : Int)] := rfl

set_option maxHeartbeats 2000000 in
set_option maxRecDepth 100000 in
theorem bytes_len (key v f : Int) (w : World) (HR : ∀ w, Calls Try.prog 14 #[.agg #[.int .i64 5, .int .u64 key, .int .u64 v, .int .i64 f]] w fun e w' => e = .returned (.bool true) ∧ Below w.heap.size w w') :
    Calls Try.prog 10 #[.agg #[.int .i64 5, .int .u64 key, .int .u64 v, .int .i64 f]] w fun e w' => e = .returned (.string ⟨#[76]⟩) ∧ Below w.heap.size w w' := by
  have HR' := Lib.hid HR
  clear HR
  have b0 : Below w.heap.size w (w.alloc (.cells #[.int .i64 5, .int .u64 key, .int .u64 v, .int .i64 f] 27)) := (Below.refl _ w).alloc (Nat.le_refl _) _
  go_enter Try.func10, Try.ntmps10
  go_wp2_with (go_at_call 14; with_reducible refine (HR'.out _).mono ?_)
  rintro e w1 ⟨rfl, hb1⟩
  have b1 : Below w.heap.size w w1 := b0.trans (hb1.mono (by simp))
  have c0 : w1.cell? ⟨w.heap.size, 0, none⟩ = some (.int .i64 5) := (hb1.cell (by simp)).trans (by go_simp)
  have hlt : w.heap.size < w1.heap.size := by have := hb1.size; simp at this; omega
  clear hb1 b0
  have cW := fun c => writeByte w1.heap.size w1.heap.size [] c (w1.alloc (.cells #[.pointer none, .slice none 0 0] 49)) (Lib.IsBuilderF.of (Lib.fresh_isBuilder _ _ w1)) (by simp) (by simp)
  have cW' := Lib.hid cW
  clear cW
  go_wp2_with (go_at_call 19; with_reducible refine (cW'.out _).mono ?_)
  rintro e w2 ⟨rfl, h2, hb2⟩
  have c0' : w2.cell? ⟨w.heap.size, 0, none⟩ = some (.int .i64 5) := (hb2.cell (by simpa using hlt)).trans (by go_simp)
  have hS := Lib.hid (Try.Builder_String_any_f w1.heap.size w1.heap.size [76] w2 (.inr h2) (by have := hb2.size; simp at this; omega))
  go_wp2_with (go_at_call 23; with_reducible refine hS.out.mono ?_)
  rintro e w3 ⟨rfl, h3, hb3⟩
  go_wp2
  go_ret
  exact ⟨rfl, (((b1.alloc b1.size _).trans (hb2.mono (by omega))).trans (hb3.mono (by omega)))⟩

set_option maxHeartbeats 4000000 in
set_option maxRecDepth 100000 in
theorem bytes_key (o : Int) (c : UInt8) (ho : (o = 1 ∧ c = 71) ∨ (o = 2 ∧ c = 75) ∨ (o = 4 ∧ c = 68)) (key v f : Int) (ck : ByteArray) (hck : ck.size ≤ 8) (w : World) (HR : ∀ w, Calls Try.prog 14 #[.agg #[.int .i64 o, .int .u64 key, .int .u64 v, .int .i64 f]] w fun e w' => e = .returned (.bool true) ∧ Below w.heap.size w w')
    (HK : ∀ w, Calls Try.prog 22 #[.int .u64 key] w fun e w' => e = .returned (.string ck) ∧ Below w.heap.size w w') :
    Calls Try.prog 10 #[.agg #[.int .i64 o, .int .u64 key, .int .u64 v, .int .i64 f]] w fun e w' => e = .returned (.string ⟨(c :: ck.data.toList).toArray⟩) ∧ Below w.heap.size w w' := by
  have HR' := Lib.hid HR
  have HK' := Lib.hid HK
  clear HR HK
  have b0 : Below w.heap.size w (w.alloc (.cells #[.int .i64 o, .int .u64 key, .int .u64 v, .int .i64 f] 27)) := (Below.refl _ w).alloc (Nat.le_refl _) _
  obtain ⟨rfl, rfl⟩ | ⟨rfl, rfl⟩ | ⟨rfl, rfl⟩ := ho
  all_goals
    go_enter Try.func10, Try.ntmps10
    go_wp2_with (go_at_call 14; with_reducible refine (HR'.out _).mono ?_)
    rintro e w1 ⟨rfl, hb1⟩
    have b1 : Below w.heap.size w w1 := b0.trans (hb1.mono (by simp))
    have c0 : w1.cell? ⟨w.heap.size, 0, none⟩ = some (.int .i64 _) := (hb1.cell (by simp)).trans (World.cell?_alloc_new _ _ _ _)
    have c1 : w1.cell? ⟨w.heap.size, 1, none⟩ = some (.int .u64 key) := (hb1.cell (by simp)).trans (by go_simp)
    have hlt : w.heap.size < w1.heap.size := by have := hb1.size; simp at this; omega
    clear hb1 b0
    have cW' := Lib.hid (fun c => writeByte w1.heap.size w1.heap.size [] c (w1.alloc (.cells #[.pointer none, .slice none 0 0] 49)) (Lib.IsBuilderF.of (Lib.fresh_isBuilder _ _ w1)) (by simp) (by simp))
    go_wp2_with (go_at_call 19; with_reducible refine (cW'.out _).mono ?_)
    rintro e w2 ⟨rfl, h2, hb2⟩
    clear cW'
    have c0' : w2.cell? ⟨w.heap.size, 0, none⟩ = some (.int .i64 _) := (hb2.cell (by simpa using hlt)).trans ((World.cell?_alloc_lt w1 _ _ hlt).trans c0)
    have c1' : w2.cell? ⟨w.heap.size, 1, none⟩ = some (.int .u64 key) := (hb2.cell (by simpa using hlt)).trans ((World.cell?_alloc_lt w1 _ _ hlt).trans c1)
    have b2 : Below w.heap.size w w2 := (b1.alloc b1.size _).trans (hb2.mono (by omega))
    have s2 : w1.heap.size ≤ w2.heap.size := by have := hb2.size; simp at this; omega
    clear hb2 c0 c1
    go_wp2_with (go_at_call 22; with_reducible refine (HK'.out _).mono ?_)
    rintro e w3 ⟨rfl, hb3⟩
    have h3 := builder_below h2 hb3
    have b3 : Below w.heap.size w w3 := b2.trans (hb3.mono b2.size)
    have s3 : w1.heap.size ≤ w3.heap.size := Nat.le_trans s2 hb3.size
    clear h2 b2 hb3
    have cS := Lib.hid (writeString w1.heap.size w1.heap.size _ ck w3 (.inr h3) (by simp; omega) s3)
    go_wp2_with (go_at_call 21; with_reducible refine cS.out.mono ?_)
    rintro e w4 ⟨rfl, h4, hb4⟩
    clear cS h3
    have b4 : Below w.heap.size w w4 := b3.trans (hb4.mono (by omega))
    rw [Lib.strCells_eq] at h4
    have hS := Lib.hid (Try.Builder_String_any_f w1.heap.size w1.heap.size (_ :: ck.data.toList) w4 (.inr h4) (Nat.le_trans s3 hb4.size))
    go_wp2_with (go_at_call 23; with_reducible refine hS.out.mono ?_)
    rintro e w5 ⟨rfl, h5, hb5⟩
    go_wp2
    go_ret
    exact ⟨rfl, b4.trans (hb5.mono (by omega))⟩

theorem news2 {w : World} {t : TypeId} (a b : Int) : ∀ j u, [Value.int .u8 a, Value.int .u8 b][j]? = some u → (w.alloc (.cells #[.int .u8 a, .int .u8 b] t)).cell? ((⟨w.heap.size, 0, none⟩ : Addr).add j) = some u := by
  intro j u hj
  match j, hj with
  | 0, hj => simp at hj; subst hj; simp [Addr.add]
  | 1, hj => simp at hj; subst hj; simp [Addr.add]

set_option maxHeartbeats 4000000 in
set_option maxRecDepth 100000 in
theorem bytes_put (key v f : Int) (hf0 : 0 ≤ f) (hf1 : f ≤ 65535) (ck cv : ByteArray) (hck : ck.size ≤ 8) (hcv : cv.size ≤ 8) (w : World) (HR : ∀ w, Calls Try.prog 14 #[.agg #[.int .i64 3, .int .u64 key, .int .u64 v, .int .i64 f]] w fun e w' => e = .returned (.bool true) ∧ Below w.heap.size w w')
    (HK : ∀ w, Calls Try.prog 22 #[.int .u64 key] w fun e w' => e = .returned (.string ck) ∧ Below w.heap.size w w')
    (HV : ∀ w, Calls Try.prog 22 #[.int .u64 v] w fun e w' => e = .returned (.string cv) ∧ Below w.heap.size w w') :
    Calls Try.prog 10 #[.agg #[.int .i64 3, .int .u64 key, .int .u64 v, .int .i64 f]] w fun e w' => e = .returned (.string ⟨(80 :: UInt8.ofNat (f % 256).toNat :: UInt8.ofNat (f / 256).toNat :: (cv.data.toList ++ ck.data.toList)).toArray⟩) ∧ Below w.heap.size w w' := by
  have HR' := Lib.hid HR
  have HK' := Lib.hid HK
  have HV' := Lib.hid HV
  clear HR HK HV
  have b0 : Below w.heap.size w (w.alloc (.cells #[.int .i64 3, .int .u64 key, .int .u64 v, .int .i64 f] 27)) := (Below.refl _ w).alloc (Nat.le_refl _) _
  go_enter Try.func10, Try.ntmps10
  go_wp2_with (go_at_call 14; with_reducible refine (HR'.out _).mono ?_)
  rintro e w1 ⟨rfl, hb1⟩
  have b1 : Below w.heap.size w w1 := b0.trans (hb1.mono (by simp))
  have c0 : w1.cell? ⟨w.heap.size, 0, none⟩ = some (.int .i64 3) := (hb1.cell (by simp)).trans (World.cell?_alloc_new _ _ _ _)
  have c1 : w1.cell? ⟨w.heap.size, 1, none⟩ = some (.int .u64 key) := (hb1.cell (by simp)).trans (World.cell?_alloc_new _ _ _ _)
  have c2 : w1.cell? ⟨w.heap.size, 2, none⟩ = some (.int .u64 v) := (hb1.cell (by simp)).trans (World.cell?_alloc_new _ _ _ _)
  have c3 : w1.cell? ⟨w.heap.size, 3, none⟩ = some (.int .i64 f) := (hb1.cell (by simp)).trans (World.cell?_alloc_new _ _ _ _)
  have hlt : w.heap.size < w1.heap.size := by have := hb1.size; simp at this; omega
  clear hb1 b0
  have cW' := Lib.hid (fun c => writeByte w1.heap.size w1.heap.size [] c (w1.alloc (.cells #[.pointer none, .slice none 0 0] 49)) (Lib.IsBuilderF.of (Lib.fresh_isBuilder _ _ w1)) (by simp) (by simp))
  go_wp2_with (go_at_call 19; with_reducible refine (cW'.out _).mono ?_)
  rintro e w2 ⟨rfl, h2, hb2⟩
  clear cW'
  have kept : ∀ i, w2.cell? ⟨w.heap.size, i, none⟩ = w1.cell? ⟨w.heap.size, i, none⟩ := fun i => (hb2.cell (by simpa using hlt)).trans (World.cell?_alloc_lt w1 _ _ hlt)
  replace c0 := (kept 0).trans c0
  replace c1 := (kept 1).trans c1
  replace c2 := (kept 2).trans c2
  replace c3 := (kept 3).trans c3
  clear kept
  have b2 : Below w.heap.size w w2 := (b1.alloc b1.size _).trans (hb2.mono (by omega))
  have s2 : w1.heap.size ≤ w2.heap.size := by have := hb2.size; simp at this; omega
  clear hb2
  have cB := Lib.hid (writeBytes w1.heap.size w1.heap.size _ ⟨w2.heap.size, 0, none⟩ 2 2 [.int .u8 (f % 256), .int .u8 (f / 256)] (w2.alloc (.cells #[.int .u8 (f % 256), .int .u8 (f / 256)] 5)) (h2.alloc _) rfl (news2 _ _) (by simp [Value.oneCell']) (by simp) (by simp; omega))
  go_wp2_with (go_at_call 20; with_reducible refine cB.out.mono ?_)
  rintro e w3 ⟨rfl, h3, hb3⟩
  clear cB h2
  have kept : ∀ i, w3.cell? ⟨w.heap.size, i, none⟩ = w2.cell? ⟨w.heap.size, i, none⟩ := fun i => (hb3.cell (by simpa using hlt)).trans (World.cell?_alloc_lt w2 _ _ (by show w.heap.size < _; omega))
  replace c1 := (kept 1).trans c1
  replace c2 := (kept 2).trans c2
  clear kept c0 c3
  have b3 : Below w.heap.size w w3 := (b2.alloc b2.size _).trans (hb3.mono (by omega))
  have s3 : w1.heap.size ≤ w3.heap.size := by have := hb3.size; simp at this; omega
  clear hb3 b2 b1 s2
  go_wp2_with (go_at_call 22; with_reducible refine (HV'.out _).mono ?_)
  rintro e w4 ⟨rfl, hb4⟩
  have h4 := builder_below h3 hb4
  have b4 : Below w.heap.size w w4 := b3.trans (hb4.mono b3.size)
  have s4 : w1.heap.size ≤ w4.heap.size := Nat.le_trans s3 hb4.size
  replace c1 := (hb4.cell (p := ⟨w.heap.size, 1, none⟩) (by show w.heap.size < _; omega)).trans c1
  clear h3 b3 hb4 c2 s3
  have cS := Lib.hid (writeString w1.heap.size w1.heap.size _ cv w4 (.inr h4) (by simp; omega) s4)
  go_wp2_with (go_at_call 21; with_reducible refine cS.out.mono ?_)
  rintro e w5 ⟨rfl, h5, hb5⟩
  clear cS h4
  have b5 : Below w.heap.size w w5 := b4.trans (hb5.mono (by omega))
  have s5 : w1.heap.size ≤ w5.heap.size := Nat.le_trans s4 hb5.size
  replace c1 := (hb5.cell (p := ⟨w.heap.size, 1, none⟩) (by show w.heap.size < _; omega)).trans c1
  clear b4 hb5 s4
  go_wp2_with (go_at_call 22; with_reducible refine (HK'.out _).mono ?_)
  rintro e w6 ⟨rfl, hb6⟩
  have h6 := builder_below h5 hb6
  have b6 : Below w.heap.size w w6 := b5.trans (hb6.mono b5.size)
  have s6 : w1.heap.size ≤ w6.heap.size := Nat.le_trans s5 hb6.size
  clear h5 b5 hb6 c1 s5
  have cS := Lib.hid (writeString w1.heap.size w1.heap.size _ ck w6 (.inr h6) (by simp [Lib.strCells_length]; omega) s6)
  go_wp2_with (go_at_call 21; with_reducible refine cS.out.mono ?_)
  rintro e w7 ⟨rfl, h7, hb7⟩
  clear cS h6
  have b7 : Below w.heap.size w w7 := b6.trans (hb7.mono (by omega))
  have s7 : w1.heap.size ≤ w7.heap.size := Nat.le_trans s6 hb7.size
  rw [Lib.strCells_eq, Lib.strCells_eq] at h7
  have hl : ∀ x : UInt8, x = 80 → ((([] ++ [Value.int .u8 (x.toNat : Int)]) ++ [Value.int .u8 (f % 256), Value.int .u8 (f / 256)]) ++ Lib.byteCells cv.data.toList) ++ Lib.byteCells ck.data.toList = Lib.byteCells (80 :: UInt8.ofNat (f % 256).toNat :: UInt8.ofNat (f / 256).toNat :: (cv.data.toList ++ ck.data.toList)) := by
    rintro x rfl
    simp only [List.nil_append, List.cons_append, Lib.byteCells, List.map_cons, List.map_append]
    rw [u8_nat (f % 256) (by omega) (by omega), u8_nat (f / 256) (by omega) (by omega)]
  replace h7 : Lib.BuilderAtF 49 5 w1.heap.size w1.heap.size (.pointer (some ⟨w1.heap.size, 0, none⟩)) (Lib.byteCells (80 :: UInt8.ofNat (f % 256).toNat :: UInt8.ofNat (f / 256).toNat :: (cv.data.toList ++ ck.data.toList))) w7 := by rw [← hl 80 rfl]; exact h7
  have hS := Lib.hid (Try.Builder_String_any_f w1.heap.size w1.heap.size _ w7 (.inr h7) s7)
  go_wp2_with (go_at_call 23; with_reducible refine hS.out.mono ?_)
  rintro e w8 ⟨rfl, h8, hb8⟩
  go_wp2
  go_ret
  exact ⟨rfl, b7.trans (hb8.mono (by omega))⟩

set_option maxHeartbeats 2000000 in
set_option maxRecDepth 100000 in
theorem bytes_no (o key v f : Int) (w : World) (HR : ∀ w, Calls Try.prog 14 #[.agg #[.int .i64 o, .int .u64 key, .int .u64 v, .int .i64 f]] w fun e w' => e = .returned (.bool false) ∧ Below w.heap.size w w') :
    Calls Try.prog 10 #[.agg #[.int .i64 o, .int .u64 key, .int .u64 v, .int .i64 f]] w fun e w' => e = .returned (.string ByteArray.empty) ∧ Below w.heap.size w w' := by
  have HR' := Lib.hid HR
  clear HR
  have b0 : Below w.heap.size w (w.alloc (.cells #[.int .i64 o, .int .u64 key, .int .u64 v, .int .i64 f] 27)) := (Below.refl _ w).alloc (Nat.le_refl _) _
  go_enter Try.func10, Try.ntmps10
  go_wp2_with (go_at_call 14; with_reducible refine (HR'.out _).mono ?_)
  rintro e w1 ⟨rfl, hb1⟩
  go_wp2
  go_ret
  exact ⟨rfl, b0.trans (hb1.mono (by simp))⟩

/-- a text behind the number of its bytes -/
def cnt (t : ByteArray) : List UInt8 := UInt8.ofNat t.size :: t.data.toList
/-- a right operation's bytes, by its words' texts -/
def bytesOp (o f : Int) (tk tv : ByteArray) : List UInt8 :=
  if o = 3 then 80 :: UInt8.ofNat (f % 256).toNat :: UInt8.ofNat (f / 256).toNat :: (cnt tv ++ cnt tk)
  else if o = 5 then [76]
  else (if o = 1 then 71 else if o = 2 then 75 else 68) :: cnt tk
def op_Bytes.f (o key v f : Int) : Option ByteArray :=
  (op_Right.f o key v f).bind fun r => if r = true then (pack_Text.f key).bind fun tk => (pack_Text.f v).bind fun tv => some ⟨(bytesOp o f tk.1 tv.1).toArray⟩ else some ByteArray.empty

theorem strOfNums_one (m : Nat) (h : m ≤ 7) : strOfNums [((m : Nat) : Int) % 256] = ⟨#[UInt8.ofNat m]⟩ := by
  obtain rfl | rfl | rfl | rfl | rfl | rfl | rfl | rfl : m = 0 ∨ m = 1 ∨ m = 2 ∨ m = 3 ∨ m = 4 ∨ m = 5 ∨ m = 6 ∨ m = 7 := by omega
  all_goals rfl
/-- counted, of a word that is a text's -/
theorem counted_of (n : Int) (h0 : 0 ≤ n) (h1 : n ≤ 18446744073709551615) (hr : rightB n = true) : ∃ t e, pack_Text.f n = some (t, e) ∧ t.size ≤ 7 ∧
    ∀ w, Calls Try.prog 22 #[.int .u64 n] w fun e w' => e = .returned (.string ⟨(cnt t).toArray⟩) ∧ Below w.heap.size w w' := by
  have ht : pack_Text.f n = some (textS n, 0) := by unfold pack_Text.f; rw [if_pos h0, if_pos h1, if_pos hr]
  have hs := (rightB_text n h0 hr).1
  refine ⟨textS n, 0, ht, hs, fun w => Pcounted.op_counted.calls n _ w ?_⟩
  unfold Pcounted.op_counted.f
  rw [ht]
  generalize textS n = t at *
  rw [Option.bind_some, Option.bind_some, strOfNums_one _ hs, if_pos (by show 1 + t.size ≤ _; omega)]
  refine congrArg some (ba_ext ?_)
  simp [cnt]
theorem op_Bytes.calls (o key v f : Int) (r : ByteArray) (w : World) (h : op_Bytes.f o key v f = some r) :
    Calls Try.prog 10 #[.agg #[.int .i64 o, .int .u64 key, .int .u64 v, .int .i64 f]] w fun e w' => e = .returned (.string r) ∧ Below w.heap.size w w' := by
  unfold op_Bytes.f at h
  obtain ⟨b, hb, h⟩ := Option.bind_eq_some_iff.mp h
  have HR := fun w => op_Right.calls o key v f b w hb
  cases b with
  | false =>
    rw [if_neg (by decide)] at h
    obtain rfl := Option.some.inj h
    exact bytes_no o key v f w HR
  | true =>
    rw [if_pos rfl] at h
    unfold op_Right.f at hb
    obtain ⟨rk, hk, hb⟩ := Option.bind_eq_some_iff.mp hb
    obtain ⟨rv, hv, hb⟩ := Option.bind_eq_some_iff.mp hb
    have hb := Option.some.inj hb
    have hk2 : 0 ≤ key ∧ key ≤ 18446744073709551615 ∧ rightB key = rk := by
      unfold pack_Right.f at hk
      by_cases h0 : 0 ≤ key
      · rw [if_pos h0] at hk
        by_cases h1 : key ≤ 18446744073709551615
        · rw [if_pos h1] at hk; exact ⟨h0, h1, Option.some.inj hk⟩
        · rw [if_neg h1] at hk; exact absurd hk (by simp)
      · rw [if_neg h0] at hk; exact absurd hk (by simp)
    have hv2 : 0 ≤ v ∧ v ≤ 18446744073709551615 ∧ rightB v = rv := by
      unfold pack_Right.f at hv
      by_cases h0 : 0 ≤ v
      · rw [if_pos h0] at hv
        by_cases h1 : v ≤ 18446744073709551615
        · rw [if_pos h1] at hv; exact ⟨h0, h1, Option.some.inj hv⟩
        · rw [if_neg h1] at hv; exact absurd hv (by simp)
      · rw [if_neg h0] at hv; exact absurd hv (by simp)
    have hkv : rk = true ∧ rv = true := by
      cases rk <;> cases rv <;> simp [rightOp] at hb <;> simp
    obtain ⟨rfl, rfl⟩ := hkv
    obtain ⟨tk, e1, htk, sk, HK⟩ := counted_of key hk2.1 hk2.2.1 hk2.2.2
    obtain ⟨tv, e2, htv, sv, HV⟩ := counted_of v hv2.1 hv2.2.1 hv2.2.2
    rw [htk, Option.bind_some, htv, Option.bind_some] at h
    obtain rfl := Option.some.inj h
    clear hk hv htk htv hk2 hv2
    have zk : (⟨(cnt tk).toArray⟩ : ByteArray).size ≤ 8 := by show (cnt tk).toArray.size ≤ 8; simp [cnt]; omega
    have zv : (⟨(cnt tv).toArray⟩ : ByteArray).size ≤ 8 := by show (cnt tv).toArray.size ≤ 8; simp [cnt]; omega
    unfold rightOp at hb
    by_cases h3 : o = 3
    · subst h3
      rw [if_pos rfl] at hb
      have := bytes_put key v f (by simp at hb; omega) (by simp at hb; omega) _ _ zk zv w HR HK HV
      unfold bytesOp
      rw [if_pos rfl]
      exact this
    · rw [if_neg h3] at hb
      by_cases h124 : o = 1 ∨ o = 2 ∨ o = 4
      · unfold bytesOp
        rw [if_neg h3, if_neg (by omega)]
        refine bytes_key o _ ?_ key v f _ zk w HR HK
        obtain rfl | rfl | rfl := h124
        · exact .inl ⟨rfl, rfl⟩
        · exact .inr (.inl ⟨rfl, rfl⟩)
        · exact .inr (.inr ⟨rfl, rfl⟩)
      · rw [if_neg h124] at hb
        by_cases h5 : o = 5
        · subst h5
          unfold bytesOp
          rw [if_neg h3, if_pos rfl]
          exact bytes_len key v f w HR
        · rw [if_neg h5] at hb
          exact absurd hb (by simp)
end Go.Proofs.Ytinfbkfdkpjdiaa.Hand
