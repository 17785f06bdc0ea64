/- Plain facts on the reading of an operation: what a list of bytes tells ('decode'), and that the code's Parse tells it. No program in sight but for the contracts' own functions. -/
import Derived.Test.YtinfbkfdkpjdiaaOpParse
import Derived.Test.YtinfbkfdkpjdiaaOpFacts
namespace Go.Proofs.Ytinfbkfdkpjdiaa.Hand
open Go.RowKit Go.Proofs.Ytinfbkfdkpjdiaa.Pword Go.Proofs.YtinfbkfdkpjdiaaW.PrintWords Go.Proofs.YtinfbkfdkpjdiaaW.PrintLast Go.Proofs.YtinfbkfdkpjdiaaW.PrintMore
set_option linter.unusedVariables false

/-- the text that bytes begin with, behind the number of its bytes, and what is behind it -/
def rdW : List UInt8 → Option (List UInt8 × List UInt8)
  | [] => none
  | n :: r => if r.length < n.toNat then none else some (r.take n.toNat, r.drop n.toNat)
/-- what bytes tell: no operation; one whose text is too long; one, with its texts -/
inductive Out where
  | form : Out
  | long : Out
  | ok (o f : Int) (tk tv : List UInt8) : Out
def decKey2 (o : Int) : Option (List UInt8 × List UInt8) → Out
  | some (t, []) => if t.length ≤ 7 then .ok o 0 t [] else .long
  | _ => .form
def decKey (o : Int) (r : List UInt8) : Out := decKey2 o (rdW r)
def decPut3 (a b : UInt8) (tv : List UInt8) : Option (List UInt8 × List UInt8) → Out
  | some (tk, []) => if tk.length ≤ 7 ∧ tv.length ≤ 7 then .ok 3 ((a.toNat : Int) + 256 * (b.toNat : Int)) tk tv else .long
  | _ => .form
def decPut2 (a b : UInt8) : Option (List UInt8 × List UInt8) → Out
  | some (tv, r2) => decPut3 a b tv (rdW r2)
  | none => .form
def decPut : List UInt8 → Out
  | a :: b :: r => decPut2 a b (rdW r)
  | _ => .form
theorem rdW_cons (n : UInt8) (r : List UInt8) : rdW (n :: r) = if r.length < n.toNat then none else some (r.take n.toNat, r.drop n.toNat) := rfl
def decode : List UInt8 → Out
  | [] => .form
  | c :: r =>
    if c = 71 then decKey 1 r
    else if c = 75 then decKey 2 r
    else if c = 68 then decKey 4 r
    else if c = 80 then decPut r
    else if c = 76 then (if r = [] then .ok 5 0 [] [] else .form)
    else .form
theorem decode_cons (c : UInt8) (r : List UInt8) : decode (c :: r) = if c = 71 then decKey 1 r else if c = 75 then decKey 2 r else if c = 68 then decKey 4 r else if c = 80 then decPut r else if c = 76 then (if r = [] then .ok 5 0 [] [] else .form) else .form := rfl
/-- the answer that an outcome asks for -/
def outV : Out → Int × Int × Int × Int × Int → Prop
  | .form, p => p = (0, 0, 0, 0, 3)
  | .long, p => p = (0, 0, 0, 0, 4)
  | .ok o f tk tv, p => tk.length ≤ 7 ∧ tv.length ≤ 7 ∧ ∃ K V, pack_Word.f ⟨tk.toArray⟩ = some (K, 0) ∧ pack_Word.f ⟨tv.toArray⟩ = some (V, 0) ∧ p = (o, K, V, f, 0)

theorem mk_extract (L : List UInt8) (a b : Nat) : (⟨L.toArray⟩ : ByteArray).extract a b = ⟨((L.drop a).take (b - a)).toArray⟩ := by
  refine ba_ext ?_
  rw [Lib.extract_data]
theorem rb_short (L : List UInt8) (bad long : Bool) (n : Nat) (h : L.length < n) (hn : n ≤ 255) : op_reader_bytes.f ⟨L.toArray⟩ bad long (n : Int) = some (⟨(Lib.repeatL [0] n).toArray⟩, ⟨#[]⟩, true, long) := by
  unfold op_reader_bytes.f
  rw [mk_size, if_pos (by omega)]
  unfold strings_Repeat.f
  rw [if_pos ⟨rfl, by omega, by omega⟩, Int.toNat_natCast]
  rfl
theorem rb_ok (L : List UInt8) (bad long : Bool) (n : Nat) (h : n ≤ L.length) : op_reader_bytes.f ⟨L.toArray⟩ bad long (n : Int) = some (⟨(L.take n).toArray⟩, ⟨(L.drop n).toArray⟩, bad, long) := by
  unfold op_reader_bytes.f
  rw [mk_size, if_neg (by omega), if_pos (by omega), if_pos (by omega), Int.toNat_natCast, mk_extract, mk_extract, List.drop_zero, Nat.sub_zero]
  rw [List.take_of_length_le (l := L.drop n) (by rw [List.length_drop]; exact Nat.le_refl _)]
theorem word_any (t : ByteArray) : ∃ W e, pack_Word.f t = some (W, e) ∧ (e != 0) = decide (7 < t.size) := by
  unfold pack_Word.f
  by_cases h : t.size ≤ 7
  · rw [if_pos h]
    exact ⟨_, _, rfl, by rw [decide_eq_false (by omega)]; rfl⟩
  · rw [if_neg h]
    exact ⟨_, _, rfl, by rw [decide_eq_true (by omega)]; rfl⟩
theorem word_zero (t : ByteArray) (W e : Int) (h : pack_Word.f t = some (W, e)) (hs : t.size ≤ 7) : pack_Word.f t = some (W, 0) := by
  unfold pack_Word.f at h ⊢
  rw [if_pos hs] at h ⊢
  have := Option.some.inj h
  rw [(Prod.mk.inj this).1]
theorem word_end (W : Int) (l2 : ByteArray) (d g : Bool) (e : Int) : (if g = true then (some (W, l2, d, true) : Option (Int × ByteArray × Bool × Bool)) else some (W, l2, d, (e != 0))) = some (W, l2, d, (g || (e != 0))) := by
  cases g <;> rfl
theorem rw_spec (L : List UInt8) (bad long : Bool) : ∃ W l2 d2 g2, op_reader_word.f ⟨L.toArray⟩ bad long = some (W, ⟨List.toArray l2⟩, d2, g2) ∧ (rdW L = none → d2 = true) ∧ (bad = true → d2 = true) ∧
    (∀ t r, rdW L = some (t, r) → l2 = r ∧ d2 = bad ∧ g2 = (long || decide (7 < t.length)) ∧ (t.length ≤ 7 → pack_Word.f ⟨t.toArray⟩ = some (W, 0))) := by
  unfold op_reader_word.f
  cases L with
  | nil =>
    have h1 := rb_short [] bad long 1 (by decide) (by decide)
    rw [show (1 : Int) = ((1 : Nat) : Int) from rfl, h1, Option.bind_some]
    have h2 := rb_ok [] true long 0 (by decide)
    have hb : wrap64 (bt ⟨(Lib.repeatL [0] 1).toArray⟩ 0) = ((0 : Nat) : Int) := by
      rw [show bt ⟨(Lib.repeatL [0] 1).toArray⟩ 0 = 0 from bt_mk [0] 0]
      unfold wrap64; omega
    rw [if_pos (by show (0 : Int) < ((⟨(Lib.repeatL [0] 1).toArray⟩ : ByteArray).size : Int); rw [mk_size]; decide)]
    show ∃ W l2 d2 g2, ((op_reader_bytes.f ⟨#[]⟩ true long (wrap64 (bt ⟨(Lib.repeatL [0] 1).toArray⟩ 0))).bind _) = _ ∧ _
    rw [hb]
    rw [show op_reader_bytes.f ⟨#[]⟩ true long ((0 : Nat) : Int) = _ from h2, Option.bind_some]
    obtain ⟨W, e, hw, he⟩ := word_any ⟨(List.take 0 ([] : List UInt8)).toArray⟩
    rw [hw, Option.bind_some, word_end]
    exact ⟨W, _, _, _, rfl, fun _ => rfl, fun _ => rfl, fun t r h => by simp [rdW] at h⟩
  | cons n r =>
    have h1 := rb_ok (n :: r) bad long 1 (by simp)
    rw [show (1 : Int) = ((1 : Nat) : Int) from rfl, h1, Option.bind_some, if_pos (by show (0 : Int) < ((⟨(List.take 1 (n :: r)).toArray⟩ : ByteArray).size : Int); rw [mk_size]; simp)]
    have hb : wrap64 (bt ⟨(List.take 1 (n :: r)).toArray⟩ 0) = (n.toNat : Int) := by
      rw [show (0 : Int) = ((0 : Nat) : Int) from rfl, bt_mk]
      show wrap64 (n.toNat : Int) = _
      have := n.toNat_lt
      unfold wrap64; omega
    show ∃ W l2 d2 g2, ((op_reader_bytes.f ⟨r.toArray⟩ bad long (wrap64 (bt ⟨(List.take 1 (n :: r)).toArray⟩ 0))).bind _) = _ ∧ _
    rw [hb]
    have hn := n.toNat_lt
    by_cases hr : r.length < n.toNat
    · rw [rb_short r bad long n.toNat hr (by omega), Option.bind_some]
      obtain ⟨W, e, hw, he⟩ := word_any ⟨(Lib.repeatL [0] n.toNat).toArray⟩
      show ∃ W l2 d2 g2, ((pack_Word.f ⟨(Lib.repeatL [0] n.toNat).toArray⟩).bind _) = _ ∧ _
      rw [hw, Option.bind_some, word_end]
      refine ⟨W, [], _, _, rfl, fun _ => rfl, fun _ => rfl, fun t r' h => ?_⟩
      rw [rdW_cons, if_pos hr] at h
      exact absurd h (by simp)
    · rw [rb_ok r bad long n.toNat (by omega), Option.bind_some]
      obtain ⟨W, e, hw, he⟩ := word_any ⟨(r.take n.toNat).toArray⟩
      show ∃ W l2 d2 g2, ((pack_Word.f ⟨(r.take n.toNat).toArray⟩).bind _) = _ ∧ _
      rw [hw, Option.bind_some, word_end]
      have hd : rdW (n :: r) = some (r.take n.toNat, r.drop n.toNat) := by rw [rdW_cons, if_neg hr]
      refine ⟨W, _, _, _, rfl, fun h => by rw [hd] at h; exact absurd h (by simp), fun h => h, fun t r' h => ?_⟩
      rw [hd] at h
      obtain ⟨rfl, rfl⟩ := Prod.mk.inj (Option.some.inj h)
      refine ⟨rfl, rfl, by rw [he, mk_size], fun h7 => word_zero _ W e hw (by rw [mk_size]; exact h7)⟩
theorem word_empty : pack_Word.f ⟨([] : List UInt8).toArray⟩ = some (0, 0) := by
  unfold pack_Word.f
  rw [if_pos (by decide)]
  exact congrArg some (by rw [show wordN ⟨([] : List UInt8).toArray⟩ = 0 from by decide])

theorem key_out (o : Int) (r : List UInt8) : ∃ K l2 d2 g2, op_reader_word.f ⟨r.toArray⟩ false false = some (K, ⟨List.toArray l2⟩, d2, g2) ∧ outV (decKey o r) (finP o K 0 0 ⟨l2.toArray⟩ d2 g2) := by
  obtain ⟨K, l2, d2, g2, h, hn, hb, hs⟩ := rw_spec r false false
  refine ⟨K, l2, d2, g2, h, ?_⟩
  unfold decKey
  cases hr : rdW r with
  | none =>
    rw [hn hr, fin_bad]
    rfl
  | some p =>
    obtain ⟨t, r2⟩ := p
    obtain ⟨rfl, rfl, rfl, hw⟩ := hs t r2 hr
    cases l2 with
    | cons x y =>
      rw [fin_left _ _ _ _ _ (by rw [mk_toList]; simp)]
      rfl
    | nil =>
      show outV (if t.length ≤ 7 then .ok o 0 t [] else .long) _
      by_cases h7 : t.length ≤ 7
      · rw [if_pos h7, decide_eq_false (by omega), Bool.false_or, fin_ok _ _ _ _ _ (mk_toList [])]
        exact ⟨h7, by decide, K, 0, hw h7, word_empty, rfl⟩
      · rw [if_neg h7, decide_eq_true (by omega), Bool.or_true, fin_long _ _ _ _ _ (mk_toList [])]
        rfl
theorem put_out (r : List UInt8) : ∃ b l1 d1 g1 V l2 d2 g2 K l3 d3 g3, op_reader_bytes.f ⟨r.toArray⟩ false false 2 = some (b, ⟨List.toArray l1⟩, d1, g1) ∧ b.size = 2 ∧ op_reader_word.f ⟨l1.toArray⟩ d1 g1 = some (V, ⟨List.toArray l2⟩, d2, g2) ∧
    op_reader_word.f ⟨l2.toArray⟩ d2 g2 = some (K, ⟨List.toArray l3⟩, d3, g3) ∧ outV (decPut r) (finP 3 K V (bt b 0 + 256 * bt b 1) ⟨l3.toArray⟩ d3 g3) := by
  by_cases h2 : r.length < 2
  · have h1 := rb_short r false false 2 h2 (by decide)
    obtain ⟨V, l2, d2, g2, w1, _, b1, _⟩ := rw_spec [] true false
    obtain ⟨K, l3, d3, g3, w2, _, b2, _⟩ := rw_spec l2 d2 g2
    refine ⟨_, [], true, false, V, l2, d2, g2, K, l3, d3, g3, h1, rfl, w1, w2, ?_⟩
    rw [b2 (b1 rfl), fin_bad]
    match r, h2 with
    | [], _ => rfl
    | [_], _ => rfl
    | _ :: _ :: _, h2 => simp at h2; omega
  · match r, h2 with
    | [], h2 => exact absurd (by simp) h2
    | [_], h2 => exact absurd (by simp) h2
    | a :: c :: r, _ =>
      have h1 := rb_ok (a :: c :: r) false false 2 (by simp)
      obtain ⟨V, l2, d2, g2, w1, n1, b1, s1⟩ := rw_spec r false false
      obtain ⟨K, l3, d3, g3, w2, n2, b2, s2⟩ := rw_spec l2 d2 g2
      refine ⟨_, r, false, false, V, l2, d2, g2, K, l3, d3, g3, h1, rfl, w1, w2, ?_⟩
      have e0 : bt ⟨(List.take 2 (a :: c :: r)).toArray⟩ 0 = (a.toNat : Int) := bt_mk _ 0
      have e1 : bt ⟨(List.take 2 (a :: c :: r)).toArray⟩ 1 = (c.toNat : Int) := bt_mk _ 1
      rw [e0, e1]
      show outV (decPut2 a c (rdW r)) _
      cases hr : rdW r with
      | none =>
        rw [b2 (n1 hr), fin_bad]
        rfl
      | some p =>
        obtain ⟨tv, r2⟩ := p
        obtain ⟨rfl, rfl, rfl, hv⟩ := s1 tv r2 hr
        show outV (decPut3 a c tv (rdW l2)) _
        cases hr2 : rdW l2 with
        | none =>
          rw [n2 hr2, fin_bad]
          rfl
        | some p =>
          obtain ⟨tk, r3⟩ := p
          obtain ⟨rfl, rfl, rfl, hk⟩ := s2 tk r3 hr2
          cases l3 with
          | cons x y =>
            rw [fin_left _ _ _ _ _ (by rw [mk_toList]; simp)]
            rfl
          | nil =>
            show outV (if tk.length ≤ 7 ∧ tv.length ≤ 7 then .ok 3 ((a.toNat : Int) + 256 * (c.toNat : Int)) tk tv else .long) _
            by_cases h7 : tk.length ≤ 7 ∧ tv.length ≤ 7
            · rw [if_pos h7, decide_eq_false (by omega), decide_eq_false (p := 7 < tk.length) (by omega), Bool.or_self, Bool.or_self, fin_ok _ _ _ _ _ (mk_toList [])]
              exact ⟨h7.1, h7.2, K, V, hk h7.1, hv h7.2, rfl⟩
            · have hl : (false || decide (7 < tv.length) || decide (7 < tk.length)) = true := by
                rw [Bool.false_or, Bool.or_eq_true, decide_eq_true_eq, decide_eq_true_eq]; omega
              rw [if_neg h7, hl, fin_long _ _ _ _ _ (mk_toList [])]
              rfl
theorem index_one (c : UInt8) : strings_Index.f letters ⟨#[c]⟩ = some (if c = 32 then 0 else if c = 71 then 1 else if c = 75 then 2 else if c = 80 then 3 else if c = 68 then 4 else if c = 76 then 5 else -1) := by
  unfold strings_Index.f
  rw [if_pos (show (⟨#[c]⟩ : ByteArray).size = 1 from rfl)]
  have key : ∀ c : UInt8, Lib.indexByte letters.data.toList c = (if c = 32 then 0 else if c = 71 then 1 else if c = 75 then 2 else if c = 80 then 3 else if c = 68 then 4 else if c = 76 then 5 else -1) := by
    intro c
    show Lib.indexByte [32, 71, 75, 80, 68, 76] c = _
    by_cases h0 : c = 32
    · subst h0; rfl
    by_cases h1 : c = 71
    · subst h1; rfl
    by_cases h2 : c = 75
    · subst h2; rfl
    by_cases h3 : c = 80
    · subst h3; rfl
    by_cases h4 : c = 68
    · subst h4; rfl
    by_cases h5 : c = 76
    · subst h5; rfl
    rw [if_neg h0, if_neg h1, if_neg h2, if_neg h3, if_neg h4, if_neg h5]
    have n0 : ((32 : UInt8) == c) = false := by simpa using Ne.symm h0
    have n1 : ((71 : UInt8) == c) = false := by simpa using Ne.symm h1
    have n2 : ((75 : UInt8) == c) = false := by simpa using Ne.symm h2
    have n3 : ((80 : UInt8) == c) = false := by simpa using Ne.symm h3
    have n4 : ((68 : UInt8) == c) = false := by simpa using Ne.symm h4
    have n5 : ((76 : UInt8) == c) = false := by simpa using Ne.symm h5
    simp [Lib.indexByte, n0, n1, n2, n3, n4, n5]
  exact congrArg some (key c)
theorem parse_decode (s : ByteArray) : ∃ p, op_Parse.f s = some p ∧ outV (decode s.data.toList) p := by
  obtain ⟨L, rfl⟩ : ∃ L : List UInt8, s = ⟨L.toArray⟩ := ⟨s.data.toList, rfl⟩
  show ∃ p, op_Parse.f ⟨L.toArray⟩ = some p ∧ outV (decode L) p
  unfold op_Parse.f
  cases L with
  | nil =>
    have h1 := rb_short [] false false 1 (by decide) (by decide)
    rw [show (1 : Int) = ((1 : Nat) : Int) from rfl, h1, Option.bind_some]
    show ∃ p, ((strings_Index.f letters ⟨#[0]⟩).bind _) = some p ∧ _
    rw [index_one, Option.bind_some]
    exact ⟨_, rfl, rfl⟩
  | cons c r =>
    have h1 := rb_ok (c :: r) false false 1 (by simp)
    rw [show (1 : Int) = ((1 : Nat) : Int) from rfl, h1, Option.bind_some]
    show ∃ p, ((strings_Index.f letters ⟨#[c]⟩).bind _) = some p ∧ _
    rw [index_one, Option.bind_some]
    rw [decode_cons]
    by_cases h0 : c = 32
    · subst h0
      exact ⟨_, rfl, rfl⟩
    by_cases c1 : c = 71
    · subst c1
      obtain ⟨K, l2, d2, g2, h, ho⟩ := key_out 1 r
      refine ⟨_, ?_, ho⟩
      show (op_reader_word.f ⟨r.toArray⟩ false false).bind _ = _
      rw [h]
      rfl
    by_cases c2 : c = 75
    · subst c2
      obtain ⟨K, l2, d2, g2, h, ho⟩ := key_out 2 r
      refine ⟨_, ?_, ho⟩
      show (op_reader_word.f ⟨r.toArray⟩ false false).bind _ = _
      rw [h]
      rfl
    by_cases c3 : c = 80
    · subst c3
      obtain ⟨b, l1, d1, g1, V, l2, d2, g2, K, l3, d3, g3, q1, q2, q3, q4, ho⟩ := put_out r
      refine ⟨_, ?_, ho⟩
      show (op_reader_bytes.f ⟨r.toArray⟩ false false 2).bind _ = _
      rw [q1, Option.bind_some, if_pos q2, q3, Option.bind_some, q4]
      rfl
    by_cases c4 : c = 68
    · subst c4
      obtain ⟨K, l2, d2, g2, h, ho⟩ := key_out 4 r
      refine ⟨_, ?_, ho⟩
      show (op_reader_word.f ⟨r.toArray⟩ false false).bind _ = _
      rw [h]
      rfl
    by_cases c5 : c = 76
    · subst c5
      refine ⟨finP 5 0 0 0 ⟨r.toArray⟩ false false, rfl, ?_⟩
      show outV (if r = [] then .ok 5 0 [] [] else .form) _
      by_cases hr : r = []
      · subst hr
        rw [if_pos rfl, fin_ok _ _ _ _ _ (mk_toList [])]
        exact ⟨by decide, by decide, 0, 0, word_empty, word_empty, rfl⟩
      · rw [if_neg hr, fin_left _ _ _ _ _ (by rw [mk_toList]; exact hr)]
        rfl
    · rw [if_neg h0, if_neg c1, if_neg c2, if_neg c3, if_neg c4, if_neg c5]
      refine ⟨_, rfl, ?_⟩
      rw [if_neg c1, if_neg c2, if_neg c4, if_neg c3, if_neg c5]
      rfl
end Go.Proofs.Ytinfbkfdkpjdiaa.Hand
