/- Whether an operation is right, its bytes, and the operation of bytes, or what is wrong, are as the chapter says: the program's and the reference's answers are the same. No condition. -/
import Derived.Test.YtinfbkfdkpjdiaaPOpBytesx6
import Derived.Test.YtinfbkfdkpjdiaaOpDecode
import Derived.OpenShut
namespace Go.Proofs.Ytinfbkfdkpjdiaa.Pure
open Go.RowKit Go.Proofs.Ytinfbkfdkpjdiaa.Hand Go.Proofs.Ytinfbkfdkpjdiaa.POpBytes Go.Proofs.YtinfbkfdkpjdiaaW.PrintWords Go.Proofs.YtinfbkfdkpjdiaaW.PrintLast Go.Proofs.YtinfbkfdkpjdiaaW.PrintMore
set_option linter.unusedVariables false

namespace OpBytesAid
theorem word_of {s : ByteArray} {W e : Int} (h : pack_Word.f s = some (W, e)) : shellgamelaw17_word.f s = some W := by
  unfold shellgamelaw17_word.f
  rw [h]
  rfl
theorem shown_true : shellgamelaw17_shown.f = some true := by
  obtain ⟨W1, W2, w1, w2, h⟩ := shown_bytes
  unfold shellgamelaw17_shown.f
  rw [word_of w1, Option.bind_some, word_of w2, Option.bind_some, h, Option.bind_some]
  rw [mk_toList]
  rfl
theorem app_mk (x y : List UInt8) : (⟨x.toArray⟩ : ByteArray) ++ ⟨y.toArray⟩ = ⟨(x ++ y).toArray⟩ := by
  refine ba_ext ?_
  simp
theorem app_mk' (x : List UInt8) (y : ByteArray) : (⟨x.toArray⟩ : ByteArray) ++ y = ⟨(x ++ y.data.toList).toArray⟩ := app_mk x y.data.toList
/-- an outcome asks for one answer alone -/
theorem outV_one {D : Out} {p q : Int × Int × Int × Int × Int} (hp : outV D p) (hq : outV D q) : p = q := by
  cases D with
  | form => exact hp.trans hq.symm
  | long => exact hp.trans hq.symm
  | ok o f tk tv =>
    obtain ⟨_, _, K, V, e1, e2, rfl⟩ := hp
    obtain ⟨_, _, K', V', e3, e4, rfl⟩ := hq
    rw [word_one e1 e3, word_one e2 e4]
/-! ### the reference's Parse -/
theorem ref_text_none (L : List UInt8) (h : rdW L = none) : shellgameref17_text.f ⟨L.toArray⟩ = some (⟨#[]⟩, ⟨#[]⟩, false) := by
  unfold shellgameref17_text.f
  rw [mk_toList]
  cases L with
  | nil => rw [if_pos rfl]
  | cons c r =>
    rw [if_neg (by simp), mk_size, if_pos (by simp only [List.length_cons]; omega)]
    have hc := c.toNat_lt
    have e : wrap64 (1 + wrap64 (bt ⟨(c :: r).toArray⟩ 0)) = 1 + (c.toNat : Int) := by
      rw [show (0 : Int) = ((0 : Nat) : Int) from rfl, bt_mk]
      show wrap64 (1 + wrap64 (c.toNat : Int)) = _
      unfold wrap64; omega
    rw [e]
    have hl : r.length < c.toNat := by
      rw [rdW_cons] at h
      by_cases c' : r.length < c.toNat
      · exact c'
      · rw [if_neg c'] at h; exact absurd h (by simp)
    rw [if_pos (by simp only [List.length_cons]; omega)]
theorem ref_text_some (L t r : List UInt8) (h : rdW L = some (t, r)) : shellgameref17_text.f ⟨L.toArray⟩ = some (⟨t.toArray⟩, ⟨r.toArray⟩, true) := by
  obtain ⟨rfl, ht⟩ := rdW_inv h
  unfold shellgameref17_text.f
  have e : wrap64 (1 + wrap64 (bt ⟨(cntL t ++ r).toArray⟩ 0)) = ((1 + t.length : Nat) : Int) := by
    rw [show (0 : Int) = ((0 : Nat) : Int) from rfl, bt_mk]
    show wrap64 (1 + wrap64 ((UInt8.ofNat t.length).toNat : Int)) = _
    rw [ofNat_toNat _ ht]
    unfold wrap64; omega
  have hz : (cntL t ++ r).length = 1 + t.length + r.length := by simp only [cntL, List.length_append, List.length_cons]; omega
  rw [mk_toList, e, mk_size, hz, if_neg (by simp [cntL]), if_pos (by omega), if_neg (by omega), if_pos (by omega), if_pos (by omega), if_pos (by omega), Int.toNat_natCast, mk_extract, mk_extract]
  have e1 : ((cntL t ++ r).drop 1).take (1 + t.length - 1) = t := by
    show (t ++ r).take (1 + t.length - 1) = t
    rw [Nat.add_sub_cancel_left, List.take_left]
  have e2 : ((cntL t ++ r).drop (1 + t.length)).take (1 + t.length + r.length - (1 + t.length)) = r := by
    rw [Nat.add_sub_cancel_left, Nat.add_comm 1 t.length]
    show ((t ++ r).drop t.length).take r.length = r
    rw [List.drop_left, List.take_length]
  rw [e1, e2]
theorem kind_step (c : UInt8) (r : List UInt8) (k i : Nat) (v : UInt8) (hi : i < 6) (hv : bt ⟨#[32, 71, 75, 80, 68, 76]⟩ (i : Int) = (v.toNat : Int)) :
    shellgameref17_kind.l0 (k + 1) ⟨(c :: r).toArray⟩ i = if c = v then some (i : Int) else shellgameref17_kind.l0 k ⟨(c :: r).toArray⟩ ((i + 1 : Nat) : Int) := by
  simp only [shellgameref17_kind.l0]
  have ew : wrap64 ((i : Int) + 1) = ((i + 1 : Nat) : Int) := by unfold wrap64; omega
  have hb : bt ⟨(c :: r).toArray⟩ 0 = (c.toNat : Int) := bt_mk (c :: r) 0
  rw [if_pos (by omega), mk_toList, if_neg (by simp), mk_size, if_pos (by simp only [List.length_cons]; omega), if_pos (by omega), ew, hb, hv]
  by_cases h : c = v
  · subst h; rw [if_pos rfl, if_pos rfl]
  · rw [if_neg h, if_neg (fun e => h (UInt8.toNat_inj.1 (by omega)))]
theorem kind_nil (k i : Nat) (hi : i < 6) : shellgameref17_kind.l0 (k + 1) ⟨([] : List UInt8).toArray⟩ i = shellgameref17_kind.l0 k ⟨([] : List UInt8).toArray⟩ ((i + 1 : Nat) : Int) := by
  simp only [shellgameref17_kind.l0]
  have ew : wrap64 ((i : Int) + 1) = ((i + 1 : Nat) : Int) := by unfold wrap64; omega
  rw [if_pos (by omega), mk_toList, if_pos rfl, ew]
theorem kind_end (s : ByteArray) (k : Nat) : shellgameref17_kind.l0 (k + 1) s ((6 : Nat) : Int) = some 0 := by
  simp only [shellgameref17_kind.l0]
  rw [if_neg (by decide)]
theorem ref_kind (k : Nat) (c : UInt8) (r : List UInt8) : shellgameref17_kind.f (k + 6) ⟨(c :: r).toArray⟩ = some (if c = 71 then 1 else if c = 75 then 2 else if c = 80 then 3 else if c = 68 then 4 else if c = 76 then 5 else 0) := by
  unfold shellgameref17_kind.f
  have h1 := kind_step c r (k + 5) 1 71 (by decide) (bt_mk _ 1)
  have h2 := kind_step c r (k + 4) 2 75 (by decide) (bt_mk _ 2)
  have h3 := kind_step c r (k + 3) 3 80 (by decide) (bt_mk _ 3)
  have h4 := kind_step c r (k + 2) 4 68 (by decide) (bt_mk _ 4)
  have h5 := kind_step c r (k + 1) 5 76 (by decide) (bt_mk _ 5)
  have h6 := kind_end ⟨(c :: r).toArray⟩ k
  show shellgameref17_kind.l0 (k + 5 + 1) _ ((1 : Nat) : Int) = _
  rw [h1]
  by_cases c1 : c = 71
  · rw [if_pos c1, if_pos c1]; rfl
  rw [if_neg c1, if_neg c1, h2]
  by_cases c2 : c = 75
  · rw [if_pos c2, if_pos c2]; rfl
  rw [if_neg c2, if_neg c2, h3]
  by_cases c3 : c = 80
  · rw [if_pos c3, if_pos c3]; rfl
  rw [if_neg c3, if_neg c3, h4]
  by_cases c4 : c = 68
  · rw [if_pos c4, if_pos c4]; rfl
  rw [if_neg c4, if_neg c4, h5]
  by_cases c5 : c = 76
  · rw [if_pos c5, if_pos c5]; rfl
  rw [if_neg c5, if_neg c5, h6]
theorem ref_kind_nil (k : Nat) : shellgameref17_kind.f (k + 6) ⟨([] : List UInt8).toArray⟩ = some 0 := by
  unfold shellgameref17_kind.f
  show shellgameref17_kind.l0 (k + 5 + 1) _ ((1 : Nat) : Int) = _
  rw [kind_nil _ 1 (by decide), kind_nil _ 2 (by decide), kind_nil _ 3 (by decide), kind_nil _ 4 (by decide), kind_nil _ 5 (by decide), kind_end]
/-- the words of the texts that were read -/
theorem j3_bad (k : Nat) (tv tk : ByteArray) (o K V f : Int) : shellgameref17_Parse.j3 (k + 1) tv tk true o K V f = some (0, 0, 0, 0, 3) := by
  simp only [shellgameref17_Parse.j3, if_true]
theorem j3_good (k : Nat) (tv tk : List UInt8) (o f : Int) : ∃ p, shellgameref17_Parse.j3 (k + 1) ⟨tv.toArray⟩ ⟨tk.toArray⟩ false o 0 0 f = some p ∧ outV (if tk.length ≤ 7 ∧ tv.length ≤ 7 then .ok o f tk tv else .long) p := by
  simp only [shellgameref17_Parse.j3, Bool.false_eq_true, if_false]
  unfold shellgameref4_Word.f pack_Word.f
  rw [mk_size, mk_size]
  by_cases h1 : tk.length ≤ 7
  · by_cases h2 : tv.length ≤ 7
    · rw [if_pos h1, if_pos h2, if_pos ⟨h1, h2⟩]
      refine ⟨_, rfl, h1, h2, _, _, ?_, ?_, rfl⟩
      · unfold pack_Word.f; rw [mk_size, if_pos h1]
      · unfold pack_Word.f; rw [mk_size, if_pos h2]
    · rw [if_pos h1, if_neg h2, if_neg (show ¬ (tk.length ≤ 7 ∧ tv.length ≤ 7) from fun h => h2 h.2)]
      exact ⟨_, rfl, rfl⟩
  · rw [if_neg (show ¬ (tk.length ≤ 7 ∧ tv.length ≤ 7) from fun h => h1 h.1), if_neg h1]
    by_cases h2 : tv.length ≤ 7
    · rw [if_pos h2]; exact ⟨_, rfl, rfl⟩
    · rw [if_neg h2]; exact ⟨_, rfl, rfl⟩
/-- the key that is read last -/
theorem j0_key (k : Nat) (L tv : List UInt8) (o f : Int) (h5 : o < 5) : ∃ p, shellgameref17_Parse.j0 (k + 4) ⟨L.toArray⟩ ⟨tv.toArray⟩ ⟨#[]⟩ true o 0 0 f = some p ∧
    outV (match rdW L with | some (tk, []) => if tk.length ≤ 7 ∧ tv.length ≤ 7 then .ok o f tk tv else .long | _ => .form) p := by
  have e0 : shellgameref17_Parse.j0 (k + 4) ⟨L.toArray⟩ ⟨tv.toArray⟩ ⟨#[]⟩ true o 0 0 f = shellgameref17_Parse.j1 (k + 3) ⟨L.toArray⟩ ⟨tv.toArray⟩ ⟨#[]⟩ true true o 0 0 f := by
    simp only [shellgameref17_Parse.j0, if_true]
    rw [decide_eq_true h5]
  rw [e0]
  have e1 : shellgameref17_Parse.j1 (k + 3) ⟨L.toArray⟩ ⟨tv.toArray⟩ ⟨#[]⟩ true true o 0 0 f = (shellgameref17_text.f ⟨L.toArray⟩).bind fun bt112 => (shellgameref17_Parse.j2 (k + 2) bt112.2.1 ⟨tv.toArray⟩ bt112.1 bt112.2.2 o 0 0 f) := by
    simp only [shellgameref17_Parse.j1, if_true]
  rw [e1]
  cases hr : rdW L with
  | none =>
    rw [ref_text_none L hr, Option.bind_some]
    have e2 : shellgameref17_Parse.j2 (k + 2) ⟨#[]⟩ ⟨tv.toArray⟩ ⟨#[]⟩ false o 0 0 f = shellgameref17_Parse.j3 (k + 1) ⟨tv.toArray⟩ ⟨#[]⟩ true o 0 0 f := by
      simp only [shellgameref17_Parse.j2, Bool.false_eq_true, if_false]
    exact ⟨_, e2.trans (j3_bad k _ _ _ _ _ _), rfl⟩
  | some q =>
    obtain ⟨tk, r⟩ := q
    rw [ref_text_some L tk r hr, Option.bind_some]
    have e2 : shellgameref17_Parse.j2 (k + 2) ⟨r.toArray⟩ ⟨tv.toArray⟩ ⟨tk.toArray⟩ true o 0 0 f = shellgameref17_Parse.j3 (k + 1) ⟨tv.toArray⟩ ⟨tk.toArray⟩ (r != []) o 0 0 f := by
      simp only [shellgameref17_Parse.j2, if_true]
      rw [mk_toList]
    cases r with
    | nil =>
      obtain ⟨p, hp, ho⟩ := j3_good k tv tk o f
      exact ⟨p, e2.trans hp, ho⟩
    | cons x y => exact ⟨_, e2.trans (j3_bad k _ _ _ _ _ _), rfl⟩
theorem key_match (o : Int) (r : List UInt8) : (match rdW r with | some (tk, []) => if tk.length ≤ 7 ∧ ([] : List UInt8).length ≤ 7 then Out.ok o 0 tk [] else .long | _ => .form) = decKey o r := by
  unfold decKey
  cases rdW r with
  | none => rfl
  | some q =>
    obtain ⟨t, r2⟩ := q
    cases r2 with
    | nil =>
      show (if t.length ≤ 7 ∧ ([] : List UInt8).length ≤ 7 then Out.ok o 0 t [] else .long) = if t.length ≤ 7 then Out.ok o 0 t [] else .long
      by_cases h : t.length ≤ 7
      · rw [if_pos h, if_pos ⟨h, by decide⟩]
      · rw [if_neg h, if_neg (fun q => h q.1)]
    | cons x y => rfl
theorem ref_parse (k : Nat) (L : List UInt8) : ∃ p, shellgameref17_Parse.f (k + 6) ⟨L.toArray⟩ = some p ∧ outV (Hand.decode L) p := by
  unfold shellgameref17_Parse.f
  cases L with
  | nil =>
    rw [ref_kind_nil, Option.bind_some, if_pos rfl]
    exact ⟨_, rfl, rfl⟩
  | cons c r =>
    rw [ref_kind, Option.bind_some]
    have hx : (⟨(c :: r).toArray⟩ : ByteArray).extract 1 (⟨(c :: r).toArray⟩ : ByteArray).size = ⟨r.toArray⟩ := by
      rw [mk_extract, mk_size]
      refine congrArg (fun l => (⟨List.toArray l⟩ : ByteArray)) ?_
      show r.take _ = r
      rw [List.take_of_length_le]; simp
    have hz : (1 : Int) ≤ ((⟨(c :: r).toArray⟩ : ByteArray).size : Int) := by rw [mk_size]; simp only [List.length_cons]; omega
    rw [hx, decode_cons]
    have key : ∀ o : Int, o ≠ 0 → o ≠ 3 → o < 5 → ∃ p, (if o = 0 then (some (0, 0, 0, 0, 3)) else (if 1 ≤ ((⟨(c :: r).toArray⟩ : ByteArray).size : Int) then (if o = 3 then (if ((⟨r.toArray⟩ : ByteArray).size : Int) < 2 then (some (0, 0, 0, 0, 3)) else (if 0 < ((⟨r.toArray⟩ : ByteArray).size : Int) then (if 1 < ((⟨r.toArray⟩ : ByteArray).size : Int) then (if 2 ≤ ((⟨r.toArray⟩ : ByteArray).size : Int) then ((shellgameref17_text.f ((⟨r.toArray⟩ : ByteArray).extract 2 (⟨r.toArray⟩ : ByteArray).size)).bind fun bt109 => (shellgameref17_Parse.j0 (k + 6) bt109.2.1 bt109.1 (⟨#[]⟩ : ByteArray) bt109.2.2 o 0 0 (wrap64 ((wrap64 (bt ⟨r.toArray⟩ 0)) + (wrap64 (256 * (wrap64 (bt ⟨r.toArray⟩ 1)))))))) else (none)) else (none)) else (none))) else (shellgameref17_Parse.j0 (k + 6) ⟨r.toArray⟩ (⟨#[]⟩ : ByteArray) (⟨#[]⟩ : ByteArray) true o 0 0 0)) else (none))) = some p ∧ outV (decKey o r) p := by
      intro o h0 h3 h5
      rw [if_neg h0, if_pos hz, if_neg h3]
      obtain ⟨p, hp, ho⟩ := j0_key (k + 2) r [] o 0 h5
      rw [key_match] at ho
      exact ⟨p, hp, ho⟩
    by_cases c1 : c = 71
    · rw [if_pos c1, if_pos c1]; exact key 1 (by decide) (by decide) (by decide)
    rw [if_neg c1, if_neg c1]
    by_cases c2 : c = 75
    · rw [if_pos c2, if_pos c2]; exact key 2 (by decide) (by decide) (by decide)
    rw [if_neg c2, if_neg c2]
    by_cases c4 : c = 68
    · have c3 : c ≠ 80 := by rw [c4]; decide
      rw [if_pos c4, if_neg c3, if_pos c4]; exact key 4 (by decide) (by decide) (by decide)
    rw [if_neg c4, if_neg c4]
    by_cases c3 : c = 80
    · rw [if_pos c3, if_pos c3, if_neg (by decide), if_pos hz, if_pos rfl, mk_size]
      match r with
      | [] => exact ⟨_, if_pos (by decide), rfl⟩
      | [_] => exact ⟨_, if_pos (by simp), rfl⟩
      | a :: b :: r =>
        have hx2 : (⟨(a :: b :: r).toArray⟩ : ByteArray).extract 2 (a :: b :: r).length = ⟨r.toArray⟩ := by
          rw [mk_extract]
          refine congrArg (fun l => (⟨List.toArray l⟩ : ByteArray)) ?_
          show r.take _ = r
          rw [List.take_of_length_le]; simp
        have ha := a.toNat_lt
        have hb := b.toNat_lt
        have hf : wrap64 (wrap64 (bt ⟨(a :: b :: r).toArray⟩ 0) + wrap64 (256 * wrap64 (bt ⟨(a :: b :: r).toArray⟩ 1))) = (a.toNat : Int) + 256 * (b.toNat : Int) := by
          rw [show bt ⟨(a :: b :: r).toArray⟩ 0 = (a.toNat : Int) from bt_mk _ 0, show bt ⟨(a :: b :: r).toArray⟩ 1 = (b.toNat : Int) from bt_mk _ 1]
          have hw0 : ∀ x : Int, 0 ≤ x → x ≤ 100000 → wrap64 x = x := by intro x _ _; unfold wrap64; omega
          rw [hw0 (a.toNat : Int) (by omega) (by omega), hw0 (b.toNat : Int) (by omega) (by omega), hw0 (256 * (b.toNat : Int)) (by omega) (by omega), hw0 ((a.toNat : Int) + 256 * (b.toNat : Int)) (by omega) (by omega)]
        have hz2 : ((a :: b :: r).length : Int) = (r.length : Int) + 2 := by simp only [List.length_cons]; omega
        rw [hx2, hf, hz2, if_neg (by omega), if_pos (by omega), if_pos (by omega), if_pos (by omega), decPut_eq]
        cases hr : rdW r with
        | none =>
          rw [ref_text_none r hr, Option.bind_some]
          have e0 : ∀ F : Int, shellgameref17_Parse.j0 (k + 6) ⟨#[]⟩ ⟨#[]⟩ ⟨#[]⟩ false 3 0 0 F = some (0, 0, 0, 0, 3) := by
            intro F
            simp only [shellgameref17_Parse.j0, shellgameref17_Parse.j1, shellgameref17_Parse.j2, shellgameref17_Parse.j3, Bool.false_eq_true, if_false, if_true]
          exact ⟨_, e0 _, rfl⟩
        | some q =>
          obtain ⟨tv, r2⟩ := q
          rw [ref_text_some r tv r2 hr, Option.bind_some]
          obtain ⟨p, hp, ho⟩ := j0_key (k + 2) r2 tv 3 ((a.toNat : Int) + 256 * (b.toNat : Int)) (by decide)
          refine ⟨p, hp, ?_⟩
          show outV (decPut3 a b tv (rdW r2)) p
          cases hr2 : rdW r2 with
          | none => rw [hr2] at ho; exact ho
          | some q =>
            obtain ⟨tk, r3⟩ := q
            rw [hr2] at ho
            cases r3 with
            | nil => exact ho
            | cons x y => exact ho
    rw [if_neg c3, if_neg c3]
    by_cases c5 : c = 76
    · rw [if_pos c5, if_pos c5, if_neg (by decide), if_pos hz, if_neg (by decide)]
      have e0 : shellgameref17_Parse.j0 (k + 6) ⟨r.toArray⟩ ⟨#[]⟩ ⟨#[]⟩ true 5 0 0 0 = shellgameref17_Parse.j3 (k + 3) ⟨([] : List UInt8).toArray⟩ ⟨([] : List UInt8).toArray⟩ (r != []) 5 0 0 0 := by
        have : decide ((5 : Int) < 5) = false := by decide
        simp only [shellgameref17_Parse.j0, shellgameref17_Parse.j1, shellgameref17_Parse.j2, this, Bool.false_eq_true, if_false, if_true]
        rw [mk_toList]
      rw [e0]
      cases r with
      | nil =>
        obtain ⟨p, hp, ho⟩ := j3_good (k + 2) [] [] 5 0
        exact ⟨p, hp, ho⟩
      | cons x y => exact ⟨_, j3_bad (k + 2) _ _ _ _ _ _, rfl⟩
    · rw [if_neg c5, if_neg c5, if_pos rfl]
      exact ⟨_, rfl, rfl⟩
/-! ### the reference's Right and Bytes -/
theorem ref_packed (n : Int) (h0 : 0 ≤ n) (h1 : n ≤ 18446744073709551615) : ∃ r, pack_Right.f n = some r ∧ shellgameref17_packed.f n = some r := by
  unfold shellgameref17_packed.f shellgameref4_Text.f
  rcases text_cases n h0 h1 with ⟨t, hK, _, _, rK⟩ | ⟨hK, rK⟩
  · exact ⟨true, rK, by rw [hK]; rfl⟩
  · exact ⟨false, rK, by rw [hK]; rfl⟩
theorem ref_right_no (k : Nat) (o K V f : Int) : shellgameref17_Right.j0 (k + 1) true o K V f = some false := by
  simp only [shellgameref17_Right.j0, if_true]
theorem ref_right (k : Nat) (o K V f : Int) (hK0 : 0 ≤ K) (hK1 : K ≤ 18446744073709551615) (hV0 : 0 ≤ V) (hV1 : V ≤ 18446744073709551615) : shellgameref17_Right.f (k + 1) o K V f = op_Right.f o K V f := by
  obtain ⟨rk, p1, q1⟩ := ref_packed K hK0 hK1
  obtain ⟨rv, p2, q2⟩ := ref_packed V hV0 hV1
  unfold op_Right.f
  rw [p1, p2, Option.bind_some, Option.bind_some]
  have good : shellgameref17_Right.j0 (k + 1) false o K V f = some (rk && rv) := by
    simp only [shellgameref17_Right.j0, Bool.false_eq_true, if_false]
    rw [q1, q2]
    cases rk <;> rfl
  have bad := ref_right_no k o K V f
  have mid : ∀ b : Bool, shellgameref17_Right.j0 (k + 1) b o K V f = some (!b && (rk && rv)) := by
    intro b
    cases b
    · rw [good]; rfl
    · rw [bad]; rfl
  unfold shellgameref17_Right.f rightOp
  simp only [mid]
  by_cases a1 : o < 1
  · rw [if_pos a1, if_neg (by omega), if_neg (by omega), if_neg (by omega)]; rfl
  rw [if_neg a1]
  by_cases a2 : o > 5
  · rw [if_pos a2, if_neg (by omega), if_neg (by omega), if_neg (by omega)]; rfl
  rw [if_neg a2]
  by_cases b1 : f < 0
  · rw [if_pos b1]
    have hf : (f == 0) = false := by simp; omega
    rw [decide_eq_false (by omega), hf]
    simp
  rw [if_neg b1]
  by_cases b2 : f > 65535
  · rw [if_pos b2]
    have hf : (f == 0) = false := by simp; omega
    rw [decide_eq_false (p := f ≤ 65535) (by omega), hf]
    simp
  rw [if_neg b2, decide_eq_true (by omega), decide_eq_true (p := f ≤ 65535) (by omega)]
  by_cases a5 : o = 5
  · subst a5
    rw [if_pos rfl]
    by_cases k0 : K = 0
    · rw [if_pos k0]
      by_cases v0 : V = 0
      · simp [k0, v0, bne]
      · simp [k0, v0]
    · rw [if_neg k0]
      simp [k0]
  rw [if_neg a5]
  by_cases a3 : o = 3
  · rw [if_pos a3, if_pos a3]; simp
  · rw [if_neg a3, if_neg a3, if_pos (show o = 1 ∨ o = 2 ∨ o = 4 by omega)]
    by_cases v0 : V = 0
    · rw [if_pos v0, v0]
      simp [bne]
    · rw [if_neg v0]
      simp [v0]
theorem sn1 (n : Nat) (h : n ≤ 255) : strOfNums [(n : Int) % 256] = ⟨[UInt8.ofNat n].toArray⟩ := by
  have : ((n : Int) % 256).toNat = n := by omega
  unfold strOfNums
  simp only [List.map_cons, List.map_nil]
  rw [this]
theorem ref_counted {n : Int} {t : ByteArray} (h : pack_Text.f n = some (t, 0)) (hs : t.size ≤ 7) : shellgameref17_counted.f n = some ⟨(cntL t.data.toList).toArray⟩ := by
  unfold shellgameref17_counted.f shellgameref4_Text.f
  rw [h, Option.bind_some, Option.bind_some, sn1 _ (by show t.size ≤ 255; omega)]
  rw [if_pos (by rw [mk_size]; show 1 + t.size ≤ _; omega), app_mk']
  unfold cntL
  rw [size_list]
  rfl
theorem letK_of (o : Int) (h : o = 1 ∨ o = 2 ∨ o = 4) : (⟨#[32, 71, 75, 80, 68, 76]⟩ : ByteArray).extract (o : Int).toNat ((wrap64 (o + 1)) : Int).toNat = ⟨[letK o].toArray⟩ := by
  obtain rfl | rfl | rfl := h
  · rw [show wrap64 (1 + 1) = 2 from by unfold wrap64; rfl]; exact ba_ext (by rw [Lib.extract_data]; rfl)
  · rw [show wrap64 (2 + 1) = 3 from by unfold wrap64; rfl]; exact ba_ext (by rw [Lib.extract_data]; rfl)
  · rw [show wrap64 (4 + 1) = 5 from by unfold wrap64; rfl]; exact ba_ext (by rw [Lib.extract_data]; rfl)
theorem let_put : (⟨#[32, 71, 75, 80, 68, 76]⟩ : ByteArray).extract (3 : Int).toNat ((wrap64 (3 + 1)) : Int).toNat = ⟨[(80 : UInt8)].toArray⟩ := by
  rw [show wrap64 (3 + 1) = 4 from by unfold wrap64; rfl]; exact ba_ext (by rw [Lib.extract_data]; rfl)
theorem let_len : (⟨#[32, 71, 75, 80, 68, 76]⟩ : ByteArray).extract (5 : Int).toNat ((wrap64 (5 + 1)) : Int).toNat = ⟨[(76 : UInt8)].toArray⟩ := by
  rw [show wrap64 (5 + 1) = 6 from by unfold wrap64; rfl]; exact ba_ext (by rw [Lib.extract_data]; rfl)
theorem sn2 (f : Int) (h0 : 0 ≤ f) (h1 : f ≤ 65535) : strOfNums [(Int.tmod f 256) % 256, (wrap64 (Int.tdiv f 256)) % 256] = ⟨[UInt8.ofNat (f % 256).toNat, UInt8.ofNat (f / 256).toNat].toArray⟩ := by
  have e1 : (Int.tmod f 256) % 256 = f % 256 := by rw [Int.tmod_eq_emod_of_nonneg h0]; omega
  have e2 : (wrap64 (Int.tdiv f 256)) % 256 = f / 256 := by rw [Int.tdiv_eq_ediv_of_nonneg h0]; unfold wrap64; omega
  rw [e1, e2]
  rfl
theorem ref_bytes (k : Nat) (o K V f : Int) (hK0 : 0 ≤ K) (hK1 : K ≤ 18446744073709551615) (hV0 : 0 ≤ V) (hV1 : V ≤ 18446744073709551615) : shellgameref17_Bytes.f (k + 1) o K V f = op_Bytes.f o K V f := by
  unfold shellgameref17_Bytes.f
  rw [ref_right k o K V f hK0 hK1 hV0 hV1]
  rcases op_cases o K V f hK0 hK1 hV0 hV1 with ⟨tk, tv, A, hr⟩ | ⟨hb, hr⟩
  · rw [A.bytes, hr, Option.bind_some, if_pos rfl]
    have sk := A.sk; have sv := A.sv
    have ck := ref_counted A.hK A.sk
    have cv := ref_counted A.hV A.sv
    have lk : (cntL tk.data.toList).length ≤ 8 := by unfold cntL; rw [List.length_cons, size_list]; omega
    have lv : (cntL tv.data.toList).length ≤ 8 := by unfold cntL; rw [List.length_cons, size_list]; omega
    rcases right_cases A.right with ⟨rfl, h0, h1⟩ | ⟨h, rfl, rfl⟩ | ⟨rfl, rfl, rfl, rfl⟩
    · rw [if_pos (by decide), if_pos (by unfold wrap64; omega), if_pos (by unfold wrap64; omega), if_pos rfl, Option.bind_some, sn2 f h0 h1, let_put, app_mk, cv, ck]
      rw [if_pos (by show 1 + 2 ≤ 9223372036854775807; decide), Option.bind_some, app_mk, if_pos (by rw [mk_size, mk_size]; simp only [List.length_append, List.length_cons, List.length_nil]; omega), if_pos (by decide), Option.bind_some, app_mk,
        if_pos (by rw [mk_size, mk_size]; simp only [List.length_append, List.length_cons, List.length_nil]; omega), bytesOp_put]
      simp
    · have hw : wrap64 (o + 1) = o + 1 := by unfold wrap64; omega
      rw [if_pos (by omega), if_pos (by rw [hw]; omega), if_pos (by rw [hw]; omega), if_neg (by omega), if_pos (by omega), ck, letK_of o h, Option.bind_some, app_mk, if_pos (by rw [mk_size, mk_size]; simp only [List.length_cons, List.length_nil]; omega), bytesOp_key o 0 h]
      rfl
    · rw [if_pos (by decide), if_pos (by unfold wrap64; omega), if_pos (by unfold wrap64; omega), if_neg (by decide), if_neg (by decide), let_len, bytesOp_len]
  · rw [hb, hr, Option.bind_some, if_neg (by decide)]
    rfl
end OpBytesAid
open OpBytesAid
theorem OpBytes : shellgamelaw17_OpBytes.Pure := by
  intro o K V f s _ h1 h2 _ _
  have d1 := bounds_u64 h1
  have d2 := bounds_u64 h2
  refine ⟨7, ?_⟩
  unfold shellgamelaw17_OpBytes.f
  rw [shown_true, Option.bind_some, if_pos rfl]
  by_cases c0 : (s.size : Int) > 2000
  · rw [decide_eq_true c0]
    simp only [shellgamelaw17_OpBytes.j0, if_true]
  · rw [decide_eq_false c0]
    simp only [shellgamelaw17_OpBytes.j0, Bool.false_eq_true, if_false]
    obtain ⟨p, hp, ho⟩ := parse_decode s
    obtain ⟨q, hq, hs⟩ := ref_parse 0 s.data.toList
    have hq' : shellgameref17_Parse.f 6 s = some q := hq
    obtain rfl := outV_one ho hs
    obtain ⟨r, hr⟩ : ∃ r, op_Right.f o K V f = some r := by
      rcases op_cases o K V f d1.1 d1.2 d2.1 d2.2 with ⟨_, _, _, h⟩ | ⟨_, h⟩
      · exact ⟨_, h⟩
      · exact ⟨_, h⟩
    obtain ⟨b, hb⟩ : ∃ b, op_Bytes.f o K V f = some b := by
      rcases op_cases o K V f d1.1 d1.2 d2.1 d2.2 with ⟨_, _, A, _⟩ | ⟨h, _⟩
      · exact ⟨_, A.bytes⟩
      · exact ⟨_, h⟩
    have has : ∀ a b c d : Int, shellgamelaw17_as.f a b c d = some (a, b, c, d) := fun _ _ _ _ => rfl
    have hr' := (ref_right 5 o K V f d1.1 d1.2 d2.1 d2.2).trans hr
    have hb' := (ref_bytes 5 o K V f d1.1 d1.2 d2.1 d2.2).trans hb
    rw [hp, hq', hr, has, Option.bind_some, Option.bind_some, Option.bind_some, Option.bind_some]
    show (shellgameref17_Right.f 6 o K V f).bind _ = _
    rw [hr', Option.bind_some, if_pos (by simp), hb, Option.bind_some, Option.bind_some]
    show (shellgameref17_Bytes.f 6 o K V f).bind _ = _
    rw [hb', Option.bind_some, if_pos rfl, has, Option.bind_some]
    obtain ⟨p1, p2, p3, p4, p5⟩ := p
    simp
end Go.Proofs.Ytinfbkfdkpjdiaa.Pure
