/- Plain facts on what bytes tell: a right operation's bytes tell that operation; with a byte less, or one more, they tell none; and what tells an operation are that one's bytes. -/
import Derived.Test.YtinfbkfdkpjdiaaParseFacts
namespace Go.Proofs.Ytinfbkfdkpjdiaa.Hand
open Go.RowKit Go.Proofs.YtinfbkfdkpjdiaaW.PrintWords Go.Proofs.YtinfbkfdkpjdiaaW.PrintLast Go.Proofs.YtinfbkfdkpjdiaaW.PrintMore
set_option linter.unusedVariables false

/-- a text's bytes, how many there are ahead -/
def cntL (t : List UInt8) : List UInt8 := UInt8.ofNat t.length :: t
theorem cnt_cntL (t : ByteArray) : cnt t = cntL t.data.toList := by unfold cnt cntL; rw [size_list]
theorem rdW_cnt (t r : List UInt8) (h : t.length < 256) : rdW (cntL t ++ r) = some (t, r) := by
  unfold cntL
  rw [List.cons_append, rdW_cons, ofNat_toNat _ h, if_neg (by rw [List.length_append]; omega), List.take_left, List.drop_left]
theorem rdW_one (t : List UInt8) (h : t.length < 256) : rdW (cntL t) = some (t, []) := by
  have := rdW_cnt t [] h
  rwa [List.append_nil] at this
theorem rdW_less (t : List UInt8) (h : t.length < 256) : rdW (cntL t).dropLast = none := by
  cases t with
  | nil => rfl
  | cons c t =>
    have e : (cntL (c :: t)).dropLast = UInt8.ofNat (t.length + 1) :: (c :: t).dropLast := rfl
    rw [e, rdW_cons, ofNat_toNat _ (by simpa using h), if_pos (by rw [List.length_dropLast]; simp)]
theorem rdW_inv {L t r : List UInt8} (h : rdW L = some (t, r)) : L = cntL t ++ r ∧ t.length < 256 := by
  cases L with
  | nil => exact absurd h (by simp [rdW])
  | cons n L =>
    rw [rdW_cons] at h
    have hn := n.toNat_lt
    by_cases hl : L.length < n.toNat
    · rw [if_pos hl] at h; exact absurd h (by simp)
    · rw [if_neg hl] at h
      obtain ⟨rfl, rfl⟩ := Prod.mk.inj (Option.some.inj h)
      have hz : (List.take n.toNat L).length = n.toNat := by rw [List.length_take]; omega
      refine ⟨?_, by omega⟩
      unfold cntL
      rw [hz, List.cons_append, List.take_append_drop]
      congr 1
      exact (UInt8.ofNat_toNat).symm
theorem cntL_ne (t : List UInt8) : cntL t ≠ [] := by unfold cntL; simp
theorem dropLast_app (x y : List UInt8) (h : y ≠ []) : (x ++ y).dropLast = x ++ y.dropLast := List.dropLast_append_of_ne_nil h

theorem dec_g (r : List UInt8) : decode (71 :: r) = decKey 1 r := rfl
theorem dec_k (r : List UInt8) : decode (75 :: r) = decKey 2 r := rfl
theorem dec_d (r : List UInt8) : decode (68 :: r) = decKey 4 r := rfl
theorem dec_p (r : List UInt8) : decode (80 :: r) = decPut r := rfl
theorem decPut_eq (a b : UInt8) (r : List UInt8) : decPut (a :: b :: r) = decPut2 a b (rdW r) := rfl

/-- the letter of a kind that has a key alone -/
def letK (o : Int) : UInt8 := if o = 1 then 71 else if o = 2 then 75 else 68
theorem dec_let (o : Int) (h : o = 1 ∨ o = 2 ∨ o = 4) (r : List UInt8) : decode (letK o :: r) = decKey o r := by
  obtain rfl | rfl | rfl := h <;> rfl
theorem bytesOp_key (o f : Int) (h : o = 1 ∨ o = 2 ∨ o = 4) (tk tv : ByteArray) : bytesOp o f tk tv = letK o :: cntL tk.data.toList := by
  unfold bytesOp letK
  rw [cnt_cntL]
  obtain rfl | rfl | rfl := h <;> rfl
theorem bytesOp_put (f : Int) (tk tv : ByteArray) : bytesOp 3 f tk tv = 80 :: UInt8.ofNat (f % 256).toNat :: UInt8.ofNat (f / 256).toNat :: (cntL tv.data.toList ++ cntL tk.data.toList) := by
  unfold bytesOp
  rw [if_pos rfl, cnt_cntL, cnt_cntL]
theorem bytesOp_len (f : Int) (tk tv : ByteArray) : bytesOp 5 f tk tv = [76] := by
  unfold bytesOp
  rw [if_neg (by decide), if_pos rfl]

/-- a key alone -/
theorem dec_key (o : Int) (h : o = 1 ∨ o = 2 ∨ o = 4) (t : List UInt8) (ht : t.length < 256) : decode (letK o :: cntL t) = if t.length ≤ 7 then .ok o 0 t [] else .long := by
  rw [dec_let o h]
  unfold decKey
  rw [rdW_one t ht]
  rfl
theorem dec_key_less (o : Int) (h : o = 1 ∨ o = 2 ∨ o = 4) (t : List UInt8) (ht : t.length < 256) : decode (letK o :: cntL t).dropLast = .form := by
  rw [show (letK o :: cntL t).dropLast = letK o :: (cntL t).dropLast from dropLast_app [letK o] _ (cntL_ne t), dec_let o h]
  unfold decKey
  rw [rdW_less t ht]
  rfl
theorem dec_key_more (o : Int) (h : o = 1 ∨ o = 2 ∨ o = 4) (t : List UInt8) (ht : t.length < 256) (c : UInt8) : decode ((letK o :: cntL t) ++ [c]) = .form := by
  rw [List.cons_append, dec_let o h]
  unfold decKey
  rw [rdW_cnt t [c] ht]
  rfl
/-- a Put -/
theorem dec_put (a b : UInt8) (tv tk : List UInt8) (hv : tv.length < 256) (hk : tk.length < 256) : decode (80 :: a :: b :: (cntL tv ++ cntL tk)) = if tk.length ≤ 7 ∧ tv.length ≤ 7 then .ok 3 ((a.toNat : Int) + 256 * (b.toNat : Int)) tk tv else .long := by
  rw [dec_p, decPut_eq, rdW_cnt tv _ hv]
  show decPut3 a b tv (rdW (cntL tk)) = _
  rw [rdW_one tk hk]
  rfl
theorem dec_put_less (a b : UInt8) (tv tk : List UInt8) (hv : tv.length < 256) (hk : tk.length < 256) : decode (80 :: a :: b :: (cntL tv ++ cntL tk)).dropLast = .form := by
  rw [show (80 :: a :: b :: (cntL tv ++ cntL tk)).dropLast = 80 :: a :: b :: (cntL tv ++ (cntL tk).dropLast) from by
    have := dropLast_app (80 :: a :: b :: cntL tv) (cntL tk) (cntL_ne tk)
    simpa using this]
  rw [dec_p, decPut_eq, rdW_cnt tv _ hv]
  show decPut3 a b tv (rdW (cntL tk).dropLast) = _
  rw [rdW_less tk hk]
  rfl
theorem dec_put_more (a b : UInt8) (tv tk : List UInt8) (hv : tv.length < 256) (hk : tk.length < 256) (c : UInt8) : decode ((80 :: a :: b :: (cntL tv ++ cntL tk)) ++ [c]) = .form := by
  rw [show (80 :: a :: b :: (cntL tv ++ cntL tk)) ++ [c] = 80 :: a :: b :: (cntL tv ++ (cntL tk ++ [c])) from by simp]
  rw [dec_p, decPut_eq, rdW_cnt tv _ hv]
  show decPut3 a b tv (rdW (cntL tk ++ [c])) = _
  rw [rdW_cnt tk _ hk]
  rfl

theorem word_len {t : ByteArray} {W : Int} (h : pack_Word.f t = some (W, 0)) : t.size ≤ 7 := by
  unfold pack_Word.f at h
  by_cases c : t.size ≤ 7
  · exact c
  · rw [if_neg c] at h
    exact absurd (Prod.mk.inj (Option.some.inj h)).2 (by decide)
theorem mk_data (l : List UInt8) : (⟨l.toArray⟩ : ByteArray).data.toList = l := by simp
theorem mk_back (t : ByteArray) : (⟨t.data.toList.toArray⟩ : ByteArray) = t := rfl
theorem word_zero_text {V : Int} (h : pack_Word.f ⟨([] : List UInt8).toArray⟩ = some (V, 0)) : V = 0 := word_one h word_empty

/-- a right operation's bytes, read -/
theorem parse_back {o K V f : Int} {tk tv : ByteArray} (A : Opn o K V f tk tv) : op_Parse.f ⟨(bytesOp o f tk tv).toArray⟩ = some (o, K, V, f, 0) := by
  obtain ⟨p, hp, ho⟩ := parse_decode ⟨(bytesOp o f tk tv).toArray⟩
  rw [hp]
  rw [mk_data] at ho
  have sk := A.sk; have sv := A.sv
  have lk : tk.data.toList.length ≤ 7 := by rw [size_list]; exact sk
  have lv : tv.data.toList.length ≤ 7 := by rw [size_list]; exact sv
  rcases right_cases A.right with ⟨rfl, h0, h1⟩ | ⟨h, rfl, rfl⟩ | ⟨rfl, rfl, rfl, rfl⟩
  · rw [bytesOp_put, dec_put _ _ _ _ (by omega) (by omega), if_pos ⟨lk, lv⟩] at ho
    obtain ⟨_, _, K', V', e1, e2, rfl⟩ := ho
    rw [mk_back] at e1 e2
    rw [word_one e1 A.wK, word_one e2 A.wV, ofNat_toNat _ (by omega), ofNat_toNat _ (by omega)]
    have : ((f % 256).toNat : Int) + 256 * ((f / 256).toNat : Int) = f := by omega
    rw [this]
  · rw [bytesOp_key o 0 h, dec_key o h _ (by omega), if_pos lk] at ho
    obtain ⟨_, _, K', V', e1, e2, rfl⟩ := ho
    rw [mk_back] at e1
    rw [word_one e1 A.wK, word_zero_text e2]
  · rw [bytesOp_len] at ho
    obtain ⟨_, _, K', V', e1, e2, rfl⟩ := ho
    rw [word_zero_text e1, word_zero_text e2]
theorem parse_form {L : List UInt8} (h : decode L = .form) : op_Parse.f ⟨L.toArray⟩ = some (0, 0, 0, 0, 3) := by
  obtain ⟨p, hp, ho⟩ := parse_decode ⟨L.toArray⟩
  rw [mk_data, h] at ho
  rw [hp]
  exact congrArg some ho
theorem parse_less {o K V f : Int} {tk tv : ByteArray} (A : Opn o K V f tk tv) : op_Parse.f ⟨((bytesOp o f tk tv).dropLast).toArray⟩ = some (0, 0, 0, 0, 3) := by
  refine parse_form ?_
  have lk : tk.data.toList.length ≤ 7 := by rw [size_list]; exact A.sk
  have lv : tv.data.toList.length ≤ 7 := by rw [size_list]; exact A.sv
  rcases right_cases A.right with ⟨rfl, h0, h1⟩ | ⟨h, rfl, rfl⟩ | ⟨rfl, rfl, rfl, rfl⟩
  · rw [bytesOp_put, dec_put_less _ _ _ _ (by omega) (by omega)]
  · rw [bytesOp_key o 0 h, dec_key_less o h _ (by omega)]
  · rw [bytesOp_len]; rfl
theorem parse_more {o K V f : Int} {tk tv : ByteArray} (A : Opn o K V f tk tv) (c : UInt8) : op_Parse.f ⟨((bytesOp o f tk tv) ++ [c]).toArray⟩ = some (0, 0, 0, 0, 3) := by
  refine parse_form ?_
  have lk : tk.data.toList.length ≤ 7 := by rw [size_list]; exact A.sk
  have lv : tv.data.toList.length ≤ 7 := by rw [size_list]; exact A.sv
  rcases right_cases A.right with ⟨rfl, h0, h1⟩ | ⟨h, rfl, rfl⟩ | ⟨rfl, rfl, rfl, rfl⟩
  · rw [bytesOp_put, dec_put_more _ _ _ _ (by omega) (by omega)]
  · rw [bytesOp_key o 0 h, dec_key_more o h _ (by omega)]
  · rw [bytesOp_len]; rfl

/-- what tells an operation are that one's bytes -/
theorem decKey_ok {o o' f : Int} {r tk tv : List UInt8} (h : decKey o r = .ok o' f tk tv) : o' = o ∧ f = 0 ∧ tv = [] ∧ r = cntL tk ∧ tk.length ≤ 7 := by
  unfold decKey at h
  cases hr : rdW r with
  | none => rw [hr] at h; exact absurd h (by simp [decKey2])
  | some p =>
    obtain ⟨t, r2⟩ := p
    rw [hr] at h
    cases r2 with
    | cons x y => exact absurd h (by simp [decKey2])
    | nil =>
      have h' : (if t.length ≤ 7 then Out.ok o 0 t [] else .long) = .ok o' f tk tv := h
      by_cases c : t.length ≤ 7
      · rw [if_pos c] at h'
        injection h' with h1 h2 h3 h4
        subst h1; subst h2; subst h3; subst h4
        have := (rdW_inv hr).1
        rw [List.append_nil] at this
        exact ⟨rfl, rfl, rfl, this, c⟩
      · rw [if_neg c] at h'; exact absurd h' (by simp)
theorem decPut_ok {o' f : Int} {r tk tv : List UInt8} (h : decPut r = .ok o' f tk tv) : ∃ a b : UInt8, o' = 3 ∧ f = (a.toNat : Int) + 256 * (b.toNat : Int) ∧ r = a :: b :: (cntL tv ++ cntL tk) ∧ tk.length ≤ 7 ∧ tv.length ≤ 7 := by
  match r, h with
  | [], h => exact absurd h (by simp [decPut])
  | [_], h => exact absurd h (by simp [decPut])
  | a :: b :: r, h =>
    rw [decPut_eq] at h
    cases hr : rdW r with
    | none => rw [hr] at h; exact absurd h (by simp [decPut2])
    | some p =>
      obtain ⟨v, r2⟩ := p
      rw [hr] at h
      have h' : decPut3 a b v (rdW r2) = .ok o' f tk tv := h
      cases hr2 : rdW r2 with
      | none => rw [hr2] at h'; exact absurd h' (by simp [decPut3])
      | some q =>
        obtain ⟨k, r3⟩ := q
        rw [hr2] at h'
        cases r3 with
        | cons x y => exact absurd h' (by simp [decPut3])
        | nil =>
          have h2 : (if k.length ≤ 7 ∧ v.length ≤ 7 then Out.ok 3 ((a.toNat : Int) + 256 * (b.toNat : Int)) k v else .long) = .ok o' f tk tv := h'
          by_cases c : k.length ≤ 7 ∧ v.length ≤ 7
          · rw [if_pos c] at h2
            injection h2 with h3 h4 h5 h6
            subst h3; subst h4; subst h5; subst h6
            have e1 := (rdW_inv hr).1
            have e2 := (rdW_inv hr2).1
            rw [List.append_nil] at e2
            exact ⟨a, b, rfl, rfl, by rw [e1, e2], c.1, c.2⟩
          · rw [if_neg c] at h2; exact absurd h2 (by simp)
theorem opn_of (o K V f : Int) (tk tv : ByteArray) (wK : pack_Word.f tk = some (K, 0)) (wV : pack_Word.f tv = some (V, 0)) (hr : rightOp o K V f true true = true) : Opn o K V f tk tv := by
  obtain ⟨K', w1, _, _, _, x1, r1, _⟩ := word_some tk (word_len wK)
  obtain ⟨V', w2, _, _, _, x2, r2, _⟩ := word_some tv (word_len wV)
  rw [word_one w1 wK] at x1 r1
  rw [word_one w2 wV] at x2 r2
  exact ⟨x1, r1, x2, r2, wK, wV, word_len wK, word_len wV, hr⟩
/-- an operation that was read is right, and has those bytes -/
theorem decode_opn {L : List UInt8} {o f K V : Int} {tk tv : List UInt8} (h : decode L = .ok o f tk tv) (wK : pack_Word.f ⟨tk.toArray⟩ = some (K, 0)) (wV : pack_Word.f ⟨tv.toArray⟩ = some (V, 0)) :
    Opn o K V f ⟨tk.toArray⟩ ⟨tv.toArray⟩ ∧ bytesOp o f ⟨tk.toArray⟩ ⟨tv.toArray⟩ = L := by
  cases L with
  | nil => exact absurd h (by simp [decode])
  | cons c r =>
    have key : ∀ o₀ : Int, (o₀ = 1 ∨ o₀ = 2 ∨ o₀ = 4) → decKey o₀ r = .ok o f tk tv → Opn o K V f ⟨tk.toArray⟩ ⟨tv.toArray⟩ ∧ bytesOp o f ⟨tk.toArray⟩ ⟨tv.toArray⟩ = letK o₀ :: r := by
      intro o₀ ho hk
      obtain ⟨rfl, rfl, rfl, rfl, h7⟩ := decKey_ok hk
      obtain rfl := word_zero_text wV
      refine ⟨opn_of _ _ _ _ _ _ wK wV ?_, ?_⟩
      · unfold rightOp
        obtain rfl | rfl | rfl := ho <;> rfl
      · rw [bytesOp_key _ _ ho, mk_data]
    rw [decode_cons] at h
    by_cases c1 : c = 71
    · subst c1
      rw [if_pos rfl] at h
      exact key 1 (.inl rfl) h
    rw [if_neg c1] at h
    by_cases c2 : c = 75
    · subst c2
      rw [if_pos rfl] at h
      exact key 2 (.inr (.inl rfl)) h
    rw [if_neg c2] at h
    by_cases c4 : c = 68
    · subst c4
      rw [if_pos rfl] at h
      exact key 4 (.inr (.inr rfl)) h
    rw [if_neg c4] at h
    by_cases c3 : c = 80
    · subst c3
      rw [if_pos rfl] at h
      obtain ⟨a, b, rfl, rfl, rfl, h7, h8⟩ := decPut_ok h
      have ha := a.toNat_lt
      have hb := b.toNat_lt
      refine ⟨opn_of _ _ _ _ _ _ wK wV ?_, ?_⟩
      · unfold rightOp
        rw [if_pos rfl, decide_eq_true (by omega), decide_eq_true (by omega)]
        rfl
      · rw [bytesOp_put, mk_data, mk_data]
        have e1 : (((a.toNat : Int) + 256 * (b.toNat : Int)) % 256).toNat = a.toNat := by omega
        have e2 : (((a.toNat : Int) + 256 * (b.toNat : Int)) / 256).toNat = b.toNat := by omega
        rw [e1, e2, UInt8.ofNat_toNat, UInt8.ofNat_toNat]
    rw [if_neg c3] at h
    by_cases c5 : c = 76
    · subst c5
      rw [if_pos rfl] at h
      by_cases hr : r = []
      · rw [if_pos hr] at h
        injection h with h1 h2 h3 h4
        subst h1; subst h2; subst h3; subst h4; subst hr
        obtain rfl := word_zero_text wK
        obtain rfl := word_zero_text wV
        refine ⟨opn_of _ _ _ _ _ _ wK wV rfl, ?_⟩
        rw [bytesOp_len]
      · rw [if_neg hr] at h; exact absurd h (by simp)
    · rw [if_neg c5] at h; exact absurd h (by simp)

theorem opn_right {o K V f : Int} {tk tv : ByteArray} (A : Opn o K V f tk tv) : op_Right.f o K V f = some true := by
  unfold op_Right.f
  rw [A.rK, A.rV, Option.bind_some, Option.bind_some, A.right]
end Go.Proofs.Ytinfbkfdkpjdiaa.Hand
