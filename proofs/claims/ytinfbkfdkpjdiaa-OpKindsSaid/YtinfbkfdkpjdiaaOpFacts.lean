/- Plain facts on an operation's bytes: what each byte is; that none are the beginning of another one's. No program in sight but for the contracts' own functions. -/
import Derived.Test.YtinfbkfdkpjdiaaOpBytes
import Derived.Test.YtinfbkfdkpjdiaaWordFacts
import Derived.Test.YtinfbkfdkpjdiaaRefText
namespace Go.Proofs.Ytinfbkfdkpjdiaa.Hand
open Go.RowKit Go.Proofs.YtinfbkfdkpjdiaaW.PrintWords Go.Proofs.YtinfbkfdkpjdiaaW.PrintLast Go.Proofs.YtinfbkfdkpjdiaaW.PrintMore
set_option linter.unusedVariables false

theorem mk_list (s : ByteArray) : (⟨s.data.toList.toArray⟩ : ByteArray) = s := rfl
theorem mk_size (l : List UInt8) : (⟨l.toArray⟩ : ByteArray).size = l.length := by simp [ByteArray.size]
theorem mk_toList (l : List UInt8) : (⟨l.toArray⟩ : ByteArray).toList = l := by rw [Lib.toList_data]
theorem empty_toList : ByteArray.empty.toList = [] := by rw [Lib.toList_data]; rfl
theorem bt_mk (l : List UInt8) (i : Nat) : bt ⟨l.toArray⟩ (i : Int) = ((l[i]?.getD 0).toNat : Int) := by
  unfold bt
  rw [Int.toNat_natCast]
  by_cases h : i < (⟨l.toArray⟩ : ByteArray).size
  · rw [dif_pos h]
    have h' : i < l.length := by rw [mk_size] at h; exact h
    rw [List.getElem?_eq_getElem h', Option.getD_some]
    rfl
  · rw [dif_neg h]
    have h' : l.length ≤ i := by rw [mk_size] at h; omega
    rw [List.getElem?_eq_none h']
    rfl
theorem cnt_length (t : ByteArray) : (cnt t).length = t.size + 1 := by simp [cnt]
theorem ofNat_toNat (n : Nat) (h : n < 256) : (UInt8.ofNat n).toNat = n := by rw [UInt8.toNat_ofNat']; omega

theorem right_ranges {n : Int} {r : Bool} (h : pack_Right.f n = some r) : 0 ≤ n ∧ n ≤ 18446744073709551615 := by
  unfold pack_Right.f at h
  by_cases h0 : 0 ≤ n
  · rw [if_pos h0] at h
    by_cases h1 : n ≤ 18446744073709551615
    · exact ⟨h0, h1⟩
    · rw [if_neg h1] at h; exact absurd h (by simp)
  · rw [if_neg h0] at h; exact absurd h (by simp)
theorem bytes_right (o f K V : Int) (tk tv : ByteArray) (hK : pack_Text.f K = some (tk, 0)) (rK : pack_Right.f K = some true) (hV : pack_Text.f V = some (tv, 0)) (rV : pack_Right.f V = some true) :
    op_Bytes.f o K V f = if rightOp o K V f true true = true then some ⟨(bytesOp o f tk tv).toArray⟩ else some ByteArray.empty := by
  unfold op_Bytes.f op_Right.f
  rw [rK, rV, hK, hV]
  rfl

/-- the bytes of a Put, one by one -/
theorem puts_facts (f : Int) (h0 : 0 ≤ f) (h1 : f ≤ 65535) (tk tv : ByteArray) (hk : tk.size ≤ 7) (hv : tv.size ≤ 7) : ∃ t : ByteArray, (⟨(bytesOp 3 f tk tv).toArray⟩ : ByteArray) = t ∧ t.size = 5 + tv.size + tk.size ∧ bt t 0 = 80 ∧ bt t 1 = f % 256 ∧ bt t 2 = f / 256 ∧ bt t 3 = tv.size ∧
    (t.extract 4 (4 + tv.size)).toList = tv.toList ∧ bt t ((4 + tv.size : Nat) : Int) = tk.size ∧ (t.extract (5 + tv.size) t.size).toList = tk.toList := by
  have e : bytesOp 3 f tk tv = 80 :: UInt8.ofNat (f % 256).toNat :: UInt8.ofNat (f / 256).toNat :: (cnt tv ++ cnt tk) := by unfold bytesOp; rw [if_pos rfl]
  rw [e]
  have hz : (80 :: UInt8.ofNat (f % 256).toNat :: UInt8.ofNat (f / 256).toNat :: (cnt tv ++ cnt tk)).length = 5 + tv.size + tk.size := by
    simp only [List.length_cons, List.length_append, cnt_length]; omega
  refine ⟨_, rfl, by rw [mk_size, hz], bt_mk _ 0, ?_, ?_, ?_, ?_, ?_, ?_⟩
  · rw [show (1 : Int) = ((1 : Nat) : Int) from rfl, bt_mk]
    simp only [List.getElem?_cons_succ, List.getElem?_cons_zero, Option.getD_some]
    rw [ofNat_toNat _ (by omega)]; omega
  · rw [show (2 : Int) = ((2 : Nat) : Int) from rfl, bt_mk]
    simp only [List.getElem?_cons_succ, List.getElem?_cons_zero, Option.getD_some]
    rw [ofNat_toNat _ (by omega)]; omega
  · rw [show (3 : Int) = ((3 : Nat) : Int) from rfl, bt_mk]
    simp only [List.getElem?_cons_succ, List.getElem?_cons_zero, Option.getD_some, cnt, List.cons_append]
    rw [ofNat_toNat _ (by omega)]
  · rw [Lib.toList_data, Lib.toList_data, Lib.extract_data]
    show List.take (4 + tv.size - 4) (List.drop 4 (80 :: UInt8.ofNat (f % 256).toNat :: UInt8.ofNat (f / 256).toNat :: (cnt tv ++ cnt tk))) = _
    simp only [List.drop_succ_cons, List.drop_zero, cnt, List.cons_append, Nat.add_sub_cancel_left]
    rw [← size_list tv, List.take_left]
  · rw [bt_mk]
    have : (80 :: UInt8.ofNat (f % 256).toNat :: UInt8.ofNat (f / 256).toNat :: (cnt tv ++ cnt tk))[4 + tv.size]? = some (UInt8.ofNat tk.size) := by
      rw [show 4 + tv.size = tv.size + 1 + 3 by omega]
      simp only [List.getElem?_cons_succ]
      rw [List.getElem?_append_right (by rw [cnt_length]; omega), cnt_length, Nat.sub_self]
      rfl
    rw [this, Option.getD_some, ofNat_toNat _ (by omega)]
  · rw [Lib.toList_data, Lib.toList_data, Lib.extract_data]
    show List.take _ (List.drop (5 + tv.size) (80 :: UInt8.ofNat (f % 256).toNat :: UInt8.ofNat (f / 256).toNat :: (cnt tv ++ cnt tk))) = _
    rw [mk_size, hz, show 5 + tv.size = (tv.size + 1) + 1 + 3 by omega]
    simp only [List.drop_succ_cons]
    rw [List.drop_append, cnt_length, List.drop_of_length_le (by rw [cnt_length]; omega), List.nil_append, show tv.size + 1 + 1 - (tv.size + 1) = 1 by omega]
    show List.take _ tk.data.toList = _
    rw [List.take_of_length_le]
    rw [size_list]; omega

/-! ### No operation's bytes are the beginning of another one's -/
theorem cnt_prefix {x y : ByteArray} {r r' : List UInt8} (hx : x.size ≤ 7) (hy : y.size ≤ 7) (h : cnt x ++ r <+: cnt y ++ r') : x = y ∧ r <+: r' := by
  unfold cnt at h
  rw [List.cons_append, List.cons_append, List.cons_prefix_cons] at h
  obtain ⟨h1, h2⟩ := h
  have hs : x.size = y.size := by
    have := congrArg UInt8.toNat h1
    rwa [ofNat_toNat _ (by omega), ofNat_toNat _ (by omega)] at this
  obtain ⟨q, hq⟩ := h2
  rw [List.append_assoc] at hq
  have hi := List.append_inj hq (by rw [size_list, size_list]; exact hs)
  exact ⟨ba_ext hi.1, ⟨q, hi.2⟩⟩
theorem cnt_prefix_end {x y : ByteArray} (hx : x.size ≤ 7) (hy : y.size ≤ 7) (h : cnt x <+: cnt y) : x = y :=
  (cnt_prefix (r := []) (r' := []) hx hy (by simpa using h)).1
/-- what a right operation is, with its words' texts -/
structure Opn (o K V f : Int) (tk tv : ByteArray) : Prop where
  hK : pack_Text.f K = some (tk, 0)
  rK : pack_Right.f K = some true
  hV : pack_Text.f V = some (tv, 0)
  rV : pack_Right.f V = some true
  wK : pack_Word.f tk = some (K, 0)
  wV : pack_Word.f tv = some (V, 0)
  sk : tk.size ≤ 7
  sv : tv.size ≤ 7
  right : rightOp o K V f true true = true
theorem Opn.bytes {o K V f : Int} {tk tv : ByteArray} (h : Opn o K V f tk tv) : op_Bytes.f o K V f = some ⟨(bytesOp o f tk tv).toArray⟩ := by
  rw [bytes_right o f K V tk tv h.hK h.rK h.hV h.rV, if_pos h.right]
/-- an operation is right, with its texts, or has no bytes -/
theorem op_cases (o K V f : Int) (hK0 : 0 ≤ K) (hK1 : K ≤ 18446744073709551615) (hV0 : 0 ≤ V) (hV1 : V ≤ 18446744073709551615) :
    (∃ tk tv, Opn o K V f tk tv ∧ op_Right.f o K V f = some true) ∨ (op_Bytes.f o K V f = some ByteArray.empty ∧ op_Right.f o K V f = some false) := by
  rcases text_cases K hK0 hK1 with ⟨tk, hK, sk, wK, rK⟩ | ⟨hK, rK⟩
  · rcases text_cases V hV0 hV1 with ⟨tv, hV, sv, wV, rV⟩ | ⟨hV, rV⟩
    · by_cases hr : rightOp o K V f true true = true
      · refine .inl ⟨tk, tv, ⟨hK, rK, hV, rV, wK, wV, sk, sv, hr⟩, ?_⟩
        unfold op_Right.f
        rw [rK, rV, Option.bind_some, Option.bind_some, hr]
      · refine .inr ⟨by rw [bytes_right o f K V tk tv hK rK hV rV, if_neg hr], ?_⟩
        unfold op_Right.f
        rw [rK, rV, Option.bind_some, Option.bind_some, Bool.not_eq_true _ |>.mp hr]
    · have hr : op_Right.f o K V f = some false := by
        unfold op_Right.f rightOp
        rw [rK, rV]
        simp
      exact .inr ⟨by unfold op_Bytes.f; rw [hr]; rfl, hr⟩
  · have hr : op_Right.f o K V f = some false := by
      unfold op_Right.f rightOp
      rcases text_cases V hV0 hV1 with ⟨tv, hV, sv, wV, rV⟩ | ⟨hV, rV⟩
      · rw [rK, rV]; simp
      · rw [rK, rV]; simp
    exact .inr ⟨by unfold op_Bytes.f; rw [hr]; rfl, hr⟩

theorem right_cases {o K V f : Int} (h : rightOp o K V f true true = true) : (o = 3 ∧ 0 ≤ f ∧ f ≤ 65535) ∨ ((o = 1 ∨ o = 2 ∨ o = 4) ∧ V = 0 ∧ f = 0) ∨ (o = 5 ∧ K = 0 ∧ V = 0 ∧ f = 0) := by
  unfold rightOp at h
  by_cases h3 : o = 3
  · rw [if_pos h3] at h
    simp at h
    exact .inl ⟨h3, h.1, h.2⟩
  · rw [if_neg h3] at h
    by_cases h124 : o = 1 ∨ o = 2 ∨ o = 4
    · rw [if_pos h124] at h
      simp at h
      exact .inr (.inl ⟨h124, h.1, h.2⟩)
    · rw [if_neg h124] at h
      by_cases h5 : o = 5
      · rw [if_pos h5] at h
        simp at h
        exact .inr (.inr ⟨h5, h.1.1, h.1.2, h.2⟩)
      · rw [if_neg h5] at h
        exact absurd h (by simp)
theorem word_one {t : ByteArray} {K K' : Int} (h : pack_Word.f t = some (K, 0)) (h' : pack_Word.f t = some (K', 0)) : K = K' := by
  rw [h] at h'
  exact congrArg (fun p => p.1) (Option.some.inj h')
theorem op_prefix {o K V f o' K' V' f' : Int} {tk tv tk' tv' : ByteArray} (a : Opn o K V f tk tv) (b : Opn o' K' V' f' tk' tv') (h : bytesOp o f tk tv <+: bytesOp o' f' tk' tv') : o = o' ∧ K = K' ∧ V = V' ∧ f = f' := by
  have ak := a.sk; have av := a.sv; have bk := b.sk; have bv := b.sv
  rcases right_cases a.right with ⟨rfl, ha0, ha1⟩ | ⟨ha, rfl, rfl⟩ | ⟨rfl, rfl, rfl, rfl⟩
  · rcases right_cases b.right with ⟨rfl, hb0, hb1⟩ | ⟨hb, rfl, rfl⟩ | ⟨rfl, rfl, rfl, rfl⟩
    · unfold bytesOp at h
      rw [if_pos rfl, if_pos rfl] at h
      simp only [List.cons_prefix_cons, true_and] at h
      obtain ⟨e1, e2, h⟩ := h
      have f1 := congrArg UInt8.toNat e1
      have f2 := congrArg UInt8.toNat e2
      rw [ofNat_toNat _ (by omega), ofNat_toNat _ (by omega)] at f1 f2
      obtain ⟨rfl, h4⟩ := cnt_prefix av bv h
      obtain rfl := cnt_prefix_end ak bk h4
      exact ⟨rfl, word_one a.wK b.wK, word_one a.wV b.wV, by omega⟩
    · obtain rfl | rfl | rfl := hb
      all_goals exact absurd (List.cons_prefix_cons.mp h).1 (by decide)
    · exact absurd (List.cons_prefix_cons.mp h).1 (by decide)
  · rcases right_cases b.right with ⟨rfl, hb0, hb1⟩ | ⟨hb, rfl, rfl⟩ | ⟨rfl, rfl, rfl, rfl⟩
    · obtain rfl | rfl | rfl := ha
      all_goals exact absurd (List.cons_prefix_cons.mp h).1 (by decide)
    · obtain rfl | rfl | rfl := ha <;> obtain rfl | rfl | rfl := hb
      all_goals first
        | (have h1 := (List.cons_prefix_cons.mp h).1; exact absurd h1 (by decide))
        | (have h2 := (List.cons_prefix_cons.mp h).2; obtain rfl := cnt_prefix_end ak bk h2; exact ⟨rfl, word_one a.wK b.wK, rfl, rfl⟩)
    · obtain rfl | rfl | rfl := ha
      all_goals exact absurd (List.cons_prefix_cons.mp h).1 (by decide)
  · rcases right_cases b.right with ⟨rfl, hb0, hb1⟩ | ⟨hb, rfl, rfl⟩ | ⟨rfl, rfl, rfl, rfl⟩
    · exact absurd (List.cons_prefix_cons.mp h).1 (by decide)
    · obtain rfl | rfl | rfl := hb
      all_goals exact absurd (List.cons_prefix_cons.mp h).1 (by decide)
    · exact ⟨rfl, rfl, rfl, rfl⟩
theorem bytesOp_ne (o f : Int) (tk tv : ByteArray) : bytesOp o f tk tv ≠ [] := by
  unfold bytesOp
  split
  · simp
  · split <;> simp

/-- the example at the head of all statements -/
theorem shown_bytes : ∃ W1 W2, pack_Word.f ⟨#[107]⟩ = some (W1, 0) ∧ pack_Word.f ⟨#[118, 118]⟩ = some (W2, 0) ∧ op_Bytes.f 3 W1 W2 258 = some ⟨#[80, 2, 1, 2, 118, 118, 1, 107]⟩ := by
  obtain ⟨W1, w1, l1, m1, z1, x1, r1, q1⟩ := word_some ⟨#[107]⟩ (by decide)
  obtain ⟨W2, w2, l2, m2, z2, x2, r2, q2⟩ := word_some ⟨#[118, 118]⟩ (by decide)
  refine ⟨W1, W2, w1, w2, ?_⟩
  rw [bytes_right 3 258 W1 W2 _ _ x1 r1 x2 r2]
  rfl
end Go.Proofs.Ytinfbkfdkpjdiaa.Hand
