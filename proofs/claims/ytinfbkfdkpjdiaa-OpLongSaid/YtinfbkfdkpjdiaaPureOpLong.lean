/- A key, or a value, of more than seven bytes is told to be too long, not to be no operation. No condition. -/
import Derived.Test.YtinfbkfdkpjdiaaPOpLongx2
import Derived.Test.YtinfbkfdkpjdiaaOpDecode
import Derived.OpenShut
namespace Go.Proofs.Ytinfbkfdkpjdiaa.Pure
open Go.RowKit Go.Proofs.Ytinfbkfdkpjdiaa.Hand Go.Proofs.Ytinfbkfdkpjdiaa.POpLong Go.Proofs.YtinfbkfdkpjdiaaW.PrintWords Go.Proofs.YtinfbkfdkpjdiaaW.PrintLast Go.Proofs.YtinfbkfdkpjdiaaW.PrintMore
set_option linter.unusedVariables false

namespace OpLongAid
theorem word_of {s : ByteArray} {W e : Int} (h : pack_Word.f s = some (W, e)) : shellgamelaw17_word.f s = some W := by
  unfold shellgamelaw17_word.f
  rw [h]
  rfl
theorem shown_true : shellgamelaw17_shown.f = some true := by
  obtain ⟨W1, W2, w1, w2, h⟩ := shown_bytes
  unfold shellgamelaw17_shown.f
  rw [word_of w1, Option.bind_some, word_of w2, Option.bind_some, h, Option.bind_some]
  rw [mk_toList]
  rfl
theorem sn1 (n : Nat) (h : n ≤ 255) : strOfNums [(n : Int) % 256] = ⟨#[UInt8.ofNat n]⟩ := by
  have : ((n : Int) % 256).toNat = n := by omega
  unfold strOfNums
  simp only [List.map_cons, List.map_nil]
  rw [this]
theorem sn3 (t : Int) (n : Nat) (h : n ≤ 255) : ∃ a b : UInt8, strOfNums [t % 256, (wrap64 (Int.tdiv t 256)) % 256, (n : Int) % 256] = ⟨#[a, b, UInt8.ofNat n]⟩ := by
  refine ⟨UInt8.ofNat (t % 256).toNat, UInt8.ofNat ((wrap64 (Int.tdiv t 256)) % 256).toNat, ?_⟩
  have : ((n : Int) % 256).toNat = n := by omega
  unfold strOfNums
  simp only [List.map_cons, List.map_nil]
  rw [this]
theorem app_mk (x y : List UInt8) : (⟨x.toArray⟩ : ByteArray) ++ ⟨y.toArray⟩ = ⟨(x ++ y).toArray⟩ := by
  refine ba_ext ?_
  simp
theorem app_mk' (x : List UInt8) (y : ByteArray) : (⟨x.toArray⟩ : ByteArray) ++ y = ⟨(x ++ y.data.toList).toArray⟩ := app_mk x y.data.toList
/-- what Parse tells, of an outcome -/
def want (put : Bool) (kind : Int) (k v : ByteArray) : Out → Prop
  | o => o = if k.size > 7 ∨ (put = true ∧ v.size > 7) then .long else .ok kind 0 k.data.toList v.data.toList
theorem text_of {K : Int} {t : ByteArray} (h : pack_Word.f t = some (K, 0)) : pack_Text.f K = some (t, 0) := by
  obtain ⟨W, w, _, _, _, x, _, _⟩ := word_some t (word_len h)
  rw [← word_one w h]; exact x
theorem let_of (a0 : Int) (h0 : 1 ≤ a0) (h1 : a0 ≤ 4) (h3 : a0 ≠ 3) : (a0 = 1 ∨ a0 = 2 ∨ a0 = 4) ∧ (⟨#[63, 71, 75, 80, 68]⟩ : ByteArray).extract (a0 : Int).toNat ((wrap64 (a0 + 1)) : Int).toNat = ⟨[letK a0].toArray⟩ := by
  obtain rfl | rfl | rfl : a0 = 1 ∨ a0 = 2 ∨ a0 = 4 := by omega
  · rw [show wrap64 (1 + 1) = 2 from by unfold wrap64; rfl]; exact ⟨by decide, ba_ext (by rw [Lib.extract_data]; rfl)⟩
  · rw [show wrap64 (2 + 1) = 3 from by unfold wrap64; rfl]; exact ⟨by decide, ba_ext (by rw [Lib.extract_data]; rfl)⟩
  · rw [show wrap64 (4 + 1) = 5 from by unfold wrap64; rfl]; exact ⟨by decide, ba_ext (by rw [Lib.extract_data]; rfl)⟩
theorem let_put : (⟨#[63, 71, 75, 80, 68]⟩ : ByteArray).extract (3 : Int).toNat ((wrap64 (3 + 1)) : Int).toNat = ⟨[(80 : UInt8)].toArray⟩ := by
  rw [show wrap64 (3 + 1) = 4 from by unfold wrap64; rfl]; exact ba_ext (by rw [Lib.extract_data]; rfl)
end OpLongAid
open OpLongAid
theorem tail_true (a0 : Int) (k v : ByteArray) (x : List UInt8) (hk : k.size ≤ 255) (hx : x.length ≤ 1000) (f : Int) (D : Out) (hd : Hand.decode (x ++ cntL k.data.toList) = D)
    (hD : D = if k.size > 7 ∨ (a0 = 3 ∧ v.size > 7) then .long else .ok a0 f k.data.toList (if a0 = 3 then v.data.toList else [])) (hf : a0 ≠ 3 → f = 0) :
    shellgamelaw17_OpLong.j1 1 a0 k v ⟨x.toArray⟩ = some true := by
  simp only [shellgamelaw17_OpLong.j1]
  rw [Option.bind_some, sn1 _ hk]
  have e1 : (⟨x.toArray⟩ : ByteArray) ++ ⟨#[UInt8.ofNat k.size]⟩ = ⟨(x ++ [UInt8.ofNat k.size]).toArray⟩ := app_mk x [UInt8.ofNat k.size]
  rw [if_pos (by rw [mk_size, show (⟨#[UInt8.ofNat k.size]⟩ : ByteArray).size = 1 from rfl]; omega), e1, app_mk']
  have e2 : (x ++ [UInt8.ofNat k.size]) ++ k.data.toList = x ++ cntL k.data.toList := by unfold cntL; rw [size_list, List.append_assoc]; rfl
  rw [if_pos (by rw [mk_size, List.length_append]; simp only [List.length_singleton]; omega), e2]
  obtain ⟨p, hp, ho⟩ := parse_decode ⟨(x ++ cntL k.data.toList).toArray⟩
  rw [hp, Option.bind_some]
  rw [mk_data, hd, hD] at ho
  by_cases hK : k.size > 7
  · rw [if_pos (.inl hK)] at ho
    obtain rfl : p = (0, 0, 0, 0, 4) := ho
    rw [if_pos (by omega), if_pos rfl]
    rfl
  · rw [if_neg (by omega)]
    by_cases h3 : a0 = 3
    · subst h3
      rw [if_pos rfl]
      by_cases hV : v.size > 7
      · rw [if_pos (.inr ⟨rfl, hV⟩)] at ho
        obtain rfl : p = (0, 0, 0, 0, 4) := ho
        rw [if_pos (by omega), if_pos rfl]
        rfl
      · rw [if_neg (by omega), if_pos rfl] at ho
        obtain ⟨_, _, K, V, w1, w2, rfl⟩ := ho
        rw [if_neg (by omega), text_of w1, Option.bind_some, if_pos rfl, if_pos rfl, if_pos (by simp only [Lib.toList_data]), if_pos rfl]
    · rw [if_neg h3]
      rw [if_neg (by omega), if_neg h3] at ho
      obtain ⟨_, _, K, V, w1, w2, rfl⟩ := ho
      obtain rfl := word_zero_text w2
      obtain rfl := hf h3
      rw [text_of w1, Option.bind_some, if_pos rfl, if_pos rfl, if_pos (by simp only [Lib.toList_data]), if_pos rfl, if_pos rfl]
      rfl
theorem OpLong : shellgamelaw17_OpLong.Pure := by
  intro a0 k v t _ _ _ _
  refine ⟨2, ?_⟩
  unfold shellgamelaw17_OpLong.f
  rw [shown_true, Option.bind_some, if_pos rfl]
  by_cases c0 : a0 < 1
  · rw [if_pos c0]
    simp only [shellgamelaw17_OpLong.j0, if_true]
  rw [if_neg c0]
  by_cases c1 : a0 > 4
  · rw [if_pos c1]
    simp only [shellgamelaw17_OpLong.j0, if_true]
  rw [if_neg c1]
  by_cases c2 : (k.size : Int) > 255
  · rw [if_pos c2]
    simp only [shellgamelaw17_OpLong.j0, if_true]
  rw [if_neg c2]
  by_cases c3 : (v.size : Int) > 255
  · rw [decide_eq_true c3]
    simp only [shellgamelaw17_OpLong.j0, if_true]
  rw [decide_eq_false c3]
  simp only [shellgamelaw17_OpLong.j0, Bool.false_eq_true, if_false]
  rw [if_pos (by omega)]
  have hw : wrap64 (a0 + 1) = a0 + 1 := by unfold wrap64; omega
  rw [if_pos (by rw [hw]; omega), if_pos (by rw [hw]; omega)]
  by_cases h3 : a0 = 3
  · subst h3
    obtain ⟨a, b, hab⟩ := sn3 t v.size (by omega)
    rw [if_pos rfl, Option.bind_some, hab, let_put]
    have e1 : (⟨[(80 : UInt8)].toArray⟩ : ByteArray) ++ ⟨#[a, b, UInt8.ofNat v.size]⟩ = ⟨[80, a, b, UInt8.ofNat v.size].toArray⟩ := app_mk [80] [a, b, UInt8.ofNat v.size]
    rw [if_pos (by show 1 + 3 ≤ 9223372036854775807; decide), e1, app_mk']
    rw [if_pos (by rw [mk_size]; simp only [List.length_cons, List.length_nil]; omega)]
    have e2 : [80, a, b, UInt8.ofNat v.size] ++ v.data.toList = 80 :: a :: b :: cntL v.data.toList := by unfold cntL; rw [size_list]; rfl
    rw [e2]
    refine tail_true 3 k v _ (by omega) (by simp only [List.length_cons, cntL, size_list]; omega) ((a.toNat : Int) + 256 * (b.toNat : Int)) _ rfl ?_ (fun h => absurd rfl h)
    rw [show 80 :: a :: b :: cntL v.data.toList ++ cntL k.data.toList = 80 :: a :: b :: (cntL v.data.toList ++ cntL k.data.toList) from by simp]
    rw [dec_put a b _ _ (by rw [size_list]; omega) (by rw [size_list]; omega), size_list, size_list]
    by_cases c : k.size ≤ 7 ∧ v.size ≤ 7
    · rw [if_pos c, if_neg (by omega), if_pos rfl]
    · rw [if_neg c, if_pos (by omega)]
  · rw [if_neg h3]
    obtain ⟨ho, he⟩ := let_of a0 (by omega) (by omega) h3
    rw [he]
    refine tail_true a0 k v _ (by omega) (by simp) 0 _ rfl ?_ (fun _ => rfl)
    show Hand.decode (letK a0 :: cntL k.data.toList) = _
    rw [dec_key a0 ho _ (by rw [size_list]; omega), size_list]
    by_cases c : k.size ≤ 7
    · rw [if_pos c, if_neg (by omega), if_neg h3]
    · rw [if_neg c, if_pos (by omega)]
end Go.Proofs.Ytinfbkfdkpjdiaa.Pure
