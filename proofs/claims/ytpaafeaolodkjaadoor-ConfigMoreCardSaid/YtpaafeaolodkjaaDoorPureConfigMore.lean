/- What a greater config asks is no less: more kicks, more places of the spill, make no region smaller, and take no fewer words. No condition. -/
import Derived.Test.YtpaafeaolodkjaaDoorPConfigMorex4
import Derived.Test.YtpaafeaolodkjaaDoorConfigFacts
import Derived.OpenShut
namespace Go.Proofs.YtpaafeaolodkjaaDoor.Pure
open Go.RowKit Go.Proofs.YtpaafeaolodkjaaDoor.Hand Go.Proofs.YtpaafeaolodkjaaDoor.PConfigMore Go.Proofs.YtpaafeaolodkjaaDoorW.PrintWords Go.Proofs.YtpaafeaolodkjaaDoorW.PrintLast Go.Proofs.YtpaafeaolodkjaaDoorW.PrintMore
set_option linter.unusedVariables false

namespace ConfigMoreAid
theorem levels_of {c0 c1 c2 c3 c4 c5 c6 c7 c8 : Int} (h : check.f c0 c1 c2 c3 c4 c5 c6 c7 c8 = some none) : config_Config_levels.f c0 c1 c2 c3 c4 c5 c6 c7 c8 = some 0 := by
  have g := check_none h
  unfold check.f at h
  rw [if_neg (by omega), if_neg (by omega), if_neg (by omega), if_neg (by omega), if_neg (by omega)] at h
  obtain ⟨t, _, h⟩ := Option.bind_eq_some_iff.mp h
  by_cases z : t = 0
  · rw [if_pos z] at h
    obtain ⟨m, hm, h⟩ := Option.bind_eq_some_iff.mp h
    by_cases y : m = 0
    · rw [hm, y]
    · rw [if_neg y] at h; exact absurd h (by simp)
  · rw [if_neg z] at h; exact absurd h (by simp)
theorem store_of {c0 c1 c2 c3 c4 c5 c6 c7 c8 : Int} (h : check.f c0 c1 c2 c3 c4 c5 c6 c7 c8 = some none) : ∃ x, PSizes.word_Round.f (wrap64 (wrap64 (2 * c4) + wrap64 (c0 + c1))) = some x ∧ store_Right.f x c5 c6 c7 = some true := by
  have l := levels_of h
  obtain ⟨x, hx, hs⟩ := tot_store c0 c1 c2 c3 c4 c5 c6 c7 c8
  refine ⟨x, hx, ?_⟩
  unfold config_Config_levels.f at l
  rw [hs, Option.bind_some] at l
  obtain ⟨r, hr, l⟩ := Option.bind_eq_some_iff.mp l
  cases r
  · simp at l
  · exact hr
theorem right_of {c0 c1 c2 c3 c4 c5 c6 c7 c8 : Int} (h : check.f c0 c1 c2 c3 c4 c5 c6 c7 c8 = some none) : config_Config_right.f c0 c1 c2 c3 c4 c5 c6 c7 c8 = some true := by
  unfold config_Config_right.f; rw [h]; rfl
theorem accesses_of {c0 c1 c2 c3 c4 c5 c6 c7 c8 : Int} (h : check.f c0 c1 c2 c3 c4 c5 c6 c7 c8 = some none) : config_Accesses.f c0 c1 c2 c3 c4 c5 c6 c7 c8 = some (2 * c2 + 5, c0 + c1 + 4 * c1) := by
  have g := check_none h
  unfold config_Accesses.f PConfigMore.config_Config_cells.f
  rw [right_of h, Option.bind_some, if_pos rfl, Option.bind_some]
  have e1 : wrap64 (wrap64 (2 * c2) + 5) = 2 * c2 + 5 := by unfold wrap64; omega
  have e2 : wrap64 (wrap64 (c0 + c1) + wrap64 (4 * c1)) = c0 + c1 + 4 * c1 := by unfold wrap64; omega
  rw [e1, e2]
/-- The words of n operations, n clipped. -/
theorem words_of {c0 c1 c2 c3 c4 c5 c6 c7 c8 : Int} (h : check.f c0 c1 c2 c3 c4 c5 c6 c7 c8 = some none) (n N : Int) (hN : mx 0 (mn n 1048576) = N) (h0 : 0 ≤ N) (h1 : N ≤ 1048576) :
    config_Words.f c0 c1 c2 c3 c4 c5 c6 c7 c8 n = some (4 + 2 * c7 * (N * (2 * c2 + 5) + N / c1 * (c0 + c1 + 4 * c1))) := by
  have g := check_none h
  obtain ⟨x, hx, hr⟩ := store_of h
  have g7 := right_levels hr
  have q0 : 0 ≤ N / c1 := Int.ediv_nonneg h0 (by omega)
  have q1 : N / c1 ≤ N := Int.ediv_le_self _ h0
  have a0 : 0 ≤ N * (2 * c2 + 5) := Int.mul_nonneg h0 (by omega)
  have a1 : N * (2 * c2 + 5) ≤ 1048576 * 37 := Int.mul_le_mul h1 (by omega) (by omega) (by omega)
  have b0 : 0 ≤ N / c1 * (c0 + c1 + 4 * c1) := Int.mul_nonneg q0 (by omega)
  have b1 : N / c1 * (c0 + c1 + 4 * c1) ≤ 1048576 * 144 := Int.mul_le_mul (by omega) (by omega) (by omega) (by omega)
  have eq : wrap64 (N / c1) = N / c1 := by unfold wrap64; omega
  have ea : wrap64 (N * (2 * c2 + 5)) = N * (2 * c2 + 5) := by unfold wrap64; omega
  have eb : wrap64 (N / c1 * (c0 + c1 + 4 * c1)) = N / c1 * (c0 + c1 + 4 * c1) := by unfold wrap64; omega
  have es : wrap64 (N * (2 * c2 + 5) + N / c1 * (c0 + c1 + 4 * c1)) = N * (2 * c2 + 5) + N / c1 * (c0 + c1 + 4 * c1) := by unfold wrap64; omega
  have e7 : wrap64 (2 * c7) = 2 * c7 := by unfold wrap64; omega
  have m0 : 0 ≤ 2 * c7 * (N * (2 * c2 + 5) + N / c1 * (c0 + c1 + 4 * c1)) := Int.mul_nonneg (by omega) (by omega)
  have m1 : 2 * c7 * (N * (2 * c2 + 5) + N / c1 * (c0 + c1 + 4 * c1)) ≤ 8 * 189792256 := Int.mul_le_mul (by omega) (by omega) (by omega) (by omega)
  have em : wrap64 (2 * c7 * (N * (2 * c2 + 5) + N / c1 * (c0 + c1 + 4 * c1))) = 2 * c7 * (N * (2 * c2 + 5) + N / c1 * (c0 + c1 + 4 * c1)) := by unfold wrap64; omega
  have e4 : wrap64 (4 + 2 * c7 * (N * (2 * c2 + 5) + N / c1 * (c0 + c1 + 4 * c1))) = 4 + 2 * c7 * (N * (2 * c2 + 5) + N / c1 * (c0 + c1 + 4 * c1)) := by unfold wrap64; omega
  have hS : PConfigMore.config_Config_store.f c0 c1 c2 c3 c4 c5 c6 c7 c8 = some (x, c5, c6, c7) := by
    unfold PConfigMore.config_Config_store.f PConfigMore.config_Config_cells.f
    rw [Option.bind_some, hx]; rfl
  have hW : store_Words.f x c5 c6 c7 = some (2 * c7) := by
    unfold store_Words.f
    rw [hr, Option.bind_some, if_pos rfl, e7]
  unfold config_Words.f
  rw [right_of h, Option.bind_some, if_pos rfl, accesses_of h, Option.bind_some, hS, Option.bind_some, hW, Option.bind_some, if_neg (by omega), hN]
  simp only [eq, ea, eb, es, em, e4]
theorem check_more {c0 c1 c2 c3 c4 c5 c6 c7 c8 K S : Int} (h : check.f c0 c1 c2 c3 c4 c5 c6 c7 c8 = some none) (k1 : c2 ≤ K) (k2 : K ≤ 16) (s1 : c3 ≤ S) (s2 : S ≤ 32) : check.f c0 c1 K S c4 c5 c6 c7 c8 = some none := by
  have g := check_none h
  unfold check.f at h
  rw [if_neg (by omega), if_neg (by omega), if_neg (by omega), if_neg (by omega), if_neg (by omega)] at h
  unfold check.f
  rw [if_neg (by omega), if_neg (by omega), if_neg (by omega), if_neg (by omega), if_neg (by omega)]
  have e1 : Ptable.config_Config_table.f 10 c0 c1 K S c4 c5 c6 c7 c8 = Ptable.config_Config_table.f 10 c0 c1 c2 c3 c4 c5 c6 c7 c8 := by
    unfold Ptable.config_Config_table.f
    simp only [Ptable.config_Config_table.j0, Ptable.config_Config_cells.f]
  have e2 : config_Config_levels.f c0 c1 K S c4 c5 c6 c7 c8 = config_Config_levels.f c0 c1 c2 c3 c4 c5 c6 c7 c8 := by
    unfold config_Config_levels.f Pstore.config_Config_store.f Pstore.config_Config_cells.f
    rfl
  rw [e1, e2]
  exact h
theorem sizes_of {c0 c1 c2 c3 c4 c5 c6 c7 c8 : Int} (h : check.f c0 c1 c2 c3 c4 c5 c6 c7 c8 = some none) : ∃ (R : Int) (l : List Int), l.length ≤ 1000 ∧ ∀ (k : Nat) (K S : Int), 10 ≤ k → check.f c0 c1 K S c4 c5 c6 c7 c8 = some none → config_Sizes.f k c0 c1 K S c4 c5 c6 c7 c8 = some (1 :: S :: R :: l) := by
  obtain ⟨x, hx, hr⟩ := store_of h
  obtain ⟨R, hR⟩ := tot_round (wrap64 (c0 + c1))
  obtain ⟨l, hl, _, hn⟩ := tot_sizes hr
  refine ⟨R, l, hn, fun k K S hk h' => ?_⟩
  unfold config_Sizes.f PConfigMore.config_Config_store.f PConfigMore.config_Config_cells.f
  rw [right_of h', Option.bind_some, if_pos rfl, Option.bind_some, hR, Option.bind_some, Option.bind_some, Option.bind_some, hx, Option.bind_some, Option.bind_some]
  have hk' : PStSizes.store_Sizes.f k x c5 c6 c7 = some l := at_rounds (g := fun k => PStSizes.store_Sizes.f k x c5 c6 c7) (fun k => PStSizes.store_Sizes.mono x c5 c6 c7 k) hk hl
  show (PStSizes.store_Sizes.f k x c5 c6 c7).bind _ = _
  rw [hk', Option.bind_some, if_pos (by simp only [List.length_cons, List.length_nil]; omega)]
  rfl
theorem cells_of {c0 c1 c2 c3 c4 c5 c6 c7 c8 : Int} (h : check.f c0 c1 c2 c3 c4 c5 c6 c7 c8 = some none) : config_Cells.f c0 c1 c2 c3 c4 c5 c6 c7 c8 = some (wrap64 (c0 + c1)) := by
  unfold config_Cells.f PConfigMore.config_Config_cells.f
  rw [right_of h, Option.bind_some, if_pos rfl, Option.bind_some]
theorem cstore_of {c0 c1 c2 c3 c4 c5 c6 c7 c8 : Int} (h : check.f c0 c1 c2 c3 c4 c5 c6 c7 c8 = some none) : ∃ x, ∀ K S, check.f c0 c1 K S c4 c5 c6 c7 c8 = some none → config_Store.f c0 c1 K S c4 c5 c6 c7 c8 = some (x, c5, c6, c7) := by
  obtain ⟨x, hx, _⟩ := store_of h
  refine ⟨x, fun K S h' => ?_⟩
  unfold config_Store.f PConfigMore.config_Config_store.f PConfigMore.config_Config_cells.f
  rw [right_of h', Option.bind_some, if_pos rfl, Option.bind_some, hx]
  rfl
theorem loop (a b : List Int) (x15 x16 x17 x18 c0 c1 c2 c3 c4 c5 c6 c7 c8 d0 d1 d2 d3 d4 d5 d6 d7 d8 : Int) (hl : a.length = b.length) (hn : a.length ≤ 2000) (h1 : rd a 1 ≤ rd b 1) (he : ∀ i : Nat, i < a.length → i ≠ 1 → rd a i = rd b i) :
    ∀ (d m i : Nat), i + d = a.length → shellgamelaw13_ConfigMore.l0 (m + d) a b x15 x16 x17 x18 (i : Int) c0 c1 c2 c3 c4 c5 c6 c7 c8 d0 d1 d2 d3 d4 d5 d6 d7 d8 = shellgamelaw13_ConfigMore.l0 m a b x15 x16 x17 x18 (a.length : Int) c0 c1 c2 c3 c4 c5 c6 c7 c8 d0 d1 d2 d3 d4 d5 d6 d7 d8 := by
  intro d
  induction d with
  | zero =>
    intro m i hi
    obtain rfl : i = a.length := by omega
    rfl
  | succ d ih =>
    intro m i hi
    have e2 : wrap64 ((i : Int) + 1) = ((i + 1 : Nat) : Int) := by unfold wrap64; omega
    have go := ih m (i + 1) (by omega)
    rw [show m + (d + 1) = (m + d) + 1 from rfl]
    simp only [shellgamelaw13_ConfigMore.l0]
    rw [if_pos (by omega), e2]
    by_cases z : i = 1
    · subst z
      rw [if_pos (by rfl), if_pos (by omega), if_pos (by omega), if_neg (by show ¬ rd a 1 > rd b 1; omega)]
      exact go
    · have e := he i (by omega) z
      rw [if_neg (by omega), if_pos (by omega), if_pos (by omega), if_pos e, if_neg (by omega)]
      exact go
end ConfigMoreAid
open ConfigMoreAid
theorem ConfigMore : shellgamelaw13_ConfigMore.Pure := by
  intro c0 c1 c2 c3 c4 c5 c6 c7 c8 a1 a2 _ _ _ _ _ _ _ _ _ _ _
  obtain ⟨o, ho, hw⟩ := why_some c0 c1 c2 c3 c4 c5 c6 c7 c8
  unfold shellgamelaw13_ConfigMore.f
  by_cases z : (whyR o).2 = 0
  · obtain rfl := whyR_zero z
    have g := check_none ho
    obtain ⟨R, l, hn, hs⟩ := sizes_of ho
    obtain ⟨K, hK, k1, k2⟩ : ∃ K, mx c2 (mn a1 16) = K ∧ c2 ≤ K ∧ K ≤ 16 := ⟨_, rfl, by unfold mx mn; repeat' split <;> omega, by unfold mx mn; repeat' split <;> omega⟩
    obtain ⟨S, hS, s1, s2⟩ : ∃ S, mx c3 (mn a2 32) = S ∧ c3 ≤ S ∧ S ≤ 32 := ⟨_, rfl, by unfold mx mn; repeat' split <;> omega, by unfold mx mn; repeat' split <;> omega⟩
    have hd := check_more ho k1 k2 s1 s2
    have hwd : config_Why.f c0 c1 K S c4 c5 c6 c7 c8 = some (⟨#[]⟩, 0) := by unfold config_Why.f; rw [hd]; rfl
    obtain ⟨x, hst⟩ := cstore_of ho
    obtain ⟨y, hy, hr⟩ := store_of ho
    have g7 := right_levels hr
    have w1 := words_of hd 5 5 (by decide) (by omega) (by omega)
    have w2 := words_of ho 5 5 (by decide) (by omega) (by omega)
    obtain ⟨n, hN⟩ : ∃ n, n = (1 :: c3 :: R :: l).length := ⟨_, rfl⟩
    have hN' : n = l.length + 3 := hN
    refine ⟨(10 + n) + 1 + 1, ?_⟩
    rw [shown_true, hw, Option.bind_some, Option.bind_some, if_pos rfl]
    simp only [shellgamelaw13_ConfigMore.j0]
    rw [if_neg (by simp [z]), hK, hS, hwd, Option.bind_some, hs _ _ _ (by omega) ho, hs _ _ _ (by omega) hd, accesses_of ho, accesses_of hd]
    simp only [Option.bind_some]
    rw [if_pos trivial]
    simp only [shellgamelaw13_ConfigMore.j1]
    rw [if_neg (by simp)]
    have hloop := loop (1 :: c3 :: R :: l) (1 :: S :: R :: l) (2 * c2 + 5) (c0 + c1 + 4 * c1) (2 * K + 5) (c0 + c1 + 4 * c1) c0 c1 c2 c3 c4 c5 c6 c7 c8 c0 c1 K S c4 c5 c6 c7 c8 rfl (by omega) s1 (by
      intro i hi h1
      rcases i with _ | _ | i
      · rfl
      · exact absurd rfl h1
      · unfold rd; rw [show (((i + 1 + 1 : Nat) : Int)).toNat = i + 1 + 1 from by omega]; rfl) n 10 0 (by omega)
    rw [show ((0 : Nat) : Int) = 0 from rfl] at hloop
    rw [hloop]
    simp only [shellgamelaw13_ConfigMore.l0]
    rw [if_neg (by omega)]
    have e1 : wrap64 (2 * K + 5 - (2 * c2 + 5)) = wrap64 (2 * wrap64 (K - c2)) := by unfold wrap64; omega
    have q0 : 0 ≤ 5 / c1 := Int.ediv_nonneg (by omega) (by omega)
    have b0 : 0 ≤ 5 / c1 * (c0 + c1 + 4 * c1) := Int.mul_nonneg q0 (by omega)
    have m : 2 * c7 * (5 * (2 * c2 + 5) + 5 / c1 * (c0 + c1 + 4 * c1)) ≤ 2 * c7 * (5 * (2 * K + 5) + 5 / c1 * (c0 + c1 + 4 * c1)) := Int.mul_le_mul_of_nonneg_left (by omega) (by omega)
    rw [if_pos e1, if_pos trivial, w1, Option.bind_some, w2, Option.bind_some, if_pos (by omega), cells_of ho, cells_of hd, Option.bind_some, Option.bind_some, if_pos rfl, hst _ _ ho, hst _ _ hd, Option.bind_some, Option.bind_some]
    simp
  · refine ⟨1, ?_⟩
    rw [shown_true, hw, Option.bind_some, Option.bind_some, if_pos rfl]
    simp only [shellgamelaw13_ConfigMore.j0]
    rw [if_pos (by simpa using z)]
end Go.Proofs.YtpaafeaolodkjaaDoor.Pure
