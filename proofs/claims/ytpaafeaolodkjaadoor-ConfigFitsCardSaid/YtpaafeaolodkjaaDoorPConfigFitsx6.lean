-- Written by wip/printplus.py over contracts of this repo; not trusted: Lean checks it.
import Derived.Test.YtpaafeaolodkjaaDoorPConfigFitsx0
import Derived.Test.YtpaafeaolodkjaaDoorPConfigFitsx1
import Derived.Test.YtpaafeaolodkjaaDoorPConfigFitsx2
import Derived.Test.YtpaafeaolodkjaaDoorPConfigFitsx3
import Derived.Test.YtpaafeaolodkjaaDoorPConfigFitsx5
namespace Go.Proofs.YtpaafeaolodkjaaDoor.PConfigFits
open Go.Proofs.YtpaafeaolodkjaaDoor.Hand Go.RowKit Go.Proofs.YtpaafeaolodkjaaDoor.PSizes Go.Proofs.YtpaafeaolodkjaaDoor.Plevel Go.Proofs.YtpaafeaolodkjaaDoor.PStSizes Go.Proofs.YtpaafeaolodkjaaDoor.Pshown Go.Proofs.YtpaafeaolodkjaaDoorW.PrintWords Go.Proofs.YtpaafeaolodkjaaDoorW.PrintLast Go.Proofs.YtpaafeaolodkjaaDoorW.PrintMore
attribute [local go_sem] max2_int min2_int max_two min_two max_three min_three max_four min_four   -- for this text's walks alone
set_option linter.unusedVariables false
set_option linter.unusedSimpArgs false

attribute [local go_sem high] eqA33
/-! ### shellgamelaw13_ConfigFits: function 7 -/
mutual
def shellgamelaw13_ConfigFits.j0 : Nat → Int → Bool → List Int → Bool → Int → Int → Int → Int → Int → Int → Int → Int → Int → Option (Bool)
  | 0, _, _, _, _, _, _, _, _, _, _, _, _, _ => none
  | k + 1, x1, x5, x8, x28, x204000, x204001, x204002, x204003, x204004, x204005, x204006, x204007, x204008 => if x28 = true then (if x5 = true then (if (x8.length : Int) = 0 then ((config_Cells.f x204000 x204001 x204002 x204003 x204004 x204005 x204006 x204007 x204008).bind fun t210 => (if t210 = 0 then ((config_Words.f x204000 x204001 x204002 x204003 x204004 x204005 x204006 x204007 x204008 x1).bind fun t211 => (if t211 = 0 then ((config_Store.f x204000 x204001 x204002 x204003 x204004 x204005 x204006 x204007 x204008).bind fun bt212 => (some (bt212.1 == 0 && (bt212.2.1 == 0 && (bt212.2.2.1 == 0 && (bt212.2.2.2 == 0)))))) else (some false))) else (some false))) else (some false)) else (some false)) else ((config_Store.f x204000 x204001 x204002 x204003 x204004 x204005 x204006 x204007 x204008).bind fun bt216 => ((store_Right.f bt216.1 bt216.2.1 bt216.2.2.1 bt216.2.2.2).bind fun t221 => (if t221 = true then (if bt216.1 < (wrap64 ((wrap64 ((wrap64 (2 * x204004)) + x204000)) + x204001)) then (shellgamelaw13_ConfigFits.j1 k x1 x8 true x204000 x204001 x204002 x204003 x204004 x204005 x204006 x204007 x204008 bt216.1 bt216.2.1 bt216.2.2.1 bt216.2.2.2) else (if (x8.length : Int) < 7 then (shellgamelaw13_ConfigFits.j1 k x1 x8 true x204000 x204001 x204002 x204003 x204004 x204005 x204006 x204007 x204008 bt216.1 bt216.2.1 bt216.2.2.1 bt216.2.2.2) else (if (x8.length : Int) > 16 then (shellgamelaw13_ConfigFits.j1 k x1 x8 true x204000 x204001 x204002 x204003 x204004 x204005 x204006 x204007 x204008 bt216.1 bt216.2.1 bt216.2.2.1 bt216.2.2.2) else (if 0 < (x8.length : Int) then (if (rd x8 0) = 1 then (if 1 < (x8.length : Int) then (if (rd x8 1) = x204003 then (if 2 < (x8.length : Int) then ((config_Cells.f x204000 x204001 x204002 x204003 x204004 x204005 x204006 x204007 x204008).bind fun t225 => (shellgamelaw13_ConfigFits.j1 k x1 x8 (decide ((rd x8 2) < t225)) x204000 x204001 x204002 x204003 x204004 x204005 x204006 x204007 x204008 bt216.1 bt216.2.1 bt216.2.2.1 bt216.2.2.2)) else (none)) else (shellgamelaw13_ConfigFits.j1 k x1 x8 true x204000 x204001 x204002 x204003 x204004 x204005 x204006 x204007 x204008 bt216.1 bt216.2.1 bt216.2.2.1 bt216.2.2.2)) else (none)) else (shellgamelaw13_ConfigFits.j1 k x1 x8 true x204000 x204001 x204002 x204003 x204004 x204005 x204006 x204007 x204008 bt216.1 bt216.2.1 bt216.2.2.1 bt216.2.2.2)) else (none))))) else (shellgamelaw13_ConfigFits.j1 k x1 x8 true x204000 x204001 x204002 x204003 x204004 x204005 x204006 x204007 x204008 bt216.1 bt216.2.1 bt216.2.2.1 bt216.2.2.2))))
def shellgamelaw13_ConfigFits.j1 : Nat → Int → List Int → Bool → Int → Int → Int → Int → Int → Int → Int → Int → Int → Int → Int → Int → Int → Option (Bool)
  | 0, _, _, _, _, _, _, _, _, _, _, _, _, _, _, _, _ => none
  | k + 1, x1, x8, x102, x204000, x204001, x204002, x204003, x204004, x204005, x204006, x204007, x204008, x221000, x221001, x221002, x221003 => if x102 = true then (some false) else (shellgamelaw13_ConfigFits.l0 k x1 x8 0 x204000 x204001 x204002 x204003 x204004 x204005 x204006 x204007 x204008 x221000 x221001 x221002 x221003)
def shellgamelaw13_ConfigFits.l0 : Nat → Int → List Int → Int → Int → Int → Int → Int → Int → Int → Int → Int → Int → Int → Int → Int → Int → Option (Bool)
  | 0, _, _, _, _, _, _, _, _, _, _, _, _, _, _, _, _ => none
  | k + 1, x1, x8, x10, x204000, x204001, x204002, x204003, x204004, x204005, x204006, x204007, x204008, x221000, x221001, x221002, x221003 => if x10 < (x8.length : Int) then (if 0 ≤ x10 then (if (rd x8 x10) < 1 then (some false) else (if (rd x8 x10) > 4096 then (some false) else (shellgamelaw13_ConfigFits.l0 k x1 x8 (wrap64 (x10 + 1)) x204000 x204001 x204002 x204003 x204004 x204005 x204006 x204007 x204008 x221000 x221001 x221002 x221003))) else (none)) else ((config_Accesses.f x204000 x204001 x204002 x204003 x204004 x204005 x204006 x204007 x204008).bind fun bt228 => ((config_Words.f x204000 x204001 x204002 x204003 x204004 x204005 x204006 x204007 x204008 ((mx 0 (mn x1 1000)) + 1)).bind fun t230 => ((config_Words.f x204000 x204001 x204002 x204003 x204004 x204005 x204006 x204007 x204008 (mx 0 (mn x1 1000))).bind fun t231 => (if x204001 = 0 then (none) else (if (((mx 0 (mn x1 1000)) + 1) % x204001) = 0 then (shellgamelaw13_ConfigFits.j3 k x8 (wrap64 (t230 - t231)) (wrap64 (bt228.1 + bt228.2)) x204000 x204001 x204002 x204003 x204004 x204005 x204006 x204007 x204008 x221000 x221001 x221002 x221003) else (shellgamelaw13_ConfigFits.j3 k x8 (wrap64 (t230 - t231)) bt228.1 x204000 x204001 x204002 x204003 x204004 x204005 x204006 x204007 x204008 x221000 x221001 x221002 x221003))))))
def shellgamelaw13_ConfigFits.j3 : Nat → List Int → Int → Int → Int → Int → Int → Int → Int → Int → Int → Int → Int → Int → Int → Int → Int → Option (Bool)
  | 0, _, _, _, _, _, _, _, _, _, _, _, _, _, _, _, _ => none
  | k + 1, x8, x13, x14, x204000, x204001, x204002, x204003, x204004, x204005, x204006, x204007, x204008, x221000, x221001, x221002, x221003 => (config_Words.f x204000 x204001 x204002 x204003 x204004 x204005 x204006 x204007 x204008 0).bind fun t232 => (if t232 = 4 then ((store_Words.f x221000 x221001 x221002 x221003).bind fun t233 => (if x13 = (wrap64 (x14 * t233)) then (if 3 ≤ (x8.length : Int) then ((store_Sizes.f k x221000 x221001 x221002 x221003).bind fun t238 => ((shellgamelaw13_sameInts.f k (x8.drop 3) t238).bind fun t241 => (if t241 = true then ((shellgameref11_Sizes.f k 0 0 0 0).bind fun t242 => (some ((t242.length : Int) == 0))) else (some false)))) else (none)) else (some false))) else (some false))
end
def shellgamelaw13_ConfigFits.f (k : Nat) (a0_0 : Int) (a0_1 : Int) (a0_2 : Int) (a0_3 : Int) (a0_4 : Int) (a0_5 : Int) (a0_6 : Int) (a0_7 : Int) (a0_8 : Int) (a1 : Int) : Option (Bool) := (shellgamelaw13_shown.f).bind fun t204 => ((config_Why.f a0_0 a0_1 a0_2 a0_3 a0_4 a0_5 a0_6 a0_7 a0_8).bind fun bt205 => ((config_Sizes.f k a0_0 a0_1 a0_2 a0_3 a0_4 a0_5 a0_6 a0_7 a0_8).bind fun t207 => (if t204 = true then (shellgamelaw13_ConfigFits.j0 k a1 t204 t207 (bt205.2 != 0) a0_0 a0_1 a0_2 a0_3 a0_4 a0_5 a0_6 a0_7 a0_8) else (shellgamelaw13_ConfigFits.j0 k a1 t204 t207 true a0_0 a0_1 a0_2 a0_3 a0_4 a0_5 a0_6 a0_7 a0_8))))
theorem shellgamelaw13_ConfigFits.mono_l : ∀ k, (∀ y0 y1 y2 y3 y4 y5 y6 y7 y8 y9 y10 y11 y12, LeO (shellgamelaw13_ConfigFits.j0 k y0 y1 y2 y3 y4 y5 y6 y7 y8 y9 y10 y11 y12) (shellgamelaw13_ConfigFits.j0 (k + 1) y0 y1 y2 y3 y4 y5 y6 y7 y8 y9 y10 y11 y12)) ∧ (∀ y0 y1 y2 y3 y4 y5 y6 y7 y8 y9 y10 y11 y12 y13 y14 y15, LeO (shellgamelaw13_ConfigFits.j1 k y0 y1 y2 y3 y4 y5 y6 y7 y8 y9 y10 y11 y12 y13 y14 y15) (shellgamelaw13_ConfigFits.j1 (k + 1) y0 y1 y2 y3 y4 y5 y6 y7 y8 y9 y10 y11 y12 y13 y14 y15)) ∧ (∀ y0 y1 y2 y3 y4 y5 y6 y7 y8 y9 y10 y11 y12 y13 y14 y15, LeO (shellgamelaw13_ConfigFits.l0 k y0 y1 y2 y3 y4 y5 y6 y7 y8 y9 y10 y11 y12 y13 y14 y15) (shellgamelaw13_ConfigFits.l0 (k + 1) y0 y1 y2 y3 y4 y5 y6 y7 y8 y9 y10 y11 y12 y13 y14 y15)) ∧ (∀ y0 y1 y2 y3 y4 y5 y6 y7 y8 y9 y10 y11 y12 y13 y14 y15, LeO (shellgamelaw13_ConfigFits.j3 k y0 y1 y2 y3 y4 y5 y6 y7 y8 y9 y10 y11 y12 y13 y14 y15) (shellgamelaw13_ConfigFits.j3 (k + 1) y0 y1 y2 y3 y4 y5 y6 y7 y8 y9 y10 y11 y12 y13 y14 y15))
  | 0 => ⟨fun _ _ _ _ _ _ _ _ _ _ _ _ _ r h => by simp [shellgamelaw13_ConfigFits.j0] at h, fun _ _ _ _ _ _ _ _ _ _ _ _ _ _ _ _ r h => by simp [shellgamelaw13_ConfigFits.j1] at h, fun _ _ _ _ _ _ _ _ _ _ _ _ _ _ _ _ r h => by simp [shellgamelaw13_ConfigFits.l0] at h, fun _ _ _ _ _ _ _ _ _ _ _ _ _ _ _ _ r h => by simp [shellgamelaw13_ConfigFits.j3] at h⟩
  | k + 1 => by
    obtain ⟨ih0, ih1, ih2, ih3⟩ := shellgamelaw13_ConfigFits.mono_l k
    refine ⟨?_, ?_, ?_, ?_⟩
    · intro y0 y1 y2 y3 y4 y5 y6 y7 y8 y9 y10 y11 y12
      unfold shellgamelaw13_ConfigFits.j0
      repeat' first
      | (with_reducible exact ih0 _ _ _ _ _ _ _ _ _ _ _ _ _)
      | (with_reducible exact ih1 _ _ _ _ _ _ _ _ _ _ _ _ _ _ _ _)
      | (with_reducible exact ih2 _ _ _ _ _ _ _ _ _ _ _ _ _ _ _ _)
      | (with_reducible exact ih3 _ _ _ _ _ _ _ _ _ _ _ _ _ _ _ _)
      | (with_reducible exact config_Sizes.mono _ _ _ _ _ _ _ _ _ _)
      | (with_reducible exact shellgamelaw13_sameInts.mono _ _ _)
      | (with_reducible exact shellgameref11_Sizes.mono _ _ _ _ _)
      | (with_reducible exact store_Sizes.mono _ _ _ _ _)
      | (with_reducible exact LeO.refl _)
      | (with_reducible exact LeO.none _)
      | (with_reducible refine LeO.ite ?_ ?_)
      | (with_reducible refine LeO.bind ?_ (fun _ => ?_))
      | exact ih0 _ _ _ _ _ _ _ _ _ _ _ _ _
      | exact ih1 _ _ _ _ _ _ _ _ _ _ _ _ _ _ _ _
      | exact ih2 _ _ _ _ _ _ _ _ _ _ _ _ _ _ _ _
      | exact ih3 _ _ _ _ _ _ _ _ _ _ _ _ _ _ _ _
      | exact config_Sizes.mono _ _ _ _ _ _ _ _ _ _
      | exact shellgamelaw13_sameInts.mono _ _ _
      | exact shellgameref11_Sizes.mono _ _ _ _ _
      | exact store_Sizes.mono _ _ _ _ _
      | exact LeO.none _
      | refine LeO.ite ?_ ?_
      | refine LeO.bind ?_ (fun _ => ?_)
    · intro y0 y1 y2 y3 y4 y5 y6 y7 y8 y9 y10 y11 y12 y13 y14 y15
      unfold shellgamelaw13_ConfigFits.j1
      repeat' first
      | (with_reducible exact ih0 _ _ _ _ _ _ _ _ _ _ _ _ _)
      | (with_reducible exact ih1 _ _ _ _ _ _ _ _ _ _ _ _ _ _ _ _)
      | (with_reducible exact ih2 _ _ _ _ _ _ _ _ _ _ _ _ _ _ _ _)
      | (with_reducible exact ih3 _ _ _ _ _ _ _ _ _ _ _ _ _ _ _ _)
      | (with_reducible exact config_Sizes.mono _ _ _ _ _ _ _ _ _ _)
      | (with_reducible exact shellgamelaw13_sameInts.mono _ _ _)
      | (with_reducible exact shellgameref11_Sizes.mono _ _ _ _ _)
      | (with_reducible exact store_Sizes.mono _ _ _ _ _)
      | (with_reducible exact LeO.refl _)
      | (with_reducible exact LeO.none _)
      | (with_reducible refine LeO.ite ?_ ?_)
      | (with_reducible refine LeO.bind ?_ (fun _ => ?_))
      | exact ih0 _ _ _ _ _ _ _ _ _ _ _ _ _
      | exact ih1 _ _ _ _ _ _ _ _ _ _ _ _ _ _ _ _
      | exact ih2 _ _ _ _ _ _ _ _ _ _ _ _ _ _ _ _
      | exact ih3 _ _ _ _ _ _ _ _ _ _ _ _ _ _ _ _
      | exact config_Sizes.mono _ _ _ _ _ _ _ _ _ _
      | exact shellgamelaw13_sameInts.mono _ _ _
      | exact shellgameref11_Sizes.mono _ _ _ _ _
      | exact store_Sizes.mono _ _ _ _ _
      | exact LeO.none _
      | refine LeO.ite ?_ ?_
      | refine LeO.bind ?_ (fun _ => ?_)
    · intro y0 y1 y2 y3 y4 y5 y6 y7 y8 y9 y10 y11 y12 y13 y14 y15
      unfold shellgamelaw13_ConfigFits.l0
      repeat' first
      | (with_reducible exact ih0 _ _ _ _ _ _ _ _ _ _ _ _ _)
      | (with_reducible exact ih1 _ _ _ _ _ _ _ _ _ _ _ _ _ _ _ _)
      | (with_reducible exact ih2 _ _ _ _ _ _ _ _ _ _ _ _ _ _ _ _)
      | (with_reducible exact ih3 _ _ _ _ _ _ _ _ _ _ _ _ _ _ _ _)
      | (with_reducible exact config_Sizes.mono _ _ _ _ _ _ _ _ _ _)
      | (with_reducible exact shellgamelaw13_sameInts.mono _ _ _)
      | (with_reducible exact shellgameref11_Sizes.mono _ _ _ _ _)
      | (with_reducible exact store_Sizes.mono _ _ _ _ _)
      | (with_reducible exact LeO.refl _)
      | (with_reducible exact LeO.none _)
      | (with_reducible refine LeO.ite ?_ ?_)
      | (with_reducible refine LeO.bind ?_ (fun _ => ?_))
      | exact ih0 _ _ _ _ _ _ _ _ _ _ _ _ _
      | exact ih1 _ _ _ _ _ _ _ _ _ _ _ _ _ _ _ _
      | exact ih2 _ _ _ _ _ _ _ _ _ _ _ _ _ _ _ _
      | exact ih3 _ _ _ _ _ _ _ _ _ _ _ _ _ _ _ _
      | exact config_Sizes.mono _ _ _ _ _ _ _ _ _ _
      | exact shellgamelaw13_sameInts.mono _ _ _
      | exact shellgameref11_Sizes.mono _ _ _ _ _
      | exact store_Sizes.mono _ _ _ _ _
      | exact LeO.none _
      | refine LeO.ite ?_ ?_
      | refine LeO.bind ?_ (fun _ => ?_)
    · intro y0 y1 y2 y3 y4 y5 y6 y7 y8 y9 y10 y11 y12 y13 y14 y15
      unfold shellgamelaw13_ConfigFits.j3
      repeat' first
      | (with_reducible exact ih0 _ _ _ _ _ _ _ _ _ _ _ _ _)
      | (with_reducible exact ih1 _ _ _ _ _ _ _ _ _ _ _ _ _ _ _ _)
      | (with_reducible exact ih2 _ _ _ _ _ _ _ _ _ _ _ _ _ _ _ _)
      | (with_reducible exact ih3 _ _ _ _ _ _ _ _ _ _ _ _ _ _ _ _)
      | (with_reducible exact config_Sizes.mono _ _ _ _ _ _ _ _ _ _)
      | (with_reducible exact shellgamelaw13_sameInts.mono _ _ _)
      | (with_reducible exact shellgameref11_Sizes.mono _ _ _ _ _)
      | (with_reducible exact store_Sizes.mono _ _ _ _ _)
      | (with_reducible exact LeO.refl _)
      | (with_reducible exact LeO.none _)
      | (with_reducible refine LeO.ite ?_ ?_)
      | (with_reducible refine LeO.bind ?_ (fun _ => ?_))
      | exact ih0 _ _ _ _ _ _ _ _ _ _ _ _ _
      | exact ih1 _ _ _ _ _ _ _ _ _ _ _ _ _ _ _ _
      | exact ih2 _ _ _ _ _ _ _ _ _ _ _ _ _ _ _ _
      | exact ih3 _ _ _ _ _ _ _ _ _ _ _ _ _ _ _ _
      | exact config_Sizes.mono _ _ _ _ _ _ _ _ _ _
      | exact shellgamelaw13_sameInts.mono _ _ _
      | exact shellgameref11_Sizes.mono _ _ _ _ _
      | exact store_Sizes.mono _ _ _ _ _
      | exact LeO.none _
      | refine LeO.ite ?_ ?_
      | refine LeO.bind ?_ (fun _ => ?_)
theorem shellgamelaw13_ConfigFits.mono : ∀ a0 a1 a2 a3 a4 a5 a6 a7 a8 a9 k, LeO (shellgamelaw13_ConfigFits.f k a0 a1 a2 a3 a4 a5 a6 a7 a8 a9) (shellgamelaw13_ConfigFits.f (k + 1) a0 a1 a2 a3 a4 a5 a6 a7 a8 a9) := by
  intro a0 a1 a2 a3 a4 a5 a6 a7 a8 a9 k
  obtain ⟨ih0, ih1, ih2, ih3⟩ := shellgamelaw13_ConfigFits.mono_l k
  unfold shellgamelaw13_ConfigFits.f
  repeat' first
      | (with_reducible exact ih0 _ _ _ _ _ _ _ _ _ _ _ _ _)
      | (with_reducible exact ih1 _ _ _ _ _ _ _ _ _ _ _ _ _ _ _ _)
      | (with_reducible exact ih2 _ _ _ _ _ _ _ _ _ _ _ _ _ _ _ _)
      | (with_reducible exact ih3 _ _ _ _ _ _ _ _ _ _ _ _ _ _ _ _)
      | (with_reducible exact config_Sizes.mono _ _ _ _ _ _ _ _ _ _)
      | (with_reducible exact shellgamelaw13_sameInts.mono _ _ _)
      | (with_reducible exact shellgameref11_Sizes.mono _ _ _ _ _)
      | (with_reducible exact store_Sizes.mono _ _ _ _ _)
      | (with_reducible exact LeO.refl _)
      | (with_reducible exact LeO.none _)
      | (with_reducible refine LeO.ite ?_ ?_)
      | (with_reducible refine LeO.bind ?_ (fun _ => ?_))
      | exact ih0 _ _ _ _ _ _ _ _ _ _ _ _ _
      | exact ih1 _ _ _ _ _ _ _ _ _ _ _ _ _ _ _ _
      | exact ih2 _ _ _ _ _ _ _ _ _ _ _ _ _ _ _ _
      | exact ih3 _ _ _ _ _ _ _ _ _ _ _ _ _ _ _ _
      | exact config_Sizes.mono _ _ _ _ _ _ _ _ _ _
      | exact shellgamelaw13_sameInts.mono _ _ _
      | exact shellgameref11_Sizes.mono _ _ _ _ _
      | exact store_Sizes.mono _ _ _ _ _
      | exact LeO.none _
      | refine LeO.ite ?_ ?_
      | refine LeO.bind ?_ (fun _ => ?_)
def shellgamelaw13_ConfigFits.T7 : Bool × List (List Nat × List Nat) := (true, [([], []), ([0], [0]), ([1], [1]), ([2, 1], [2]), ([3], [3]), ([4, 3], [3, 4]), ([3], [3]), ([6, 3], [3, 6]), ([7, 3], [3, 7]), ([3], [3]), ([9, 3], [3, 9]), ([8, 10, 3], [3, 8, 10]), ([3], [3]), ([12, 3], [3, 12]), ([11, 13, 3], [3, 11, 13]), ([5, 14, 3], [3, 5, 14]), ([3, 15], [3, 15]), ([16, 3], [16]), ([17], [17]), ([18, 17], [17, 18]), ([19, 17], [17, 19]), ([17, 20], [17, 20]), ([21, 17], [21]), ([22], [22]), ([23, 22], [22, 23]), ([24, 22], [22, 24]), ([22, 25], [22, 25]), ([26, 22], [26]), ([27], [27]), ([28, 27], [27, 28]), ([29, 27], [27, 29]), ([30, 27], [27, 30]), ([27, 31], [27, 31]), ([32, 27], [32]), ([33], [33]), ([34, 33], [33, 34]), ([35, 33], [33, 35]), ([33], [33]), ([37, 33], [33, 37]), ([36, 38, 33], [33, 36, 38]), ([33, 39], [33, 39]), ([40, 33], [40]), ([41], [41]), ([42, 41], [41, 42]), ([43, 41], [41, 43]), ([41], [41]), ([45, 41, 41], [41, 45]), ([44, 46, 41], [41, 44, 46]), ([41, 47], [41, 47])])
def shellgamelaw13_ConfigFits.B7 : List Nat := [0, 1, 3, 7, 15, 31, 15, 79, 207, 15, 527, 1999, 15, 4111, 16335, 32767, 65535, 131071, 262143, 524287, 1048575, 2097151, 4194303, 8388607, 16777215, 33554431, 67108863, 134217727, 268435455, 536870911, 1073741823, 2147483647, 4294967295, 8589934591, 17179869183, 34359738367, 68719476735, 17179869183, 154618822655, 549755813887, 1099511627775, 2199023255551, 4398046511103, 8796093022207, 17592186044415, 4398046511103, 39582418599935, 140737488355327, 281474976710655]
theorem shellgamelaw13_ConfigFits.tab7 : rtab .any (opsOf Tryd.f7 7) = shellgamelaw13_ConfigFits.T7 := by kernel_rfl
theorem shellgamelaw13_ConfigFits.bits7 : waitsOk shellgamelaw13_ConfigFits.T7.2 shellgamelaw13_ConfigFits.B7 = true := by kernel_rfl
def shellgamelaw13_ConfigFits.T16 : Bool × List (List Nat × List Nat) := (true, [([], []), ([], []), ([1], [1]), ([0, 2], [0, 2]), ([], []), ([], []), ([4, 5, 3], [4, 5]), ([3, 6], [3, 6]), ([7, 6, 0, 1, 2, 3, 4, 5, 6, 7], [7])])
def shellgamelaw13_ConfigFits.B16 : List Nat := [0, 0, 2, 7, 0, 0, 63, 127, 255]
theorem shellgamelaw13_ConfigFits.tab16 : rtab .any (opsOf Tryd.f7 16) = shellgamelaw13_ConfigFits.T16 := by kernel_rfl
theorem shellgamelaw13_ConfigFits.bits16 : waitsOk shellgamelaw13_ConfigFits.T16.2 shellgamelaw13_ConfigFits.B16 = true := by kernel_rfl
def shellgamelaw13_ConfigFits.T20 : Bool × List (List Nat × List Nat) := (true, [([], []), ([0], [0]), ([1], [1]), ([2, 1], [2]), ([3], [3]), ([3], [3]), ([3], [3]), ([6, 3, 3], [3, 6]), ([5, 7, 3], [3, 5, 7]), ([4, 8, 3], [3, 4, 8]), ([3, 9], [3, 9]), ([10, 7], [10]), ([11], [11]), ([12, 11], [11, 12]), ([11], [11]), ([14, 11, 11], [11, 14]), ([13, 15, 15, 11], [11, 13, 15]), ([11, 16], [11, 16]), ([17, 16], [17]), ([18], [18]), ([19, 18, 18], [18, 19]), ([20, 18], [18, 20]), ([21, 18], [18, 21]), ([18, 22], [18, 22]), ([23, 20, 0, 1, 2, 3, 4, 5, 6, 7, 8, 9, 10, 11, 12, 13, 14, 15, 16, 17, 18, 19, 20, 21, 22, 23], [23])])
def shellgamelaw13_ConfigFits.B20 : List Nat := [0, 1, 3, 7, 15, 15, 15, 79, 239, 511, 1023, 2047, 4095, 8191, 4095, 20479, 65535, 131071, 262143, 524287, 1048575, 2097151, 4194303, 8388607, 16777215]
theorem shellgamelaw13_ConfigFits.tab20 : rtab .any (opsOf Tryd.f7 20) = shellgamelaw13_ConfigFits.T20 := by kernel_rfl
theorem shellgamelaw13_ConfigFits.bits20 : waitsOk shellgamelaw13_ConfigFits.T20.2 shellgamelaw13_ConfigFits.B20 = true := by kernel_rfl
/-- where a test of the great '||' is true, the law returns false -/
theorem shellgamelaw13_ConfigFits.j1_no (k : Nat) (x1 : Int) (x8 : List Int) (r : Bool) {c0 c1 c2 c3 c4 c5 c6 c7 c8 t0 t1 t2 t3 : Int} (hr : r = true) (h : shellgamelaw13_ConfigFits.j1 k x1 x8 true c0 c1 c2 c3 c4 c5 c6 c7 c8 t0 t1 t2 t3 = some r) : False := by
  cases k with
  | zero => simp [shellgamelaw13_ConfigFits.j1] at h
  | succ k =>
    simp only [shellgamelaw13_ConfigFits.j1] at h
    have h' : (some false : Option Bool) = some r := h
    rw [hr] at h'
    exact absurd h' (by simp)
set_option maxHeartbeats 8000000 in
set_option maxRecDepth 100000 in
theorem shellgamelaw13_ConfigFits.calls (k : Nat) (a0_0 : Int) (a0_1 : Int) (a0_2 : Int) (a0_3 : Int) (a0_4 : Int) (a0_5 : Int) (a0_6 : Int) (a0_7 : Int) (a0_8 : Int) (a1 : Int) (r : Bool) (w : World) (hE : Aside0 (Env w)) (hrT : Aside0 (r = true)) (h : shellgamelaw13_ConfigFits.f k a0_0 a0_1 a0_2 a0_3 a0_4 a0_5 a0_6 a0_7 a0_8 a1 = some r) :
    Calls Tryd.prog 7 #[.agg #[.int .i64 a0_0, .int .i64 a0_1, .int .i64 a0_2, .int .i64 a0_3, .int .i64 a0_4, .int .i64 a0_5, .int .i64 a0_6, .int .i64 a0_7, .int .i64 a0_8], .int .i64 a1] w fun e w' => e = .returned (.bool r) ∧ Below w.heap.size w w' := by
  have hu23 := Tryd.underlying23
  have hu33 := Tryd.underlying33
  have hu44 := Tryd.underlying44
  have HB := Aside0.mk (Below.refl w.heap.size w)
  have H : ((shellgamelaw13_shown.f).bind fun t204 => ((config_Why.f a0_0 a0_1 a0_2 a0_3 a0_4 a0_5 a0_6 a0_7 a0_8).bind fun bt205 => ((config_Sizes.f k a0_0 a0_1 a0_2 a0_3 a0_4 a0_5 a0_6 a0_7 a0_8).bind fun t207 => (if t204 = true then (shellgamelaw13_ConfigFits.j0 k a1 t204 t207 (bt205.2 != 0) a0_0 a0_1 a0_2 a0_3 a0_4 a0_5 a0_6 a0_7 a0_8) else (shellgamelaw13_ConfigFits.j0 k a1 t204 t207 true a0_0 a0_1 a0_2 a0_3 a0_4 a0_5 a0_6 a0_7 a0_8))))) = some r := h
  clear h
  replace H := Option.bind_eq_some_iff.mp H
  obtain ⟨t204, A30, H⟩ := H
  replace H : ((config_Why.f a0_0 a0_1 a0_2 a0_3 a0_4 a0_5 a0_6 a0_7 a0_8).bind fun bt205 => ((config_Sizes.f k a0_0 a0_1 a0_2 a0_3 a0_4 a0_5 a0_6 a0_7 a0_8).bind fun t207 => (if t204 = true then (shellgamelaw13_ConfigFits.j0 k a1 t204 t207 (bt205.2 != 0) a0_0 a0_1 a0_2 a0_3 a0_4 a0_5 a0_6 a0_7 a0_8) else (shellgamelaw13_ConfigFits.j0 k a1 t204 t207 true a0_0 a0_1 a0_2 a0_3 a0_4 a0_5 a0_6 a0_7 a0_8)))) = some r := H
  have A3 := Aside0.mk A30
  clear A30
  replace H := Option.bind_eq_some_iff.mp H
  obtain ⟨⟨t205, t206⟩, A40, H⟩ := H
  replace H : ((config_Sizes.f k a0_0 a0_1 a0_2 a0_3 a0_4 a0_5 a0_6 a0_7 a0_8).bind fun t207 => (if t204 = true then (shellgamelaw13_ConfigFits.j0 k a1 t204 t207 (t206 != 0) a0_0 a0_1 a0_2 a0_3 a0_4 a0_5 a0_6 a0_7 a0_8) else (shellgamelaw13_ConfigFits.j0 k a1 t204 t207 true a0_0 a0_1 a0_2 a0_3 a0_4 a0_5 a0_6 a0_7 a0_8))) = some r := H
  have A4 := Aside0.mk A40
  clear A40
  replace H := Option.bind_eq_some_iff.mp H
  obtain ⟨t207, A50, H⟩ := H
  replace H : (if t204 = true then (shellgamelaw13_ConfigFits.j0 k a1 t204 t207 (t206 != 0) a0_0 a0_1 a0_2 a0_3 a0_4 a0_5 a0_6 a0_7 a0_8) else (shellgamelaw13_ConfigFits.j0 k a1 t204 t207 true a0_0 a0_1 a0_2 a0_3 a0_4 a0_5 a0_6 a0_7 a0_8)) = some r := H
  have A5 := Aside0.mk A50
  clear A50
  have HC6 := Aside0.mk H
  clear H
  go_enter Tryd.func7, Tryd.ntmps7
  go_upto_region 4 with (first | ((with_reducible refine gate_dst (N := 2) rfl ?_); (try (refine gate_guard (by rfl) ?_; dsimp only)); refine box_event ?hg (N := 2) ?hd (cs := #[.int .i64 a0_0, .int .i64 a0_1, .int .i64 a0_2, .int .i64 a0_3, .int .i64 a0_4, .int .i64 a0_5, .int .i64 a0_6, .int .i64 a0_7, .int .i64 a0_8]) (t := 23) ?hr ?_; (case hd => rfl); (case hg => rfl); (case hr => first | (go_simp; done) | (go_simp; rfl)); intro gb203 hg w7 hbox hb; have n0_ := Aside0.mk (below_step (by repeat (first | (with_reducible first | exact HB.out | apply below_alloc | apply pw_below_drewN | apply below_drew1) | exact HB.out)) hb); have n1_ := Aside0.mk (hbox); have n2_ := Aside0.mk ((by rw [hg]; exact (below_size (by repeat (first | (with_reducible first | exact HB.out | apply below_alloc | apply pw_below_drewN | apply below_drew1) | exact HB.out))) : w.heap.size ≤ gb203)); have n3_ := Aside0.mk ((by rw [hg]; exact (below_size (by repeat (first | (with_reducible first | exact HB.out | apply below_alloc | apply pw_below_drewN | apply below_drew1) | exact HB.out))) : w.heap.size ≤ gb203)); clear HB; have HB := n0_; have BK203 := n1_; have GW203 := n2_; have GE203 := n3_; clear n0_ n1_ n2_ n3_; clear hb hbox hg) | ((with_reducible refine gate_callee (f := 9) rfl ?_); refine goesL_ (some 15) rfl rfl Tryd.func9 (by kernel_rfl) rfl #[] rfl (by (try simp only [List.map_toArray, List.map_cons, List.map_nil]); first | done | rfl | (simp only [List.length_drop, List.length_take]; rfl)) ?_; (with_reducible refine (shellgamelaw13_shown.calls  t204 _ ⟨Env.below hE.out (by repeat (first | (with_reducible first | exact HB.out | apply below_alloc | apply pw_below_drewN | apply below_drew1 | refine below_set ?_ (Aside0.out (by assumption))) | exact HB.out))⟩ A3.out).mono ?_); rintro e w8 ⟨rfl, hb⟩; refine ⟨_, rfl, ?_⟩; have n0_ := Aside0.mk (blk_below (g := gb203) (o := .cells #[.int .i64 a0_0, .int .i64 a0_1, .int .i64 a0_2, .int .i64 a0_3, .int .i64 a0_4, .int .i64 a0_5, .int .i64 a0_6, .int .i64 a0_7, .int .i64 a0_8] 23 (0, 0)) (by (with_reducible repeat (first | refine blk_drewN ?_ _ | refine blk_drew ?_ | refine blk_alloc ?_ _)); exact BK203.out) hb); have n1_ := Aside0.mk (below_step (by repeat (first | (with_reducible first | exact HB.out | apply below_alloc | apply pw_below_drewN | apply below_drew1 | refine below_set ?_ GE203.out) | exact HB.out)) hb); clear BK203; clear HB; have BK203 := n0_; have HB := n1_; clear n0_ n1_; (try clear hb); (try clear hb2); (try clear hk); (try clear hi); have hcz9_0 : w8.cell? ⟨gb203, 0, none⟩ = some (.int .i64 a0_0) := (blk_cell BK203.out 0).trans rfl; have hcz9_1 : w8.cell? ⟨gb203, 1, none⟩ = some (.int .i64 a0_1) := (blk_cell BK203.out 1).trans rfl; have hcz9_2 : w8.cell? ⟨gb203, 2, none⟩ = some (.int .i64 a0_2) := (blk_cell BK203.out 2).trans rfl; have hcz9_3 : w8.cell? ⟨gb203, 3, none⟩ = some (.int .i64 a0_3) := (blk_cell BK203.out 3).trans rfl; have hcz9_4 : w8.cell? ⟨gb203, 4, none⟩ = some (.int .i64 a0_4) := (blk_cell BK203.out 4).trans rfl; have hcz9_5 : w8.cell? ⟨gb203, 5, none⟩ = some (.int .i64 a0_5) := (blk_cell BK203.out 5).trans rfl; have hcz9_6 : w8.cell? ⟨gb203, 6, none⟩ = some (.int .i64 a0_6) := (blk_cell BK203.out 6).trans rfl; have hcz9_7 : w8.cell? ⟨gb203, 7, none⟩ = some (.int .i64 a0_7) := (blk_cell BK203.out 7).trans rfl; have hcz9_8 : w8.cell? ⟨gb203, 8, none⟩ = some (.int .i64 a0_8) := (blk_cell BK203.out 8).trans rfl; have hfz9_0 := blk_frozen BK203.out 0; have hfz9_1 := blk_frozen BK203.out 1; have hfz9_2 := blk_frozen BK203.out 2; have hfz9_3 := blk_frozen BK203.out 3; have hfz9_4 := blk_frozen BK203.out 4; have hfz9_5 := blk_frozen BK203.out 5; have hfz9_6 := blk_frozen BK203.out 6; have hfz9_7 := blk_frozen BK203.out 7; have hfz9_8 := blk_frozen BK203.out 8) | ((with_reducible refine gate_callee (f := 10) rfl ?_); refine goesL_ (some 18) rfl rfl Tryd.func10 (by kernel_rfl) rfl #[.agg #[.int .i64 a0_0, .int .i64 a0_1, .int .i64 a0_2, .int .i64 a0_3, .int .i64 a0_4, .int .i64 a0_5, .int .i64 a0_6, .int .i64 a0_7, .int .i64 a0_8]] rfl (by (try simp only [List.map_toArray, List.map_cons, List.map_nil]); first | done | rfl | (simp only [List.length_drop, List.length_take]; rfl)) ?_; (with_reducible refine (config_Why.calls a0_0 a0_1 a0_2 a0_3 a0_4 a0_5 a0_6 a0_7 a0_8 t205 t206 _ (Env.below hE.out (by repeat (first | (with_reducible first | exact HB.out | apply below_alloc | apply pw_below_drewN | apply below_drew1 | refine below_set ?_ (Aside0.out (by assumption))) | exact HB.out))) A4.out).mono ?_); rintro e w10 ⟨rfl, hb⟩; refine ⟨_, rfl, ?_⟩; have n0_ := Aside0.mk (blk_below (g := gb203) (o := .cells #[.int .i64 a0_0, .int .i64 a0_1, .int .i64 a0_2, .int .i64 a0_3, .int .i64 a0_4, .int .i64 a0_5, .int .i64 a0_6, .int .i64 a0_7, .int .i64 a0_8] 23 (0, 0)) (by (with_reducible repeat (first | refine blk_drewN ?_ _ | refine blk_drew ?_ | refine blk_alloc ?_ _)); exact BK203.out) hb); have n1_ := Aside0.mk (below_step (by repeat (first | (with_reducible first | exact HB.out | apply below_alloc | apply pw_below_drewN | apply below_drew1 | refine below_set ?_ GE203.out) | exact HB.out)) hb); clear BK203; clear HB; have BK203 := n0_; have HB := n1_; clear n0_ n1_; (try clear hb); (try clear hb2); (try clear hk); (try clear hi); have hcz11_0 : w10.cell? ⟨gb203, 0, none⟩ = some (.int .i64 a0_0) := (blk_cell BK203.out 0).trans rfl; have hcz11_1 : w10.cell? ⟨gb203, 1, none⟩ = some (.int .i64 a0_1) := (blk_cell BK203.out 1).trans rfl; have hcz11_2 : w10.cell? ⟨gb203, 2, none⟩ = some (.int .i64 a0_2) := (blk_cell BK203.out 2).trans rfl; have hcz11_3 : w10.cell? ⟨gb203, 3, none⟩ = some (.int .i64 a0_3) := (blk_cell BK203.out 3).trans rfl; have hcz11_4 : w10.cell? ⟨gb203, 4, none⟩ = some (.int .i64 a0_4) := (blk_cell BK203.out 4).trans rfl; have hcz11_5 : w10.cell? ⟨gb203, 5, none⟩ = some (.int .i64 a0_5) := (blk_cell BK203.out 5).trans rfl; have hcz11_6 : w10.cell? ⟨gb203, 6, none⟩ = some (.int .i64 a0_6) := (blk_cell BK203.out 6).trans rfl; have hcz11_7 : w10.cell? ⟨gb203, 7, none⟩ = some (.int .i64 a0_7) := (blk_cell BK203.out 7).trans rfl; have hcz11_8 : w10.cell? ⟨gb203, 8, none⟩ = some (.int .i64 a0_8) := (blk_cell BK203.out 8).trans rfl; have hfz11_0 := blk_frozen BK203.out 0; have hfz11_1 := blk_frozen BK203.out 1; have hfz11_2 := blk_frozen BK203.out 2; have hfz11_3 := blk_frozen BK203.out 3; have hfz11_4 := blk_frozen BK203.out 4; have hfz11_5 := blk_frozen BK203.out 5; have hfz11_6 := blk_frozen BK203.out 6; have hfz11_7 := blk_frozen BK203.out 7; have hfz11_8 := blk_frozen BK203.out 8) | ((with_reducible refine gate_callee (f := 22) rfl ?_); refine goesL_ (some 22) rfl rfl Tryd.func22 (by kernel_rfl) rfl #[.agg #[.int .i64 a0_0, .int .i64 a0_1, .int .i64 a0_2, .int .i64 a0_3, .int .i64 a0_4, .int .i64 a0_5, .int .i64 a0_6, .int .i64 a0_7, .int .i64 a0_8]] rfl (by (try simp only [List.map_toArray, List.map_cons, List.map_nil]); first | done | rfl | (simp only [List.length_drop, List.length_take]; rfl)) ?_; (with_reducible refine (config_Sizes.calls k a0_0 a0_1 a0_2 a0_3 a0_4 a0_5 a0_6 a0_7 a0_8 t207 _ A5.out).mono ?_); rintro e w12 ⟨v208, rfl, ho0, hb⟩; refine ⟨_, rfl, ?_⟩; have n0_ := Aside0.mk (Kd.R_lower ho0 (below_size (by repeat (first | (with_reducible first | exact HB.out | apply below_alloc | apply pw_below_drewN | apply below_drew1 | refine below_set ?_ GE203.out) | exact HB.out)))); have n1_ := Aside0.mk (blk_below (g := gb203) (o := .cells #[.int .i64 a0_0, .int .i64 a0_1, .int .i64 a0_2, .int .i64 a0_3, .int .i64 a0_4, .int .i64 a0_5, .int .i64 a0_6, .int .i64 a0_7, .int .i64 a0_8] 23 (0, 0)) (by (with_reducible repeat (first | refine blk_drewN ?_ _ | refine blk_drew ?_ | refine blk_alloc ?_ _)); exact BK203.out) hb); have n2_ := Aside0.mk (below_step (by repeat (first | (with_reducible first | exact HB.out | apply below_alloc | apply pw_below_drewN | apply below_drew1 | refine below_set ?_ GE203.out) | exact HB.out)) hb); clear BK203; clear HB; have HO209 := n0_; have BK203 := n1_; have HB := n2_; clear n0_ n1_ n2_; (try clear hb); (try clear hb2); (try clear hk); (try clear hi); (try clear ho0)))
  (try simp only [Act.put, List.setIfInBounds_toArray, List.set_cons_zero, List.set_cons_succ])
  go_cut [28] (fun v28 wc => ∃ (kq : Nat) (x28_5 : Bool), v28 = .bool x28_5 ∧ Aside0 (shellgamelaw13_ConfigFits.j0 kq a1 t204 t207 x28_5 a0_0 a0_1 a0_2 a0_3 a0_4 a0_5 a0_6 a0_7 a0_8 = some r) ∧ Aside0 (kq ≤ k) ∧ Aside0 (Kd.R (Kd.int .i64) 3 wc w.heap.size (fun _ => True) v208 t207) ∧ Aside0 (wc.heap[gb203]? = some (.cells #[.int .i64 a0_0, .int .i64 a0_1, .int .i64 a0_2, .int .i64 a0_3, .int .i64 a0_4, .int .i64 a0_5, .int .i64 a0_6, .int .i64 a0_7, .int .i64 a0_8] 23 (0, 0))) ∧ Aside0 (Below w.heap.size w wc))
  case first =>
    have H := HC6.out
    clear HC6
    by_cases c13 : t204 = true
    · subst c13
      have H1 : (shellgamelaw13_ConfigFits.j0 k a1 true t207 (t206 != 0) a0_0 a0_1 a0_2 a0_3 a0_4 a0_5 a0_6 a0_7 a0_8) = some r := by rw [if_pos rfl] at H; exact H
      clear H
      have H := H1
      clear H1
      have H' := Aside0.mk H
      clear H
      go_wp2
      go_meet
      case rel => exact ⟨_, ((t206 != 0)), (by first | rfl | (simp; done) | (simp [*]; done)), H', ⟨by first | omega | exact Nat.le_refl _⟩, ⟨by (with_reducible repeat (first | apply Kd.R_alloc | apply Kd.R_drewN | apply Kd.R_drew)); exact HO209.out⟩, ⟨by (with_reducible repeat (first | refine blk_drewN ?_ _ | refine blk_drew ?_ | refine blk_alloc ?_ _)); exact BK203.out⟩, ⟨by repeat (first | (with_reducible first | exact HB.out | apply below_alloc | apply pw_below_drewN | apply below_drew1 | refine below_set ?_ GE203.out) | exact HB.out)⟩⟩
    · replace c13 := Bool.eq_false_iff.mpr c13
      subst c13
      have H1 : (shellgamelaw13_ConfigFits.j0 k a1 false t207 true a0_0 a0_1 a0_2 a0_3 a0_4 a0_5 a0_6 a0_7 a0_8) = some r := by rw [if_neg (show ¬ (false = true) by decide)] at H; exact H
      clear H
      have H := H1
      clear H1
      have H' := Aside0.mk H
      clear H
      go_wp2
      go_meet
      case rel => exact ⟨_, (true), (by first | rfl | (simp; done) | (simp [*]; done)), H', ⟨by first | omega | exact Nat.le_refl _⟩, ⟨by (with_reducible repeat (first | apply Kd.R_alloc | apply Kd.R_drewN | apply Kd.R_drew)); exact HO209.out⟩, ⟨by (with_reducible repeat (first | refine blk_drewN ?_ _ | refine blk_drew ?_ | refine blk_alloc ?_ _)); exact BK203.out⟩, ⟨by repeat (first | (with_reducible first | exact HB.out | apply below_alloc | apply pw_below_drewN | apply below_drew1 | refine below_set ?_ GE203.out) | exact HB.out)⟩⟩
  case rest =>
    clear HC6
    try clear c1
    try clear c2
    try clear p2
    try clear c7
    try clear c9
    try clear c10
    try clear c13
    try clear hcz11_0
    try clear hcz11_1
    try clear hcz11_2
    try clear hcz11_3
    try clear hcz11_4
    try clear hcz11_5
    try clear hcz11_6
    try clear hcz11_7
    try clear hcz11_8
    try clear hcz9_0
    try clear hcz9_1
    try clear hcz9_2
    try clear hcz9_3
    try clear hcz9_4
    try clear hcz9_5
    try clear hcz9_6
    try clear hcz9_7
    try clear hcz9_8
    try clear hfz11_0
    try clear hfz11_1
    try clear hfz11_2
    try clear hfz11_3
    try clear hfz11_4
    try clear hfz11_5
    try clear hfz11_6
    try clear hfz11_7
    try clear hfz11_8
    try clear hfz9_0
    try clear hfz9_1
    try clear hfz9_2
    try clear hfz9_3
    try clear hfz9_4
    try clear hfz9_5
    try clear hfz9_6
    try clear hfz9_7
    try clear hfz9_8
    obtain ⟨kq, x28_5, rfl, HA, HJ5, HO_8, BK203, HB⟩ := hcut
    cases kq with
    | zero => exact absurd HA.out (by simp [shellgamelaw13_ConfigFits.j0])
    | succ kj5 =>
      have H := HA.out
      clear HA
      simp only [shellgamelaw13_ConfigFits.j0] at H
      by_cases c14 : x28_5 = true
      · subst c14
        have H1 : (if t204 = true then (if (t207.length : Int) = 0 then ((config_Cells.f a0_0 a0_1 a0_2 a0_3 a0_4 a0_5 a0_6 a0_7 a0_8).bind fun t210 => (if t210 = 0 then ((config_Words.f a0_0 a0_1 a0_2 a0_3 a0_4 a0_5 a0_6 a0_7 a0_8 a1).bind fun t211 => (if t211 = 0 then ((config_Store.f a0_0 a0_1 a0_2 a0_3 a0_4 a0_5 a0_6 a0_7 a0_8).bind fun bt212 => (some (bt212.1 == 0 && (bt212.2.1 == 0 && (bt212.2.2.1 == 0 && (bt212.2.2.2 == 0)))))) else (some false))) else (some false))) else (some false)) else (some false)) = some r := by rw [if_pos rfl] at H; exact H
        clear H
        have H := H1
        clear H1
        by_cases c15 : t204 = true
        · subst c15
          have H1 : (if (t207.length : Int) = 0 then ((config_Cells.f a0_0 a0_1 a0_2 a0_3 a0_4 a0_5 a0_6 a0_7 a0_8).bind fun t210 => (if t210 = 0 then ((config_Words.f a0_0 a0_1 a0_2 a0_3 a0_4 a0_5 a0_6 a0_7 a0_8 a1).bind fun t211 => (if t211 = 0 then ((config_Store.f a0_0 a0_1 a0_2 a0_3 a0_4 a0_5 a0_6 a0_7 a0_8).bind fun bt212 => (some (bt212.1 == 0 && (bt212.2.1 == 0 && (bt212.2.2.1 == 0 && (bt212.2.2.2 == 0)))))) else (some false))) else (some false))) else (some false)) = some r := by rw [if_pos rfl] at H; exact H
          clear H
          have H := H1
          clear H1
          by_cases c16 : (t207.length : Int) = 0
          · rw [if_pos c16] at H
            have c16b0 : ((t207.length : Int) == 0) = true := beq_iff_eq.mpr c16
            have c16b1 : ((t207.length : Int) != 0) = false := bne_eq_false_iff_eq.mpr c16
            clear c16
            replace H := Option.bind_eq_some_iff.mp H
            obtain ⟨t210, A170, H⟩ := H
            replace H : (if t210 = 0 then ((config_Words.f a0_0 a0_1 a0_2 a0_3 a0_4 a0_5 a0_6 a0_7 a0_8 a1).bind fun t211 => (if t211 = 0 then ((config_Store.f a0_0 a0_1 a0_2 a0_3 a0_4 a0_5 a0_6 a0_7 a0_8).bind fun bt212 => (some (bt212.1 == 0 && (bt212.2.1 == 0 && (bt212.2.2.1 == 0 && (bt212.2.2.2 == 0)))))) else (some false))) else (some false)) = some r := H
            have A17 := Aside0.mk A170
            clear A170
            by_cases c18 : t210 = 0
            · rw [if_pos c18] at H
              have c18b0 : (t210 == 0) = true := beq_iff_eq.mpr c18
              have c18b1 : (t210 != 0) = false := bne_eq_false_iff_eq.mpr c18
              clear c18
              replace H := Option.bind_eq_some_iff.mp H
              obtain ⟨t211, A190, H⟩ := H
              replace H : (if t211 = 0 then ((config_Store.f a0_0 a0_1 a0_2 a0_3 a0_4 a0_5 a0_6 a0_7 a0_8).bind fun bt212 => (some (bt212.1 == 0 && (bt212.2.1 == 0 && (bt212.2.2.1 == 0 && (bt212.2.2.2 == 0)))))) else (some false)) = some r := H
              have A19 := Aside0.mk A190
              clear A190
              by_cases c20 : t211 = 0
              · rw [if_pos c20] at H
                have c20b0 : (t211 == 0) = true := beq_iff_eq.mpr c20
                have c20b1 : (t211 != 0) = false := bne_eq_false_iff_eq.mpr c20
                clear c20
                replace H := Option.bind_eq_some_iff.mp H
                obtain ⟨⟨t212, t213, t214, t215⟩, A210, H⟩ := H
                replace H : (some (t212 == 0 && (t213 == 0 && (t214 == 0 && (t215 == 0))))) = some r := H
                have A21 := Aside0.mk A210
                clear A210
                obtain rfl := Option.some.inj H
                obtain ⟨Ao22, co22, eo22⟩ := Kd.R_slice HO_8.out
                subst eo22
                have hcz23_0 : wc.cell? ⟨gb203, 0, none⟩ = some (.int .i64 a0_0) := (blk_cell BK203.out 0).trans rfl
                have hcz23_1 : wc.cell? ⟨gb203, 1, none⟩ = some (.int .i64 a0_1) := (blk_cell BK203.out 1).trans rfl
                have hcz23_2 : wc.cell? ⟨gb203, 2, none⟩ = some (.int .i64 a0_2) := (blk_cell BK203.out 2).trans rfl
                have hcz23_3 : wc.cell? ⟨gb203, 3, none⟩ = some (.int .i64 a0_3) := (blk_cell BK203.out 3).trans rfl
                have hcz23_4 : wc.cell? ⟨gb203, 4, none⟩ = some (.int .i64 a0_4) := (blk_cell BK203.out 4).trans rfl
                have hcz23_5 : wc.cell? ⟨gb203, 5, none⟩ = some (.int .i64 a0_5) := (blk_cell BK203.out 5).trans rfl
                have hcz23_6 : wc.cell? ⟨gb203, 6, none⟩ = some (.int .i64 a0_6) := (blk_cell BK203.out 6).trans rfl
                have hcz23_7 : wc.cell? ⟨gb203, 7, none⟩ = some (.int .i64 a0_7) := (blk_cell BK203.out 7).trans rfl
                have hcz23_8 : wc.cell? ⟨gb203, 8, none⟩ = some (.int .i64 a0_8) := (blk_cell BK203.out 8).trans rfl
                have hfz23_0 := blk_frozen BK203.out 0
                have hfz23_1 := blk_frozen BK203.out 1
                have hfz23_2 := blk_frozen BK203.out 2
                have hfz23_3 := blk_frozen BK203.out 3
                have hfz23_4 := blk_frozen BK203.out 4
                have hfz23_5 := blk_frozen BK203.out 5
                have hfz23_6 := blk_frozen BK203.out 6
                have hfz23_7 := blk_frozen BK203.out 7
                have hfz23_8 := blk_frozen BK203.out 8
                go_wp2_with (first | (go_at_call 13; (with_reducible refine (config_Cells.calls a0_0 a0_1 a0_2 a0_3 a0_4 a0_5 a0_6 a0_7 a0_8 t210 _ A17.out).mono ?_); rintro e w24 ⟨rfl, hb⟩; have n0_ := Aside0.mk (Kd.R_below (by (with_reducible repeat (first | apply Kd.R_alloc | apply Kd.R_drewN | apply Kd.R_drew)); exact HO_8.out) hb); have n1_ := Aside0.mk (blk_below (g := gb203) (o := .cells #[.int .i64 a0_0, .int .i64 a0_1, .int .i64 a0_2, .int .i64 a0_3, .int .i64 a0_4, .int .i64 a0_5, .int .i64 a0_6, .int .i64 a0_7, .int .i64 a0_8] 23 (0, 0)) (by (with_reducible repeat (first | refine blk_drewN ?_ _ | refine blk_drew ?_ | refine blk_alloc ?_ _)); exact BK203.out) hb); have n2_ := Aside0.mk (below_step (by repeat (first | (with_reducible first | exact HB.out | apply below_alloc | apply pw_below_drewN | apply below_drew1 | refine below_set ?_ GE203.out) | exact HB.out)) hb); clear HO_8; clear BK203; clear HB; have HO_8 := n0_; have BK203 := n1_; have HB := n2_; clear n0_ n1_ n2_; (try clear hb); (try clear hb2); (try clear hk); (try clear hi); have hcz25_0 : w24.cell? ⟨gb203, 0, none⟩ = some (.int .i64 a0_0) := (blk_cell BK203.out 0).trans rfl; have hcz25_1 : w24.cell? ⟨gb203, 1, none⟩ = some (.int .i64 a0_1) := (blk_cell BK203.out 1).trans rfl; have hcz25_2 : w24.cell? ⟨gb203, 2, none⟩ = some (.int .i64 a0_2) := (blk_cell BK203.out 2).trans rfl; have hcz25_3 : w24.cell? ⟨gb203, 3, none⟩ = some (.int .i64 a0_3) := (blk_cell BK203.out 3).trans rfl; have hcz25_4 : w24.cell? ⟨gb203, 4, none⟩ = some (.int .i64 a0_4) := (blk_cell BK203.out 4).trans rfl; have hcz25_5 : w24.cell? ⟨gb203, 5, none⟩ = some (.int .i64 a0_5) := (blk_cell BK203.out 5).trans rfl; have hcz25_6 : w24.cell? ⟨gb203, 6, none⟩ = some (.int .i64 a0_6) := (blk_cell BK203.out 6).trans rfl; have hcz25_7 : w24.cell? ⟨gb203, 7, none⟩ = some (.int .i64 a0_7) := (blk_cell BK203.out 7).trans rfl; have hcz25_8 : w24.cell? ⟨gb203, 8, none⟩ = some (.int .i64 a0_8) := (blk_cell BK203.out 8).trans rfl; have hfz25_0 := blk_frozen BK203.out 0; have hfz25_1 := blk_frozen BK203.out 1; have hfz25_2 := blk_frozen BK203.out 2; have hfz25_3 := blk_frozen BK203.out 3; have hfz25_4 := blk_frozen BK203.out 4; have hfz25_5 := blk_frozen BK203.out 5; have hfz25_6 := blk_frozen BK203.out 6; have hfz25_7 := blk_frozen BK203.out 7; have hfz25_8 := blk_frozen BK203.out 8) | (go_at_call 15; (with_reducible refine (config_Words.calls a0_0 a0_1 a0_2 a0_3 a0_4 a0_5 a0_6 a0_7 a0_8 a1 t211 _ A19.out).mono ?_); rintro e w26 ⟨rfl, hb⟩; have n0_ := Aside0.mk (Kd.R_below (by (with_reducible repeat (first | apply Kd.R_alloc | apply Kd.R_drewN | apply Kd.R_drew)); exact HO_8.out) hb); have n1_ := Aside0.mk (blk_below (g := gb203) (o := .cells #[.int .i64 a0_0, .int .i64 a0_1, .int .i64 a0_2, .int .i64 a0_3, .int .i64 a0_4, .int .i64 a0_5, .int .i64 a0_6, .int .i64 a0_7, .int .i64 a0_8] 23 (0, 0)) (by (with_reducible repeat (first | refine blk_drewN ?_ _ | refine blk_drew ?_ | refine blk_alloc ?_ _)); exact BK203.out) hb); have n2_ := Aside0.mk (below_step (by repeat (first | (with_reducible first | exact HB.out | apply below_alloc | apply pw_below_drewN | apply below_drew1 | refine below_set ?_ GE203.out) | exact HB.out)) hb); clear HO_8; clear BK203; clear HB; have HO_8 := n0_; have BK203 := n1_; have HB := n2_; clear n0_ n1_ n2_; (try clear hb); (try clear hb2); (try clear hk); (try clear hi); have hcz27_0 : w26.cell? ⟨gb203, 0, none⟩ = some (.int .i64 a0_0) := (blk_cell BK203.out 0).trans rfl; have hcz27_1 : w26.cell? ⟨gb203, 1, none⟩ = some (.int .i64 a0_1) := (blk_cell BK203.out 1).trans rfl; have hcz27_2 : w26.cell? ⟨gb203, 2, none⟩ = some (.int .i64 a0_2) := (blk_cell BK203.out 2).trans rfl; have hcz27_3 : w26.cell? ⟨gb203, 3, none⟩ = some (.int .i64 a0_3) := (blk_cell BK203.out 3).trans rfl; have hcz27_4 : w26.cell? ⟨gb203, 4, none⟩ = some (.int .i64 a0_4) := (blk_cell BK203.out 4).trans rfl; have hcz27_5 : w26.cell? ⟨gb203, 5, none⟩ = some (.int .i64 a0_5) := (blk_cell BK203.out 5).trans rfl; have hcz27_6 : w26.cell? ⟨gb203, 6, none⟩ = some (.int .i64 a0_6) := (blk_cell BK203.out 6).trans rfl; have hcz27_7 : w26.cell? ⟨gb203, 7, none⟩ = some (.int .i64 a0_7) := (blk_cell BK203.out 7).trans rfl; have hcz27_8 : w26.cell? ⟨gb203, 8, none⟩ = some (.int .i64 a0_8) := (blk_cell BK203.out 8).trans rfl; have hfz27_0 := blk_frozen BK203.out 0; have hfz27_1 := blk_frozen BK203.out 1; have hfz27_2 := blk_frozen BK203.out 2; have hfz27_3 := blk_frozen BK203.out 3; have hfz27_4 := blk_frozen BK203.out 4; have hfz27_5 := blk_frozen BK203.out 5; have hfz27_6 := blk_frozen BK203.out 6; have hfz27_7 := blk_frozen BK203.out 7; have hfz27_8 := blk_frozen BK203.out 8) | (go_at_call 12; (with_reducible refine (config_Store.calls a0_0 a0_1 a0_2 a0_3 a0_4 a0_5 a0_6 a0_7 a0_8 t212 t213 t214 t215 _ A21.out).mono ?_); rintro e w28 ⟨rfl, hb⟩; have n0_ := Aside0.mk (Kd.R_below (by (with_reducible repeat (first | apply Kd.R_alloc | apply Kd.R_drewN | apply Kd.R_drew)); exact HO_8.out) hb); have n1_ := Aside0.mk (blk_below (g := gb203) (o := .cells #[.int .i64 a0_0, .int .i64 a0_1, .int .i64 a0_2, .int .i64 a0_3, .int .i64 a0_4, .int .i64 a0_5, .int .i64 a0_6, .int .i64 a0_7, .int .i64 a0_8] 23 (0, 0)) (by (with_reducible repeat (first | refine blk_drewN ?_ _ | refine blk_drew ?_ | refine blk_alloc ?_ _)); exact BK203.out) hb); have n2_ := Aside0.mk (below_step (by repeat (first | (with_reducible first | exact HB.out | apply below_alloc | apply pw_below_drewN | apply below_drew1 | refine below_set ?_ GE203.out) | exact HB.out)) hb); clear HO_8; clear BK203; clear HB; have HO_8 := n0_; have BK203 := n1_; have HB := n2_; clear n0_ n1_ n2_; (try clear hb); (try clear hb2); (try clear hk); (try clear hi)))
                go_ret
                exact ⟨by first | rfl | (simp [errW_none, errW_some] <;> rfl) | (simp [*, errW_none, errW_some] <;> rfl), by repeat (first | (with_reducible first | exact HB.out | apply below_alloc | apply pw_below_drewN | apply below_drew1 | refine below_set ?_ GE203.out) | exact HB.out)⟩
              · rw [if_neg c20] at H
                have c20b0 : (t211 == 0) = false := beq_eq_false_iff_ne.mpr c20
                have c20b1 : (t211 != 0) = true := bne_iff_ne.mpr c20
                rw [hrT.out] at H
                exact absurd H (by simp)
            · rw [if_neg c18] at H
              have c18b0 : (t210 == 0) = false := beq_eq_false_iff_ne.mpr c18
              have c18b1 : (t210 != 0) = true := bne_iff_ne.mpr c18
              rw [hrT.out] at H
              exact absurd H (by simp)
          · rw [if_neg c16] at H
            have c16b0 : ((t207.length : Int) == 0) = false := beq_eq_false_iff_ne.mpr c16
            have c16b1 : ((t207.length : Int) != 0) = true := bne_iff_ne.mpr c16
            have c16b2 : ¬ (t207 = []) := fun h_ => c16 (by rw [h_]; rfl)
            rw [hrT.out] at H
            exact absurd H (by simp)
        · replace c15 := Bool.eq_false_iff.mpr c15
          subst c15
          have H1 : (some false) = some r := by rw [if_neg (show ¬ (false = true) by decide)] at H; exact H
          clear H
          have H := H1
          clear H1
          rw [hrT.out] at H
          exact absurd H (by simp)
      · replace c14 := Bool.eq_false_iff.mpr c14
        subst c14
        have H1 : ((config_Store.f a0_0 a0_1 a0_2 a0_3 a0_4 a0_5 a0_6 a0_7 a0_8).bind fun bt216 => ((store_Right.f bt216.1 bt216.2.1 bt216.2.2.1 bt216.2.2.2).bind fun t221 => (if t221 = true then (if bt216.1 < (wrap64 ((wrap64 ((wrap64 (2 * a0_4)) + a0_0)) + a0_1)) then (shellgamelaw13_ConfigFits.j1 kj5 a1 t207 true a0_0 a0_1 a0_2 a0_3 a0_4 a0_5 a0_6 a0_7 a0_8 bt216.1 bt216.2.1 bt216.2.2.1 bt216.2.2.2) else (if (t207.length : Int) < 7 then (shellgamelaw13_ConfigFits.j1 kj5 a1 t207 true a0_0 a0_1 a0_2 a0_3 a0_4 a0_5 a0_6 a0_7 a0_8 bt216.1 bt216.2.1 bt216.2.2.1 bt216.2.2.2) else (if (t207.length : Int) > 16 then (shellgamelaw13_ConfigFits.j1 kj5 a1 t207 true a0_0 a0_1 a0_2 a0_3 a0_4 a0_5 a0_6 a0_7 a0_8 bt216.1 bt216.2.1 bt216.2.2.1 bt216.2.2.2) else (if 0 < (t207.length : Int) then (if (rd t207 0) = 1 then (if 1 < (t207.length : Int) then (if (rd t207 1) = a0_3 then (if 2 < (t207.length : Int) then ((config_Cells.f a0_0 a0_1 a0_2 a0_3 a0_4 a0_5 a0_6 a0_7 a0_8).bind fun t225 => (shellgamelaw13_ConfigFits.j1 kj5 a1 t207 (decide ((rd t207 2) < t225)) a0_0 a0_1 a0_2 a0_3 a0_4 a0_5 a0_6 a0_7 a0_8 bt216.1 bt216.2.1 bt216.2.2.1 bt216.2.2.2)) else (none)) else (shellgamelaw13_ConfigFits.j1 kj5 a1 t207 true a0_0 a0_1 a0_2 a0_3 a0_4 a0_5 a0_6 a0_7 a0_8 bt216.1 bt216.2.1 bt216.2.2.1 bt216.2.2.2)) else (none)) else (shellgamelaw13_ConfigFits.j1 kj5 a1 t207 true a0_0 a0_1 a0_2 a0_3 a0_4 a0_5 a0_6 a0_7 a0_8 bt216.1 bt216.2.1 bt216.2.2.1 bt216.2.2.2)) else (none))))) else (shellgamelaw13_ConfigFits.j1 kj5 a1 t207 true a0_0 a0_1 a0_2 a0_3 a0_4 a0_5 a0_6 a0_7 a0_8 bt216.1 bt216.2.1 bt216.2.2.1 bt216.2.2.2)))) = some r := by rw [if_neg (show ¬ (false = true) by decide)] at H; exact H
        clear H
        have H := H1
        clear H1
        replace H := Option.bind_eq_some_iff.mp H
        obtain ⟨⟨t216, t217, t218, t219⟩, A290, H⟩ := H
        replace H : ((store_Right.f t216 t217 t218 t219).bind fun t221 => (if t221 = true then (if t216 < (wrap64 ((wrap64 ((wrap64 (2 * a0_4)) + a0_0)) + a0_1)) then (shellgamelaw13_ConfigFits.j1 kj5 a1 t207 true a0_0 a0_1 a0_2 a0_3 a0_4 a0_5 a0_6 a0_7 a0_8 t216 t217 t218 t219) else (if (t207.length : Int) < 7 then (shellgamelaw13_ConfigFits.j1 kj5 a1 t207 true a0_0 a0_1 a0_2 a0_3 a0_4 a0_5 a0_6 a0_7 a0_8 t216 t217 t218 t219) else (if (t207.length : Int) > 16 then (shellgamelaw13_ConfigFits.j1 kj5 a1 t207 true a0_0 a0_1 a0_2 a0_3 a0_4 a0_5 a0_6 a0_7 a0_8 t216 t217 t218 t219) else (if 0 < (t207.length : Int) then (if (rd t207 0) = 1 then (if 1 < (t207.length : Int) then (if (rd t207 1) = a0_3 then (if 2 < (t207.length : Int) then ((config_Cells.f a0_0 a0_1 a0_2 a0_3 a0_4 a0_5 a0_6 a0_7 a0_8).bind fun t225 => (shellgamelaw13_ConfigFits.j1 kj5 a1 t207 (decide ((rd t207 2) < t225)) a0_0 a0_1 a0_2 a0_3 a0_4 a0_5 a0_6 a0_7 a0_8 t216 t217 t218 t219)) else (none)) else (shellgamelaw13_ConfigFits.j1 kj5 a1 t207 true a0_0 a0_1 a0_2 a0_3 a0_4 a0_5 a0_6 a0_7 a0_8 t216 t217 t218 t219)) else (none)) else (shellgamelaw13_ConfigFits.j1 kj5 a1 t207 true a0_0 a0_1 a0_2 a0_3 a0_4 a0_5 a0_6 a0_7 a0_8 t216 t217 t218 t219)) else (none))))) else (shellgamelaw13_ConfigFits.j1 kj5 a1 t207 true a0_0 a0_1 a0_2 a0_3 a0_4 a0_5 a0_6 a0_7 a0_8 t216 t217 t218 t219))) = some r := H
        have A29 := Aside0.mk A290
        clear A290
        have HC30 := Aside0.mk H
        clear H
        have hcz31_0 : wc.cell? ⟨gb203, 0, none⟩ = some (.int .i64 a0_0) := (blk_cell BK203.out 0).trans rfl
        have hcz31_1 : wc.cell? ⟨gb203, 1, none⟩ = some (.int .i64 a0_1) := (blk_cell BK203.out 1).trans rfl
        have hcz31_2 : wc.cell? ⟨gb203, 2, none⟩ = some (.int .i64 a0_2) := (blk_cell BK203.out 2).trans rfl
        have hcz31_3 : wc.cell? ⟨gb203, 3, none⟩ = some (.int .i64 a0_3) := (blk_cell BK203.out 3).trans rfl
        have hcz31_4 : wc.cell? ⟨gb203, 4, none⟩ = some (.int .i64 a0_4) := (blk_cell BK203.out 4).trans rfl
        have hcz31_5 : wc.cell? ⟨gb203, 5, none⟩ = some (.int .i64 a0_5) := (blk_cell BK203.out 5).trans rfl
        have hcz31_6 : wc.cell? ⟨gb203, 6, none⟩ = some (.int .i64 a0_6) := (blk_cell BK203.out 6).trans rfl
        have hcz31_7 : wc.cell? ⟨gb203, 7, none⟩ = some (.int .i64 a0_7) := (blk_cell BK203.out 7).trans rfl
        have hcz31_8 : wc.cell? ⟨gb203, 8, none⟩ = some (.int .i64 a0_8) := (blk_cell BK203.out 8).trans rfl
        have hfz31_0 := blk_frozen BK203.out 0
        have hfz31_1 := blk_frozen BK203.out 1
        have hfz31_2 := blk_frozen BK203.out 2
        have hfz31_3 := blk_frozen BK203.out 3
        have hfz31_4 := blk_frozen BK203.out 4
        have hfz31_5 := blk_frozen BK203.out 5
        have hfz31_6 := blk_frozen BK203.out 6
        have hfz31_7 := blk_frozen BK203.out 7
        have hfz31_8 := blk_frozen BK203.out 8
        go_upto_region 7 with (first | ((with_reducible refine gate_callee (f := 12) rfl ?_); refine goesL_ (some 53) rfl rfl Tryd.func12 (by kernel_rfl) rfl #[.agg #[.int .i64 a0_0, .int .i64 a0_1, .int .i64 a0_2, .int .i64 a0_3, .int .i64 a0_4, .int .i64 a0_5, .int .i64 a0_6, .int .i64 a0_7, .int .i64 a0_8]] rfl (by (try simp only [List.map_toArray, List.map_cons, List.map_nil]); first | done | rfl | (simp only [List.length_drop, List.length_take]; rfl)) ?_; (with_reducible refine (config_Store.calls a0_0 a0_1 a0_2 a0_3 a0_4 a0_5 a0_6 a0_7 a0_8 t216 t217 t218 t219 _ A29.out).mono ?_); rintro e w32 ⟨rfl, hb⟩; refine ⟨_, rfl, ?_⟩; have n0_ := Aside0.mk (Kd.R_below (by (with_reducible repeat (first | apply Kd.R_alloc | apply Kd.R_drewN | apply Kd.R_drew)); exact HO_8.out) hb); have n1_ := Aside0.mk (blk_below (g := gb203) (o := .cells #[.int .i64 a0_0, .int .i64 a0_1, .int .i64 a0_2, .int .i64 a0_3, .int .i64 a0_4, .int .i64 a0_5, .int .i64 a0_6, .int .i64 a0_7, .int .i64 a0_8] 23 (0, 0)) (by (with_reducible repeat (first | refine blk_drewN ?_ _ | refine blk_drew ?_ | refine blk_alloc ?_ _)); exact BK203.out) hb); have n2_ := Aside0.mk (below_step (by repeat (first | (with_reducible first | exact HB.out | apply below_alloc | apply pw_below_drewN | apply below_drew1 | refine below_set ?_ GE203.out) | exact HB.out)) hb); clear HO_8; clear BK203; clear HB; have HO_8 := n0_; have BK203 := n1_; have HB := n2_; clear n0_ n1_ n2_; (try clear hb); (try clear hb2); (try clear hk); (try clear hi)) | ((with_reducible refine gate_dst (N := 9) rfl ?_); (try (refine gate_guard (by rfl) ?_; dsimp only)); refine box_event ?hg (N := 9) ?hd (cs := #[.int .i64 0, .int .i64 0, .int .i64 0, .int .i64 0]) (t := 33) ?hr ?_; (case hd => rfl); (case hg => rfl); (case hr => first | (go_simp; done) | (go_simp; rfl)); intro gb220 hg w33 hbox hb; have n0_ := Aside0.mk (Kd.R_below (by (with_reducible repeat (first | apply Kd.R_alloc | apply Kd.R_drewN | apply Kd.R_drew)); exact HO_8.out) hb); have n1_ := Aside0.mk (blk_below (g := gb203) (o := .cells #[.int .i64 a0_0, .int .i64 a0_1, .int .i64 a0_2, .int .i64 a0_3, .int .i64 a0_4, .int .i64 a0_5, .int .i64 a0_6, .int .i64 a0_7, .int .i64 a0_8] 23 (0, 0)) (by (with_reducible repeat (first | refine blk_drewN ?_ _ | refine blk_drew ?_ | refine blk_alloc ?_ _)); exact BK203.out) hb); have n2_ := Aside0.mk (below_step (by repeat (first | (with_reducible first | exact HB.out | apply below_alloc | apply pw_below_drewN | apply below_drew1 | refine below_set ?_ GE203.out) | exact HB.out)) hb); have n3_ := Aside0.mk (hbox); have n4_ := Aside0.mk ((by rw [hg]; exact (below_size (by repeat (first | (with_reducible first | exact HB.out | apply below_alloc | apply pw_below_drewN | apply below_drew1 | refine below_set ?_ GE203.out) | exact HB.out))) : w.heap.size ≤ gb220)); have n5_ := Aside0.mk ((by rw [hg]; exact (below_size (by repeat (first | (with_reducible first | exact HB.out | apply below_alloc | apply pw_below_drewN | apply below_drew1 | refine below_set ?_ GE203.out) | exact HB.out))) : w.heap.size ≤ gb220)); have n6_ := Aside0.mk ((by rw [hg]; exact Nat.ne_of_lt (blk_lt (g := gb203) (o := .cells #[.int .i64 a0_0, .int .i64 a0_1, .int .i64 a0_2, .int .i64 a0_3, .int .i64 a0_4, .int .i64 a0_5, .int .i64 a0_6, .int .i64 a0_7, .int .i64 a0_8] 23 (0, 0)) (by (with_reducible repeat (first | refine blk_drewN ?_ _ | refine blk_drew ?_ | refine blk_alloc ?_ _)); exact BK203.out)) : gb203 ≠ gb220)); have n7_ := Aside0.mk ((by rw [hg]; exact Nat.ne_of_gt (blk_lt (g := gb203) (o := .cells #[.int .i64 a0_0, .int .i64 a0_1, .int .i64 a0_2, .int .i64 a0_3, .int .i64 a0_4, .int .i64 a0_5, .int .i64 a0_6, .int .i64 a0_7, .int .i64 a0_8] 23 (0, 0)) (by (with_reducible repeat (first | refine blk_drewN ?_ _ | refine blk_drew ?_ | refine blk_alloc ?_ _)); exact BK203.out)) : gb220 ≠ gb203)); clear HO_8; clear BK203; clear HB; have HO_8 := n0_; have BK203 := n1_; have HB := n2_; have BK220 := n3_; have GW220 := n4_; have GE220 := n5_; have NB203_220 := n6_; have NB220_203 := n7_; clear n0_ n1_ n2_ n3_ n4_ n5_ n6_ n7_; clear hb hbox hg; have hnb34 := NB220_203.out; have hnc34 := NB203_220.out; have hcz35_0 : w33.cell? ⟨gb220, 0, none⟩ = some (.int .i64 0) := (blk_cell BK220.out 0).trans rfl; have hcz35_1 : w33.cell? ⟨gb220, 1, none⟩ = some (.int .i64 0) := (blk_cell BK220.out 1).trans rfl; have hcz35_2 : w33.cell? ⟨gb220, 2, none⟩ = some (.int .i64 0) := (blk_cell BK220.out 2).trans rfl; have hcz35_3 : w33.cell? ⟨gb220, 3, none⟩ = some (.int .i64 0) := (blk_cell BK220.out 3).trans rfl; have hfz35_0 := blk_frozen BK220.out 0; have hfz35_1 := blk_frozen BK220.out 1; have hfz35_2 := blk_frozen BK220.out 2; have hfz35_3 := blk_frozen BK220.out 3))
        (try simp only [Act.put, List.setIfInBounds_toArray, List.set_cons_zero, List.set_cons_succ])
        go_cut [102] (fun v102 wc => ∃ (kq : Nat) (x102_29 : Bool), v102 = .bool x102_29 ∧ Aside0 (shellgamelaw13_ConfigFits.j1 kq a1 t207 x102_29 a0_0 a0_1 a0_2 a0_3 a0_4 a0_5 a0_6 a0_7 a0_8 t216 t217 t218 t219 = some r) ∧ Aside0 (kq ≤ kj5) ∧ Aside0 (Kd.R (Kd.int .i64) 3 wc w.heap.size (fun _ => True) v208 t207) ∧ Aside0 (wc.heap[gb203]? = some (.cells #[.int .i64 a0_0, .int .i64 a0_1, .int .i64 a0_2, .int .i64 a0_3, .int .i64 a0_4, .int .i64 a0_5, .int .i64 a0_6, .int .i64 a0_7, .int .i64 a0_8] 23 (0, 0))) ∧ Aside0 (wc.heap[gb220]? = some (.cells #[.int .i64 t216, .int .i64 t217, .int .i64 t218, .int .i64 t219] 33 (0, 0))) ∧ Aside0 (Below w.heap.size w wc))
        case first =>
          have H := HC30.out
          clear HC30
          replace H := Option.bind_eq_some_iff.mp H
          obtain ⟨t221, A360, H⟩ := H
          replace H : (if t221 = true then (if t216 < (wrap64 ((wrap64 ((wrap64 (2 * a0_4)) + a0_0)) + a0_1)) then (shellgamelaw13_ConfigFits.j1 kj5 a1 t207 true a0_0 a0_1 a0_2 a0_3 a0_4 a0_5 a0_6 a0_7 a0_8 t216 t217 t218 t219) else (if (t207.length : Int) < 7 then (shellgamelaw13_ConfigFits.j1 kj5 a1 t207 true a0_0 a0_1 a0_2 a0_3 a0_4 a0_5 a0_6 a0_7 a0_8 t216 t217 t218 t219) else (if (t207.length : Int) > 16 then (shellgamelaw13_ConfigFits.j1 kj5 a1 t207 true a0_0 a0_1 a0_2 a0_3 a0_4 a0_5 a0_6 a0_7 a0_8 t216 t217 t218 t219) else (if 0 < (t207.length : Int) then (if (rd t207 0) = 1 then (if 1 < (t207.length : Int) then (if (rd t207 1) = a0_3 then (if 2 < (t207.length : Int) then ((config_Cells.f a0_0 a0_1 a0_2 a0_3 a0_4 a0_5 a0_6 a0_7 a0_8).bind fun t225 => (shellgamelaw13_ConfigFits.j1 kj5 a1 t207 (decide ((rd t207 2) < t225)) a0_0 a0_1 a0_2 a0_3 a0_4 a0_5 a0_6 a0_7 a0_8 t216 t217 t218 t219)) else (none)) else (shellgamelaw13_ConfigFits.j1 kj5 a1 t207 true a0_0 a0_1 a0_2 a0_3 a0_4 a0_5 a0_6 a0_7 a0_8 t216 t217 t218 t219)) else (none)) else (shellgamelaw13_ConfigFits.j1 kj5 a1 t207 true a0_0 a0_1 a0_2 a0_3 a0_4 a0_5 a0_6 a0_7 a0_8 t216 t217 t218 t219)) else (none))))) else (shellgamelaw13_ConfigFits.j1 kj5 a1 t207 true a0_0 a0_1 a0_2 a0_3 a0_4 a0_5 a0_6 a0_7 a0_8 t216 t217 t218 t219)) = some r := H
          have A36 := Aside0.mk A360
          clear A360
          by_cases c37 : t221 = true
          · subst c37
            have H1 : (if t216 < (wrap64 ((wrap64 ((wrap64 (2 * a0_4)) + a0_0)) + a0_1)) then (shellgamelaw13_ConfigFits.j1 kj5 a1 t207 true a0_0 a0_1 a0_2 a0_3 a0_4 a0_5 a0_6 a0_7 a0_8 t216 t217 t218 t219) else (if (t207.length : Int) < 7 then (shellgamelaw13_ConfigFits.j1 kj5 a1 t207 true a0_0 a0_1 a0_2 a0_3 a0_4 a0_5 a0_6 a0_7 a0_8 t216 t217 t218 t219) else (if (t207.length : Int) > 16 then (shellgamelaw13_ConfigFits.j1 kj5 a1 t207 true a0_0 a0_1 a0_2 a0_3 a0_4 a0_5 a0_6 a0_7 a0_8 t216 t217 t218 t219) else (if 0 < (t207.length : Int) then (if (rd t207 0) = 1 then (if 1 < (t207.length : Int) then (if (rd t207 1) = a0_3 then (if 2 < (t207.length : Int) then ((config_Cells.f a0_0 a0_1 a0_2 a0_3 a0_4 a0_5 a0_6 a0_7 a0_8).bind fun t225 => (shellgamelaw13_ConfigFits.j1 kj5 a1 t207 (decide ((rd t207 2) < t225)) a0_0 a0_1 a0_2 a0_3 a0_4 a0_5 a0_6 a0_7 a0_8 t216 t217 t218 t219)) else (none)) else (shellgamelaw13_ConfigFits.j1 kj5 a1 t207 true a0_0 a0_1 a0_2 a0_3 a0_4 a0_5 a0_6 a0_7 a0_8 t216 t217 t218 t219)) else (none)) else (shellgamelaw13_ConfigFits.j1 kj5 a1 t207 true a0_0 a0_1 a0_2 a0_3 a0_4 a0_5 a0_6 a0_7 a0_8 t216 t217 t218 t219)) else (none))))) = some r := by rw [if_pos rfl] at H; exact H
            clear H
            have H := H1
            clear H1
            by_cases c38 : t216 < (wrap64 ((wrap64 ((wrap64 (2 * a0_4)) + a0_0)) + a0_1))
            · rw [if_pos c38] at H
              exact (shellgamelaw13_ConfigFits.j1_no _ _ _ _ hrT.out H).elim
            · rw [if_neg c38] at H
              have c38b0 : decide (t216 < (wrap64 ((wrap64 ((wrap64 (2 * a0_4)) + a0_0)) + a0_1))) = false := decide_eq_false c38
              clear c38
              (first | rw [c38b0] | (simp only [i64_w, i32_w]; rw [c38b0]) | skip)
              by_cases c42 : (t207.length : Int) < 7
              · rw [if_pos c42] at H
                exact (shellgamelaw13_ConfigFits.j1_no _ _ _ _ hrT.out H).elim
              · rw [if_neg c42] at H
                have c42b0 : decide ((t207.length : Int) < 7) = false := decide_eq_false c42
                have c42b1 : decide (t207.length < 7) = false := decide_eq_false (by omega)
                clear c42
                by_cases c47 : (t207.length : Int) > 16
                · rw [if_pos c47] at H
                  exact (shellgamelaw13_ConfigFits.j1_no _ _ _ _ hrT.out H).elim
                · rw [if_neg c47] at H
                  have c47b0 : decide (16 < (t207.length : Int)) = false := decide_eq_false c47
                  have c47b1 : decide (16 < t207.length) = false := decide_eq_false (by omega)
                  clear c47
                  by_cases c52 : 0 < (t207.length : Int)
                  · rw [if_pos c52] at H
                    have c52b0 : decide (0 < (t207.length : Int)) = true := decide_eq_true c52
                    have c52b1 : decide (0 < t207.length) = true := decide_eq_true (by omega)
                    clear c52
                    by_cases c53 : (rd t207 0) = 1
                    · rw [if_pos c53] at H
                      have c53b0 : ((rd t207 0) == 1) = true := beq_iff_eq.mpr c53
                      have c53b1 : ((rd t207 0) != 1) = false := bne_eq_false_iff_eq.mpr c53
                      clear c53
                      by_cases c54 : 1 < (t207.length : Int)
                      · rw [if_pos c54] at H
                        have c54b0 : decide (1 < (t207.length : Int)) = true := decide_eq_true c54
                        have c54b1 : decide (1 < t207.length) = true := decide_eq_true (by omega)
                        clear c54
                        by_cases c55 : (rd t207 1) = a0_3
                        · rw [if_pos c55] at H
                          have c55b0 : ((rd t207 1) == a0_3) = true := beq_iff_eq.mpr c55
                          have c55b1 : ((rd t207 1) != a0_3) = false := bne_eq_false_iff_eq.mpr c55
                          clear c55
                          by_cases c56 : 2 < (t207.length : Int)
                          · rw [if_pos c56] at H
                            have c56b0 : decide (2 < (t207.length : Int)) = true := decide_eq_true c56
                            have c56b1 : decide (2 < t207.length) = true := decide_eq_true (by omega)
                            clear c56
                            replace H := Option.bind_eq_some_iff.mp H
                            obtain ⟨t225, A570, H⟩ := H
                            replace H : (shellgamelaw13_ConfigFits.j1 kj5 a1 t207 (decide ((rd t207 2) < t225)) a0_0 a0_1 a0_2 a0_3 a0_4 a0_5 a0_6 a0_7 a0_8 t216 t217 t218 t219) = some r := H
                            have A57 := Aside0.mk A570
                            clear A570
                            have H' := Aside0.mk H
                            clear H
                            try go_wp2
                            have n0_ : Aside0 (Kd.R (Kd.int .i64) 3 ((((w33.setCell ⟨gb220, 0, none⟩ (.int .i64 t216)).setCell ⟨gb220, 1, none⟩ (.int .i64 t217)).setCell ⟨gb220, 2, none⟩ (.int .i64 t218)).setCell ⟨gb220, 3, none⟩ (.int .i64 t219)) w.heap.size (fun _ => True) v208 t207) := ⟨by (with_reducible repeat (first | apply Kd.R_alloc | apply Kd.R_drewN | apply Kd.R_drew)); exact Kd.R_mono (Kd.R_far (p := ⟨gb220, 3, none⟩) (Kd.R_far (p := ⟨gb220, 2, none⟩) (Kd.R_far (p := ⟨gb220, 1, none⟩) (Kd.R_far (p := ⟨gb220, 0, none⟩) (Kd.R_types HO_8.out BK220.out (by decide)) (fun _ hk => hk.2) (.int .i64 t216)) (fun _ hk => hk.2) (.int .i64 t217)) (fun _ hk => hk.2) (.int .i64 t218)) (fun _ hk => hk.2) (.int .i64 t219)) (fun _ hk => trivial)⟩
                            have n1_ : Aside0 (((((w33.setCell ⟨gb220, 0, none⟩ (.int .i64 t216)).setCell ⟨gb220, 1, none⟩ (.int .i64 t217)).setCell ⟨gb220, 2, none⟩ (.int .i64 t218)).setCell ⟨gb220, 3, none⟩ (.int .i64 t219)).heap[gb203]? = some (.cells #[.int .i64 a0_0, .int .i64 a0_1, .int .i64 a0_2, .int .i64 a0_3, .int .i64 a0_4, .int .i64 a0_5, .int .i64 a0_6, .int .i64 a0_7, .int .i64 a0_8] 23 (0, 0))) := ⟨by (with_reducible repeat (first | refine blk_drewN ?_ _ | refine blk_drew ?_ | refine blk_alloc ?_ _)); refine blk_far ?_ NB203_220.out _; (with_reducible repeat (first | refine blk_drewN ?_ _ | refine blk_drew ?_ | refine blk_alloc ?_ _)); refine blk_far ?_ NB203_220.out _; (with_reducible repeat (first | refine blk_drewN ?_ _ | refine blk_drew ?_ | refine blk_alloc ?_ _)); refine blk_far ?_ NB203_220.out _; (with_reducible repeat (first | refine blk_drewN ?_ _ | refine blk_drew ?_ | refine blk_alloc ?_ _)); refine blk_far ?_ NB203_220.out _; (with_reducible repeat (first | refine blk_drewN ?_ _ | refine blk_drew ?_ | refine blk_alloc ?_ _)); exact BK203.out⟩
                            have n2_ : Aside0 (((((w33.setCell ⟨gb220, 0, none⟩ (.int .i64 t216)).setCell ⟨gb220, 1, none⟩ (.int .i64 t217)).setCell ⟨gb220, 2, none⟩ (.int .i64 t218)).setCell ⟨gb220, 3, none⟩ (.int .i64 t219)).heap[gb220]? = some (.cells #[.int .i64 t216, .int .i64 t217, .int .i64 t218, .int .i64 t219] 33 (0, 0))) := ⟨by (with_reducible repeat (first | refine blk_drewN ?_ _ | refine blk_drew ?_ | refine blk_alloc ?_ _)); refine blk_put (cs := #[.int .i64 t216, .int .i64 t217, .int .i64 t218, .int .i64 0]) ?_ 3 _ rfl; (with_reducible repeat (first | refine blk_drewN ?_ _ | refine blk_drew ?_ | refine blk_alloc ?_ _)); refine blk_put (cs := #[.int .i64 t216, .int .i64 t217, .int .i64 0, .int .i64 0]) ?_ 2 _ rfl; (with_reducible repeat (first | refine blk_drewN ?_ _ | refine blk_drew ?_ | refine blk_alloc ?_ _)); refine blk_put (cs := #[.int .i64 t216, .int .i64 0, .int .i64 0, .int .i64 0]) ?_ 1 _ rfl; (with_reducible repeat (first | refine blk_drewN ?_ _ | refine blk_drew ?_ | refine blk_alloc ?_ _)); refine blk_put (cs := #[.int .i64 0, .int .i64 0, .int .i64 0, .int .i64 0]) ?_ 0 _ rfl; (with_reducible repeat (first | refine blk_drewN ?_ _ | refine blk_drew ?_ | refine blk_alloc ?_ _)); exact BK220.out⟩
                            have n3_ : Aside0 (Below w.heap.size w ((((w33.setCell ⟨gb220, 0, none⟩ (.int .i64 t216)).setCell ⟨gb220, 1, none⟩ (.int .i64 t217)).setCell ⟨gb220, 2, none⟩ (.int .i64 t218)).setCell ⟨gb220, 3, none⟩ (.int .i64 t219))) := ⟨by repeat (first | (with_reducible first | exact HB.out | apply below_alloc | apply pw_below_drewN | apply below_drew1 | refine below_set ?_ GE203.out | refine below_set ?_ GE220.out) | exact HB.out)⟩
                            (try clear HO_8)
                            (try clear BK203)
                            (try clear BK220)
                            (try clear HB)
                            generalize ((((w33.setCell ⟨gb220, 0, none⟩ (.int .i64 t216)).setCell ⟨gb220, 1, none⟩ (.int .i64 t217)).setCell ⟨gb220, 2, none⟩ (.int .i64 t218)).setCell ⟨gb220, 3, none⟩ (.int .i64 t219)) = w58 at n0_ n1_ n2_ n3_ ⊢
                            have HO_8 := n0_
                            have BK203 := n1_
                            have BK220 := n2_
                            have HB := n3_
                            clear n0_ n1_ n2_ n3_
                            have n0_ := Aside0.mk (Kd.R_drew HO_8.out)
                            have n1_ := Aside0.mk (blk_drew BK203.out)
                            have n2_ := Aside0.mk (blk_drew BK220.out)
                            have n3_ := Aside0.mk (below_drew1 HB.out)
                            clear HO_8
                            clear BK203
                            clear BK220
                            clear HB
                            have HO_8 := n0_
                            have BK203 := n1_
                            have BK220 := n2_
                            have HB := n3_
                            clear n0_ n1_ n2_ n3_
                            obtain ⟨Aov_, cov_, eov_⟩ := Kd.R_slice HO_8.out
                            subst eov_
                            have p222 : 0 ≤ (0 : Int) := (by omega)
                            have q222 : 0 < (t207.length : Int) := of_decide_eq_true (by first | (with_reducible assumption) | assumption)
                            obtain ⟨ad222, e222, hx222_0⟩ := Kd.at_int (Kd.R_reads' HO_8.out).2.2 0 p222 q222
                            cases e222
                            have qi222 : (0 < t207.length) = True := eq_true (by omega)
                            (try rw [show ((0 : Int)).toNat = 0 from rfl] at hx222_0)
                            (try rw [Addr.add_zero'] at hx222_0)
                            replace p222 := eq_true p222
                            replace q222 := eq_true q222
                            have p223 : 0 ≤ (1 : Int) := (by omega)
                            have q223 : 1 < (t207.length : Int) := of_decide_eq_true (by first | (with_reducible assumption) | assumption)
                            obtain ⟨ad223, e223, hx223_0⟩ := Kd.at_int (Kd.R_reads' HO_8.out).2.2 1 p223 q223
                            obtain rfl : ad222 = ad223 := (by injection e223)
                            (try simp only [show (1 : Int).toNat = 1 from rfl, Nat.reduceMul, Nat.reduceEqDiff, Go.Addr.add, ↓reduceIte] at hx223_0)
                            have qi223 : (1 < t207.length) = True := eq_true (by omega)
                            (try rw [show ((1 : Int)).toNat = 1 from rfl] at hx223_0)
                            replace p223 := eq_true p223
                            replace q223 := eq_true q223
                            have p224 : 0 ≤ (2 : Int) := (by omega)
                            have q224 : 2 < (t207.length : Int) := of_decide_eq_true (by first | (with_reducible assumption) | assumption)
                            obtain ⟨ad224, e224, hx224_0⟩ := Kd.at_int (Kd.R_reads' HO_8.out).2.2 2 p224 q224
                            obtain rfl : ad222 = ad224 := (by injection e224)
                            (try simp only [show (2 : Int).toNat = 2 from rfl, Nat.reduceMul, Nat.reduceEqDiff, Go.Addr.add, ↓reduceIte] at hx224_0)
                            have qi224 : (2 < t207.length) = True := eq_true (by omega)
                            (try rw [show ((2 : Int)).toNat = 2 from rfl] at hx224_0)
                            replace p224 := eq_true p224
                            replace q224 := eq_true q224
                            refine start_ (n := 49) (S := fun w' => w'.cell? ⟨gb220, 0, none⟩ = some (.int .i64 t216) ∧ w'.cell? ⟨gb220, 1, none⟩ = some (.int .i64 t217) ∧ w'.cell? ⟨gb220, 2, none⟩ = some (.int .i64 t218) ∧ w'.cell? ⟨gb220, 3, none⟩ = some (.int .i64 t219) ∧ w'.cell? ⟨gb203, 0, none⟩ = some (.int .i64 a0_0) ∧ w'.cell? ⟨gb203, 1, none⟩ = some (.int .i64 a0_1) ∧ w'.cell? ⟨gb203, 2, none⟩ = some (.int .i64 a0_2) ∧ w'.cell? ⟨gb203, 3, none⟩ = some (.int .i64 a0_3) ∧ w'.cell? ⟨gb203, 4, none⟩ = some (.int .i64 a0_4) ∧ w'.cell? ⟨gb203, 5, none⟩ = some (.int .i64 a0_5) ∧ w'.cell? ⟨gb203, 6, none⟩ = some (.int .i64 a0_6) ∧ w'.cell? ⟨gb203, 7, none⟩ = some (.int .i64 a0_7) ∧ w'.cell? ⟨gb203, 8, none⟩ = some (.int .i64 a0_8) ∧ w'.cell? ad222 = some (.int .i64 (rd t207 0)) ∧ w'.cell? ⟨ad222.block, ad222.off + 1, none⟩ = some (.int .i64 (rd t207 1)) ∧ w'.cell? ⟨ad222.block, ad222.off + 2, none⟩ = some (.int .i64 (rd t207 2))) (ds := []) #[false, false, false, false, false, false, false, false, false, false, false, false, false, false, false, false, false, false, false, false, false, false, false, false, false, false, false, false, false, false, false, false, false, false, false, false, false, false, false, false, false, false, false, false, false, false, false, false, false] (by kernel_rfl) rfl rfl ⟨(blk_cell BK220.out 0).trans rfl, (blk_cell BK220.out 1).trans rfl, (blk_cell BK220.out 2).trans rfl, (blk_cell BK220.out 3).trans rfl, (blk_cell BK203.out 0).trans rfl, (blk_cell BK203.out 1).trans rfl, (blk_cell BK203.out 2).trans rfl, (blk_cell BK203.out 3).trans rfl, (blk_cell BK203.out 4).trans rfl, (blk_cell BK203.out 5).trans rfl, (blk_cell BK203.out 6).trans rfl, (blk_cell BK203.out 7).trans rfl, (blk_cell BK203.out 8).trans rfl, hx222_0, hx223_0, hx224_0⟩ (fun hHeld => ?_); refine with_tabW shellgamelaw13_ConfigFits.tab7 shellgamelaw13_ConfigFits.bits7 (fun HT_ HW_ => ?_)
                            generalize w58.drew = w59 at HO_8 BK203 BK220 HB hx222_0 hx223_0 hx224_0 hHeld ⊢
                            refine take_ (i := 0) (N := some 54) (v := ?_) (a' := ?_) #[true, false, false, false, false, false, false, false, false, false, false, false, false, false, false, false, false, false, false, false, false, false, false, false, false, false, false, false, false, false, false, false, false, false, false, false, false, false, false, false, false, false, false, false, false, false, false, false, false] rfl rfl (take_ofW HT_.out HW_.out (by kernel_rfl)) (fun _ _ _ h => h) (Or.inl ⟨by rfl, ?_⟩) hHeld ?_ ?_
                            rotate_left
                            · rintro w' ⟨s0, s1, s2, s3, s4, s5, s6, s7, s8, s9, s10, s11, s12, s13, s14, s15⟩
                              go_simp
                              with_reducible rfl
                            rotate_left
                            · simp only [Act.put, List.setIfInBounds_toArray, List.set_cons_zero, List.set_cons_succ, i64_w, i32_w]
                              rfl
                            refine one_ (i := 1) (N := some 55) #[true, true, false, false, false, false, false, false, false, false, false, false, false, false, false, false, false, false, false, false, false, false, false, false, false, false, false, false, false, false, false, false, false, false, false, false, false, false, false, false, false, false, false, false, false, false, false, false, false] rfl rfl (one_of HT_.out (by kernel_rfl)) (by decide) (fun K hK => ?_)
                            refine goes_ Tryd.func25 (by kernel_rfl) rfl #[.agg #[.int .i64 t216, .int .i64 t217, .int .i64 t218, .int .i64 t219]] (by rfl) rfl rfl (by (try simp only [List.map_toArray, List.map_cons, List.map_nil]); first | done | rfl | (simp only [List.length_drop, List.length_take]; rfl)) ?_
                            with_reducible refine (store_Right.calls t216 t217 t218 t219 true _ A36.out).mono ?_
                            rintro e w60 ⟨rfl, hb⟩
                            have HS13_ := (hb.cell (World.block_lt_of_cell? _ _ (hHeld.2.2.2.2.2.2.2.2.2.2.2.2.2.1))).trans (hHeld.2.2.2.2.2.2.2.2.2.2.2.2.2.1)
                            have HS14_ := (hb.cell (World.block_lt_of_cell? _ _ (hHeld.2.2.2.2.2.2.2.2.2.2.2.2.2.2.1))).trans (hHeld.2.2.2.2.2.2.2.2.2.2.2.2.2.2.1)
                            have HS15_ := (hb.cell (World.block_lt_of_cell? _ _ (hHeld.2.2.2.2.2.2.2.2.2.2.2.2.2.2.2))).trans (hHeld.2.2.2.2.2.2.2.2.2.2.2.2.2.2.2)
                            refine ⟨_, rfl, ?_⟩
                            have n0_ := Aside0.mk (Kd.R_below (by (with_reducible repeat (first | apply Kd.R_alloc | apply Kd.R_drewN | apply Kd.R_drew)); exact HO_8.out) hb)
                            have n1_ := Aside0.mk (blk_below (g := gb203) (o := .cells #[.int .i64 a0_0, .int .i64 a0_1, .int .i64 a0_2, .int .i64 a0_3, .int .i64 a0_4, .int .i64 a0_5, .int .i64 a0_6, .int .i64 a0_7, .int .i64 a0_8] 23 (0, 0)) (by (with_reducible repeat (first | refine blk_drewN ?_ _ | refine blk_drew ?_ | refine blk_alloc ?_ _)); exact BK203.out) hb)
                            have n2_ := Aside0.mk (blk_below (g := gb220) (o := .cells #[.int .i64 t216, .int .i64 t217, .int .i64 t218, .int .i64 t219] 33 (0, 0)) (by (with_reducible repeat (first | refine blk_drewN ?_ _ | refine blk_drew ?_ | refine blk_alloc ?_ _)); exact BK220.out) hb)
                            have n3_ := Aside0.mk (below_step (by repeat (first | (with_reducible first | exact HB.out | apply below_alloc | apply pw_below_drewN | apply below_drew1 | refine below_set ?_ GE203.out | refine below_set ?_ GE220.out) | exact HB.out)) hb)
                            clear HO_8
                            clear BK203
                            clear BK220
                            clear HB
                            have HO_8 := n0_
                            have BK203 := n1_
                            have BK220 := n2_
                            have HB := n3_
                            clear n0_ n1_ n2_ n3_
                            (try clear hb)
                            (try clear hb2)
                            (try clear hk)
                            (try clear hi)
                            obtain ⟨Ao61, co61, eo61⟩ := Kd.R_slice HO_8.out
                            (first | subst eo61 | (injection eo61 with f1_ f2_ f3_; have f4_ := f1_.symm; have f5_ := f3_.symm; clear f1_ f2_ f3_; subst f4_; subst f5_))
                            refine hK.out _ _ ⟨(blk_cell BK220.out 0).trans rfl, (blk_cell BK220.out 1).trans rfl, (blk_cell BK220.out 2).trans rfl, (blk_cell BK220.out 3).trans rfl, (blk_cell BK203.out 0).trans rfl, (blk_cell BK203.out 1).trans rfl, (blk_cell BK203.out 2).trans rfl, (blk_cell BK203.out 3).trans rfl, (blk_cell BK203.out 4).trans rfl, (blk_cell BK203.out 5).trans rfl, (blk_cell BK203.out 6).trans rfl, (blk_cell BK203.out 7).trans rfl, (blk_cell BK203.out 8).trans rfl, HS13_, HS14_, HS15_⟩ (fun hHeld => ?_)
                            clear hK K
                            refine norm_ (a' := ?_) ?_ ?_
                            rotate_left
                            · show Act.put _ (some 55) _ = _
                              simp only [Act.put, List.setIfInBounds_toArray, List.set_cons_zero, List.set_cons_succ, i64_w, i32_w]
                              rfl
                            refine pure_ (i := 2) (N := some 56) (v := ?_) (a' := ?_) #[true, true, true, false, false, false, false, false, false, false, false, false, false, false, false, false, false, false, false, false, false, false, false, false, false, false, false, false, false, false, false, false, false, false, false, false, false, false, false, false, false, false, false, false, false, false, false, false, false] rfl rfl (any_of HT_.out (by kernel_rfl)) (fun _ _ _ h => h) (Or.inl ⟨by rfl, ?_⟩) ?_ ?_
                            rotate_left
                            · intro w'
                              go_simp
                              with_reducible rfl
                            rotate_left
                            · simp only [Act.put, List.setIfInBounds_toArray, List.set_cons_zero, List.set_cons_succ, i64_w, i32_w]
                              rfl
                            refine pure_ (i := 3) (N := some 57) (v := ?_) (a' := ?_) #[true, true, true, true, false, false, false, false, false, false, false, false, false, false, false, false, false, false, false, false, false, false, false, false, false, false, false, false, false, false, false, false, false, false, false, false, false, false, false, false, false, false, false, false, false, false, false, false, false] rfl rfl (any_of HT_.out (by kernel_rfl)) (fun _ _ _ h => h) (Or.inl ⟨by rfl, ?_⟩) ?_ ?_
                            rotate_left
                            · intro w'
                              go_simp
                              with_reducible rfl
                            rotate_left
                            · simp only [Act.put, List.setIfInBounds_toArray, List.set_cons_zero, List.set_cons_succ, i64_w, i32_w]
                              rfl
                            refine pure_ (i := 4) (N := some 58) (v := ?_) (a' := ?_) #[true, true, true, true, true, false, false, false, false, false, false, false, false, false, false, false, false, false, false, false, false, false, false, false, false, false, false, false, false, false, false, false, false, false, false, false, false, false, false, false, false, false, false, false, false, false, false, false, false] rfl rfl (any_of HT_.out (by kernel_rfl)) (fun _ _ _ h => h) (Or.inl ⟨by rfl, ?_⟩) ?_ ?_
                            rotate_left
                            · intro w'
                              go_simp
                              with_reducible rfl
                            rotate_left
                            · simp only [Act.put, List.setIfInBounds_toArray, List.set_cons_zero, List.set_cons_succ, i64_w, i32_w]
                              rfl
                            refine pure_ (i := 6) (N := some 60) (v := ?_) (a' := ?_) #[true, true, true, true, true, false, true, false, false, false, false, false, false, false, false, false, false, false, false, false, false, false, false, false, false, false, false, false, false, false, false, false, false, false, false, false, false, false, false, false, false, false, false, false, false, false, false, false, false] rfl rfl (any_of HT_.out (by kernel_rfl)) (fun _ _ _ h => h) (Or.inl ⟨by rfl, ?_⟩) ?_ ?_
                            rotate_left
                            · intro w'
                              go_simp
                              with_reducible rfl
                            rotate_left
                            · simp only [Act.put, List.setIfInBounds_toArray, List.set_cons_zero, List.set_cons_succ, i64_w, i32_w]
                              rfl
                            refine pure_ (i := 9) (N := some 63) (v := ?_) (a' := ?_) #[true, true, true, true, true, false, true, false, false, true, false, false, false, false, false, false, false, false, false, false, false, false, false, false, false, false, false, false, false, false, false, false, false, false, false, false, false, false, false, false, false, false, false, false, false, false, false, false, false] rfl rfl (any_of HT_.out (by kernel_rfl)) (fun _ _ _ h => h) (Or.inl ⟨by rfl, ?_⟩) ?_ ?_
                            rotate_left
                            · intro w'
                              go_simp
                              with_reducible rfl
                            rotate_left
                            · simp only [Act.put, List.setIfInBounds_toArray, List.set_cons_zero, List.set_cons_succ, i64_w, i32_w]
                              rfl
                            refine pure_ (i := 12) (N := some 66) (v := ?_) (a' := ?_) #[true, true, true, true, true, false, true, false, false, true, false, false, true, false, false, false, false, false, false, false, false, false, false, false, false, false, false, false, false, false, false, false, false, false, false, false, false, false, false, false, false, false, false, false, false, false, false, false, false] rfl rfl (any_of HT_.out (by kernel_rfl)) (fun _ _ _ h => h) (Or.inl ⟨by rfl, ?_⟩) ?_ ?_
                            rotate_left
                            · intro w'
                              go_simp
                              with_reducible rfl
                            rotate_left
                            · simp only [Act.put, List.setIfInBounds_toArray, List.set_cons_zero, List.set_cons_succ, i64_w, i32_w]
                              rfl
                            refine take_ (i := 5) (N := some 59) (v := ?_) (a' := ?_) #[true, true, true, true, true, true, true, false, false, true, false, false, true, false, false, false, false, false, false, false, false, false, false, false, false, false, false, false, false, false, false, false, false, false, false, false, false, false, false, false, false, false, false, false, false, false, false, false, false] rfl rfl (take_ofW HT_.out HW_.out (by kernel_rfl)) (fun _ _ _ h => h) (Or.inl ⟨by rfl, ?_⟩) hHeld ?_ ?_
                            rotate_left
                            · rintro w' ⟨s0, s1, s2, s3, s4, s5, s6, s7, s8, s9, s10, s11, s12, s13, s14, s15⟩
                              go_simp
                              with_reducible rfl
                            rotate_left
                            · simp only [Act.put, List.setIfInBounds_toArray, List.set_cons_zero, List.set_cons_succ, i64_w, i32_w]
                              rfl
                            refine take_ (i := 7) (N := some 61) (v := ?_) (a' := ?_) #[true, true, true, true, true, true, true, true, false, true, false, false, true, false, false, false, false, false, false, false, false, false, false, false, false, false, false, false, false, false, false, false, false, false, false, false, false, false, false, false, false, false, false, false, false, false, false, false, false] rfl rfl (take_ofW HT_.out HW_.out (by kernel_rfl)) (fun _ _ _ h => h) (Or.inl ⟨by rfl, ?_⟩) hHeld ?_ ?_
                            rotate_left
                            · rintro w' ⟨s0, s1, s2, s3, s4, s5, s6, s7, s8, s9, s10, s11, s12, s13, s14, s15⟩
                              go_simp
                              with_reducible rfl
                            rotate_left
                            · simp only [Act.put, List.setIfInBounds_toArray, List.set_cons_zero, List.set_cons_succ, i64_w, i32_w]
                              rfl
                            refine pure_ (i := 8) (N := some 62) (v := ?_) (a' := ?_) #[true, true, true, true, true, true, true, true, true, true, false, false, true, false, false, false, false, false, false, false, false, false, false, false, false, false, false, false, false, false, false, false, false, false, false, false, false, false, false, false, false, false, false, false, false, false, false, false, false] rfl rfl (any_of HT_.out (by kernel_rfl)) (fun _ _ _ h => h) (Or.inl ⟨by rfl, ?_⟩) ?_ ?_
                            rotate_left
                            · intro w'
                              go_simp
                              with_reducible rfl
                            rotate_left
                            · simp only [Act.put, List.setIfInBounds_toArray, List.set_cons_zero, List.set_cons_succ, i64_w, i32_w]
                              rfl
                            refine take_ (i := 10) (N := some 64) (v := ?_) (a' := ?_) #[true, true, true, true, true, true, true, true, true, true, true, false, true, false, false, false, false, false, false, false, false, false, false, false, false, false, false, false, false, false, false, false, false, false, false, false, false, false, false, false, false, false, false, false, false, false, false, false, false] rfl rfl (take_ofW HT_.out HW_.out (by kernel_rfl)) (fun _ _ _ h => h) (Or.inl ⟨by rfl, ?_⟩) hHeld ?_ ?_
                            rotate_left
                            · rintro w' ⟨s0, s1, s2, s3, s4, s5, s6, s7, s8, s9, s10, s11, s12, s13, s14, s15⟩
                              go_simp
                              with_reducible rfl
                            rotate_left
                            · simp only [Act.put, List.setIfInBounds_toArray, List.set_cons_zero, List.set_cons_succ, i64_w, i32_w]
                              rfl
                            refine pure_ (i := 11) (N := some 65) (v := ?_) (a' := ?_) #[true, true, true, true, true, true, true, true, true, true, true, true, true, false, false, false, false, false, false, false, false, false, false, false, false, false, false, false, false, false, false, false, false, false, false, false, false, false, false, false, false, false, false, false, false, false, false, false, false] rfl rfl (any_of HT_.out (by kernel_rfl)) (fun _ _ _ h => h) (Or.inl ⟨by rfl, ?_⟩) ?_ ?_
                            rotate_left
                            · intro w'
                              go_simp
                              with_reducible rfl
                            rotate_left
                            · simp only [Act.put, List.setIfInBounds_toArray, List.set_cons_zero, List.set_cons_succ, i64_w, i32_w]
                              rfl
                            refine take_ (i := 13) (N := some 67) (v := ?_) (a' := ?_) #[true, true, true, true, true, true, true, true, true, true, true, true, true, true, false, false, false, false, false, false, false, false, false, false, false, false, false, false, false, false, false, false, false, false, false, false, false, false, false, false, false, false, false, false, false, false, false, false, false] rfl rfl (take_ofW HT_.out HW_.out (by kernel_rfl)) (fun _ _ _ h => h) (Or.inl ⟨by rfl, ?_⟩) hHeld ?_ ?_
                            rotate_left
                            · rintro w' ⟨s0, s1, s2, s3, s4, s5, s6, s7, s8, s9, s10, s11, s12, s13, s14, s15⟩
                              go_simp
                              with_reducible rfl
                            rotate_left
                            · simp only [Act.put, List.setIfInBounds_toArray, List.set_cons_zero, List.set_cons_succ, i64_w, i32_w]
                              rfl
                            refine pure_ (i := 14) (N := some 68) (v := ?_) (a' := ?_) #[true, true, true, true, true, true, true, true, true, true, true, true, true, true, true, false, false, false, false, false, false, false, false, false, false, false, false, false, false, false, false, false, false, false, false, false, false, false, false, false, false, false, false, false, false, false, false, false, false] rfl rfl (any_of HT_.out (by kernel_rfl)) (fun _ _ _ h => h) (Or.inl ⟨by rfl, ?_⟩) ?_ ?_
                            rotate_left
                            · intro w'
                              go_simp
                              with_reducible rfl
                            rotate_left
                            · simp only [Act.put, List.setIfInBounds_toArray, List.set_cons_zero, List.set_cons_succ, i64_w, i32_w]
                              rfl
                            refine pure_ (i := 15) (N := some 69) (v := ?_) (a' := ?_) #[true, true, true, true, true, true, true, true, true, true, true, true, true, true, true, true, false, false, false, false, false, false, false, false, false, false, false, false, false, false, false, false, false, false, false, false, false, false, false, false, false, false, false, false, false, false, false, false, false] rfl rfl (any_of HT_.out (by kernel_rfl)) (fun _ _ _ h => h) (Or.inl ⟨by rfl, ?_⟩) ?_ ?_
                            rotate_left
                            · intro w'
                              go_simp
                              with_reducible rfl
                            rotate_left
                            · simp only [Act.put, List.setIfInBounds_toArray, List.set_cons_zero, List.set_cons_succ, i64_w, i32_w]
                              rfl
                            refine pure_ (i := 16) (N := some 70) (v := ?_) (a' := ?_) #[true, true, true, true, true, true, true, true, true, true, true, true, true, true, true, true, true, false, false, false, false, false, false, false, false, false, false, false, false, false, false, false, false, false, false, false, false, false, false, false, false, false, false, false, false, false, false, false, false] rfl rfl (any_of HT_.out (by kernel_rfl)) (fun _ _ _ h => h) (Or.inl ⟨by rfl, ?_⟩) ?_ ?_
                            rotate_left
                            · intro w'
                              go_simp
                              with_reducible rfl
                            rotate_left
                            · simp only [Act.put, List.setIfInBounds_toArray, List.set_cons_zero, List.set_cons_succ, i64_w, i32_w]
                              rfl
                            refine pure_ (i := 17) (N := some 71) (v := ?_) (a' := ?_) #[true, true, true, true, true, true, true, true, true, true, true, true, true, true, true, true, true, true, false, false, false, false, false, false, false, false, false, false, false, false, false, false, false, false, false, false, false, false, false, false, false, false, false, false, false, false, false, false, false] rfl rfl (any_of HT_.out (by kernel_rfl)) (fun _ _ _ h => h) (Or.inl ⟨by rfl, ?_⟩) ?_ ?_
                            rotate_left
                            · intro w'
                              go_simp
                              with_reducible rfl
                            rotate_left
                            · simp only [Act.put, List.setIfInBounds_toArray, List.set_cons_zero, List.set_cons_succ, i64_w, i32_w]
                              rfl
                            refine pure_ (i := 18) (N := some 72) (v := ?_) (a' := ?_) #[true, true, true, true, true, true, true, true, true, true, true, true, true, true, true, true, true, true, true, false, false, false, false, false, false, false, false, false, false, false, false, false, false, false, false, false, false, false, false, false, false, false, false, false, false, false, false, false, false] rfl rfl (any_of HT_.out (by kernel_rfl)) (fun _ _ _ h => h) (Or.inl ⟨by rfl, ?_⟩) ?_ ?_
                            rotate_left
                            · intro w'
                              go_simp
                              with_reducible rfl
                            rotate_left
                            · simp only [Act.put, List.setIfInBounds_toArray, List.set_cons_zero, List.set_cons_succ, i64_w, i32_w]
                              rfl
                            refine pure_ (i := 19) (N := some 73) (v := ?_) (a' := ?_) #[true, true, true, true, true, true, true, true, true, true, true, true, true, true, true, true, true, true, true, true, false, false, false, false, false, false, false, false, false, false, false, false, false, false, false, false, false, false, false, false, false, false, false, false, false, false, false, false, false] rfl rfl (any_of HT_.out (by kernel_rfl)) (fun _ _ _ h => h) (Or.inl ⟨by rfl, ?_⟩) ?_ ?_
                            rotate_left
                            · intro w'
                              go_simp
                              with_reducible rfl
                            rotate_left
                            · simp only [Act.put, List.setIfInBounds_toArray, List.set_cons_zero, List.set_cons_succ, i64_w, i32_w]
                              rfl
                            refine pure_ (i := 20) (N := some 74) (v := ?_) (a' := ?_) #[true, true, true, true, true, true, true, true, true, true, true, true, true, true, true, true, true, true, true, true, true, false, false, false, false, false, false, false, false, false, false, false, false, false, false, false, false, false, false, false, false, false, false, false, false, false, false, false, false] rfl rfl (any_of HT_.out (by kernel_rfl)) (fun _ _ _ h => h) (Or.inl ⟨by rfl, ?_⟩) ?_ ?_
                            rotate_left
                            · intro w'
                              go_simp
                              with_reducible rfl
                            rotate_left
                            · simp only [Act.put, List.setIfInBounds_toArray, List.set_cons_zero, List.set_cons_succ, i64_w, i32_w]
                              rfl
                            refine pure_ (i := 21) (N := some 75) (v := ?_) (a' := ?_) #[true, true, true, true, true, true, true, true, true, true, true, true, true, true, true, true, true, true, true, true, true, true, false, false, false, false, false, false, false, false, false, false, false, false, false, false, false, false, false, false, false, false, false, false, false, false, false, false, false] rfl rfl (any_of HT_.out (by kernel_rfl)) (fun _ _ _ h => h) (Or.inl ⟨by rfl, ?_⟩) ?_ ?_
                            rotate_left
                            · intro w'
                              go_simp
                              with_reducible rfl
                            rotate_left
                            · simp only [Act.put, List.setIfInBounds_toArray, List.set_cons_zero, List.set_cons_succ, i64_w, i32_w]
                              rfl
                            refine pure_ (i := 22) (N := some 76) (v := ?_) (a' := ?_) #[true, true, true, true, true, true, true, true, true, true, true, true, true, true, true, true, true, true, true, true, true, true, true, false, false, false, false, false, false, false, false, false, false, false, false, false, false, false, false, false, false, false, false, false, false, false, false, false, false] rfl rfl (any_of HT_.out (by kernel_rfl)) (fun _ _ _ h => h) (Or.inl ⟨by rfl, ?_⟩) ?_ ?_
                            rotate_left
                            · intro w'
                              go_simp
                              with_reducible rfl
                            rotate_left
                            · simp only [Act.put, List.setIfInBounds_toArray, List.set_cons_zero, List.set_cons_succ, i64_w, i32_w]
                              rfl
                            refine pure_ (i := 23) (N := some 77) (v := ?_) (a' := ?_) #[true, true, true, true, true, true, true, true, true, true, true, true, true, true, true, true, true, true, true, true, true, true, true, true, false, false, false, false, false, false, false, false, false, false, false, false, false, false, false, false, false, false, false, false, false, false, false, false, false] rfl rfl (any_of HT_.out (by kernel_rfl)) (fun _ _ _ h => h) (Or.inl ⟨by rfl, ?_⟩) ?_ ?_
                            rotate_left
                            · intro w'
                              go_simp
                              with_reducible rfl
                            rotate_left
                            · simp only [Act.put, List.setIfInBounds_toArray, List.set_cons_zero, List.set_cons_succ, i64_w, i32_w]
                              rfl
                            refine pure_ (i := 24) (N := some 78) (v := ?_) (a' := ?_) #[true, true, true, true, true, true, true, true, true, true, true, true, true, true, true, true, true, true, true, true, true, true, true, true, true, false, false, false, false, false, false, false, false, false, false, false, false, false, false, false, false, false, false, false, false, false, false, false, false] rfl rfl (any_of HT_.out (by kernel_rfl)) (fun _ _ _ h => h) (Or.inl ⟨by rfl, ?_⟩) ?_ ?_
                            rotate_left
                            · intro w'
                              go_simp
                              with_reducible rfl
                            rotate_left
                            · simp only [Act.put, List.setIfInBounds_toArray, List.set_cons_zero, List.set_cons_succ, i64_w, i32_w]
                              rfl
                            refine pure_ (i := 25) (N := some 79) (v := ?_) (a' := ?_) #[true, true, true, true, true, true, true, true, true, true, true, true, true, true, true, true, true, true, true, true, true, true, true, true, true, true, false, false, false, false, false, false, false, false, false, false, false, false, false, false, false, false, false, false, false, false, false, false, false] rfl rfl (any_of HT_.out (by kernel_rfl)) (fun _ _ _ h => h) (Or.inl ⟨by rfl, ?_⟩) ?_ ?_
                            rotate_left
                            · intro w'
                              go_simp
                              with_reducible rfl
                            rotate_left
                            · simp only [Act.put, List.setIfInBounds_toArray, List.set_cons_zero, List.set_cons_succ, i64_w, i32_w]
                              rfl
                            refine pure_ (i := 26) (N := some 80) (v := ?_) (a' := ?_) #[true, true, true, true, true, true, true, true, true, true, true, true, true, true, true, true, true, true, true, true, true, true, true, true, true, true, true, false, false, false, false, false, false, false, false, false, false, false, false, false, false, false, false, false, false, false, false, false, false] rfl rfl (any_of HT_.out (by kernel_rfl)) (fun _ _ _ h => h) (Or.inl ⟨by rfl, ?_⟩) ?_ ?_
                            rotate_left
                            · intro w'
                              go_simp
                              with_reducible rfl
                            rotate_left
                            · simp only [Act.put, List.setIfInBounds_toArray, List.set_cons_zero, List.set_cons_succ, i64_w, i32_w]
                              rfl
                            refine pure_ (i := 27) (N := some 81) (v := ?_) (a' := ?_) #[true, true, true, true, true, true, true, true, true, true, true, true, true, true, true, true, true, true, true, true, true, true, true, true, true, true, true, true, false, false, false, false, false, false, false, false, false, false, false, false, false, false, false, false, false, false, false, false, false] rfl rfl (any_of HT_.out (by kernel_rfl)) (fun _ _ _ h => h) (Or.inl ⟨by rfl, ?_⟩) ?_ ?_
                            rotate_left
                            · intro w'
                              go_simp
                              with_reducible rfl
                            rotate_left
                            · simp only [Act.put, List.setIfInBounds_toArray, List.set_cons_zero, List.set_cons_succ, i64_w, i32_w]
                              rfl
                            refine pure_ (i := 28) (N := some 82) (v := ?_) (a' := ?_) #[true, true, true, true, true, true, true, true, true, true, true, true, true, true, true, true, true, true, true, true, true, true, true, true, true, true, true, true, true, false, false, false, false, false, false, false, false, false, false, false, false, false, false, false, false, false, false, false, false] rfl rfl (any_of HT_.out (by kernel_rfl)) (fun _ _ _ h => h) (Or.inl ⟨by rfl, ?_⟩) ?_ ?_
                            rotate_left
                            · intro w'
                              go_simp
                              with_reducible rfl
                            rotate_left
                            · simp only [Act.put, List.setIfInBounds_toArray, List.set_cons_zero, List.set_cons_succ, i64_w, i32_w]
                              rfl
                            refine pure_ (i := 29) (N := some 83) (v := ?_) (a' := ?_) #[true, true, true, true, true, true, true, true, true, true, true, true, true, true, true, true, true, true, true, true, true, true, true, true, true, true, true, true, true, true, false, false, false, false, false, false, false, false, false, false, false, false, false, false, false, false, false, false, false] rfl rfl (any_of HT_.out (by kernel_rfl)) (fun _ _ _ h => h) (Or.inl ⟨by rfl, ?_⟩) ?_ ?_
                            rotate_left
                            · intro w'
                              go_simp
                              with_reducible rfl
                            rotate_left
                            · simp only [Act.put, List.setIfInBounds_toArray, List.set_cons_zero, List.set_cons_succ, i64_w, i32_w]
                              rfl
                            refine take_ (i := 30) (N := some 84) (v := ?_) (a' := ?_) #[true, true, true, true, true, true, true, true, true, true, true, true, true, true, true, true, true, true, true, true, true, true, true, true, true, true, true, true, true, true, true, false, false, false, false, false, false, false, false, false, false, false, false, false, false, false, false, false, false] rfl rfl (take_ofW HT_.out HW_.out (by kernel_rfl)) (fun _ _ _ h => h) (Or.inl ⟨by rfl, ?_⟩) hHeld ?_ ?_
                            rotate_left
                            · rintro w' ⟨s0, s1, s2, s3, s4, s5, s6, s7, s8, s9, s10, s11, s12, s13, s14, s15⟩
                              go_simp
                              with_reducible rfl
                            rotate_left
                            · simp only [Act.put, List.setIfInBounds_toArray, List.set_cons_zero, List.set_cons_succ, i64_w, i32_w]
                              rfl
                            refine pure_ (i := 31) (N := some 85) (v := ?_) (a' := ?_) #[true, true, true, true, true, true, true, true, true, true, true, true, true, true, true, true, true, true, true, true, true, true, true, true, true, true, true, true, true, true, true, true, false, false, false, false, false, false, false, false, false, false, false, false, false, false, false, false, false] rfl rfl (any_of HT_.out (by kernel_rfl)) (fun _ _ _ h => h) (Or.inl ⟨by rfl, ?_⟩) ?_ ?_
                            rotate_left
                            · intro w'
                              go_simp
                              with_reducible rfl
                            rotate_left
                            · simp only [Act.put, List.setIfInBounds_toArray, List.set_cons_zero, List.set_cons_succ, i64_w, i32_w]
                              rfl
                            refine pure_ (i := 32) (N := some 86) (v := ?_) (a' := ?_) #[true, true, true, true, true, true, true, true, true, true, true, true, true, true, true, true, true, true, true, true, true, true, true, true, true, true, true, true, true, true, true, true, true, false, false, false, false, false, false, false, false, false, false, false, false, false, false, false, false] rfl rfl (any_of HT_.out (by kernel_rfl)) (fun _ _ _ h => h) (Or.inl ⟨by rfl, ?_⟩) ?_ ?_
                            rotate_left
                            · intro w'
                              go_simp
                              with_reducible rfl
                            rotate_left
                            · simp only [Act.put, List.setIfInBounds_toArray, List.set_cons_zero, List.set_cons_succ, i64_w, i32_w]
                              rfl
                            refine pure_ (i := 33) (N := some 87) (v := ?_) (a' := ?_) #[true, true, true, true, true, true, true, true, true, true, true, true, true, true, true, true, true, true, true, true, true, true, true, true, true, true, true, true, true, true, true, true, true, true, false, false, false, false, false, false, false, false, false, false, false, false, false, false, false] rfl rfl (any_of HT_.out (by kernel_rfl)) (fun _ _ _ h => h) (Or.inl ⟨by rfl, ?_⟩) ?_ ?_
                            rotate_left
                            · intro w'
                              go_simp
                              with_reducible rfl
                            rotate_left
                            · simp only [Act.put, List.setIfInBounds_toArray, List.set_cons_zero, List.set_cons_succ, i64_w, i32_w]
                              rfl
                            refine pure_ (i := 34) (N := some 88) (v := ?_) (a' := ?_) #[true, true, true, true, true, true, true, true, true, true, true, true, true, true, true, true, true, true, true, true, true, true, true, true, true, true, true, true, true, true, true, true, true, true, true, false, false, false, false, false, false, false, false, false, false, false, false, false, false] rfl rfl (any_of HT_.out (by kernel_rfl)) (fun _ _ _ h => h) (Or.inl ⟨by rfl, ?_⟩) ?_ ?_
                            rotate_left
                            · intro w'
                              go_simp
                              with_reducible rfl
                            rotate_left
                            · simp only [Act.put, List.setIfInBounds_toArray, List.set_cons_zero, List.set_cons_succ, i64_w, i32_w]
                              rfl
                            refine pure_ (i := 35) (N := some 89) (v := ?_) (a' := ?_) #[true, true, true, true, true, true, true, true, true, true, true, true, true, true, true, true, true, true, true, true, true, true, true, true, true, true, true, true, true, true, true, true, true, true, true, true, false, false, false, false, false, false, false, false, false, false, false, false, false] rfl rfl (any_of HT_.out (by kernel_rfl)) (fun _ _ _ h => h) (Or.inl ⟨by rfl, ?_⟩) ?_ ?_
                            rotate_left
                            · intro w'
                              go_simp
                              with_reducible rfl
                            rotate_left
                            · simp only [Act.put, List.setIfInBounds_toArray, List.set_cons_zero, List.set_cons_succ, i64_w, i32_w]
                              rfl
                            refine pure_ (i := 37) (N := some 91) (v := ?_) (a' := ?_) #[true, true, true, true, true, true, true, true, true, true, true, true, true, true, true, true, true, true, true, true, true, true, true, true, true, true, true, true, true, true, true, true, true, true, true, true, false, true, false, false, false, false, false, false, false, false, false, false, false] rfl rfl (any_of HT_.out (by kernel_rfl)) (fun _ _ _ h => h) (Or.inl ⟨by rfl, ?_⟩) ?_ ?_
                            rotate_left
                            · intro w'
                              go_simp
                              with_reducible rfl
                            rotate_left
                            · simp only [Act.put, List.setIfInBounds_toArray, List.set_cons_zero, List.set_cons_succ, i64_w, i32_w]
                              rfl
                            refine take_ (i := 36) (N := some 90) (v := ?_) (a' := ?_) #[true, true, true, true, true, true, true, true, true, true, true, true, true, true, true, true, true, true, true, true, true, true, true, true, true, true, true, true, true, true, true, true, true, true, true, true, true, true, false, false, false, false, false, false, false, false, false, false, false] rfl rfl (take_ofW HT_.out HW_.out (by kernel_rfl)) (fun _ _ _ h => h) (Or.inl ⟨by rfl, ?_⟩) hHeld ?_ ?_
                            rotate_left
                            · rintro w' ⟨s0, s1, s2, s3, s4, s5, s6, s7, s8, s9, s10, s11, s12, s13, s14, s15⟩
                              go_simp
                              with_reducible rfl
                            rotate_left
                            · simp only [Act.put, List.setIfInBounds_toArray, List.set_cons_zero, List.set_cons_succ, i64_w, i32_w]
                              rfl
                            refine take_ (i := 38) (N := some 92) (v := ?_) (a' := ?_) #[true, true, true, true, true, true, true, true, true, true, true, true, true, true, true, true, true, true, true, true, true, true, true, true, true, true, true, true, true, true, true, true, true, true, true, true, true, true, true, false, false, false, false, false, false, false, false, false, false] rfl rfl (take_ofW HT_.out HW_.out (by kernel_rfl)) (fun _ _ _ h => h) (Or.inl ⟨by rfl, ?_⟩) hHeld ?_ ?_
                            rotate_left
                            · rintro w' ⟨s0, s1, s2, s3, s4, s5, s6, s7, s8, s9, s10, s11, s12, s13, s14, s15⟩
                              go_simp
                              with_reducible rfl
                            rotate_left
                            · simp only [Act.put, List.setIfInBounds_toArray, List.set_cons_zero, List.set_cons_succ, i64_w, i32_w]
                              rfl
                            refine pure_ (i := 39) (N := some 93) (v := ?_) (a' := ?_) #[true, true, true, true, true, true, true, true, true, true, true, true, true, true, true, true, true, true, true, true, true, true, true, true, true, true, true, true, true, true, true, true, true, true, true, true, true, true, true, true, false, false, false, false, false, false, false, false, false] rfl rfl (any_of HT_.out (by kernel_rfl)) (fun _ _ _ h => h) (Or.inl ⟨by rfl, ?_⟩) ?_ ?_
                            rotate_left
                            · intro w'
                              go_simp
                              with_reducible rfl
                            rotate_left
                            · simp only [Act.put, List.setIfInBounds_toArray, List.set_cons_zero, List.set_cons_succ, i64_w, i32_w]
                              rfl
                            refine pure_ (i := 40) (N := some 94) (v := ?_) (a' := ?_) #[true, true, true, true, true, true, true, true, true, true, true, true, true, true, true, true, true, true, true, true, true, true, true, true, true, true, true, true, true, true, true, true, true, true, true, true, true, true, true, true, true, false, false, false, false, false, false, false, false] rfl rfl (any_of HT_.out (by kernel_rfl)) (fun _ _ _ h => h) (Or.inl ⟨by rfl, ?_⟩) ?_ ?_
                            rotate_left
                            · intro w'
                              go_simp
                              with_reducible rfl
                            rotate_left
                            · simp only [Act.put, List.setIfInBounds_toArray, List.set_cons_zero, List.set_cons_succ, i64_w, i32_w]
                              rfl
                            refine pure_ (i := 41) (N := some 95) (v := ?_) (a' := ?_) #[true, true, true, true, true, true, true, true, true, true, true, true, true, true, true, true, true, true, true, true, true, true, true, true, true, true, true, true, true, true, true, true, true, true, true, true, true, true, true, true, true, true, false, false, false, false, false, false, false] rfl rfl (any_of HT_.out (by kernel_rfl)) (fun _ _ _ h => h) (Or.inl ⟨by rfl, ?_⟩) ?_ ?_
                            rotate_left
                            · intro w'
                              go_simp
                              with_reducible rfl
                            rotate_left
                            · simp only [Act.put, List.setIfInBounds_toArray, List.set_cons_zero, List.set_cons_succ, i64_w, i32_w]
                              rfl
                            refine pure_ (i := 42) (N := some 96) (v := ?_) (a' := ?_) #[true, true, true, true, true, true, true, true, true, true, true, true, true, true, true, true, true, true, true, true, true, true, true, true, true, true, true, true, true, true, true, true, true, true, true, true, true, true, true, true, true, true, true, false, false, false, false, false, false] rfl rfl (any_of HT_.out (by kernel_rfl)) (fun _ _ _ h => h) (Or.inl ⟨by rfl, ?_⟩) ?_ ?_
                            rotate_left
                            · intro w'
                              go_simp
                              with_reducible rfl
                            rotate_left
                            · simp only [Act.put, List.setIfInBounds_toArray, List.set_cons_zero, List.set_cons_succ, i64_w, i32_w]
                              rfl
                            refine pure_ (i := 43) (N := some 97) (v := ?_) (a' := ?_) #[true, true, true, true, true, true, true, true, true, true, true, true, true, true, true, true, true, true, true, true, true, true, true, true, true, true, true, true, true, true, true, true, true, true, true, true, true, true, true, true, true, true, true, true, false, false, false, false, false] rfl rfl (any_of HT_.out (by kernel_rfl)) (fun _ _ _ h => h) (Or.inl ⟨by rfl, ?_⟩) ?_ ?_
                            rotate_left
                            · intro w'
                              go_simp
                              with_reducible rfl
                            rotate_left
                            · simp only [Act.put, List.setIfInBounds_toArray, List.set_cons_zero, List.set_cons_succ, i64_w, i32_w]
                              rfl
                            refine take_ (i := 44) (N := some 98) (v := ?_) (a' := ?_) #[true, true, true, true, true, true, true, true, true, true, true, true, true, true, true, true, true, true, true, true, true, true, true, true, true, true, true, true, true, true, true, true, true, true, true, true, true, true, true, true, true, true, true, true, true, false, false, false, false] rfl rfl (take_ofW HT_.out HW_.out (by kernel_rfl)) (fun _ _ _ h => h) (Or.inl ⟨by rfl, ?_⟩) hHeld ?_ ?_
                            rotate_left
                            · rintro w' ⟨s0, s1, s2, s3, s4, s5, s6, s7, s8, s9, s10, s11, s12, s13, s14, s15⟩
                              go_simp
                              with_reducible rfl
                            rotate_left
                            · simp only [Act.put, List.setIfInBounds_toArray, List.set_cons_zero, List.set_cons_succ, i64_w, i32_w]
                              rfl
                            refine take_ (i := 45) (N := some 99) (v := ?_) (a' := ?_) #[true, true, true, true, true, true, true, true, true, true, true, true, true, true, true, true, true, true, true, true, true, true, true, true, true, true, true, true, true, true, true, true, true, true, true, true, true, true, true, true, true, true, true, true, true, true, false, false, false] rfl rfl (take_ofW HT_.out HW_.out (by kernel_rfl)) (fun _ _ _ h => h) (Or.inl ⟨by rfl, ?_⟩) hHeld ?_ ?_
                            rotate_left
                            · rintro w' ⟨s0, s1, s2, s3, s4, s5, s6, s7, s8, s9, s10, s11, s12, s13, s14, s15⟩
                              go_simp
                              with_reducible rfl
                            rotate_left
                            · simp only [Act.put, List.setIfInBounds_toArray, List.set_cons_zero, List.set_cons_succ, i64_w, i32_w]
                              rfl
                            refine one_ (i := 46) (N := some 100) #[true, true, true, true, true, true, true, true, true, true, true, true, true, true, true, true, true, true, true, true, true, true, true, true, true, true, true, true, true, true, true, true, true, true, true, true, true, true, true, true, true, true, true, true, true, true, true, false, false] rfl rfl (one_of HT_.out (by kernel_rfl)) (by decide) (fun K hK => ?_)
                            refine goes_ Tryd.func13 (by kernel_rfl) rfl #[.agg #[.int .i64 a0_0, .int .i64 a0_1, .int .i64 a0_2, .int .i64 a0_3, .int .i64 a0_4, .int .i64 a0_5, .int .i64 a0_6, .int .i64 a0_7, .int .i64 a0_8]] (by rfl) rfl rfl (by (try simp only [List.map_toArray, List.map_cons, List.map_nil]); first | done | rfl | (simp only [List.length_drop, List.length_take]; rfl)) ?_
                            with_reducible refine (config_Cells.calls a0_0 a0_1 a0_2 a0_3 a0_4 a0_5 a0_6 a0_7 a0_8 t225 _ A57.out).mono ?_
                            rintro e w62 ⟨rfl, hb⟩
                            have HS13_ := (hb.cell (World.block_lt_of_cell? _ _ (hHeld.2.2.2.2.2.2.2.2.2.2.2.2.2.1))).trans (hHeld.2.2.2.2.2.2.2.2.2.2.2.2.2.1)
                            have HS14_ := (hb.cell (World.block_lt_of_cell? _ _ (hHeld.2.2.2.2.2.2.2.2.2.2.2.2.2.2.1))).trans (hHeld.2.2.2.2.2.2.2.2.2.2.2.2.2.2.1)
                            have HS15_ := (hb.cell (World.block_lt_of_cell? _ _ (hHeld.2.2.2.2.2.2.2.2.2.2.2.2.2.2.2))).trans (hHeld.2.2.2.2.2.2.2.2.2.2.2.2.2.2.2)
                            refine ⟨_, rfl, ?_⟩
                            have n0_ := Aside0.mk (Kd.R_below (by (with_reducible repeat (first | apply Kd.R_alloc | apply Kd.R_drewN | apply Kd.R_drew)); exact HO_8.out) hb)
                            have n1_ := Aside0.mk (blk_below (g := gb203) (o := .cells #[.int .i64 a0_0, .int .i64 a0_1, .int .i64 a0_2, .int .i64 a0_3, .int .i64 a0_4, .int .i64 a0_5, .int .i64 a0_6, .int .i64 a0_7, .int .i64 a0_8] 23 (0, 0)) (by (with_reducible repeat (first | refine blk_drewN ?_ _ | refine blk_drew ?_ | refine blk_alloc ?_ _)); exact BK203.out) hb)
                            have n2_ := Aside0.mk (blk_below (g := gb220) (o := .cells #[.int .i64 t216, .int .i64 t217, .int .i64 t218, .int .i64 t219] 33 (0, 0)) (by (with_reducible repeat (first | refine blk_drewN ?_ _ | refine blk_drew ?_ | refine blk_alloc ?_ _)); exact BK220.out) hb)
                            have n3_ := Aside0.mk (below_step (by repeat (first | (with_reducible first | exact HB.out | apply below_alloc | apply pw_below_drewN | apply below_drew1 | refine below_set ?_ GE203.out | refine below_set ?_ GE220.out) | exact HB.out)) hb)
                            clear HO_8
                            clear BK203
                            clear BK220
                            clear HB
                            have HO_8 := n0_
                            have BK203 := n1_
                            have BK220 := n2_
                            have HB := n3_
                            clear n0_ n1_ n2_ n3_
                            (try clear hb)
                            (try clear hb2)
                            (try clear hk)
                            (try clear hi)
                            refine hK.out _ _ ⟨(blk_cell BK220.out 0).trans rfl, (blk_cell BK220.out 1).trans rfl, (blk_cell BK220.out 2).trans rfl, (blk_cell BK220.out 3).trans rfl, (blk_cell BK203.out 0).trans rfl, (blk_cell BK203.out 1).trans rfl, (blk_cell BK203.out 2).trans rfl, (blk_cell BK203.out 3).trans rfl, (blk_cell BK203.out 4).trans rfl, (blk_cell BK203.out 5).trans rfl, (blk_cell BK203.out 6).trans rfl, (blk_cell BK203.out 7).trans rfl, (blk_cell BK203.out 8).trans rfl, HS13_, HS14_, HS15_⟩ (fun hHeld => ?_)
                            clear hK K
                            refine norm_ (a' := ?_) ?_ ?_
                            rotate_left
                            · show Act.put _ (some 100) _ = _
                              simp only [Act.put, List.setIfInBounds_toArray, List.set_cons_zero, List.set_cons_succ, i64_w, i32_w]
                              rfl
                            refine pure_ (i := 47) (N := some 101) (v := ?_) (a' := ?_) #[true, true, true, true, true, true, true, true, true, true, true, true, true, true, true, true, true, true, true, true, true, true, true, true, true, true, true, true, true, true, true, true, true, true, true, true, true, true, true, true, true, true, true, true, true, true, true, true, false] rfl rfl (any_of HT_.out (by kernel_rfl)) (fun _ _ _ h => h) (Or.inl ⟨by rfl, ?_⟩) ?_ ?_
                            rotate_left
                            · intro w'
                              go_simp
                              with_reducible rfl
                            rotate_left
                            · simp only [Act.put, List.setIfInBounds_toArray, List.set_cons_zero, List.set_cons_succ, i64_w, i32_w]
                              rfl
                            refine pure_ (i := 48) (N := some 102) (v := ?_) (a' := ?_) #[true, true, true, true, true, true, true, true, true, true, true, true, true, true, true, true, true, true, true, true, true, true, true, true, true, true, true, true, true, true, true, true, true, true, true, true, true, true, true, true, true, true, true, true, true, true, true, true, true] rfl rfl (any_of HT_.out (by kernel_rfl)) (fun _ _ _ h => h) (Or.inl ⟨by rfl, ?_⟩) ?_ ?_
                            rotate_left
                            · intro w'
                              go_simp
                              with_reducible rfl
                            rotate_left
                            · simp only [Act.put, List.setIfInBounds_toArray, List.set_cons_zero, List.set_cons_succ, i64_w, i32_w]
                              rfl
                            refine done_ (done_of HT_.out (by kernel_rfl)) ?_
                            try go_wp2
                            go_meet
                            case rel => exact ⟨_, (decide ((rd t207 2) < t225)), (by first | rfl | (simp; done) | (simp [*]; done)), H', ⟨by have := HJ5.out; first | omega | exact Nat.le_refl _⟩, ⟨by (with_reducible repeat (first | apply Kd.R_alloc | apply Kd.R_drewN | apply Kd.R_drew)); exact HO_8.out⟩, ⟨by (with_reducible repeat (first | refine blk_drewN ?_ _ | refine blk_drew ?_ | refine blk_alloc ?_ _)); exact BK203.out⟩, ⟨by (with_reducible repeat (first | refine blk_drewN ?_ _ | refine blk_drew ?_ | refine blk_alloc ?_ _)); exact BK220.out⟩, ⟨by repeat (first | (with_reducible first | exact HB.out | apply below_alloc | apply pw_below_drewN | apply below_drew1 | refine below_set ?_ GE203.out | refine below_set ?_ GE220.out) | exact HB.out)⟩⟩
                          · rw [if_neg c56] at H
                            exact absurd H (by simp)
                        · rw [if_neg c55] at H
                          exact (shellgamelaw13_ConfigFits.j1_no _ _ _ _ hrT.out H).elim
                      · rw [if_neg c54] at H
                        exact absurd H (by simp)
                    · rw [if_neg c53] at H
                      exact (shellgamelaw13_ConfigFits.j1_no _ _ _ _ hrT.out H).elim
                  · rw [if_neg c52] at H
                    exact absurd H (by simp)
          · replace c37 := Bool.eq_false_iff.mpr c37
            subst c37
            have H1 : (shellgamelaw13_ConfigFits.j1 kj5 a1 t207 true a0_0 a0_1 a0_2 a0_3 a0_4 a0_5 a0_6 a0_7 a0_8 t216 t217 t218 t219) = some r := by rw [if_neg (show ¬ (false = true) by decide)] at H; exact H
            clear H
            have H := H1
            clear H1
            exact (shellgamelaw13_ConfigFits.j1_no _ _ _ _ hrT.out H).elim
        case rest =>
          clear HC30
          try clear c2
          try clear p2
          try clear c3
          try clear c5
          try clear c25
          try clear c37
          try clear c52
          obtain ⟨kq, x102_29, rfl, HA, HJ29, HO_8, BK203, BK220, HB⟩ := hcut
          cases kq with
          | zero => exact absurd HA.out (by simp [shellgamelaw13_ConfigFits.j1])
          | succ kj29 =>
            have H := HA.out
            clear HA
            simp only [shellgamelaw13_ConfigFits.j1] at H
            by_cases c74 : x102_29 = true
            · subst c74
              have H1 : (some false) = some r := by rw [if_pos rfl] at H; exact H
              clear H
              have H := H1
              clear H1
              rw [hrT.out] at H
              exact absurd H (by simp)
            · replace c74 := Bool.eq_false_iff.mpr c74
              subst c74
              have H1 : (shellgamelaw13_ConfigFits.l0 kj29 a1 t207 0 a0_0 a0_1 a0_2 a0_3 a0_4 a0_5 a0_6 a0_7 a0_8 t216 t217 t218 t219) = some r := by rw [if_neg (show ¬ (false = true) by decide)] at H; exact H
              clear H
              have H := H1
              clear H1
              have H' := Aside0.mk H
              clear H
              go_wp2
              go_loopg [10] kj29 (fun kq v10 w' => ∃ (x10_3 : Int), v10 = .int .i64 x10_3 ∧ Aside0 (shellgamelaw13_ConfigFits.l0 kq a1 t207 x10_3 a0_0 a0_1 a0_2 a0_3 a0_4 a0_5 a0_6 a0_7 a0_8 t216 t217 t218 t219 = some r) ∧ Aside0 (kq ≤ kj29) ∧ Aside0 (Kd.R (Kd.int .i64) 3 w' w.heap.size (fun _ => True) v208 t207) ∧ Aside0 (w'.heap[gb203]? = some (.cells #[.int .i64 a0_0, .int .i64 a0_1, .int .i64 a0_2, .int .i64 a0_3, .int .i64 a0_4, .int .i64 a0_5, .int .i64 a0_6, .int .i64 a0_7, .int .i64 a0_8] 23 (0, 0))) ∧ Aside0 (w'.heap[gb220]? = some (.cells #[.int .i64 t216, .int .i64 t217, .int .i64 t218, .int .i64 t219] 33 (0, 0))) ∧ Aside0 (Below w.heap.size w w'))
              case atStart => exact ⟨(0), (by first | rfl | (simp; done) | (simp [*]; done)), H', ⟨Nat.le_refl _⟩, ⟨by (with_reducible repeat (first | apply Kd.R_alloc | apply Kd.R_drewN | apply Kd.R_drew)); exact HO_8.out⟩, ⟨by (with_reducible repeat (first | refine blk_drewN ?_ _ | refine blk_drew ?_ | refine blk_alloc ?_ _)); exact BK203.out⟩, ⟨by (with_reducible repeat (first | refine blk_drewN ?_ _ | refine blk_drew ?_ | refine blk_alloc ?_ _)); exact BK220.out⟩, ⟨by repeat (first | (with_reducible first | exact HB.out | apply below_alloc | apply pw_below_drewN | apply below_drew1 | refine below_set ?_ GE203.out | refine below_set ?_ GE220.out) | exact HB.out)⟩⟩
              case round =>
                clear H'
                try clear c2
                try clear p2
                try clear c3
                try clear c5
                try clear c7
                try clear c25
                try clear c37
                try clear c52
                try clear c74
                try clear p2
                obtain ⟨x10_3, rfl, HA, HK3, HO_8, BK203, BK220, HB⟩ := hrel
                cases gk with
                | zero => exact absurd HA.out (by simp [shellgamelaw13_ConfigFits.l0])
                | succ k3 =>
                  have H := HA.out
                  clear HA
                  simp only [shellgamelaw13_ConfigFits.l0] at H
                  by_cases c75 : x10_3 < (t207.length : Int)
                  · rw [if_pos c75] at H
                    have c75b0 : decide (x10_3 < (t207.length : Int)) = true := decide_eq_true c75
                    clear c75
                    by_cases c76 : 0 ≤ x10_3
                    · rw [if_pos c76] at H
                      have c76b0 : decide (0 ≤ x10_3) = true := decide_eq_true c76
                      clear c76
                      by_cases c77 : (rd t207 x10_3) < 1
                      · rw [if_pos c77] at H
                        have c77b0 : decide ((rd t207 x10_3) < 1) = true := decide_eq_true c77
                        clear c77
                        rw [hrT.out] at H
                        exact absurd H (by simp)
                      · rw [if_neg c77] at H
                        have c77b0 : decide ((rd t207 x10_3) < 1) = false := decide_eq_false c77
                        clear c77
                        by_cases c78 : (rd t207 x10_3) > 4096
                        · rw [if_pos c78] at H
                          have c78b0 : decide (4096 < (rd t207 x10_3)) = true := decide_eq_true c78
                          clear c78
                          rw [hrT.out] at H
                          exact absurd H (by simp)
                        · rw [if_neg c78] at H
                          have c78b0 : decide (4096 < (rd t207 x10_3)) = false := decide_eq_false c78
                          clear c78
                          have H' := Aside0.mk H
                          clear H
                          obtain ⟨Ao79, co79, eo79⟩ := Kd.R_slice HO_8.out
                          subst eo79
                          have p226 : 0 ≤ (x10_3 : Int) := of_decide_eq_true (by first | (with_reducible assumption) | assumption)
                          have q226 : x10_3 < (t207.length : Int) := of_decide_eq_true (by first | (with_reducible assumption) | assumption)
                          obtain ⟨ad226, e226, hx226_0⟩ := Kd.at_int (Kd.R_reads' HO_8.out).2.2 x10_3 p226 q226
                          cases e226
                          replace p226 := eq_true p226
                          replace q226 := eq_true q226
                          have p227 : 0 ≤ (x10_3 : Int) := of_decide_eq_true (by first | (with_reducible assumption) | assumption)
                          have q227 : x10_3 < (t207.length : Int) := of_decide_eq_true (by first | (with_reducible assumption) | assumption)
                          obtain ⟨ad227, e227, hx227_0⟩ := Kd.at_int (Kd.R_reads' HO_8.out).2.2 x10_3 p227 q227
                          obtain rfl : ad226 = ad227 := (by injection e227)
                          replace p227 := eq_true p227
                          replace q227 := eq_true q227
                          go_wp2
                          go_roundg k3
                          case measure => have := HJ5.out; have := HJ29.out; have := HK3.out; omega
                          case rel => exact ⟨(wrap64 (x10_3 + 1)), (by first | rfl | (simp; done) | (simp [*]; done)), H', ⟨by have := HJ5.out; have := HJ29.out; have := HK3.out; omega⟩, ⟨by (with_reducible repeat (first | apply Kd.R_alloc | apply Kd.R_drewN | apply Kd.R_drew)); exact HO_8.out⟩, ⟨by (with_reducible repeat (first | refine blk_drewN ?_ _ | refine blk_drew ?_ | refine blk_alloc ?_ _)); exact BK203.out⟩, ⟨by (with_reducible repeat (first | refine blk_drewN ?_ _ | refine blk_drew ?_ | refine blk_alloc ?_ _)); exact BK220.out⟩, ⟨by repeat (first | (with_reducible first | exact HB.out | apply below_alloc | apply pw_below_drewN | apply below_drew1 | refine below_set ?_ GE203.out | refine below_set ?_ GE220.out) | exact HB.out)⟩⟩
                    · rw [if_neg c76] at H
                      exact absurd H (by simp)
                  · rw [if_neg c75] at H
                    have c75b0 : decide (x10_3 < (t207.length : Int)) = false := decide_eq_false c75
                    clear c75
                    obtain ⟨ji80, hji80⟩ : ∃ j_ : Int, (mn a1 1000) = j_ := ⟨_, rfl⟩
                    replace H : ((config_Accesses.f a0_0 a0_1 a0_2 a0_3 a0_4 a0_5 a0_6 a0_7 a0_8).bind fun bt228 => ((config_Words.f a0_0 a0_1 a0_2 a0_3 a0_4 a0_5 a0_6 a0_7 a0_8 ((mx 0 (ji80)) + 1)).bind fun t230 => ((config_Words.f a0_0 a0_1 a0_2 a0_3 a0_4 a0_5 a0_6 a0_7 a0_8 (mx 0 (ji80))).bind fun t231 => (if a0_1 = 0 then (none) else (if (((mx 0 (ji80)) + 1) % a0_1) = 0 then (shellgamelaw13_ConfigFits.j3 k3 t207 (wrap64 (t230 - t231)) (wrap64 (bt228.1 + bt228.2)) a0_0 a0_1 a0_2 a0_3 a0_4 a0_5 a0_6 a0_7 a0_8 t216 t217 t218 t219) else (shellgamelaw13_ConfigFits.j3 k3 t207 (wrap64 (t230 - t231)) bt228.1 a0_0 a0_1 a0_2 a0_3 a0_4 a0_5 a0_6 a0_7 a0_8 t216 t217 t218 t219)))))) = some r := by first | (rw [hji80] at H; exact H) | (simp only [hji80] at H ⊢; exact H)
                    have hji80_ : (if 1000 < a1 then 1000 else a1) = ji80 := hji80
                    obtain ⟨ji81, hji81⟩ : ∃ j_ : Int, (mx 0 (ji80)) = j_ := ⟨_, rfl⟩
                    replace H : ((config_Accesses.f a0_0 a0_1 a0_2 a0_3 a0_4 a0_5 a0_6 a0_7 a0_8).bind fun bt228 => ((config_Words.f a0_0 a0_1 a0_2 a0_3 a0_4 a0_5 a0_6 a0_7 a0_8 ((ji81) + 1)).bind fun t230 => ((config_Words.f a0_0 a0_1 a0_2 a0_3 a0_4 a0_5 a0_6 a0_7 a0_8 (ji81)).bind fun t231 => (if a0_1 = 0 then (none) else (if (((ji81) + 1) % a0_1) = 0 then (shellgamelaw13_ConfigFits.j3 k3 t207 (wrap64 (t230 - t231)) (wrap64 (bt228.1 + bt228.2)) a0_0 a0_1 a0_2 a0_3 a0_4 a0_5 a0_6 a0_7 a0_8 t216 t217 t218 t219) else (shellgamelaw13_ConfigFits.j3 k3 t207 (wrap64 (t230 - t231)) bt228.1 a0_0 a0_1 a0_2 a0_3 a0_4 a0_5 a0_6 a0_7 a0_8 t216 t217 t218 t219)))))) = some r := by first | (rw [hji81] at H; exact H) | (simp only [hji81] at H ⊢; exact H)
                    have hji81_ : (if 0 < (ji80) then (ji80) else 0) = ji81 := hji81
                    have hw81_ : Aside0 (wrap64 (ji81 + 1) = ji81 + 1) := ⟨by have h1 := hji80_; have h2 := hji81_; unfold wrap64; (split at h1) <;> (split at h2) <;> omega⟩
                    replace H := Option.bind_eq_some_iff.mp H
                    obtain ⟨⟨t228, t229⟩, A820, H⟩ := H
                    replace H : ((config_Words.f a0_0 a0_1 a0_2 a0_3 a0_4 a0_5 a0_6 a0_7 a0_8 ((ji81) + 1)).bind fun t230 => ((config_Words.f a0_0 a0_1 a0_2 a0_3 a0_4 a0_5 a0_6 a0_7 a0_8 (ji81)).bind fun t231 => (if a0_1 = 0 then (none) else (if (((ji81) + 1) % a0_1) = 0 then (shellgamelaw13_ConfigFits.j3 k3 t207 (wrap64 (t230 - t231)) (wrap64 (t228 + t229)) a0_0 a0_1 a0_2 a0_3 a0_4 a0_5 a0_6 a0_7 a0_8 t216 t217 t218 t219) else (shellgamelaw13_ConfigFits.j3 k3 t207 (wrap64 (t230 - t231)) t228 a0_0 a0_1 a0_2 a0_3 a0_4 a0_5 a0_6 a0_7 a0_8 t216 t217 t218 t219))))) = some r := H
                    have A82 := Aside0.mk A820
                    clear A820
                    replace H := Option.bind_eq_some_iff.mp H
                    obtain ⟨t230, A830, H⟩ := H
                    replace H : ((config_Words.f a0_0 a0_1 a0_2 a0_3 a0_4 a0_5 a0_6 a0_7 a0_8 (ji81)).bind fun t231 => (if a0_1 = 0 then (none) else (if (((ji81) + 1) % a0_1) = 0 then (shellgamelaw13_ConfigFits.j3 k3 t207 (wrap64 (t230 - t231)) (wrap64 (t228 + t229)) a0_0 a0_1 a0_2 a0_3 a0_4 a0_5 a0_6 a0_7 a0_8 t216 t217 t218 t219) else (shellgamelaw13_ConfigFits.j3 k3 t207 (wrap64 (t230 - t231)) t228 a0_0 a0_1 a0_2 a0_3 a0_4 a0_5 a0_6 a0_7 a0_8 t216 t217 t218 t219)))) = some r := H
                    have A83 := Aside0.mk A830
                    clear A830
                    replace H := Option.bind_eq_some_iff.mp H
                    obtain ⟨t231, A840, H⟩ := H
                    replace H : (if a0_1 = 0 then (none) else (if (((ji81) + 1) % a0_1) = 0 then (shellgamelaw13_ConfigFits.j3 k3 t207 (wrap64 (t230 - t231)) (wrap64 (t228 + t229)) a0_0 a0_1 a0_2 a0_3 a0_4 a0_5 a0_6 a0_7 a0_8 t216 t217 t218 t219) else (shellgamelaw13_ConfigFits.j3 k3 t207 (wrap64 (t230 - t231)) t228 a0_0 a0_1 a0_2 a0_3 a0_4 a0_5 a0_6 a0_7 a0_8 t216 t217 t218 t219))) = some r := H
                    have A84 := Aside0.mk A840
                    clear A840
                    by_cases c85 : a0_1 = 0
                    · rw [if_pos c85] at H
                      exact absurd H (by simp)
                    · rw [if_neg c85] at H
                      have c85b0 : (a0_1 == 0) = false := beq_eq_false_iff_ne.mpr c85
                      have c85b1 : (a0_1 != 0) = true := bne_iff_ne.mpr c85
                      have HC86 := Aside0.mk H
                      clear H
                      obtain ⟨Ao87, co87, eo87⟩ := Kd.R_slice HO_8.out
                      subst eo87
                      have hnb88 := NB203_220.out
                      have hnc88 := NB220_203.out
                      have hcz89_0 : wr.cell? ⟨gb203, 0, none⟩ = some (.int .i64 a0_0) := (blk_cell BK203.out 0).trans rfl
                      have hcz89_1 : wr.cell? ⟨gb203, 1, none⟩ = some (.int .i64 a0_1) := (blk_cell BK203.out 1).trans rfl
                      have hcz89_2 : wr.cell? ⟨gb203, 2, none⟩ = some (.int .i64 a0_2) := (blk_cell BK203.out 2).trans rfl
                      have hcz89_3 : wr.cell? ⟨gb203, 3, none⟩ = some (.int .i64 a0_3) := (blk_cell BK203.out 3).trans rfl
                      have hcz89_4 : wr.cell? ⟨gb203, 4, none⟩ = some (.int .i64 a0_4) := (blk_cell BK203.out 4).trans rfl
                      have hcz89_5 : wr.cell? ⟨gb203, 5, none⟩ = some (.int .i64 a0_5) := (blk_cell BK203.out 5).trans rfl
                      have hcz89_6 : wr.cell? ⟨gb203, 6, none⟩ = some (.int .i64 a0_6) := (blk_cell BK203.out 6).trans rfl
                      have hcz89_7 : wr.cell? ⟨gb203, 7, none⟩ = some (.int .i64 a0_7) := (blk_cell BK203.out 7).trans rfl
                      have hcz89_8 : wr.cell? ⟨gb203, 8, none⟩ = some (.int .i64 a0_8) := (blk_cell BK203.out 8).trans rfl
                      have hfz89_0 := blk_frozen BK203.out 0
                      have hfz89_1 := blk_frozen BK203.out 1
                      have hfz89_2 := blk_frozen BK203.out 2
                      have hfz89_3 := blk_frozen BK203.out 3
                      have hfz89_4 := blk_frozen BK203.out 4
                      have hfz89_5 := blk_frozen BK203.out 5
                      have hfz89_6 := blk_frozen BK203.out 6
                      have hfz89_7 := blk_frozen BK203.out 7
                      have hfz89_8 := blk_frozen BK203.out 8
                      try go_wp2_with (first | ((with_reducible refine gate_callee (f := 14) rfl ?_); refine goesL_ (some 126) rfl rfl Tryd.func14 (by kernel_rfl) rfl #[.agg #[.int .i64 a0_0, .int .i64 a0_1, .int .i64 a0_2, .int .i64 a0_3, .int .i64 a0_4, .int .i64 a0_5, .int .i64 a0_6, .int .i64 a0_7, .int .i64 a0_8]] rfl (by (try simp only [List.map_toArray, List.map_cons, List.map_nil]); first | done | rfl | (simp only [List.length_drop, List.length_take]; rfl)) ?_; (with_reducible refine (config_Accesses.calls a0_0 a0_1 a0_2 a0_3 a0_4 a0_5 a0_6 a0_7 a0_8 t228 t229 _ A82.out).mono ?_); rintro e w90 ⟨rfl, hb⟩; refine ⟨_, rfl, ?_⟩; have n0_ := Aside0.mk (Kd.R_below (by (with_reducible repeat (first | apply Kd.R_alloc | apply Kd.R_drewN | apply Kd.R_drew)); exact HO_8.out) hb); have n1_ := Aside0.mk (blk_below (g := gb203) (o := .cells #[.int .i64 a0_0, .int .i64 a0_1, .int .i64 a0_2, .int .i64 a0_3, .int .i64 a0_4, .int .i64 a0_5, .int .i64 a0_6, .int .i64 a0_7, .int .i64 a0_8] 23 (0, 0)) (by (with_reducible repeat (first | refine blk_drewN ?_ _ | refine blk_drew ?_ | refine blk_alloc ?_ _)); exact BK203.out) hb); have n2_ := Aside0.mk (blk_below (g := gb220) (o := .cells #[.int .i64 t216, .int .i64 t217, .int .i64 t218, .int .i64 t219] 33 (0, 0)) (by (with_reducible repeat (first | refine blk_drewN ?_ _ | refine blk_drew ?_ | refine blk_alloc ?_ _)); exact BK220.out) hb); have n3_ := Aside0.mk (below_step (by repeat (first | (with_reducible first | exact HB.out | apply below_alloc | apply pw_below_drewN | apply below_drew1 | refine below_set ?_ GE203.out | refine below_set ?_ GE220.out) | exact HB.out)) hb); clear HO_8; clear BK203; clear BK220; clear HB; have HO_8 := n0_; have BK203 := n1_; have BK220 := n2_; have HB := n3_; clear n0_ n1_ n2_ n3_; (try clear hb); (try clear hb2); (try clear hk); (try clear hi)))
                      have n0_ := Aside0.mk (Kd.R_drew HO_8.out)
                      have n1_ := Aside0.mk (blk_drew BK203.out)
                      have n2_ := Aside0.mk (blk_drew BK220.out)
                      have n3_ := Aside0.mk (below_drew1 HB.out)
                      clear HO_8
                      clear BK203
                      clear BK220
                      clear HB
                      have HO_8 := n0_
                      have BK203 := n1_
                      have BK220 := n2_
                      have HB := n3_
                      clear n0_ n1_ n2_ n3_
                      refine start_ (n := 9) (S := fun w' => w'.cell? ⟨gb203, 0, none⟩ = some (.int .i64 a0_0) ∧ w'.cell? ⟨gb203, 1, none⟩ = some (.int .i64 a0_1) ∧ w'.cell? ⟨gb203, 2, none⟩ = some (.int .i64 a0_2) ∧ w'.cell? ⟨gb203, 3, none⟩ = some (.int .i64 a0_3) ∧ w'.cell? ⟨gb203, 4, none⟩ = some (.int .i64 a0_4) ∧ w'.cell? ⟨gb203, 5, none⟩ = some (.int .i64 a0_5) ∧ w'.cell? ⟨gb203, 6, none⟩ = some (.int .i64 a0_6) ∧ w'.cell? ⟨gb203, 7, none⟩ = some (.int .i64 a0_7) ∧ w'.cell? ⟨gb203, 8, none⟩ = some (.int .i64 a0_8)) (ds := []) #[false, false, false, false, false, false, false, false, false] (by kernel_rfl) rfl rfl ⟨(blk_cell BK203.out 0).trans rfl, (blk_cell BK203.out 1).trans rfl, (blk_cell BK203.out 2).trans rfl, (blk_cell BK203.out 3).trans rfl, (blk_cell BK203.out 4).trans rfl, (blk_cell BK203.out 5).trans rfl, (blk_cell BK203.out 6).trans rfl, (blk_cell BK203.out 7).trans rfl, (blk_cell BK203.out 8).trans rfl⟩ (fun hHeld => ?_); refine with_tabW shellgamelaw13_ConfigFits.tab16 shellgamelaw13_ConfigFits.bits16 (fun HT_ HW_ => ?_)
                      generalize w90.drew = w91 at HO_8 BK203 BK220 HB hHeld ⊢
                      refine pure_ (i := 1) (N := some 130) (v := ?_) (a' := ?_) #[false, true, false, false, false, false, false, false, false] rfl rfl (any_of HT_.out (by kernel_rfl)) (fun _ _ _ h => h) (Or.inl ⟨by rfl, ?_⟩) ?_ ?_
                      rotate_left
                      · intro w'
                        go_simp
                        with_reducible rfl
                      rotate_left
                      · simp only [Act.put, List.setIfInBounds_toArray, List.set_cons_zero, List.set_cons_succ, i64_w, i32_w]
                        rfl
                      refine pure_ (i := 2) (N := some 131) (v := ?_) (a' := ?_) #[false, true, true, false, false, false, false, false, false] rfl rfl (any_of HT_.out (by kernel_rfl)) (fun _ _ _ h => h) (Or.inl ⟨by rfl, ?_⟩) ?_ ?_
                      rotate_left
                      · intro w'
                        go_simp
                        with_reducible rfl
                      rotate_left
                      · simp only [Act.put, List.setIfInBounds_toArray, List.set_cons_zero, List.set_cons_succ, i64_w, i32_w]
                        rfl
                      refine pure_ (i := 5) (N := some 134) (v := ?_) (a' := ?_) #[false, true, true, false, false, true, false, false, false] rfl rfl (any_of HT_.out (by kernel_rfl)) (fun _ _ _ h => h) (Or.inl ⟨by rfl, ?_⟩) ?_ ?_
                      rotate_left
                      · intro w'
                        go_simp
                        with_reducible rfl
                      rotate_left
                      · simp only [Act.put, List.setIfInBounds_toArray, List.set_cons_zero, List.set_cons_succ, i64_w, i32_w]
                        rfl
                      refine take_ (i := 0) (N := some 129) (v := ?_) (a' := ?_) #[true, true, true, false, false, true, false, false, false] rfl rfl (take_ofW HT_.out HW_.out (by kernel_rfl)) (fun _ _ _ h => h) (Or.inl ⟨by rfl, ?_⟩) hHeld ?_ ?_
                      rotate_left
                      · rintro w' ⟨s0, s1, s2, s3, s4, s5, s6, s7, s8⟩
                        go_simp
                        with_reducible rfl
                      rotate_left
                      · simp only [Act.put, List.setIfInBounds_toArray, List.set_cons_zero, List.set_cons_succ, i64_w, i32_w]
                        rfl
                      refine take_ (i := 4) (N := some 133) (v := ?_) (a' := ?_) #[true, true, true, false, true, true, false, false, false] rfl rfl (take_ofW HT_.out HW_.out (by kernel_rfl)) (fun _ _ _ h => h) (Or.inl ⟨by rfl, ?_⟩) hHeld ?_ ?_
                      rotate_left
                      · rintro w' ⟨s0, s1, s2, s3, s4, s5, s6, s7, s8⟩
                        go_simp
                        with_reducible rfl
                      rotate_left
                      · simp only [Act.put, List.setIfInBounds_toArray, List.set_cons_zero, List.set_cons_succ, i64_w, i32_w]
                        rfl
                      refine one_ (i := 3) (N := some 132) #[true, true, true, true, true, true, false, false, false] rfl rfl (one_of HT_.out (by kernel_rfl)) (by decide) (fun K hK => ?_)
                      refine goes_ Tryd.func15 (by kernel_rfl) rfl #[.agg #[.int .i64 a0_0, .int .i64 a0_1, .int .i64 a0_2, .int .i64 a0_3, .int .i64 a0_4, .int .i64 a0_5, .int .i64 a0_6, .int .i64 a0_7, .int .i64 a0_8], .int .i64 ((ji81) + 1)] (by rfl) rfl rfl (by (try simp only [List.map_toArray, List.map_cons, List.map_nil]); first | (show (#[.agg #[.int .i64 a0_0, .int .i64 a0_1, .int .i64 a0_2, .int .i64 a0_3, .int .i64 a0_4, .int .i64 a0_5, .int .i64 a0_6, .int .i64 a0_7, .int .i64 a0_8], .int .i64 (wrap64 (ji81 + 1))] : Array Value) = _; rw [hw81_.out]) | (show (#[.agg #[.int .i64 a0_0, .int .i64 a0_1, .int .i64 a0_2, .int .i64 a0_3, .int .i64 a0_4, .int .i64 a0_5, .int .i64 a0_6, .int .i64 a0_7, .int .i64 a0_8], .int .i64 (IntKind.i64.wrap (ji81 + 1))] : Array Value) = _; rw [i64_w, hw81_.out])) ?_
                      with_reducible refine (config_Words.calls a0_0 a0_1 a0_2 a0_3 a0_4 a0_5 a0_6 a0_7 a0_8 ((ji81) + 1) t230 _ A83.out).mono ?_
                      rintro e w92 ⟨rfl, hb⟩
                      refine ⟨_, rfl, ?_⟩
                      have n0_ := Aside0.mk (Kd.R_below (by (with_reducible repeat (first | apply Kd.R_alloc | apply Kd.R_drewN | apply Kd.R_drew)); exact HO_8.out) hb)
                      have n1_ := Aside0.mk (blk_below (g := gb203) (o := .cells #[.int .i64 a0_0, .int .i64 a0_1, .int .i64 a0_2, .int .i64 a0_3, .int .i64 a0_4, .int .i64 a0_5, .int .i64 a0_6, .int .i64 a0_7, .int .i64 a0_8] 23 (0, 0)) (by (with_reducible repeat (first | refine blk_drewN ?_ _ | refine blk_drew ?_ | refine blk_alloc ?_ _)); exact BK203.out) hb)
                      have n2_ := Aside0.mk (blk_below (g := gb220) (o := .cells #[.int .i64 t216, .int .i64 t217, .int .i64 t218, .int .i64 t219] 33 (0, 0)) (by (with_reducible repeat (first | refine blk_drewN ?_ _ | refine blk_drew ?_ | refine blk_alloc ?_ _)); exact BK220.out) hb)
                      have n3_ := Aside0.mk (below_step (by repeat (first | (with_reducible first | exact HB.out | apply below_alloc | apply pw_below_drewN | apply below_drew1 | refine below_set ?_ GE203.out | refine below_set ?_ GE220.out) | exact HB.out)) hb)
                      clear HO_8
                      clear BK203
                      clear BK220
                      clear HB
                      have HO_8 := n0_
                      have BK203 := n1_
                      have BK220 := n2_
                      have HB := n3_
                      clear n0_ n1_ n2_ n3_
                      (try clear hb)
                      (try clear hb2)
                      (try clear hk)
                      (try clear hi)
                      refine hK.out _ _ ⟨(blk_cell BK203.out 0).trans rfl, (blk_cell BK203.out 1).trans rfl, (blk_cell BK203.out 2).trans rfl, (blk_cell BK203.out 3).trans rfl, (blk_cell BK203.out 4).trans rfl, (blk_cell BK203.out 5).trans rfl, (blk_cell BK203.out 6).trans rfl, (blk_cell BK203.out 7).trans rfl, (blk_cell BK203.out 8).trans rfl⟩ (fun hHeld => ?_)
                      clear hK K
                      refine norm_ (a' := ?_) ?_ ?_
                      rotate_left
                      · show Act.put _ (some 132) _ = _
                        simp only [Act.put, List.setIfInBounds_toArray, List.set_cons_zero, List.set_cons_succ, i64_w, i32_w]
                        rfl
                      refine one_ (i := 6) (N := some 135) #[true, true, true, true, true, true, true, false, false] rfl rfl (one_of HT_.out (by kernel_rfl)) (by decide) (fun K hK => ?_)
                      refine goes_ Tryd.func15 (by kernel_rfl) rfl #[.agg #[.int .i64 a0_0, .int .i64 a0_1, .int .i64 a0_2, .int .i64 a0_3, .int .i64 a0_4, .int .i64 a0_5, .int .i64 a0_6, .int .i64 a0_7, .int .i64 a0_8], .int .i64 ji81] (by rfl) rfl rfl (by (try simp only [List.map_toArray, List.map_cons, List.map_nil]); first | done | (simp only [hji81]; rfl) | rfl | (simp only [List.length_drop, List.length_take]; rfl)) ?_
                      with_reducible refine (config_Words.calls a0_0 a0_1 a0_2 a0_3 a0_4 a0_5 a0_6 a0_7 a0_8 ji81 t231 _ A84.out).mono ?_
                      rintro e w93 ⟨rfl, hb⟩
                      refine ⟨_, rfl, ?_⟩
                      have n0_ := Aside0.mk (Kd.R_below (by (with_reducible repeat (first | apply Kd.R_alloc | apply Kd.R_drewN | apply Kd.R_drew)); exact HO_8.out) hb)
                      have n1_ := Aside0.mk (blk_below (g := gb203) (o := .cells #[.int .i64 a0_0, .int .i64 a0_1, .int .i64 a0_2, .int .i64 a0_3, .int .i64 a0_4, .int .i64 a0_5, .int .i64 a0_6, .int .i64 a0_7, .int .i64 a0_8] 23 (0, 0)) (by (with_reducible repeat (first | refine blk_drewN ?_ _ | refine blk_drew ?_ | refine blk_alloc ?_ _)); exact BK203.out) hb)
                      have n2_ := Aside0.mk (blk_below (g := gb220) (o := .cells #[.int .i64 t216, .int .i64 t217, .int .i64 t218, .int .i64 t219] 33 (0, 0)) (by (with_reducible repeat (first | refine blk_drewN ?_ _ | refine blk_drew ?_ | refine blk_alloc ?_ _)); exact BK220.out) hb)
                      have n3_ := Aside0.mk (below_step (by repeat (first | (with_reducible first | exact HB.out | apply below_alloc | apply pw_below_drewN | apply below_drew1 | refine below_set ?_ GE203.out | refine below_set ?_ GE220.out) | exact HB.out)) hb)
                      clear HO_8
                      clear BK203
                      clear BK220
                      clear HB
                      have HO_8 := n0_
                      have BK203 := n1_
                      have BK220 := n2_
                      have HB := n3_
                      clear n0_ n1_ n2_ n3_
                      (try clear hb)
                      (try clear hb2)
                      (try clear hk)
                      (try clear hi)
                      refine hK.out _ _ ⟨(blk_cell BK203.out 0).trans rfl, (blk_cell BK203.out 1).trans rfl, (blk_cell BK203.out 2).trans rfl, (blk_cell BK203.out 3).trans rfl, (blk_cell BK203.out 4).trans rfl, (blk_cell BK203.out 5).trans rfl, (blk_cell BK203.out 6).trans rfl, (blk_cell BK203.out 7).trans rfl, (blk_cell BK203.out 8).trans rfl⟩ (fun hHeld => ?_)
                      clear hK K
                      refine norm_ (a' := ?_) ?_ ?_
                      rotate_left
                      · show Act.put _ (some 135) _ = _
                        simp only [Act.put, List.setIfInBounds_toArray, List.set_cons_zero, List.set_cons_succ, i64_w, i32_w]
                        rfl
                      refine pure_ (i := 7) (N := some 136) (v := ?_) (a' := ?_) #[true, true, true, true, true, true, true, true, false] rfl rfl (any_of HT_.out (by kernel_rfl)) (fun _ _ _ h => h) (Or.inl ⟨by rfl, ?_⟩) ?_ ?_
                      rotate_left
                      · intro w'
                        go_simp
                        with_reducible rfl
                      rotate_left
                      · simp only [Act.put, List.setIfInBounds_toArray, List.set_cons_zero, List.set_cons_succ, i64_w, i32_w]
                        rfl
                      refine pure_ (i := 8) (N := some 13) (v := ?_) (a' := ?_) #[true, true, true, true, true, true, true, true, true] rfl rfl (any_of HT_.out (by kernel_rfl)) (fun _ _ _ h => h) (Or.inl ⟨by rfl, ?_⟩) ?_ ?_
                      rotate_left
                      · intro w'
                        go_simp
                        with_reducible rfl
                      rotate_left
                      · simp only [Act.put, List.setIfInBounds_toArray, List.set_cons_zero, List.set_cons_succ, i64_w, i32_w]
                        rfl
                      refine done_ (done_of HT_.out (by kernel_rfl)) ?_
                      have hcz94_0 : w93.cell? ⟨gb203, 0, none⟩ = some (.int .i64 a0_0) := (blk_cell BK203.out 0).trans rfl
                      have hcz94_1 : w93.cell? ⟨gb203, 1, none⟩ = some (.int .i64 a0_1) := (blk_cell BK203.out 1).trans rfl
                      have hcz94_2 : w93.cell? ⟨gb203, 2, none⟩ = some (.int .i64 a0_2) := (blk_cell BK203.out 2).trans rfl
                      have hcz94_3 : w93.cell? ⟨gb203, 3, none⟩ = some (.int .i64 a0_3) := (blk_cell BK203.out 3).trans rfl
                      have hcz94_4 : w93.cell? ⟨gb203, 4, none⟩ = some (.int .i64 a0_4) := (blk_cell BK203.out 4).trans rfl
                      have hcz94_5 : w93.cell? ⟨gb203, 5, none⟩ = some (.int .i64 a0_5) := (blk_cell BK203.out 5).trans rfl
                      have hcz94_6 : w93.cell? ⟨gb203, 6, none⟩ = some (.int .i64 a0_6) := (blk_cell BK203.out 6).trans rfl
                      have hcz94_7 : w93.cell? ⟨gb203, 7, none⟩ = some (.int .i64 a0_7) := (blk_cell BK203.out 7).trans rfl
                      have hcz94_8 : w93.cell? ⟨gb203, 8, none⟩ = some (.int .i64 a0_8) := (blk_cell BK203.out 8).trans rfl
                      have hfz94_0 := blk_frozen BK203.out 0
                      have hfz94_1 := blk_frozen BK203.out 1
                      have hfz94_2 := blk_frozen BK203.out 2
                      have hfz94_3 := blk_frozen BK203.out 3
                      have hfz94_4 := blk_frozen BK203.out 4
                      have hfz94_5 := blk_frozen BK203.out 5
                      have hfz94_6 := blk_frozen BK203.out 6
                      have hfz94_7 := blk_frozen BK203.out 7
                      have hfz94_8 := blk_frozen BK203.out 8
                      go_upto_if 143 with (fail)
                      go_cut [14] (fun v14 wc => ∃ (kq : Nat) (x14_85 : Int), v14 = .int .i64 x14_85 ∧ Aside0 (shellgamelaw13_ConfigFits.j3 kq t207 (wrap64 (t230 - t231)) x14_85 a0_0 a0_1 a0_2 a0_3 a0_4 a0_5 a0_6 a0_7 a0_8 t216 t217 t218 t219 = some r) ∧ Aside0 (kq ≤ k3) ∧ Aside0 (Kd.R (Kd.int .i64) 3 wc w.heap.size (fun _ => True) (.slice Ao87 t207.length co87) t207) ∧ Aside0 (wc.heap[gb203]? = some (.cells #[.int .i64 a0_0, .int .i64 a0_1, .int .i64 a0_2, .int .i64 a0_3, .int .i64 a0_4, .int .i64 a0_5, .int .i64 a0_6, .int .i64 a0_7, .int .i64 a0_8] 23 (0, 0))) ∧ Aside0 (wc.heap[gb220]? = some (.cells #[.int .i64 t216, .int .i64 t217, .int .i64 t218, .int .i64 t219] 33 (0, 0))) ∧ Aside0 (Below w.heap.size w wc))
                      case first =>
                        have H := HC86.out
                        clear HC86
                        by_cases c95 : (((ji81) + 1) % a0_1) = 0
                        · rw [if_pos c95] at H
                          have c95b0 : ((((ji81) + 1) % a0_1) == 0) = true := beq_iff_eq.mpr c95
                          have c95b1 : ((((ji81) + 1) % a0_1) != 0) = false := bne_eq_false_iff_eq.mpr c95
                          clear c95
                          (first | rw [c95b0] | (simp only [i64_w, i32_w]; rw [c95b0]) | skip)
                          have H' := Aside0.mk H
                          clear H
                          go_wp2
                          go_meet
                          case rel => exact ⟨_, (wrap64 (t228 + t229)), (by first | rfl | (simp; done) | (simp [*]; done)), H', ⟨by have := HJ5.out; have := HJ29.out; have := HK3.out; first | omega | exact Nat.le_refl _⟩, ⟨by (with_reducible repeat (first | apply Kd.R_alloc | apply Kd.R_drewN | apply Kd.R_drew)); exact HO_8.out⟩, ⟨by (with_reducible repeat (first | refine blk_drewN ?_ _ | refine blk_drew ?_ | refine blk_alloc ?_ _)); exact BK203.out⟩, ⟨by (with_reducible repeat (first | refine blk_drewN ?_ _ | refine blk_drew ?_ | refine blk_alloc ?_ _)); exact BK220.out⟩, ⟨by repeat (first | (with_reducible first | exact HB.out | apply below_alloc | apply pw_below_drewN | apply below_drew1 | refine below_set ?_ GE203.out | refine below_set ?_ GE220.out) | exact HB.out)⟩⟩
                        · rw [if_neg c95] at H
                          have c95b0 : ((((ji81) + 1) % a0_1) == 0) = false := beq_eq_false_iff_ne.mpr c95
                          have c95b1 : ((((ji81) + 1) % a0_1) != 0) = true := bne_iff_ne.mpr c95
                          (first | rw [c95b0] | (simp only [i64_w, i32_w]; rw [c95b0]) | skip)
                          have H' := Aside0.mk H
                          clear H
                          go_wp2
                          go_meet
                          case rel => exact ⟨_, (t228), (by first | rfl | (simp; done) | (simp [*]; done)), H', ⟨by have := HJ5.out; have := HJ29.out; have := HK3.out; first | omega | exact Nat.le_refl _⟩, ⟨by (with_reducible repeat (first | apply Kd.R_alloc | apply Kd.R_drewN | apply Kd.R_drew)); exact HO_8.out⟩, ⟨by (with_reducible repeat (first | refine blk_drewN ?_ _ | refine blk_drew ?_ | refine blk_alloc ?_ _)); exact BK203.out⟩, ⟨by (with_reducible repeat (first | refine blk_drewN ?_ _ | refine blk_drew ?_ | refine blk_alloc ?_ _)); exact BK220.out⟩, ⟨by repeat (first | (with_reducible first | exact HB.out | apply below_alloc | apply pw_below_drewN | apply below_drew1 | refine below_set ?_ GE203.out | refine below_set ?_ GE220.out) | exact HB.out)⟩⟩
                      case rest =>
                        clear HC86
                        try clear c1
                        try clear c2
                        try clear p2
                        try clear q2
                        try clear hx2
                        try clear c3
                        try clear c5
                        try clear p6
                        try clear c7
                        try clear c8
                        try clear c9
                        try clear c14
                        try clear c15
                        try clear p22
                        try clear q22
                        try clear hx22
                        try clear c25
                        try clear c37
                        try clear c52
                        try clear p64
                        try clear c74
                        try clear c75
                        try clear c75b0
                        try clear c76
                        try clear c76b0
                        try clear c77
                        try clear c77b0
                        try clear c78
                        try clear c78b0
                        try clear c85
                        try clear c85b0
                        try clear c85b1
                        try clear c88
                        try clear c95
                        try clear c95b0
                        try clear c95b1
                        try clear hcz89_0
                        try clear hcz89_1
                        try clear hcz89_2
                        try clear hcz89_3
                        try clear hcz89_4
                        try clear hcz89_5
                        try clear hcz89_6
                        try clear hcz89_7
                        try clear hcz89_8
                        try clear hcz94_0
                        try clear hcz94_1
                        try clear hcz94_2
                        try clear hcz94_3
                        try clear hcz94_4
                        try clear hcz94_5
                        try clear hcz94_6
                        try clear hcz94_7
                        try clear hcz94_8
                        try clear hfz89_0
                        try clear hfz89_1
                        try clear hfz89_2
                        try clear hfz89_3
                        try clear hfz89_4
                        try clear hfz89_5
                        try clear hfz89_6
                        try clear hfz89_7
                        try clear hfz89_8
                        try clear hfz94_0
                        try clear hfz94_1
                        try clear hfz94_2
                        try clear hfz94_3
                        try clear hfz94_4
                        try clear hfz94_5
                        try clear hfz94_6
                        try clear hfz94_7
                        try clear hfz94_8
                        try clear hx226_0
                        try clear hx227_0
                        try clear p2
                        try clear p226
                        try clear p227
                        try clear q226
                        try clear q227
                        obtain ⟨kq, x14_85, rfl, HA, HJ85, HO_8, BK203, BK220, HB⟩ := hcut
                        cases kq with
                        | zero => exact absurd HA.out (by simp [shellgamelaw13_ConfigFits.j3])
                        | succ kj85 =>
                          have H := HA.out
                          clear HA
                          simp only [shellgamelaw13_ConfigFits.j3] at H
                          replace H := Option.bind_eq_some_iff.mp H
                          obtain ⟨t232, A960, H⟩ := H
                          replace H : (if t232 = 4 then ((store_Words.f t216 t217 t218 t219).bind fun t233 => (if (wrap64 (t230 - t231)) = (wrap64 (x14_85 * t233)) then (if 3 ≤ (t207.length : Int) then ((store_Sizes.f kj85 t216 t217 t218 t219).bind fun t238 => ((shellgamelaw13_sameInts.f kj85 (t207.drop 3) t238).bind fun t241 => (if t241 = true then ((shellgameref11_Sizes.f kj85 0 0 0 0).bind fun t242 => (some ((t242.length : Int) == 0))) else (some false)))) else (none)) else (some false))) else (some false)) = some r := H
                          have A96 := Aside0.mk A960
                          clear A960
                          by_cases c97 : t232 = 4
                          · rw [if_pos c97] at H
                            have c97b0 : (t232 == 4) = true := beq_iff_eq.mpr c97
                            have c97b1 : (t232 != 4) = false := bne_eq_false_iff_eq.mpr c97
                            clear c97
                            replace H := Option.bind_eq_some_iff.mp H
                            obtain ⟨t233, A980, H⟩ := H
                            replace H : (if (wrap64 (t230 - t231)) = (wrap64 (x14_85 * t233)) then (if 3 ≤ (t207.length : Int) then ((store_Sizes.f kj85 t216 t217 t218 t219).bind fun t238 => ((shellgamelaw13_sameInts.f kj85 (t207.drop 3) t238).bind fun t241 => (if t241 = true then ((shellgameref11_Sizes.f kj85 0 0 0 0).bind fun t242 => (some ((t242.length : Int) == 0))) else (some false)))) else (none)) else (some false)) = some r := H
                            have A98 := Aside0.mk A980
                            clear A980
                            by_cases c99 : (wrap64 (t230 - t231)) = (wrap64 (x14_85 * t233))
                            · rw [if_pos c99] at H
                              have c99b0 : ((wrap64 (t230 - t231)) == (wrap64 (x14_85 * t233))) = true := beq_iff_eq.mpr c99
                              have c99b1 : ((wrap64 (t230 - t231)) != (wrap64 (x14_85 * t233))) = false := bne_eq_false_iff_eq.mpr c99
                              clear c99
                              by_cases c100 : 3 ≤ (t207.length : Int)
                              · rw [if_pos c100] at H
                                have c100b0 := eq_true c100
                                have c100b1 : decide (3 ≤ (t207.length : Int)) = true := decide_eq_true c100
                                clear c100
                                obtain ⟨y234, hy234⟩ : ∃ y_ : List Int, y_ = (t207.drop 3) := ⟨_, rfl⟩
                                replace H : ((store_Sizes.f kj85 t216 t217 t218 t219).bind fun t238 => ((shellgamelaw13_sameInts.f kj85 y234 t238).bind fun t241 => (if t241 = true then ((shellgameref11_Sizes.f kj85 0 0 0 0).bind fun t242 => (some ((t242.length : Int) == 0))) else (some false)))) = some r := by first | (rw [hy234]; with_reducible exact H) | (have H2_ := (Option.bind_some _ _).symm.trans H; rw [hy234]; with_reducible exact H2_) | (have H2_ := (Option.bind_some _ _).symm.trans H; with_reducible exact H2_) | with_reducible exact H | (rw [hy234]; exact H) | exact H
                                have Ny234 := Aside0.mk hy234
                                clear hy234
                                replace H := Option.bind_eq_some_iff.mp H
                                obtain ⟨t238, A1010, H⟩ := H
                                replace H : ((shellgamelaw13_sameInts.f kj85 y234 t238).bind fun t241 => (if t241 = true then ((shellgameref11_Sizes.f kj85 0 0 0 0).bind fun t242 => (some ((t242.length : Int) == 0))) else (some false))) = some r := H
                                have A101 := Aside0.mk A1010
                                clear A1010
                                replace H := Option.bind_eq_some_iff.mp H
                                obtain ⟨t241, A1020, H⟩ := H
                                replace H : (if t241 = true then ((shellgameref11_Sizes.f kj85 0 0 0 0).bind fun t242 => (some ((t242.length : Int) == 0))) else (some false)) = some r := H
                                have A102 := Aside0.mk A1020
                                clear A1020
                                by_cases c103 : t241 = true
                                · subst c103
                                  have H1 : ((shellgameref11_Sizes.f kj85 0 0 0 0).bind fun t242 => (some ((t242.length : Int) == 0))) = some r := by rw [if_pos rfl] at H; exact H
                                  clear H
                                  have H := H1
                                  clear H1
                                  replace H := Option.bind_eq_some_iff.mp H
                                  obtain ⟨t242, A1040, H⟩ := H
                                  replace H : (some ((t242.length : Int) == 0)) = some r := H
                                  have A104 := Aside0.mk A1040
                                  clear A1040
                                  obtain rfl := Option.some.inj H
                                  try go_wp2
                                  have n0_ := Aside0.mk (Kd.R_drew HO_8.out)
                                  have n1_ := Aside0.mk (blk_drew BK203.out)
                                  have n2_ := Aside0.mk (blk_drew BK220.out)
                                  have n3_ := Aside0.mk (below_drew1 HB.out)
                                  clear HO_8
                                  clear BK203
                                  clear BK220
                                  clear HB
                                  have HO_8 := n0_
                                  have BK203 := n1_
                                  have BK220 := n2_
                                  have HB := n3_
                                  clear n0_ n1_ n2_ n3_
                                  refine start_ (n := 25) (S := fun w' => w'.cell? ⟨gb203, 0, none⟩ = some (.int .i64 a0_0) ∧ w'.cell? ⟨gb203, 1, none⟩ = some (.int .i64 a0_1) ∧ w'.cell? ⟨gb203, 2, none⟩ = some (.int .i64 a0_2) ∧ w'.cell? ⟨gb203, 3, none⟩ = some (.int .i64 a0_3) ∧ w'.cell? ⟨gb203, 4, none⟩ = some (.int .i64 a0_4) ∧ w'.cell? ⟨gb203, 5, none⟩ = some (.int .i64 a0_5) ∧ w'.cell? ⟨gb203, 6, none⟩ = some (.int .i64 a0_6) ∧ w'.cell? ⟨gb203, 7, none⟩ = some (.int .i64 a0_7) ∧ w'.cell? ⟨gb203, 8, none⟩ = some (.int .i64 a0_8) ∧ w'.cell? ⟨gb220, 0, none⟩ = some (.int .i64 t216) ∧ w'.cell? ⟨gb220, 1, none⟩ = some (.int .i64 t217) ∧ w'.cell? ⟨gb220, 2, none⟩ = some (.int .i64 t218) ∧ w'.cell? ⟨gb220, 3, none⟩ = some (.int .i64 t219)) (ds := []) #[false, false, false, false, false, false, false, false, false, false, false, false, false, false, false, false, false, false, false, false, false, false, false, false, false] (by kernel_rfl) rfl rfl ⟨(blk_cell BK203.out 0).trans rfl, (blk_cell BK203.out 1).trans rfl, (blk_cell BK203.out 2).trans rfl, (blk_cell BK203.out 3).trans rfl, (blk_cell BK203.out 4).trans rfl, (blk_cell BK203.out 5).trans rfl, (blk_cell BK203.out 6).trans rfl, (blk_cell BK203.out 7).trans rfl, (blk_cell BK203.out 8).trans rfl, (blk_cell BK220.out 0).trans rfl, (blk_cell BK220.out 1).trans rfl, (blk_cell BK220.out 2).trans rfl, (blk_cell BK220.out 3).trans rfl⟩ (fun hHeld => ?_); refine with_tabW shellgamelaw13_ConfigFits.tab20 shellgamelaw13_ConfigFits.bits20 (fun HT_ HW_ => ?_)
                                  generalize wc.drew = w105 at HO_8 BK203 BK220 HB hHeld ⊢
                                  refine take_ (i := 0) (N := some 147) (v := ?_) (a' := ?_) #[true, false, false, false, false, false, false, false, false, false, false, false, false, false, false, false, false, false, false, false, false, false, false, false, false] rfl rfl (take_ofW HT_.out HW_.out (by kernel_rfl)) (fun _ _ _ h => h) (Or.inl ⟨by rfl, ?_⟩) hHeld ?_ ?_
                                  rotate_left
                                  · rintro w' ⟨s0, s1, s2, s3, s4, s5, s6, s7, s8, s9, s10, s11, s12⟩
                                    go_simp
                                    with_reducible rfl
                                  rotate_left
                                  · simp only [Act.put, List.setIfInBounds_toArray, List.set_cons_zero, List.set_cons_succ, i64_w, i32_w]
                                    rfl
                                  refine one_ (i := 1) (N := some 148) #[true, true, false, false, false, false, false, false, false, false, false, false, false, false, false, false, false, false, false, false, false, false, false, false, false] rfl rfl (one_of HT_.out (by kernel_rfl)) (by decide) (fun K hK => ?_)
                                  refine goes_ Tryd.func15 (by kernel_rfl) rfl #[.agg #[.int .i64 a0_0, .int .i64 a0_1, .int .i64 a0_2, .int .i64 a0_3, .int .i64 a0_4, .int .i64 a0_5, .int .i64 a0_6, .int .i64 a0_7, .int .i64 a0_8], .int .i64 0] (by rfl) rfl rfl (by (try simp only [List.map_toArray, List.map_cons, List.map_nil]); first | done | rfl | (simp only [List.length_drop, List.length_take]; rfl)) ?_
                                  with_reducible refine (config_Words.calls a0_0 a0_1 a0_2 a0_3 a0_4 a0_5 a0_6 a0_7 a0_8 0 t232 _ A96.out).mono ?_
                                  rintro e w106 ⟨rfl, hb⟩
                                  refine ⟨_, rfl, ?_⟩
                                  have n0_ := Aside0.mk (Kd.R_below (by (with_reducible repeat (first | apply Kd.R_alloc | apply Kd.R_drewN | apply Kd.R_drew)); exact HO_8.out) hb)
                                  have n1_ := Aside0.mk (blk_below (g := gb203) (o := .cells #[.int .i64 a0_0, .int .i64 a0_1, .int .i64 a0_2, .int .i64 a0_3, .int .i64 a0_4, .int .i64 a0_5, .int .i64 a0_6, .int .i64 a0_7, .int .i64 a0_8] 23 (0, 0)) (by (with_reducible repeat (first | refine blk_drewN ?_ _ | refine blk_drew ?_ | refine blk_alloc ?_ _)); exact BK203.out) hb)
                                  have n2_ := Aside0.mk (blk_below (g := gb220) (o := .cells #[.int .i64 t216, .int .i64 t217, .int .i64 t218, .int .i64 t219] 33 (0, 0)) (by (with_reducible repeat (first | refine blk_drewN ?_ _ | refine blk_drew ?_ | refine blk_alloc ?_ _)); exact BK220.out) hb)
                                  have n3_ := Aside0.mk (below_step (by repeat (first | (with_reducible first | exact HB.out | apply below_alloc | apply pw_below_drewN | apply below_drew1 | refine below_set ?_ GE203.out | refine below_set ?_ GE220.out) | exact HB.out)) hb)
                                  clear HO_8
                                  clear BK203
                                  clear BK220
                                  clear HB
                                  have HO_8 := n0_
                                  have BK203 := n1_
                                  have BK220 := n2_
                                  have HB := n3_
                                  clear n0_ n1_ n2_ n3_
                                  (try clear hb)
                                  (try clear hb2)
                                  (try clear hk)
                                  (try clear hi)
                                  refine hK.out _ _ ⟨(blk_cell BK203.out 0).trans rfl, (blk_cell BK203.out 1).trans rfl, (blk_cell BK203.out 2).trans rfl, (blk_cell BK203.out 3).trans rfl, (blk_cell BK203.out 4).trans rfl, (blk_cell BK203.out 5).trans rfl, (blk_cell BK203.out 6).trans rfl, (blk_cell BK203.out 7).trans rfl, (blk_cell BK203.out 8).trans rfl, (blk_cell BK220.out 0).trans rfl, (blk_cell BK220.out 1).trans rfl, (blk_cell BK220.out 2).trans rfl, (blk_cell BK220.out 3).trans rfl⟩ (fun hHeld => ?_)
                                  clear hK K
                                  refine norm_ (a' := ?_) ?_ ?_
                                  rotate_left
                                  · show Act.put _ (some 148) _ = _
                                    simp only [Act.put, List.setIfInBounds_toArray, List.set_cons_zero, List.set_cons_succ, i64_w, i32_w]
                                    rfl
                                  refine pure_ (i := 2) (N := some 149) (v := ?_) (a' := ?_) #[true, true, true, false, false, false, false, false, false, false, false, false, false, false, false, false, false, false, false, false, false, false, false, false, false] rfl rfl (any_of HT_.out (by kernel_rfl)) (fun _ _ _ h => h) (Or.inl ⟨by rfl, ?_⟩) ?_ ?_
                                  rotate_left
                                  · intro w'
                                    go_simp
                                    with_reducible rfl
                                  rotate_left
                                  · simp only [Act.put, List.setIfInBounds_toArray, List.set_cons_zero, List.set_cons_succ, i64_w, i32_w]
                                    rfl
                                  refine pure_ (i := 3) (N := some 150) (v := ?_) (a' := ?_) #[true, true, true, true, false, false, false, false, false, false, false, false, false, false, false, false, false, false, false, false, false, false, false, false, false] rfl rfl (any_of HT_.out (by kernel_rfl)) (fun _ _ _ h => h) (Or.inl ⟨by rfl, ?_⟩) ?_ ?_
                                  rotate_left
                                  · intro w'
                                    go_simp
                                    with_reducible rfl
                                  rotate_left
                                  · simp only [Act.put, List.setIfInBounds_toArray, List.set_cons_zero, List.set_cons_succ, i64_w, i32_w]
                                    rfl
                                  refine pure_ (i := 4) (N := some 151) (v := ?_) (a' := ?_) #[true, true, true, true, true, false, false, false, false, false, false, false, false, false, false, false, false, false, false, false, false, false, false, false, false] rfl rfl (any_of HT_.out (by kernel_rfl)) (fun _ _ _ h => h) (Or.inl ⟨by rfl, ?_⟩) ?_ ?_
                                  rotate_left
                                  · intro w'
                                    go_simp
                                    with_reducible rfl
                                  rotate_left
                                  · simp only [Act.put, List.setIfInBounds_toArray, List.set_cons_zero, List.set_cons_succ, i64_w, i32_w]
                                    rfl
                                  refine pure_ (i := 5) (N := some 152) (v := ?_) (a' := ?_) #[true, true, true, true, true, true, false, false, false, false, false, false, false, false, false, false, false, false, false, false, false, false, false, false, false] rfl rfl (any_of HT_.out (by kernel_rfl)) (fun _ _ _ h => h) (Or.inl ⟨by rfl, ?_⟩) ?_ ?_
                                  rotate_left
                                  · intro w'
                                    go_simp
                                    with_reducible rfl
                                  rotate_left
                                  · simp only [Act.put, List.setIfInBounds_toArray, List.set_cons_zero, List.set_cons_succ, i64_w, i32_w]
                                    rfl
                                  refine take_ (i := 6) (N := some 153) (v := ?_) (a' := ?_) #[true, true, true, true, true, true, true, false, false, false, false, false, false, false, false, false, false, false, false, false, false, false, false, false, false] rfl rfl (take_ofW HT_.out HW_.out (by kernel_rfl)) (fun _ _ _ h => h) (Or.inl ⟨by rfl, ?_⟩) hHeld ?_ ?_
                                  rotate_left
                                  · rintro w' ⟨s0, s1, s2, s3, s4, s5, s6, s7, s8, s9, s10, s11, s12⟩
                                    go_simp
                                    with_reducible rfl
                                  rotate_left
                                  · simp only [Act.put, List.setIfInBounds_toArray, List.set_cons_zero, List.set_cons_succ, i64_w, i32_w]
                                    rfl
                                  refine one_ (i := 7) (N := some 154) #[true, true, true, true, true, true, true, true, false, false, false, false, false, false, false, false, false, false, false, false, false, false, false, false, false] rfl rfl (one_of HT_.out (by kernel_rfl)) (by decide) (fun K hK => ?_)
                                  refine goes_ Tryd.func26 (by kernel_rfl) rfl #[.agg #[.int .i64 t216, .int .i64 t217, .int .i64 t218, .int .i64 t219]] (by rfl) rfl rfl (by (try simp only [List.map_toArray, List.map_cons, List.map_nil]); first | done | rfl | (simp only [List.length_drop, List.length_take]; rfl)) ?_
                                  with_reducible refine (store_Words.calls t216 t217 t218 t219 t233 _ A98.out).mono ?_
                                  rintro e w107 ⟨rfl, hb⟩
                                  refine ⟨_, rfl, ?_⟩
                                  have n0_ := Aside0.mk (Kd.R_below (by (with_reducible repeat (first | apply Kd.R_alloc | apply Kd.R_drewN | apply Kd.R_drew)); exact HO_8.out) hb)
                                  have n1_ := Aside0.mk (blk_below (g := gb203) (o := .cells #[.int .i64 a0_0, .int .i64 a0_1, .int .i64 a0_2, .int .i64 a0_3, .int .i64 a0_4, .int .i64 a0_5, .int .i64 a0_6, .int .i64 a0_7, .int .i64 a0_8] 23 (0, 0)) (by (with_reducible repeat (first | refine blk_drewN ?_ _ | refine blk_drew ?_ | refine blk_alloc ?_ _)); exact BK203.out) hb)
                                  have n2_ := Aside0.mk (blk_below (g := gb220) (o := .cells #[.int .i64 t216, .int .i64 t217, .int .i64 t218, .int .i64 t219] 33 (0, 0)) (by (with_reducible repeat (first | refine blk_drewN ?_ _ | refine blk_drew ?_ | refine blk_alloc ?_ _)); exact BK220.out) hb)
                                  have n3_ := Aside0.mk (below_step (by repeat (first | (with_reducible first | exact HB.out | apply below_alloc | apply pw_below_drewN | apply below_drew1 | refine below_set ?_ GE203.out | refine below_set ?_ GE220.out) | exact HB.out)) hb)
                                  clear HO_8
                                  clear BK203
                                  clear BK220
                                  clear HB
                                  have HO_8 := n0_
                                  have BK203 := n1_
                                  have BK220 := n2_
                                  have HB := n3_
                                  clear n0_ n1_ n2_ n3_
                                  (try clear hb)
                                  (try clear hb2)
                                  (try clear hk)
                                  (try clear hi)
                                  have q108 : (3 : Int) ≤ ((t207.length : Int) : Int) := of_decide_eq_true (by first | (with_reducible assumption) | assumption)
                                  obtain ⟨i0108, hi0108, _, hsz108, _⟩ := info_parts info3
                                  have hroom108 : t207.length ≤ co87 := (Kd.R_reads' HO_8.out).2.1
                                  have hC108 : Kd.C (Kd.int .i64) _ Ao87 t207.length t207 := (Kd.R_reads' HO_8.out).2.2
                                  have hcut108 := cut_from (P := Tryd.prog) 29 3 .i64 Tryd.underlying29 hi0108 1 hsz108 Ao87 t207.length co87 3 (by omega) q108
                                  have hr108 := Kd.C_drop (m := (3 : Int).toNat) (c := co87) hC108 (by omega) hroom108
                                  obtain ⟨A108, hA108⟩ : ∃ A1, A1 = (if co87 = (3 : Int).toNat then Ao87 else (Ao87 : Option Addr).map (·.add ((3 : Int).toNat * 1))) := ⟨_, rfl⟩
                                  obtain ⟨c108, hc108⟩ : ∃ c1, c1 = co87 - (3 : Int).toNat := ⟨_, rfl⟩
                                  have hy108 : y234.length = t207.length - (3 : Int).toNat := (by rw [Ny234.out, List.length_drop] <;> omega)
                                  rw [show (t207).drop (3 : Int).toNat = y234 from Ny234.out.symm] at hr108
                                  replace hr108 : Kd.C (Kd.int .i64) _ A108 y234.length y234 := (by rw [hA108]; exact hr108)
                                  rw [← hy108, ← hA108, ← hc108] at hcut108
                                  have HR237 := Aside0.mk hr108
                                  have HC237 := Aside0.mk (show y234.length ≤ c108 from by rw [hy108, hc108]; exact Nat.sub_le_sub_right hroom108 _)
                                  clear hr108 hC108 hroom108 hi0108 hsz108 hc108
                                  have KY108 := Aside0.mk hy108
                                  have KA108 := Aside0.mk hA108
                                  clear hy108 hA108
                                  have KL108 := Aside0.mk (show 3 ≤ t207.length from by omega)
                                  replace q108 := eq_true q108
                                  refine hK.out _ _ ⟨(blk_cell BK203.out 0).trans rfl, (blk_cell BK203.out 1).trans rfl, (blk_cell BK203.out 2).trans rfl, (blk_cell BK203.out 3).trans rfl, (blk_cell BK203.out 4).trans rfl, (blk_cell BK203.out 5).trans rfl, (blk_cell BK203.out 6).trans rfl, (blk_cell BK203.out 7).trans rfl, (blk_cell BK203.out 8).trans rfl, (blk_cell BK220.out 0).trans rfl, (blk_cell BK220.out 1).trans rfl, (blk_cell BK220.out 2).trans rfl, (blk_cell BK220.out 3).trans rfl⟩ (fun hHeld => ?_)
                                  clear hK K
                                  refine norm_ (a' := ?_) ?_ ?_
                                  rotate_left
                                  · show Act.put _ (some 154) _ = _
                                    simp only [Act.put, List.setIfInBounds_toArray, List.set_cons_zero, List.set_cons_succ, i64_w, i32_w]
                                    rfl
                                  refine pure_ (i := 8) (N := some 155) (v := ?_) (a' := ?_) #[true, true, true, true, true, true, true, true, true, false, false, false, false, false, false, false, false, false, false, false, false, false, false, false, false] rfl rfl (any_of HT_.out (by kernel_rfl)) (fun _ _ _ h => h) (Or.inl ⟨by rfl, ?_⟩) ?_ ?_
                                  rotate_left
                                  · intro w'
                                    go_simp
                                    with_reducible rfl
                                  rotate_left
                                  · simp only [Act.put, List.setIfInBounds_toArray, List.set_cons_zero, List.set_cons_succ, i64_w, i32_w]
                                    rfl
                                  refine pure_ (i := 9) (N := some 156) (v := ?_) (a' := ?_) #[true, true, true, true, true, true, true, true, true, true, false, false, false, false, false, false, false, false, false, false, false, false, false, false, false] rfl rfl (any_of HT_.out (by kernel_rfl)) (fun _ _ _ h => h) (Or.inl ⟨by rfl, ?_⟩) ?_ ?_
                                  rotate_left
                                  · intro w'
                                    go_simp
                                    with_reducible rfl
                                  rotate_left
                                  · simp only [Act.put, List.setIfInBounds_toArray, List.set_cons_zero, List.set_cons_succ, i64_w, i32_w]
                                    rfl
                                  refine pure_ (i := 10) (N := some 157) (v := ?_) (a' := ?_) #[true, true, true, true, true, true, true, true, true, true, true, false, false, false, false, false, false, false, false, false, false, false, false, false, false] rfl rfl (any_of HT_.out (by kernel_rfl)) (fun _ _ _ h => h) (Or.inl ⟨by rfl, ?_⟩) ?_ ?_
                                  rotate_left
                                  · intro w'
                                    go_simp
                                    with_reducible rfl
                                  rotate_left
                                  · simp only [Act.put, List.setIfInBounds_toArray, List.set_cons_zero, List.set_cons_succ, i64_w, i32_w]
                                    rfl
                                  refine pure_ (i := 11) (N := some 158) (v := ?_) (a' := ?_) #[true, true, true, true, true, true, true, true, true, true, true, true, false, false, false, false, false, false, false, false, false, false, false, false, false] rfl rfl (any_of HT_.out (by kernel_rfl)) (fun _ _ _ h => h) (Or.inl ⟨by rfl, ?_⟩) ?_ ?_
                                  rotate_left
                                  · intro w'
                                    go_simp
                                    with_reducible rfl
                                  rotate_left
                                  · simp only [Act.put, List.setIfInBounds_toArray, List.set_cons_zero, List.set_cons_succ, i64_w, i32_w]
                                    rfl
                                  refine pure_ (i := 12) (N := some 159) (v := ?_) (a' := ?_) #[true, true, true, true, true, true, true, true, true, true, true, true, true, false, false, false, false, false, false, false, false, false, false, false, false] rfl rfl (any_of HT_.out (by kernel_rfl)) (fun _ _ _ h => h) (Or.inl ⟨by rfl, ?_⟩) ?_ ?_
                                  rotate_left
                                  · intro w'
                                    go_simp
                                    with_reducible rfl
                                  rotate_left
                                  · simp only [Act.put, List.setIfInBounds_toArray, List.set_cons_zero, List.set_cons_succ, i64_w, i32_w]
                                    rfl
                                  refine pure_ (i := 13) (N := some 160) (v := ?_) (a' := ?_) #[true, true, true, true, true, true, true, true, true, true, true, true, true, true, false, false, false, false, false, false, false, false, false, false, false] rfl rfl (any_of HT_.out (by kernel_rfl)) (fun _ _ _ h => h) (Or.inl ⟨by rfl, ?_⟩) ?_ ?_
                                  rotate_left
                                  · intro w'
                                    go_simp
                                    with_reducible rfl
                                  rotate_left
                                  · simp only [Act.put, List.setIfInBounds_toArray, List.set_cons_zero, List.set_cons_succ, i64_w, i32_w]
                                    rfl
                                  refine take_ (i := 14) (N := some 161) (v := ?_) (a' := ?_) #[true, true, true, true, true, true, true, true, true, true, true, true, true, true, true, false, false, false, false, false, false, false, false, false, false] rfl rfl (take_ofW HT_.out HW_.out (by kernel_rfl)) (fun _ _ _ h => h) (Or.inl ⟨by rfl, ?_⟩) hHeld ?_ ?_
                                  rotate_left
                                  · rintro w' ⟨s0, s1, s2, s3, s4, s5, s6, s7, s8, s9, s10, s11, s12⟩
                                    go_simp
                                    with_reducible rfl
                                  rotate_left
                                  · simp only [Act.put, List.setIfInBounds_toArray, List.set_cons_zero, List.set_cons_succ, i64_w, i32_w]
                                    rfl
                                  refine one_ (i := 15) (N := some 162) #[true, true, true, true, true, true, true, true, true, true, true, true, true, true, true, true, false, false, false, false, false, false, false, false, false] rfl rfl (one_of HT_.out (by kernel_rfl)) (by decide) (fun K hK => ?_)
                                  refine goes_ Tryd.func27 (by kernel_rfl) rfl #[.agg #[.int .i64 t216, .int .i64 t217, .int .i64 t218, .int .i64 t219]] (by rfl) rfl rfl (by (try simp only [List.map_toArray, List.map_cons, List.map_nil]); first | done | rfl | (simp only [List.length_drop, List.length_take]; rfl)) ?_
                                  with_reducible refine (store_Sizes.calls kj85 t216 t217 t218 t219 t238 _ A101.out).mono ?_
                                  rintro e w109 ⟨v239, rfl, ho0, hb⟩
                                  refine ⟨_, rfl, ?_⟩
                                  have n0_ := Aside0.mk (Kd.R_elder' (by (with_reducible repeat (first | apply Kd.R_alloc | apply Kd.R_drewN | apply Kd.R_drew)); exact HO_8.out) (Kd.R_base ho0) hb)
                                  have n1_ := Aside0.mk (Kd.R_lower (Kd.R_new' ho0 (Kd.R_lt (by (with_reducible repeat (first | apply Kd.R_alloc | apply Kd.R_drewN | apply Kd.R_drew)); exact HO_8.out))) (below_size (by repeat (first | (with_reducible first | exact HB.out | apply below_alloc | apply pw_below_drewN | apply below_drew1 | refine below_set ?_ GE203.out | refine below_set ?_ GE220.out) | exact HB.out))))
                                  have n2_ := Aside0.mk (blk_below (g := gb203) (o := .cells #[.int .i64 a0_0, .int .i64 a0_1, .int .i64 a0_2, .int .i64 a0_3, .int .i64 a0_4, .int .i64 a0_5, .int .i64 a0_6, .int .i64 a0_7, .int .i64 a0_8] 23 (0, 0)) (by (with_reducible repeat (first | refine blk_drewN ?_ _ | refine blk_drew ?_ | refine blk_alloc ?_ _)); exact BK203.out) hb)
                                  have n3_ := Aside0.mk (blk_below (g := gb220) (o := .cells #[.int .i64 t216, .int .i64 t217, .int .i64 t218, .int .i64 t219] 33 (0, 0)) (by (with_reducible repeat (first | refine blk_drewN ?_ _ | refine blk_drew ?_ | refine blk_alloc ?_ _)); exact BK220.out) hb)
                                  have n4_ := Aside0.mk (Kd.C_below (by repeat (first | (with_reducible exact HR237.out) | (with_reducible refine Kd.C_alloc ?_ _) | (with_reducible refine Kd.C_drewN ?_ _) | (with_reducible refine Kd.C_drew ?_) | exact HR237.out)) hb)
                                  have n5_ := Aside0.mk (below_step (by repeat (first | (with_reducible first | exact HB.out | apply below_alloc | apply pw_below_drewN | apply below_drew1 | refine below_set ?_ GE203.out | refine below_set ?_ GE220.out) | exact HB.out)) hb)
                                  clear HO_8
                                  clear BK203
                                  clear BK220
                                  clear HR237
                                  clear HB
                                  have HO_8 := n0_
                                  have HO240 := n1_
                                  have BK203 := n2_
                                  have BK220 := n3_
                                  have HR237 := n4_
                                  have HB := n5_
                                  clear n0_ n1_ n2_ n3_ n4_ n5_
                                  (try clear hb)
                                  (try clear hb2)
                                  (try clear hk)
                                  (try clear hi)
                                  (try clear ho0)
                                  obtain ⟨Ao110, co110, eo110⟩ := Kd.R_slice HO240.out
                                  (first | subst eo110 | (injection eo110 with f1_ f2_ f3_; have f4_ := f1_.symm; have f5_ := f3_.symm; clear f1_ f2_ f3_; subst f4_; subst f5_))
                                  refine hK.out _ _ ⟨(blk_cell BK203.out 0).trans rfl, (blk_cell BK203.out 1).trans rfl, (blk_cell BK203.out 2).trans rfl, (blk_cell BK203.out 3).trans rfl, (blk_cell BK203.out 4).trans rfl, (blk_cell BK203.out 5).trans rfl, (blk_cell BK203.out 6).trans rfl, (blk_cell BK203.out 7).trans rfl, (blk_cell BK203.out 8).trans rfl, (blk_cell BK220.out 0).trans rfl, (blk_cell BK220.out 1).trans rfl, (blk_cell BK220.out 2).trans rfl, (blk_cell BK220.out 3).trans rfl⟩ (fun hHeld => ?_)
                                  clear hK K
                                  refine norm_ (a' := ?_) ?_ ?_
                                  rotate_left
                                  · show Act.put _ (some 162) _ = _
                                    simp only [Act.put, List.setIfInBounds_toArray, List.set_cons_zero, List.set_cons_succ, i64_w, i32_w]
                                    rfl
                                  refine one_ (i := 16) (N := some 163) #[true, true, true, true, true, true, true, true, true, true, true, true, true, true, true, true, true, false, false, false, false, false, false, false, false] rfl rfl (one_of HT_.out (by kernel_rfl)) (by decide) (fun K hK => ?_)
                                  refine goes_ Tryd.func21 (by kernel_rfl) rfl #[.slice A108 y234.length c108, .slice Ao110 t238.length co110] (by rfl) rfl rfl (by (try simp only [List.map_toArray, List.map_cons, List.map_nil]); first | done | rfl | (simp only [List.length_drop, List.length_take]; rfl)) ?_
                                  with_reducible refine (shellgamelaw13_sameInts.calls kj85 _ _ y234 _ _ t238 true _ ?side1 ?side2 ?side3 ?side4 A102.out).mono ?_
                                  (case side1 => repeat (first | exact (by repeat (first | (with_reducible exact HR237.out) | (with_reducible refine Kd.C_alloc ?_ _) | (with_reducible refine Kd.C_drewN ?_ _) | (with_reducible refine Kd.C_drew ?_) | exact HR237.out)) | (with_reducible refine Kd.C_alloc ?_ _) | (with_reducible refine Kd.C_drewN ?_ _) | (with_reducible refine Kd.C_drew ?_)))
                                  (case side2 => exact HC237.out)
                                  (case side3 => repeat (first | exact (Kd.R_reads' HO240.out).2.2 | (with_reducible refine Kd.C_alloc ?_ _) | (with_reducible refine Kd.C_drewN ?_ _) | (with_reducible refine Kd.C_drew ?_)))
                                  (case side4 => exact (Kd.R_reads' HO240.out).2.1)
                                  rintro e w' ⟨rfl, ⟨nd, rfl⟩⟩
                                  refine ⟨_, rfl, ?_⟩
                                  refine hK.out _ _ ⟨(blk_cell BK203.out 0).trans rfl, (blk_cell BK203.out 1).trans rfl, (blk_cell BK203.out 2).trans rfl, (blk_cell BK203.out 3).trans rfl, (blk_cell BK203.out 4).trans rfl, (blk_cell BK203.out 5).trans rfl, (blk_cell BK203.out 6).trans rfl, (blk_cell BK203.out 7).trans rfl, (blk_cell BK203.out 8).trans rfl, (blk_cell BK220.out 0).trans rfl, (blk_cell BK220.out 1).trans rfl, (blk_cell BK220.out 2).trans rfl, (blk_cell BK220.out 3).trans rfl⟩ (fun hHeld => ?_)
                                  clear hK K
                                  refine norm_ (a' := ?_) ?_ ?_
                                  rotate_left
                                  · show Act.put _ (some 163) _ = _
                                    simp only [Act.put, List.setIfInBounds_toArray, List.set_cons_zero, List.set_cons_succ, i64_w, i32_w]
                                    rfl
                                  refine pure_ (i := 17) (N := some 164) (v := ?_) (a' := ?_) #[true, true, true, true, true, true, true, true, true, true, true, true, true, true, true, true, true, true, false, false, false, false, false, false, false] rfl rfl (any_of HT_.out (by kernel_rfl)) (fun _ _ _ h => h) (Or.inl ⟨by rfl, ?_⟩) ?_ ?_
                                  rotate_left
                                  · intro w'
                                    go_simp
                                    with_reducible rfl
                                  rotate_left
                                  · simp only [Act.put, List.setIfInBounds_toArray, List.set_cons_zero, List.set_cons_succ, i64_w, i32_w]
                                    rfl
                                  refine pure_ (i := 18) (N := some 165) (v := ?_) (a' := ?_) #[true, true, true, true, true, true, true, true, true, true, true, true, true, true, true, true, true, true, true, false, false, false, false, false, false] rfl rfl (any_of HT_.out (by kernel_rfl)) (fun _ _ _ h => h) (Or.inl ⟨by rfl, ?_⟩) ?_ ?_
                                  rotate_left
                                  · intro w'
                                    go_simp
                                    with_reducible rfl
                                  rotate_left
                                  · simp only [Act.put, List.setIfInBounds_toArray, List.set_cons_zero, List.set_cons_succ, i64_w, i32_w]
                                    rfl
                                  refine pure_ (i := 19) (N := some 166) (v := ?_) (a' := ?_) #[true, true, true, true, true, true, true, true, true, true, true, true, true, true, true, true, true, true, true, true, false, false, false, false, false] rfl rfl (any_of HT_.out (by kernel_rfl)) (fun _ _ _ h => h) (Or.inl ⟨by rfl, ?_⟩) ?_ ?_
                                  rotate_left
                                  · intro w'
                                    go_simp
                                    with_reducible rfl
                                  rotate_left
                                  · simp only [Act.put, List.setIfInBounds_toArray, List.set_cons_zero, List.set_cons_succ, i64_w, i32_w]
                                    rfl
                                  refine one_ (i := 20) (N := some 167) #[true, true, true, true, true, true, true, true, true, true, true, true, true, true, true, true, true, true, true, true, true, false, false, false, false] rfl rfl (one_of HT_.out (by kernel_rfl)) (by decide) (fun K hK => ?_)
                                  refine goes_ Tryd.func28 (by kernel_rfl) rfl #[.agg #[.int .i64 0, .int .i64 0, .int .i64 0, .int .i64 0]] (by rfl) rfl rfl (by (try simp only [List.map_toArray, List.map_cons, List.map_nil]); first | done | rfl | (simp only [List.length_drop, List.length_take]; rfl)) ?_
                                  with_reducible refine (shellgameref11_Sizes.calls kj85 0 0 0 0 t242 _ A104.out).mono ?_
                                  rintro e w111 ⟨v243, rfl, ho0, hb⟩
                                  refine ⟨_, rfl, ?_⟩
                                  have n0_ := Aside0.mk (Kd.R_elder' (by (with_reducible repeat (first | apply Kd.R_alloc | apply Kd.R_drewN | apply Kd.R_drew)); exact HO_8.out) (Kd.R_base ho0) hb)
                                  have n1_ := Aside0.mk (Kd.R_elder' (by (with_reducible repeat (first | apply Kd.R_alloc | apply Kd.R_drewN | apply Kd.R_drew)); exact HO240.out) (Kd.R_base ho0) hb)
                                  have n2_ := Aside0.mk (Kd.R_lower (Kd.R_new' (Kd.R_new' ho0 (Kd.R_lt (by (with_reducible repeat (first | apply Kd.R_alloc | apply Kd.R_drewN | apply Kd.R_drew)); exact HO_8.out))) (Kd.R_lt (by (with_reducible repeat (first | apply Kd.R_alloc | apply Kd.R_drewN | apply Kd.R_drew)); exact HO240.out))) (below_size (by repeat (first | (with_reducible first | exact HB.out | apply below_alloc | apply pw_below_drewN | apply below_drew1 | refine below_set ?_ GE203.out | refine below_set ?_ GE220.out) | exact HB.out))))
                                  have n3_ := Aside0.mk (blk_below (g := gb203) (o := .cells #[.int .i64 a0_0, .int .i64 a0_1, .int .i64 a0_2, .int .i64 a0_3, .int .i64 a0_4, .int .i64 a0_5, .int .i64 a0_6, .int .i64 a0_7, .int .i64 a0_8] 23 (0, 0)) (by (with_reducible repeat (first | refine blk_drewN ?_ _ | refine blk_drew ?_ | refine blk_alloc ?_ _)); exact BK203.out) hb)
                                  have n4_ := Aside0.mk (blk_below (g := gb220) (o := .cells #[.int .i64 t216, .int .i64 t217, .int .i64 t218, .int .i64 t219] 33 (0, 0)) (by (with_reducible repeat (first | refine blk_drewN ?_ _ | refine blk_drew ?_ | refine blk_alloc ?_ _)); exact BK220.out) hb)
                                  have n5_ := Aside0.mk (Kd.C_below (Kd.C_drewN HR237.out nd) hb)
                                  have n6_ := Aside0.mk (below_step (by repeat (first | (with_reducible first | exact HB.out | apply below_alloc | apply pw_below_drewN | apply below_drew1 | refine below_set ?_ GE203.out | refine below_set ?_ GE220.out) | exact HB.out)) hb)
                                  clear HO_8
                                  clear HO240
                                  clear BK203
                                  clear BK220
                                  clear HR237
                                  clear HB
                                  have HO_8 := n0_
                                  have HO240 := n1_
                                  have HO244 := n2_
                                  have BK203 := n3_
                                  have BK220 := n4_
                                  have HR237 := n5_
                                  have HB := n6_
                                  clear n0_ n1_ n2_ n3_ n4_ n5_ n6_
                                  (try clear hb)
                                  (try clear hb2)
                                  (try clear hk)
                                  (try clear hi)
                                  (try clear ho0)
                                  obtain ⟨Ao112, co112, eo112⟩ := Kd.R_slice HO244.out
                                  (first | subst eo112 | (injection eo112 with f1_ f2_ f3_; have f4_ := f1_.symm; have f5_ := f3_.symm; clear f1_ f2_ f3_; subst f4_; subst f5_))
                                  refine hK.out _ _ ⟨(blk_cell BK203.out 0).trans rfl, (blk_cell BK203.out 1).trans rfl, (blk_cell BK203.out 2).trans rfl, (blk_cell BK203.out 3).trans rfl, (blk_cell BK203.out 4).trans rfl, (blk_cell BK203.out 5).trans rfl, (blk_cell BK203.out 6).trans rfl, (blk_cell BK203.out 7).trans rfl, (blk_cell BK203.out 8).trans rfl, (blk_cell BK220.out 0).trans rfl, (blk_cell BK220.out 1).trans rfl, (blk_cell BK220.out 2).trans rfl, (blk_cell BK220.out 3).trans rfl⟩ (fun hHeld => ?_)
                                  clear hK K
                                  refine norm_ (a' := ?_) ?_ ?_
                                  rotate_left
                                  · show Act.put _ (some 167) _ = _
                                    simp only [Act.put, List.setIfInBounds_toArray, List.set_cons_zero, List.set_cons_succ, i64_w, i32_w]
                                    rfl
                                  refine pure_ (i := 21) (N := some 168) (v := ?_) (a' := ?_) #[true, true, true, true, true, true, true, true, true, true, true, true, true, true, true, true, true, true, true, true, true, true, false, false, false] rfl rfl (any_of HT_.out (by kernel_rfl)) (fun _ _ _ h => h) (Or.inl ⟨by rfl, ?_⟩) ?_ ?_
                                  rotate_left
                                  · intro w'
                                    go_simp
                                    with_reducible rfl
                                  rotate_left
                                  · simp only [Act.put, List.setIfInBounds_toArray, List.set_cons_zero, List.set_cons_succ, i64_w, i32_w]
                                    rfl
                                  refine pure_ (i := 22) (N := some 169) (v := ?_) (a' := ?_) #[true, true, true, true, true, true, true, true, true, true, true, true, true, true, true, true, true, true, true, true, true, true, true, false, false] rfl rfl (any_of HT_.out (by kernel_rfl)) (fun _ _ _ h => h) (Or.inl ⟨by rfl, ?_⟩) ?_ ?_
                                  rotate_left
                                  · intro w'
                                    go_simp
                                    with_reducible rfl
                                  rotate_left
                                  · simp only [Act.put, List.setIfInBounds_toArray, List.set_cons_zero, List.set_cons_succ, i64_w, i32_w]
                                    rfl
                                  refine pure_ (i := 23) (N := some 170) (v := ?_) (a' := ?_) #[true, true, true, true, true, true, true, true, true, true, true, true, true, true, true, true, true, true, true, true, true, true, true, true, false] rfl rfl (any_of HT_.out (by kernel_rfl)) (fun _ _ _ h => h) (Or.inl ⟨by rfl, ?_⟩) ?_ ?_
                                  rotate_left
                                  · intro w'
                                    go_simp
                                    with_reducible rfl
                                  rotate_left
                                  · simp only [Act.put, List.setIfInBounds_toArray, List.set_cons_zero, List.set_cons_succ, i64_w, i32_w]
                                    rfl
                                  refine pure_ (i := 24) (N := some 4) (v := ?_) (a' := ?_) #[true, true, true, true, true, true, true, true, true, true, true, true, true, true, true, true, true, true, true, true, true, true, true, true, true] rfl rfl (any_of HT_.out (by kernel_rfl)) (fun _ _ _ h => h) (Or.inl ⟨by rfl, ?_⟩) ?_ ?_
                                  rotate_left
                                  · intro w'
                                    go_simp
                                    with_reducible rfl
                                  rotate_left
                                  · simp only [Act.put, List.setIfInBounds_toArray, List.set_cons_zero, List.set_cons_succ, i64_w, i32_w]
                                    rfl
                                  refine done_ (done_of HT_.out (by kernel_rfl)) ?_
                                  try go_wp2
                                  go_ret
                                  exact ⟨by first | rfl | (simp [errW_none, errW_some] <;> rfl) | (simp only [← hji80, ← hji81]; first | rfl | (simp [errW_none, errW_some] <;> rfl)) | (simp [*, errW_none, errW_some] <;> rfl), by repeat (first | (with_reducible first | exact HB.out | apply below_alloc | apply pw_below_drewN | apply below_drew1 | refine below_set ?_ GE203.out | refine below_set ?_ GE220.out) | exact HB.out)⟩
                                · replace c103 := Bool.eq_false_iff.mpr c103
                                  subst c103
                                  have H1 : (some false) = some r := by rw [if_neg (show ¬ (false = true) by decide)] at H; exact H
                                  clear H
                                  have H := H1
                                  clear H1
                                  rw [hrT.out] at H
                                  exact absurd H (by simp)
                              · rw [if_neg c100] at H
                                exact absurd H (by simp)
                            · rw [if_neg c99] at H
                              have c99b0 : ((wrap64 (t230 - t231)) == (wrap64 (x14_85 * t233))) = false := beq_eq_false_iff_ne.mpr c99
                              have c99b1 : ((wrap64 (t230 - t231)) != (wrap64 (x14_85 * t233))) = true := bne_iff_ne.mpr c99
                              rw [hrT.out] at H
                              exact absurd H (by simp)
                          · rw [if_neg c97] at H
                            have c97b0 : (t232 == 4) = false := beq_eq_false_iff_ne.mpr c97
                            have c97b1 : (t232 != 4) = true := bne_iff_ne.mpr c97
                            rw [hrT.out] at H
                            exact absurd H (by simp)

/-- THE ONE PURE STATEMENT of shellgamelaw13_ConfigFits: yours. -/
def shellgamelaw13_ConfigFits.Pure : Prop := ∀ (a0_0 : Int) (a0_1 : Int) (a0_2 : Int) (a0_3 : Int) (a0_4 : Int) (a0_5 : Int) (a0_6 : Int) (a0_7 : Int) (a0_8 : Int) (a1 : Int), (Lit.int .i64 a0_0).wf = true → (Lit.int .i64 a0_1).wf = true → (Lit.int .i64 a0_2).wf = true → (Lit.int .i64 a0_3).wf = true → (Lit.int .i64 a0_4).wf = true → (Lit.int .i64 a0_5).wf = true → (Lit.int .i64 a0_6).wf = true → (Lit.int .i64 a0_7).wf = true → (Lit.int .i64 a0_8).wf = true → (Lit.int .i64 a1).wf = true → ∃ k, shellgamelaw13_ConfigFits.f k a0_0 a0_1 a0_2 a0_3 a0_4 a0_5 a0_6 a0_7 a0_8 a1 = some true
theorem shellgamelaw13_ConfigFits.walk (P : shellgamelaw13_ConfigFits.Pure) (a0_0 : Int) (a0_1 : Int) (a0_2 : Int) (a0_3 : Int) (a0_4 : Int) (a0_5 : Int) (a0_6 : Int) (a0_7 : Int) (a0_8 : Int) (a1 : Int) (w : World) (hE : Aside0 (Env w)) (w0_0 : (Lit.int .i64 a0_0).wf = true) (w0_1 : (Lit.int .i64 a0_1).wf = true) (w0_2 : (Lit.int .i64 a0_2).wf = true) (w0_3 : (Lit.int .i64 a0_3).wf = true) (w0_4 : (Lit.int .i64 a0_4).wf = true) (w0_5 : (Lit.int .i64 a0_5).wf = true) (w0_6 : (Lit.int .i64 a0_6).wf = true) (w0_7 : (Lit.int .i64 a0_7).wf = true) (w0_8 : (Lit.int .i64 a0_8).wf = true) (w1 : (Lit.int .i64 a1).wf = true) :
    Calls Tryd.prog 7 #[.agg #[.int .i64 a0_0, .int .i64 a0_1, .int .i64 a0_2, .int .i64 a0_3, .int .i64 a0_4, .int .i64 a0_5, .int .i64 a0_6, .int .i64 a0_7, .int .i64 a0_8], .int .i64 a1] w fun e w' => e = .returned (.bool true) ∧ Below w.heap.size w w' := by
  obtain ⟨k, h⟩ := P a0_0 a0_1 a0_2 a0_3 a0_4 a0_5 a0_6 a0_7 a0_8 a1 w0_0 w0_1 w0_2 w0_3 w0_4 w0_5 w0_6 w0_7 w0_8 w1
  refine (shellgamelaw13_ConfigFits.calls k a0_0 a0_1 a0_2 a0_3 a0_4 a0_5 a0_6 a0_7 a0_8 a1 true w hE ⟨rfl⟩ h).mono ?_
  rintro e w' ⟨rfl, hd⟩
  exact ⟨rfl, hd⟩

end Go.Proofs.YtpaafeaolodkjaaDoor.PConfigFits
