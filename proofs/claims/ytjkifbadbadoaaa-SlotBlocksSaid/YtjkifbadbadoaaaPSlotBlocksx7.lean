-- Written by wip/printplus.py over contracts of this repo; not trusted: Lean checks it.
import Derived.Test.YtjkifbadbadoaaaPSlotBlocksx0
import Derived.Test.YtjkifbadbadoaaaPSlotBlocksx2
import Derived.Test.YtjkifbadbadoaaaPSlotBlocksx3
import Derived.Test.YtjkifbadbadoaaaPSlotBlocksx4
import Derived.Test.YtjkifbadbadoaaaPSlotBlocksx5
import Derived.Test.YtjkifbadbadoaaaPSlotBlocksx6
namespace Go.Proofs.Ytjkifbadbadoaaa.PSlotBlocks
open Go.Proofs.Ytjkifbadbadoaaa.Hand Go.RowKit Go.Proofs.YtjkifbadbadoaaaW.PrintWords Go.Proofs.YtjkifbadbadoaaaW.PrintLast Go.Proofs.YtjkifbadbadoaaaW.PrintMore
attribute [local go_sem] max2_int min2_int max_two min_two max_three min_three max_four min_four   -- for this text's walks alone
set_option linter.unusedVariables false
set_option linter.unusedSimpArgs false

attribute [local go_sem high] eqA58 eqA65
/-! ### shellgamelaw15_SlotBlocks: function 16 -/
def shellgamelaw15_SlotBlocks.f (k : Nat) (a0_0 : Bool) (a0_1 : Int) (a0_2 : Int) (a0_3 : Int) (a0_4 : Int) (a0_5 : Int) (a0_6 : Int) (a1_0 : Int) (a1_1 : Int) (a1_2 : Int) (a1_3 : Int) (a1_4 : Int) (a1_5 : Int) (a1_6 : Int) (a1_7 : Int) (a2 : Int) (a3 : Int) : Option (Bool) := (shellgamelaw15_shown.f k).bind fun t144 => ((slot_Read.f a1_0 a1_1 a1_2 a1_3 a1_4 a1_5 a1_6 a1_7).bind fun bt145 => ((shellgameref15_Read.f k a1_0 a1_1 a1_2 a1_3 a1_4 a1_5 a1_6 a1_7).bind fun bt154 => ((slot_Enter.f a2 a3).bind fun bt163 => ((shellgameref15_Enter.f k a2 a3).bind fun bt165 => ((slot_Use.f a2 a0_0 a0_1 a0_2 a0_3 a0_4 a0_5 a0_6 a3).bind fun bt167 => ((shellgamelaw15_as.f a0_0 a0_1 a0_2 a0_3 a0_4 a0_5 a0_6).bind fun bt169 => ((shellgameref15_Use.f k a2 bt169.1 bt169.2.1 bt169.2.2.1 bt169.2.2.2.1 bt169.2.2.2.2.1 bt169.2.2.2.2.2.1 bt169.2.2.2.2.2.2 a3).bind fun bt176 => (if t144 = true then ((slot_Right.f a0_0 a0_1 a0_2 a0_3 a0_4 a0_5 a0_6).bind fun t178 => ((shellgamelaw15_as.f a0_0 a0_1 a0_2 a0_3 a0_4 a0_5 a0_6).bind fun bt179 => ((shellgameref15_Right.f bt179.1 bt179.2.1 bt179.2.2.1 bt179.2.2.2.1 bt179.2.2.2.2.1 bt179.2.2.2.2.2.1 bt179.2.2.2.2.2.2).bind fun t186 => (if (t178 == t186) = true then ((slot_Data.f a0_0 a0_1 a0_2 a0_3 a0_4 a0_5 a0_6).bind fun bt187 => ((shellgamelaw15_as.f a0_0 a0_1 a0_2 a0_3 a0_4 a0_5 a0_6).bind fun bt195 => ((shellgameref15_Data.f bt195.1 bt195.2.1 bt195.2.2.1 bt195.2.2.2.1 bt195.2.2.2.2.1 bt195.2.2.2.2.2.1 bt195.2.2.2.2.2.2).bind fun bt202 => (if (bt187.1 == bt202.1 && (bt187.2.1 == bt202.2.1 && (bt187.2.2.1 == bt202.2.2.1 && (bt187.2.2.2.1 == bt202.2.2.2.1 && (bt187.2.2.2.2.1 == bt202.2.2.2.2.1 && (bt187.2.2.2.2.2.1 == bt202.2.2.2.2.2.1 && (bt187.2.2.2.2.2.2.1 == bt202.2.2.2.2.2.2.1 && (bt187.2.2.2.2.2.2.2 == bt202.2.2.2.2.2.2.2)))))))) = true then ((shellgamelaw15_as.f bt145.1 bt145.2.1 bt145.2.2.1 bt145.2.2.2.1 bt145.2.2.2.2.1 bt145.2.2.2.2.2.1 bt145.2.2.2.2.2.2.1).bind fun bt210 => (if (bt210.1 == bt154.1 && (bt210.2.1 == bt154.2.1 && (bt210.2.2.1 == bt154.2.2.1 && (bt210.2.2.2.1 == bt154.2.2.2.1 && (bt210.2.2.2.2.1 == bt154.2.2.2.2.1 && (bt210.2.2.2.2.2.1 == bt154.2.2.2.2.2.1 && (bt210.2.2.2.2.2.2 == bt154.2.2.2.2.2.2.1))))))) = true then (if bt145.2.2.2.2.2.2.2 = bt154.2.2.2.2.2.2.2 then ((slot_Expired.f a0_0 a0_1 a0_2 a0_3 a0_4 a0_5 a0_6 a3).bind fun t217 => ((shellgamelaw15_as.f a0_0 a0_1 a0_2 a0_3 a0_4 a0_5 a0_6).bind fun bt218 => ((shellgameref15_Expired.f bt218.1 bt218.2.1 bt218.2.2.1 bt218.2.2.2.1 bt218.2.2.2.2.1 bt218.2.2.2.2.2.1 bt218.2.2.2.2.2.2 a3).bind fun t225 => (if (t217 == t225) = true then (if bt163.1 = bt165.1 then (if bt163.2 = bt165.2 then (if bt167.1 = bt176.1 then (some (bt167.2 == bt176.2)) else (some false)) else (some false)) else (some false)) else (some false))))) else (some false)) else (some false))) else (some false))))) else (some false))))) else (some false)))))))))
theorem shellgamelaw15_SlotBlocks.mono : ∀ a0 a1 a2 a3 a4 a5 a6 a7 a8 a9 a10 a11 a12 a13 a14 a15 a16 k, LeO (shellgamelaw15_SlotBlocks.f k a0 a1 a2 a3 a4 a5 a6 a7 a8 a9 a10 a11 a12 a13 a14 a15 a16) (shellgamelaw15_SlotBlocks.f (k + 1) a0 a1 a2 a3 a4 a5 a6 a7 a8 a9 a10 a11 a12 a13 a14 a15 a16) := by
  intro a0 a1 a2 a3 a4 a5 a6 a7 a8 a9 a10 a11 a12 a13 a14 a15 a16 k
  unfold shellgamelaw15_SlotBlocks.f
  repeat' first
      | (with_reducible exact shellgamelaw15_shown.mono _)
      | (with_reducible exact shellgameref15_Enter.mono _ _ _)
      | (with_reducible exact shellgameref15_Read.mono _ _ _ _ _ _ _ _ _)
      | (with_reducible exact shellgameref15_Use.mono _ _ _ _ _ _ _ _ _ _)
      | (with_reducible exact LeO.refl _)
      | (with_reducible exact LeO.none _)
      | (with_reducible refine LeO.ite ?_ ?_)
      | (with_reducible refine LeO.bind ?_ (fun _ => ?_))
      | exact shellgamelaw15_shown.mono _
      | exact shellgameref15_Enter.mono _ _ _
      | exact shellgameref15_Read.mono _ _ _ _ _ _ _ _ _
      | exact shellgameref15_Use.mono _ _ _ _ _ _ _ _ _ _
      | exact LeO.none _
      | refine LeO.ite ?_ ?_
      | refine LeO.bind ?_ (fun _ => ?_)
def shellgamelaw15_SlotBlocks.T8 : Bool × List (List Nat × List Nat) := (true, [([], []), ([0], [0]), ([1], [1]), ([2, 1, 1], [1, 2]), ([1], [1]), ([4, 3, 1], [1, 4]), ([5, 5, 1], [1, 5]), ([3, 6, 1], [1, 3, 6]), ([1, 7], [1, 7]), ([8, 6], [8]), ([9], [9]), ([10, 9, 9], [9, 10]), ([9], [9]), ([12, 11, 9], [9, 12]), ([13, 13, 9], [9, 13]), ([11, 14, 9], [9, 11, 14]), ([9, 15], [9, 15]), ([16, 14], [16]), ([17], [17]), ([18, 17, 17], [17, 18]), ([17], [17]), ([19, 20, 17], [17, 19, 20]), ([17, 21], [17, 21]), ([22, 19], [22]), ([23], [23]), ([23], [23]), ([24, 25, 23], [23, 24, 25]), ([23, 26], [23, 26]), ([27, 23], [27]), ([28], [28]), ([28], [28]), ([29, 30, 28, 28], [28, 29, 30]), ([28], [28]), ([32, 31, 28], [28, 32]), ([28], [28]), ([33, 34, 33, 28], [28, 33, 34]), ([31, 35, 28], [28, 31, 35]), ([28, 36], [28, 36]), ([37, 35], [37]), ([38], [38]), ([38], [38]), ([39, 40, 38], [38, 39, 40]), ([38, 41], [38, 41]), ([42, 38], [42]), ([43], [43]), ([43], [43]), ([44, 45, 43], [43, 44, 45]), ([43, 46], [43, 46]), ([47, 43], [47]), ([48], [48]), ([48], [48]), ([49, 50, 48], [48, 49, 50]), ([48, 51], [48, 51]), ([52, 48], [52]), ([53], [53]), ([53], [53]), ([54, 55, 53], [53, 54, 55]), ([53, 56], [53, 56]), ([57, 53, 0, 1, 2, 3, 4, 5, 6, 7, 8, 9, 10, 11, 12, 13, 14, 15, 16, 17, 18, 19, 20, 21, 22, 23, 24, 25, 26, 27, 28, 29, 30, 31, 32, 33, 34, 35, 36, 37, 38, 39, 40, 41, 42, 43, 44, 45, 46, 47, 48, 49, 50, 51, 52, 53, 54, 55, 56, 57], [57])])
def shellgamelaw15_SlotBlocks.B8 : List Nat := [0, 1, 3, 7, 3, 31, 63, 127, 255, 511, 1023, 2047, 1023, 8191, 16383, 32767, 65535, 131071, 262143, 524287, 262143, 2097151, 4194303, 8388607, 16777215, 16777215, 67108863, 134217727, 268435455, 536870911, 536870911, 2147483647, 536870911, 8589934591, 536870911, 34359738367, 68719476735, 137438953471, 274877906943, 549755813887, 549755813887, 2199023255551, 4398046511103, 8796093022207, 17592186044415, 17592186044415, 70368744177663, 140737488355327, 281474976710655, 562949953421311, 562949953421311, 2251799813685247, 4503599627370495, 9007199254740991, 18014398509481983, 18014398509481983, 72057594037927935, 144115188075855871, 288230376151711743]
theorem shellgamelaw15_SlotBlocks.tab8 : rtab .any (opsOf Try.f16 8) = shellgamelaw15_SlotBlocks.T8 := by kernel_rfl
theorem shellgamelaw15_SlotBlocks.bits8 : waitsOk shellgamelaw15_SlotBlocks.T8.2 shellgamelaw15_SlotBlocks.B8 = true := by kernel_rfl
set_option maxHeartbeats 8000000 in
set_option maxRecDepth 100000 in
theorem shellgamelaw15_SlotBlocks.calls (k : Nat) (a0_0 : Bool) (a0_1 : Int) (a0_2 : Int) (a0_3 : Int) (a0_4 : Int) (a0_5 : Int) (a0_6 : Int) (a1_0 : Int) (a1_1 : Int) (a1_2 : Int) (a1_3 : Int) (a1_4 : Int) (a1_5 : Int) (a1_6 : Int) (a1_7 : Int) (a2 : Int) (a3 : Int) (r : Bool) (w : World) (hrT : Aside0 (r = true)) (h : shellgamelaw15_SlotBlocks.f k a0_0 a0_1 a0_2 a0_3 a0_4 a0_5 a0_6 a1_0 a1_1 a1_2 a1_3 a1_4 a1_5 a1_6 a1_7 a2 a3 = some r) :
    Calls Try.prog 16 #[.agg #[.bool a0_0, .int .u64 a0_1, .int .u64 a0_2, .int .u64 a0_3, .int .u64 a0_4, .int .u64 a0_5, .int .i64 a0_6], .agg #[.int .u64 a1_0, .int .u64 a1_1, .int .u64 a1_2, .int .u64 a1_3, .int .u64 a1_4, .int .u64 a1_5, .int .u64 a1_6, .int .u64 a1_7], .int .i64 a2, .int .u64 a3] w fun e w' => e = .returned (.bool r) ∧ Below w.heap.size w w' := by
  have hu31 := Try.underlying31
  have hu58 := Try.underlying58
  have hu65 := Try.underlying65
  have HB := Aside0.mk (Below.refl w.heap.size w)
  have H : ((shellgamelaw15_shown.f k).bind fun t144 => ((slot_Read.f a1_0 a1_1 a1_2 a1_3 a1_4 a1_5 a1_6 a1_7).bind fun bt145 => ((shellgameref15_Read.f k a1_0 a1_1 a1_2 a1_3 a1_4 a1_5 a1_6 a1_7).bind fun bt154 => ((slot_Enter.f a2 a3).bind fun bt163 => ((shellgameref15_Enter.f k a2 a3).bind fun bt165 => ((slot_Use.f a2 a0_0 a0_1 a0_2 a0_3 a0_4 a0_5 a0_6 a3).bind fun bt167 => ((shellgamelaw15_as.f a0_0 a0_1 a0_2 a0_3 a0_4 a0_5 a0_6).bind fun bt169 => ((shellgameref15_Use.f k a2 bt169.1 bt169.2.1 bt169.2.2.1 bt169.2.2.2.1 bt169.2.2.2.2.1 bt169.2.2.2.2.2.1 bt169.2.2.2.2.2.2 a3).bind fun bt176 => (if t144 = true then ((slot_Right.f a0_0 a0_1 a0_2 a0_3 a0_4 a0_5 a0_6).bind fun t178 => ((shellgamelaw15_as.f a0_0 a0_1 a0_2 a0_3 a0_4 a0_5 a0_6).bind fun bt179 => ((shellgameref15_Right.f bt179.1 bt179.2.1 bt179.2.2.1 bt179.2.2.2.1 bt179.2.2.2.2.1 bt179.2.2.2.2.2.1 bt179.2.2.2.2.2.2).bind fun t186 => (if (t178 == t186) = true then ((slot_Data.f a0_0 a0_1 a0_2 a0_3 a0_4 a0_5 a0_6).bind fun bt187 => ((shellgamelaw15_as.f a0_0 a0_1 a0_2 a0_3 a0_4 a0_5 a0_6).bind fun bt195 => ((shellgameref15_Data.f bt195.1 bt195.2.1 bt195.2.2.1 bt195.2.2.2.1 bt195.2.2.2.2.1 bt195.2.2.2.2.2.1 bt195.2.2.2.2.2.2).bind fun bt202 => (if (bt187.1 == bt202.1 && (bt187.2.1 == bt202.2.1 && (bt187.2.2.1 == bt202.2.2.1 && (bt187.2.2.2.1 == bt202.2.2.2.1 && (bt187.2.2.2.2.1 == bt202.2.2.2.2.1 && (bt187.2.2.2.2.2.1 == bt202.2.2.2.2.2.1 && (bt187.2.2.2.2.2.2.1 == bt202.2.2.2.2.2.2.1 && (bt187.2.2.2.2.2.2.2 == bt202.2.2.2.2.2.2.2)))))))) = true then ((shellgamelaw15_as.f bt145.1 bt145.2.1 bt145.2.2.1 bt145.2.2.2.1 bt145.2.2.2.2.1 bt145.2.2.2.2.2.1 bt145.2.2.2.2.2.2.1).bind fun bt210 => (if (bt210.1 == bt154.1 && (bt210.2.1 == bt154.2.1 && (bt210.2.2.1 == bt154.2.2.1 && (bt210.2.2.2.1 == bt154.2.2.2.1 && (bt210.2.2.2.2.1 == bt154.2.2.2.2.1 && (bt210.2.2.2.2.2.1 == bt154.2.2.2.2.2.1 && (bt210.2.2.2.2.2.2 == bt154.2.2.2.2.2.2.1))))))) = true then (if bt145.2.2.2.2.2.2.2 = bt154.2.2.2.2.2.2.2 then ((slot_Expired.f a0_0 a0_1 a0_2 a0_3 a0_4 a0_5 a0_6 a3).bind fun t217 => ((shellgamelaw15_as.f a0_0 a0_1 a0_2 a0_3 a0_4 a0_5 a0_6).bind fun bt218 => ((shellgameref15_Expired.f bt218.1 bt218.2.1 bt218.2.2.1 bt218.2.2.2.1 bt218.2.2.2.2.1 bt218.2.2.2.2.2.1 bt218.2.2.2.2.2.2 a3).bind fun t225 => (if (t217 == t225) = true then (if bt163.1 = bt165.1 then (if bt163.2 = bt165.2 then (if bt167.1 = bt176.1 then (some (bt167.2 == bt176.2)) else (some false)) else (some false)) else (some false)) else (some false))))) else (some false)) else (some false))) else (some false))))) else (some false))))) else (some false)))))))))) = some r := h
  clear h
  replace H := Option.bind_eq_some_iff.mp H
  obtain ⟨t144, A50, H⟩ := H
  replace H : ((slot_Read.f a1_0 a1_1 a1_2 a1_3 a1_4 a1_5 a1_6 a1_7).bind fun bt145 => ((shellgameref15_Read.f k a1_0 a1_1 a1_2 a1_3 a1_4 a1_5 a1_6 a1_7).bind fun bt154 => ((slot_Enter.f a2 a3).bind fun bt163 => ((shellgameref15_Enter.f k a2 a3).bind fun bt165 => ((slot_Use.f a2 a0_0 a0_1 a0_2 a0_3 a0_4 a0_5 a0_6 a3).bind fun bt167 => ((shellgamelaw15_as.f a0_0 a0_1 a0_2 a0_3 a0_4 a0_5 a0_6).bind fun bt169 => ((shellgameref15_Use.f k a2 bt169.1 bt169.2.1 bt169.2.2.1 bt169.2.2.2.1 bt169.2.2.2.2.1 bt169.2.2.2.2.2.1 bt169.2.2.2.2.2.2 a3).bind fun bt176 => (if t144 = true then ((slot_Right.f a0_0 a0_1 a0_2 a0_3 a0_4 a0_5 a0_6).bind fun t178 => ((shellgamelaw15_as.f a0_0 a0_1 a0_2 a0_3 a0_4 a0_5 a0_6).bind fun bt179 => ((shellgameref15_Right.f bt179.1 bt179.2.1 bt179.2.2.1 bt179.2.2.2.1 bt179.2.2.2.2.1 bt179.2.2.2.2.2.1 bt179.2.2.2.2.2.2).bind fun t186 => (if (t178 == t186) = true then ((slot_Data.f a0_0 a0_1 a0_2 a0_3 a0_4 a0_5 a0_6).bind fun bt187 => ((shellgamelaw15_as.f a0_0 a0_1 a0_2 a0_3 a0_4 a0_5 a0_6).bind fun bt195 => ((shellgameref15_Data.f bt195.1 bt195.2.1 bt195.2.2.1 bt195.2.2.2.1 bt195.2.2.2.2.1 bt195.2.2.2.2.2.1 bt195.2.2.2.2.2.2).bind fun bt202 => (if (bt187.1 == bt202.1 && (bt187.2.1 == bt202.2.1 && (bt187.2.2.1 == bt202.2.2.1 && (bt187.2.2.2.1 == bt202.2.2.2.1 && (bt187.2.2.2.2.1 == bt202.2.2.2.2.1 && (bt187.2.2.2.2.2.1 == bt202.2.2.2.2.2.1 && (bt187.2.2.2.2.2.2.1 == bt202.2.2.2.2.2.2.1 && (bt187.2.2.2.2.2.2.2 == bt202.2.2.2.2.2.2.2)))))))) = true then ((shellgamelaw15_as.f bt145.1 bt145.2.1 bt145.2.2.1 bt145.2.2.2.1 bt145.2.2.2.2.1 bt145.2.2.2.2.2.1 bt145.2.2.2.2.2.2.1).bind fun bt210 => (if (bt210.1 == bt154.1 && (bt210.2.1 == bt154.2.1 && (bt210.2.2.1 == bt154.2.2.1 && (bt210.2.2.2.1 == bt154.2.2.2.1 && (bt210.2.2.2.2.1 == bt154.2.2.2.2.1 && (bt210.2.2.2.2.2.1 == bt154.2.2.2.2.2.1 && (bt210.2.2.2.2.2.2 == bt154.2.2.2.2.2.2.1))))))) = true then (if bt145.2.2.2.2.2.2.2 = bt154.2.2.2.2.2.2.2 then ((slot_Expired.f a0_0 a0_1 a0_2 a0_3 a0_4 a0_5 a0_6 a3).bind fun t217 => ((shellgamelaw15_as.f a0_0 a0_1 a0_2 a0_3 a0_4 a0_5 a0_6).bind fun bt218 => ((shellgameref15_Expired.f bt218.1 bt218.2.1 bt218.2.2.1 bt218.2.2.2.1 bt218.2.2.2.2.1 bt218.2.2.2.2.2.1 bt218.2.2.2.2.2.2 a3).bind fun t225 => (if (t217 == t225) = true then (if bt163.1 = bt165.1 then (if bt163.2 = bt165.2 then (if bt167.1 = bt176.1 then (some (bt167.2 == bt176.2)) else (some false)) else (some false)) else (some false)) else (some false))))) else (some false)) else (some false))) else (some false))))) else (some false))))) else (some false))))))))) = some r := H
  have A5 := Aside0.mk A50
  clear A50
  replace H := Option.bind_eq_some_iff.mp H
  obtain ⟨⟨t145, t146, t147, t148, t149, t150, t151, t152⟩, A60, H⟩ := H
  replace H : ((shellgameref15_Read.f k a1_0 a1_1 a1_2 a1_3 a1_4 a1_5 a1_6 a1_7).bind fun bt154 => ((slot_Enter.f a2 a3).bind fun bt163 => ((shellgameref15_Enter.f k a2 a3).bind fun bt165 => ((slot_Use.f a2 a0_0 a0_1 a0_2 a0_3 a0_4 a0_5 a0_6 a3).bind fun bt167 => ((shellgamelaw15_as.f a0_0 a0_1 a0_2 a0_3 a0_4 a0_5 a0_6).bind fun bt169 => ((shellgameref15_Use.f k a2 bt169.1 bt169.2.1 bt169.2.2.1 bt169.2.2.2.1 bt169.2.2.2.2.1 bt169.2.2.2.2.2.1 bt169.2.2.2.2.2.2 a3).bind fun bt176 => (if t144 = true then ((slot_Right.f a0_0 a0_1 a0_2 a0_3 a0_4 a0_5 a0_6).bind fun t178 => ((shellgamelaw15_as.f a0_0 a0_1 a0_2 a0_3 a0_4 a0_5 a0_6).bind fun bt179 => ((shellgameref15_Right.f bt179.1 bt179.2.1 bt179.2.2.1 bt179.2.2.2.1 bt179.2.2.2.2.1 bt179.2.2.2.2.2.1 bt179.2.2.2.2.2.2).bind fun t186 => (if (t178 == t186) = true then ((slot_Data.f a0_0 a0_1 a0_2 a0_3 a0_4 a0_5 a0_6).bind fun bt187 => ((shellgamelaw15_as.f a0_0 a0_1 a0_2 a0_3 a0_4 a0_5 a0_6).bind fun bt195 => ((shellgameref15_Data.f bt195.1 bt195.2.1 bt195.2.2.1 bt195.2.2.2.1 bt195.2.2.2.2.1 bt195.2.2.2.2.2.1 bt195.2.2.2.2.2.2).bind fun bt202 => (if (bt187.1 == bt202.1 && (bt187.2.1 == bt202.2.1 && (bt187.2.2.1 == bt202.2.2.1 && (bt187.2.2.2.1 == bt202.2.2.2.1 && (bt187.2.2.2.2.1 == bt202.2.2.2.2.1 && (bt187.2.2.2.2.2.1 == bt202.2.2.2.2.2.1 && (bt187.2.2.2.2.2.2.1 == bt202.2.2.2.2.2.2.1 && (bt187.2.2.2.2.2.2.2 == bt202.2.2.2.2.2.2.2)))))))) = true then ((shellgamelaw15_as.f t145 t146 t147 t148 t149 t150 t151).bind fun bt210 => (if (bt210.1 == bt154.1 && (bt210.2.1 == bt154.2.1 && (bt210.2.2.1 == bt154.2.2.1 && (bt210.2.2.2.1 == bt154.2.2.2.1 && (bt210.2.2.2.2.1 == bt154.2.2.2.2.1 && (bt210.2.2.2.2.2.1 == bt154.2.2.2.2.2.1 && (bt210.2.2.2.2.2.2 == bt154.2.2.2.2.2.2.1))))))) = true then (if t152 = bt154.2.2.2.2.2.2.2 then ((slot_Expired.f a0_0 a0_1 a0_2 a0_3 a0_4 a0_5 a0_6 a3).bind fun t217 => ((shellgamelaw15_as.f a0_0 a0_1 a0_2 a0_3 a0_4 a0_5 a0_6).bind fun bt218 => ((shellgameref15_Expired.f bt218.1 bt218.2.1 bt218.2.2.1 bt218.2.2.2.1 bt218.2.2.2.2.1 bt218.2.2.2.2.2.1 bt218.2.2.2.2.2.2 a3).bind fun t225 => (if (t217 == t225) = true then (if bt163.1 = bt165.1 then (if bt163.2 = bt165.2 then (if bt167.1 = bt176.1 then (some (bt167.2 == bt176.2)) else (some false)) else (some false)) else (some false)) else (some false))))) else (some false)) else (some false))) else (some false))))) else (some false))))) else (some false)))))))) = some r := H
  have A6 := Aside0.mk A60
  clear A60
  replace H := Option.bind_eq_some_iff.mp H
  obtain ⟨⟨t154, t155, t156, t157, t158, t159, t160, t161⟩, A70, H⟩ := H
  replace H : ((slot_Enter.f a2 a3).bind fun bt163 => ((shellgameref15_Enter.f k a2 a3).bind fun bt165 => ((slot_Use.f a2 a0_0 a0_1 a0_2 a0_3 a0_4 a0_5 a0_6 a3).bind fun bt167 => ((shellgamelaw15_as.f a0_0 a0_1 a0_2 a0_3 a0_4 a0_5 a0_6).bind fun bt169 => ((shellgameref15_Use.f k a2 bt169.1 bt169.2.1 bt169.2.2.1 bt169.2.2.2.1 bt169.2.2.2.2.1 bt169.2.2.2.2.2.1 bt169.2.2.2.2.2.2 a3).bind fun bt176 => (if t144 = true then ((slot_Right.f a0_0 a0_1 a0_2 a0_3 a0_4 a0_5 a0_6).bind fun t178 => ((shellgamelaw15_as.f a0_0 a0_1 a0_2 a0_3 a0_4 a0_5 a0_6).bind fun bt179 => ((shellgameref15_Right.f bt179.1 bt179.2.1 bt179.2.2.1 bt179.2.2.2.1 bt179.2.2.2.2.1 bt179.2.2.2.2.2.1 bt179.2.2.2.2.2.2).bind fun t186 => (if (t178 == t186) = true then ((slot_Data.f a0_0 a0_1 a0_2 a0_3 a0_4 a0_5 a0_6).bind fun bt187 => ((shellgamelaw15_as.f a0_0 a0_1 a0_2 a0_3 a0_4 a0_5 a0_6).bind fun bt195 => ((shellgameref15_Data.f bt195.1 bt195.2.1 bt195.2.2.1 bt195.2.2.2.1 bt195.2.2.2.2.1 bt195.2.2.2.2.2.1 bt195.2.2.2.2.2.2).bind fun bt202 => (if (bt187.1 == bt202.1 && (bt187.2.1 == bt202.2.1 && (bt187.2.2.1 == bt202.2.2.1 && (bt187.2.2.2.1 == bt202.2.2.2.1 && (bt187.2.2.2.2.1 == bt202.2.2.2.2.1 && (bt187.2.2.2.2.2.1 == bt202.2.2.2.2.2.1 && (bt187.2.2.2.2.2.2.1 == bt202.2.2.2.2.2.2.1 && (bt187.2.2.2.2.2.2.2 == bt202.2.2.2.2.2.2.2)))))))) = true then ((shellgamelaw15_as.f t145 t146 t147 t148 t149 t150 t151).bind fun bt210 => (if (bt210.1 == t154 && (bt210.2.1 == t155 && (bt210.2.2.1 == t156 && (bt210.2.2.2.1 == t157 && (bt210.2.2.2.2.1 == t158 && (bt210.2.2.2.2.2.1 == t159 && (bt210.2.2.2.2.2.2 == t160))))))) = true then (if t152 = t161 then ((slot_Expired.f a0_0 a0_1 a0_2 a0_3 a0_4 a0_5 a0_6 a3).bind fun t217 => ((shellgamelaw15_as.f a0_0 a0_1 a0_2 a0_3 a0_4 a0_5 a0_6).bind fun bt218 => ((shellgameref15_Expired.f bt218.1 bt218.2.1 bt218.2.2.1 bt218.2.2.2.1 bt218.2.2.2.2.1 bt218.2.2.2.2.2.1 bt218.2.2.2.2.2.2 a3).bind fun t225 => (if (t217 == t225) = true then (if bt163.1 = bt165.1 then (if bt163.2 = bt165.2 then (if bt167.1 = bt176.1 then (some (bt167.2 == bt176.2)) else (some false)) else (some false)) else (some false)) else (some false))))) else (some false)) else (some false))) else (some false))))) else (some false))))) else (some false))))))) = some r := H
  have A7 := Aside0.mk A70
  clear A70
  replace H := Option.bind_eq_some_iff.mp H
  obtain ⟨⟨t163, t164⟩, A80, H⟩ := H
  replace H : ((shellgameref15_Enter.f k a2 a3).bind fun bt165 => ((slot_Use.f a2 a0_0 a0_1 a0_2 a0_3 a0_4 a0_5 a0_6 a3).bind fun bt167 => ((shellgamelaw15_as.f a0_0 a0_1 a0_2 a0_3 a0_4 a0_5 a0_6).bind fun bt169 => ((shellgameref15_Use.f k a2 bt169.1 bt169.2.1 bt169.2.2.1 bt169.2.2.2.1 bt169.2.2.2.2.1 bt169.2.2.2.2.2.1 bt169.2.2.2.2.2.2 a3).bind fun bt176 => (if t144 = true then ((slot_Right.f a0_0 a0_1 a0_2 a0_3 a0_4 a0_5 a0_6).bind fun t178 => ((shellgamelaw15_as.f a0_0 a0_1 a0_2 a0_3 a0_4 a0_5 a0_6).bind fun bt179 => ((shellgameref15_Right.f bt179.1 bt179.2.1 bt179.2.2.1 bt179.2.2.2.1 bt179.2.2.2.2.1 bt179.2.2.2.2.2.1 bt179.2.2.2.2.2.2).bind fun t186 => (if (t178 == t186) = true then ((slot_Data.f a0_0 a0_1 a0_2 a0_3 a0_4 a0_5 a0_6).bind fun bt187 => ((shellgamelaw15_as.f a0_0 a0_1 a0_2 a0_3 a0_4 a0_5 a0_6).bind fun bt195 => ((shellgameref15_Data.f bt195.1 bt195.2.1 bt195.2.2.1 bt195.2.2.2.1 bt195.2.2.2.2.1 bt195.2.2.2.2.2.1 bt195.2.2.2.2.2.2).bind fun bt202 => (if (bt187.1 == bt202.1 && (bt187.2.1 == bt202.2.1 && (bt187.2.2.1 == bt202.2.2.1 && (bt187.2.2.2.1 == bt202.2.2.2.1 && (bt187.2.2.2.2.1 == bt202.2.2.2.2.1 && (bt187.2.2.2.2.2.1 == bt202.2.2.2.2.2.1 && (bt187.2.2.2.2.2.2.1 == bt202.2.2.2.2.2.2.1 && (bt187.2.2.2.2.2.2.2 == bt202.2.2.2.2.2.2.2)))))))) = true then ((shellgamelaw15_as.f t145 t146 t147 t148 t149 t150 t151).bind fun bt210 => (if (bt210.1 == t154 && (bt210.2.1 == t155 && (bt210.2.2.1 == t156 && (bt210.2.2.2.1 == t157 && (bt210.2.2.2.2.1 == t158 && (bt210.2.2.2.2.2.1 == t159 && (bt210.2.2.2.2.2.2 == t160))))))) = true then (if t152 = t161 then ((slot_Expired.f a0_0 a0_1 a0_2 a0_3 a0_4 a0_5 a0_6 a3).bind fun t217 => ((shellgamelaw15_as.f a0_0 a0_1 a0_2 a0_3 a0_4 a0_5 a0_6).bind fun bt218 => ((shellgameref15_Expired.f bt218.1 bt218.2.1 bt218.2.2.1 bt218.2.2.2.1 bt218.2.2.2.2.1 bt218.2.2.2.2.2.1 bt218.2.2.2.2.2.2 a3).bind fun t225 => (if (t217 == t225) = true then (if t163 = bt165.1 then (if t164 = bt165.2 then (if bt167.1 = bt176.1 then (some (bt167.2 == bt176.2)) else (some false)) else (some false)) else (some false)) else (some false))))) else (some false)) else (some false))) else (some false))))) else (some false))))) else (some false)))))) = some r := H
  have A8 := Aside0.mk A80
  clear A80
  replace H := Option.bind_eq_some_iff.mp H
  obtain ⟨⟨t165, t166⟩, A90, H⟩ := H
  replace H : ((slot_Use.f a2 a0_0 a0_1 a0_2 a0_3 a0_4 a0_5 a0_6 a3).bind fun bt167 => ((shellgamelaw15_as.f a0_0 a0_1 a0_2 a0_3 a0_4 a0_5 a0_6).bind fun bt169 => ((shellgameref15_Use.f k a2 bt169.1 bt169.2.1 bt169.2.2.1 bt169.2.2.2.1 bt169.2.2.2.2.1 bt169.2.2.2.2.2.1 bt169.2.2.2.2.2.2 a3).bind fun bt176 => (if t144 = true then ((slot_Right.f a0_0 a0_1 a0_2 a0_3 a0_4 a0_5 a0_6).bind fun t178 => ((shellgamelaw15_as.f a0_0 a0_1 a0_2 a0_3 a0_4 a0_5 a0_6).bind fun bt179 => ((shellgameref15_Right.f bt179.1 bt179.2.1 bt179.2.2.1 bt179.2.2.2.1 bt179.2.2.2.2.1 bt179.2.2.2.2.2.1 bt179.2.2.2.2.2.2).bind fun t186 => (if (t178 == t186) = true then ((slot_Data.f a0_0 a0_1 a0_2 a0_3 a0_4 a0_5 a0_6).bind fun bt187 => ((shellgamelaw15_as.f a0_0 a0_1 a0_2 a0_3 a0_4 a0_5 a0_6).bind fun bt195 => ((shellgameref15_Data.f bt195.1 bt195.2.1 bt195.2.2.1 bt195.2.2.2.1 bt195.2.2.2.2.1 bt195.2.2.2.2.2.1 bt195.2.2.2.2.2.2).bind fun bt202 => (if (bt187.1 == bt202.1 && (bt187.2.1 == bt202.2.1 && (bt187.2.2.1 == bt202.2.2.1 && (bt187.2.2.2.1 == bt202.2.2.2.1 && (bt187.2.2.2.2.1 == bt202.2.2.2.2.1 && (bt187.2.2.2.2.2.1 == bt202.2.2.2.2.2.1 && (bt187.2.2.2.2.2.2.1 == bt202.2.2.2.2.2.2.1 && (bt187.2.2.2.2.2.2.2 == bt202.2.2.2.2.2.2.2)))))))) = true then ((shellgamelaw15_as.f t145 t146 t147 t148 t149 t150 t151).bind fun bt210 => (if (bt210.1 == t154 && (bt210.2.1 == t155 && (bt210.2.2.1 == t156 && (bt210.2.2.2.1 == t157 && (bt210.2.2.2.2.1 == t158 && (bt210.2.2.2.2.2.1 == t159 && (bt210.2.2.2.2.2.2 == t160))))))) = true then (if t152 = t161 then ((slot_Expired.f a0_0 a0_1 a0_2 a0_3 a0_4 a0_5 a0_6 a3).bind fun t217 => ((shellgamelaw15_as.f a0_0 a0_1 a0_2 a0_3 a0_4 a0_5 a0_6).bind fun bt218 => ((shellgameref15_Expired.f bt218.1 bt218.2.1 bt218.2.2.1 bt218.2.2.2.1 bt218.2.2.2.2.1 bt218.2.2.2.2.2.1 bt218.2.2.2.2.2.2 a3).bind fun t225 => (if (t217 == t225) = true then (if t163 = t165 then (if t164 = t166 then (if bt167.1 = bt176.1 then (some (bt167.2 == bt176.2)) else (some false)) else (some false)) else (some false)) else (some false))))) else (some false)) else (some false))) else (some false))))) else (some false))))) else (some false))))) = some r := H
  have A9 := Aside0.mk A90
  clear A90
  replace H := Option.bind_eq_some_iff.mp H
  obtain ⟨⟨t167, t168⟩, A100, H⟩ := H
  replace H : ((shellgamelaw15_as.f a0_0 a0_1 a0_2 a0_3 a0_4 a0_5 a0_6).bind fun bt169 => ((shellgameref15_Use.f k a2 bt169.1 bt169.2.1 bt169.2.2.1 bt169.2.2.2.1 bt169.2.2.2.2.1 bt169.2.2.2.2.2.1 bt169.2.2.2.2.2.2 a3).bind fun bt176 => (if t144 = true then ((slot_Right.f a0_0 a0_1 a0_2 a0_3 a0_4 a0_5 a0_6).bind fun t178 => ((shellgamelaw15_as.f a0_0 a0_1 a0_2 a0_3 a0_4 a0_5 a0_6).bind fun bt179 => ((shellgameref15_Right.f bt179.1 bt179.2.1 bt179.2.2.1 bt179.2.2.2.1 bt179.2.2.2.2.1 bt179.2.2.2.2.2.1 bt179.2.2.2.2.2.2).bind fun t186 => (if (t178 == t186) = true then ((slot_Data.f a0_0 a0_1 a0_2 a0_3 a0_4 a0_5 a0_6).bind fun bt187 => ((shellgamelaw15_as.f a0_0 a0_1 a0_2 a0_3 a0_4 a0_5 a0_6).bind fun bt195 => ((shellgameref15_Data.f bt195.1 bt195.2.1 bt195.2.2.1 bt195.2.2.2.1 bt195.2.2.2.2.1 bt195.2.2.2.2.2.1 bt195.2.2.2.2.2.2).bind fun bt202 => (if (bt187.1 == bt202.1 && (bt187.2.1 == bt202.2.1 && (bt187.2.2.1 == bt202.2.2.1 && (bt187.2.2.2.1 == bt202.2.2.2.1 && (bt187.2.2.2.2.1 == bt202.2.2.2.2.1 && (bt187.2.2.2.2.2.1 == bt202.2.2.2.2.2.1 && (bt187.2.2.2.2.2.2.1 == bt202.2.2.2.2.2.2.1 && (bt187.2.2.2.2.2.2.2 == bt202.2.2.2.2.2.2.2)))))))) = true then ((shellgamelaw15_as.f t145 t146 t147 t148 t149 t150 t151).bind fun bt210 => (if (bt210.1 == t154 && (bt210.2.1 == t155 && (bt210.2.2.1 == t156 && (bt210.2.2.2.1 == t157 && (bt210.2.2.2.2.1 == t158 && (bt210.2.2.2.2.2.1 == t159 && (bt210.2.2.2.2.2.2 == t160))))))) = true then (if t152 = t161 then ((slot_Expired.f a0_0 a0_1 a0_2 a0_3 a0_4 a0_5 a0_6 a3).bind fun t217 => ((shellgamelaw15_as.f a0_0 a0_1 a0_2 a0_3 a0_4 a0_5 a0_6).bind fun bt218 => ((shellgameref15_Expired.f bt218.1 bt218.2.1 bt218.2.2.1 bt218.2.2.2.1 bt218.2.2.2.2.1 bt218.2.2.2.2.2.1 bt218.2.2.2.2.2.2 a3).bind fun t225 => (if (t217 == t225) = true then (if t163 = t165 then (if t164 = t166 then (if t167 = bt176.1 then (some (t168 == bt176.2)) else (some false)) else (some false)) else (some false)) else (some false))))) else (some false)) else (some false))) else (some false))))) else (some false))))) else (some false)))) = some r := H
  have A10 := Aside0.mk A100
  clear A100
  replace H := Option.bind_eq_some_iff.mp H
  obtain ⟨⟨t169, t170, t171, t172, t173, t174, t175⟩, A110, H⟩ := H
  replace H : ((shellgameref15_Use.f k a2 t169 t170 t171 t172 t173 t174 t175 a3).bind fun bt176 => (if t144 = true then ((slot_Right.f a0_0 a0_1 a0_2 a0_3 a0_4 a0_5 a0_6).bind fun t178 => ((shellgamelaw15_as.f a0_0 a0_1 a0_2 a0_3 a0_4 a0_5 a0_6).bind fun bt179 => ((shellgameref15_Right.f bt179.1 bt179.2.1 bt179.2.2.1 bt179.2.2.2.1 bt179.2.2.2.2.1 bt179.2.2.2.2.2.1 bt179.2.2.2.2.2.2).bind fun t186 => (if (t178 == t186) = true then ((slot_Data.f a0_0 a0_1 a0_2 a0_3 a0_4 a0_5 a0_6).bind fun bt187 => ((shellgamelaw15_as.f a0_0 a0_1 a0_2 a0_3 a0_4 a0_5 a0_6).bind fun bt195 => ((shellgameref15_Data.f bt195.1 bt195.2.1 bt195.2.2.1 bt195.2.2.2.1 bt195.2.2.2.2.1 bt195.2.2.2.2.2.1 bt195.2.2.2.2.2.2).bind fun bt202 => (if (bt187.1 == bt202.1 && (bt187.2.1 == bt202.2.1 && (bt187.2.2.1 == bt202.2.2.1 && (bt187.2.2.2.1 == bt202.2.2.2.1 && (bt187.2.2.2.2.1 == bt202.2.2.2.2.1 && (bt187.2.2.2.2.2.1 == bt202.2.2.2.2.2.1 && (bt187.2.2.2.2.2.2.1 == bt202.2.2.2.2.2.2.1 && (bt187.2.2.2.2.2.2.2 == bt202.2.2.2.2.2.2.2)))))))) = true then ((shellgamelaw15_as.f t145 t146 t147 t148 t149 t150 t151).bind fun bt210 => (if (bt210.1 == t154 && (bt210.2.1 == t155 && (bt210.2.2.1 == t156 && (bt210.2.2.2.1 == t157 && (bt210.2.2.2.2.1 == t158 && (bt210.2.2.2.2.2.1 == t159 && (bt210.2.2.2.2.2.2 == t160))))))) = true then (if t152 = t161 then ((slot_Expired.f a0_0 a0_1 a0_2 a0_3 a0_4 a0_5 a0_6 a3).bind fun t217 => ((shellgamelaw15_as.f a0_0 a0_1 a0_2 a0_3 a0_4 a0_5 a0_6).bind fun bt218 => ((shellgameref15_Expired.f bt218.1 bt218.2.1 bt218.2.2.1 bt218.2.2.2.1 bt218.2.2.2.2.1 bt218.2.2.2.2.2.1 bt218.2.2.2.2.2.2 a3).bind fun t225 => (if (t217 == t225) = true then (if t163 = t165 then (if t164 = t166 then (if t167 = bt176.1 then (some (t168 == bt176.2)) else (some false)) else (some false)) else (some false)) else (some false))))) else (some false)) else (some false))) else (some false))))) else (some false))))) else (some false))) = some r := H
  have A11 := Aside0.mk A110
  clear A110
  replace H := Option.bind_eq_some_iff.mp H
  obtain ⟨⟨t176, t177⟩, A120, H⟩ := H
  replace H : (if t144 = true then ((slot_Right.f a0_0 a0_1 a0_2 a0_3 a0_4 a0_5 a0_6).bind fun t178 => ((shellgamelaw15_as.f a0_0 a0_1 a0_2 a0_3 a0_4 a0_5 a0_6).bind fun bt179 => ((shellgameref15_Right.f bt179.1 bt179.2.1 bt179.2.2.1 bt179.2.2.2.1 bt179.2.2.2.2.1 bt179.2.2.2.2.2.1 bt179.2.2.2.2.2.2).bind fun t186 => (if (t178 == t186) = true then ((slot_Data.f a0_0 a0_1 a0_2 a0_3 a0_4 a0_5 a0_6).bind fun bt187 => ((shellgamelaw15_as.f a0_0 a0_1 a0_2 a0_3 a0_4 a0_5 a0_6).bind fun bt195 => ((shellgameref15_Data.f bt195.1 bt195.2.1 bt195.2.2.1 bt195.2.2.2.1 bt195.2.2.2.2.1 bt195.2.2.2.2.2.1 bt195.2.2.2.2.2.2).bind fun bt202 => (if (bt187.1 == bt202.1 && (bt187.2.1 == bt202.2.1 && (bt187.2.2.1 == bt202.2.2.1 && (bt187.2.2.2.1 == bt202.2.2.2.1 && (bt187.2.2.2.2.1 == bt202.2.2.2.2.1 && (bt187.2.2.2.2.2.1 == bt202.2.2.2.2.2.1 && (bt187.2.2.2.2.2.2.1 == bt202.2.2.2.2.2.2.1 && (bt187.2.2.2.2.2.2.2 == bt202.2.2.2.2.2.2.2)))))))) = true then ((shellgamelaw15_as.f t145 t146 t147 t148 t149 t150 t151).bind fun bt210 => (if (bt210.1 == t154 && (bt210.2.1 == t155 && (bt210.2.2.1 == t156 && (bt210.2.2.2.1 == t157 && (bt210.2.2.2.2.1 == t158 && (bt210.2.2.2.2.2.1 == t159 && (bt210.2.2.2.2.2.2 == t160))))))) = true then (if t152 = t161 then ((slot_Expired.f a0_0 a0_1 a0_2 a0_3 a0_4 a0_5 a0_6 a3).bind fun t217 => ((shellgamelaw15_as.f a0_0 a0_1 a0_2 a0_3 a0_4 a0_5 a0_6).bind fun bt218 => ((shellgameref15_Expired.f bt218.1 bt218.2.1 bt218.2.2.1 bt218.2.2.2.1 bt218.2.2.2.2.1 bt218.2.2.2.2.2.1 bt218.2.2.2.2.2.2 a3).bind fun t225 => (if (t217 == t225) = true then (if t163 = t165 then (if t164 = t166 then (if t167 = t176 then (some (t168 == t177)) else (some false)) else (some false)) else (some false)) else (some false))))) else (some false)) else (some false))) else (some false))))) else (some false))))) else (some false)) = some r := H
  have A12 := Aside0.mk A120
  clear A120
  by_cases c13 : t144 = true
  · subst c13
    have H1 : ((slot_Right.f a0_0 a0_1 a0_2 a0_3 a0_4 a0_5 a0_6).bind fun t178 => ((shellgamelaw15_as.f a0_0 a0_1 a0_2 a0_3 a0_4 a0_5 a0_6).bind fun bt179 => ((shellgameref15_Right.f bt179.1 bt179.2.1 bt179.2.2.1 bt179.2.2.2.1 bt179.2.2.2.2.1 bt179.2.2.2.2.2.1 bt179.2.2.2.2.2.2).bind fun t186 => (if (t178 == t186) = true then ((slot_Data.f a0_0 a0_1 a0_2 a0_3 a0_4 a0_5 a0_6).bind fun bt187 => ((shellgamelaw15_as.f a0_0 a0_1 a0_2 a0_3 a0_4 a0_5 a0_6).bind fun bt195 => ((shellgameref15_Data.f bt195.1 bt195.2.1 bt195.2.2.1 bt195.2.2.2.1 bt195.2.2.2.2.1 bt195.2.2.2.2.2.1 bt195.2.2.2.2.2.2).bind fun bt202 => (if (bt187.1 == bt202.1 && (bt187.2.1 == bt202.2.1 && (bt187.2.2.1 == bt202.2.2.1 && (bt187.2.2.2.1 == bt202.2.2.2.1 && (bt187.2.2.2.2.1 == bt202.2.2.2.2.1 && (bt187.2.2.2.2.2.1 == bt202.2.2.2.2.2.1 && (bt187.2.2.2.2.2.2.1 == bt202.2.2.2.2.2.2.1 && (bt187.2.2.2.2.2.2.2 == bt202.2.2.2.2.2.2.2)))))))) = true then ((shellgamelaw15_as.f t145 t146 t147 t148 t149 t150 t151).bind fun bt210 => (if (bt210.1 == t154 && (bt210.2.1 == t155 && (bt210.2.2.1 == t156 && (bt210.2.2.2.1 == t157 && (bt210.2.2.2.2.1 == t158 && (bt210.2.2.2.2.2.1 == t159 && (bt210.2.2.2.2.2.2 == t160))))))) = true then (if t152 = t161 then ((slot_Expired.f a0_0 a0_1 a0_2 a0_3 a0_4 a0_5 a0_6 a3).bind fun t217 => ((shellgamelaw15_as.f a0_0 a0_1 a0_2 a0_3 a0_4 a0_5 a0_6).bind fun bt218 => ((shellgameref15_Expired.f bt218.1 bt218.2.1 bt218.2.2.1 bt218.2.2.2.1 bt218.2.2.2.2.1 bt218.2.2.2.2.2.1 bt218.2.2.2.2.2.2 a3).bind fun t225 => (if (t217 == t225) = true then (if t163 = t165 then (if t164 = t166 then (if t167 = t176 then (some (t168 == t177)) else (some false)) else (some false)) else (some false)) else (some false))))) else (some false)) else (some false))) else (some false))))) else (some false))))) = some r := by rw [if_pos rfl] at H; exact H
    clear H
    have H := H1
    clear H1
    replace H := Option.bind_eq_some_iff.mp H
    obtain ⟨t178, A140, H⟩ := H
    replace H : ((shellgamelaw15_as.f a0_0 a0_1 a0_2 a0_3 a0_4 a0_5 a0_6).bind fun bt179 => ((shellgameref15_Right.f bt179.1 bt179.2.1 bt179.2.2.1 bt179.2.2.2.1 bt179.2.2.2.2.1 bt179.2.2.2.2.2.1 bt179.2.2.2.2.2.2).bind fun t186 => (if (t178 == t186) = true then ((slot_Data.f a0_0 a0_1 a0_2 a0_3 a0_4 a0_5 a0_6).bind fun bt187 => ((shellgamelaw15_as.f a0_0 a0_1 a0_2 a0_3 a0_4 a0_5 a0_6).bind fun bt195 => ((shellgameref15_Data.f bt195.1 bt195.2.1 bt195.2.2.1 bt195.2.2.2.1 bt195.2.2.2.2.1 bt195.2.2.2.2.2.1 bt195.2.2.2.2.2.2).bind fun bt202 => (if (bt187.1 == bt202.1 && (bt187.2.1 == bt202.2.1 && (bt187.2.2.1 == bt202.2.2.1 && (bt187.2.2.2.1 == bt202.2.2.2.1 && (bt187.2.2.2.2.1 == bt202.2.2.2.2.1 && (bt187.2.2.2.2.2.1 == bt202.2.2.2.2.2.1 && (bt187.2.2.2.2.2.2.1 == bt202.2.2.2.2.2.2.1 && (bt187.2.2.2.2.2.2.2 == bt202.2.2.2.2.2.2.2)))))))) = true then ((shellgamelaw15_as.f t145 t146 t147 t148 t149 t150 t151).bind fun bt210 => (if (bt210.1 == t154 && (bt210.2.1 == t155 && (bt210.2.2.1 == t156 && (bt210.2.2.2.1 == t157 && (bt210.2.2.2.2.1 == t158 && (bt210.2.2.2.2.2.1 == t159 && (bt210.2.2.2.2.2.2 == t160))))))) = true then (if t152 = t161 then ((slot_Expired.f a0_0 a0_1 a0_2 a0_3 a0_4 a0_5 a0_6 a3).bind fun t217 => ((shellgamelaw15_as.f a0_0 a0_1 a0_2 a0_3 a0_4 a0_5 a0_6).bind fun bt218 => ((shellgameref15_Expired.f bt218.1 bt218.2.1 bt218.2.2.1 bt218.2.2.2.1 bt218.2.2.2.2.1 bt218.2.2.2.2.2.1 bt218.2.2.2.2.2.2 a3).bind fun t225 => (if (t217 == t225) = true then (if t163 = t165 then (if t164 = t166 then (if t167 = t176 then (some (t168 == t177)) else (some false)) else (some false)) else (some false)) else (some false))))) else (some false)) else (some false))) else (some false))))) else (some false)))) = some r := H
    have A14 := Aside0.mk A140
    clear A140
    replace H := Option.bind_eq_some_iff.mp H
    obtain ⟨⟨t179, t180, t181, t182, t183, t184, t185⟩, A150, H⟩ := H
    replace H : ((shellgameref15_Right.f t179 t180 t181 t182 t183 t184 t185).bind fun t186 => (if (t178 == t186) = true then ((slot_Data.f a0_0 a0_1 a0_2 a0_3 a0_4 a0_5 a0_6).bind fun bt187 => ((shellgamelaw15_as.f a0_0 a0_1 a0_2 a0_3 a0_4 a0_5 a0_6).bind fun bt195 => ((shellgameref15_Data.f bt195.1 bt195.2.1 bt195.2.2.1 bt195.2.2.2.1 bt195.2.2.2.2.1 bt195.2.2.2.2.2.1 bt195.2.2.2.2.2.2).bind fun bt202 => (if (bt187.1 == bt202.1 && (bt187.2.1 == bt202.2.1 && (bt187.2.2.1 == bt202.2.2.1 && (bt187.2.2.2.1 == bt202.2.2.2.1 && (bt187.2.2.2.2.1 == bt202.2.2.2.2.1 && (bt187.2.2.2.2.2.1 == bt202.2.2.2.2.2.1 && (bt187.2.2.2.2.2.2.1 == bt202.2.2.2.2.2.2.1 && (bt187.2.2.2.2.2.2.2 == bt202.2.2.2.2.2.2.2)))))))) = true then ((shellgamelaw15_as.f t145 t146 t147 t148 t149 t150 t151).bind fun bt210 => (if (bt210.1 == t154 && (bt210.2.1 == t155 && (bt210.2.2.1 == t156 && (bt210.2.2.2.1 == t157 && (bt210.2.2.2.2.1 == t158 && (bt210.2.2.2.2.2.1 == t159 && (bt210.2.2.2.2.2.2 == t160))))))) = true then (if t152 = t161 then ((slot_Expired.f a0_0 a0_1 a0_2 a0_3 a0_4 a0_5 a0_6 a3).bind fun t217 => ((shellgamelaw15_as.f a0_0 a0_1 a0_2 a0_3 a0_4 a0_5 a0_6).bind fun bt218 => ((shellgameref15_Expired.f bt218.1 bt218.2.1 bt218.2.2.1 bt218.2.2.2.1 bt218.2.2.2.2.1 bt218.2.2.2.2.2.1 bt218.2.2.2.2.2.2 a3).bind fun t225 => (if (t217 == t225) = true then (if t163 = t165 then (if t164 = t166 then (if t167 = t176 then (some (t168 == t177)) else (some false)) else (some false)) else (some false)) else (some false))))) else (some false)) else (some false))) else (some false))))) else (some false))) = some r := H
    have A15 := Aside0.mk A150
    clear A150
    replace H := Option.bind_eq_some_iff.mp H
    obtain ⟨t186, A160, H⟩ := H
    replace H : (if (t178 == t186) = true then ((slot_Data.f a0_0 a0_1 a0_2 a0_3 a0_4 a0_5 a0_6).bind fun bt187 => ((shellgamelaw15_as.f a0_0 a0_1 a0_2 a0_3 a0_4 a0_5 a0_6).bind fun bt195 => ((shellgameref15_Data.f bt195.1 bt195.2.1 bt195.2.2.1 bt195.2.2.2.1 bt195.2.2.2.2.1 bt195.2.2.2.2.2.1 bt195.2.2.2.2.2.2).bind fun bt202 => (if (bt187.1 == bt202.1 && (bt187.2.1 == bt202.2.1 && (bt187.2.2.1 == bt202.2.2.1 && (bt187.2.2.2.1 == bt202.2.2.2.1 && (bt187.2.2.2.2.1 == bt202.2.2.2.2.1 && (bt187.2.2.2.2.2.1 == bt202.2.2.2.2.2.1 && (bt187.2.2.2.2.2.2.1 == bt202.2.2.2.2.2.2.1 && (bt187.2.2.2.2.2.2.2 == bt202.2.2.2.2.2.2.2)))))))) = true then ((shellgamelaw15_as.f t145 t146 t147 t148 t149 t150 t151).bind fun bt210 => (if (bt210.1 == t154 && (bt210.2.1 == t155 && (bt210.2.2.1 == t156 && (bt210.2.2.2.1 == t157 && (bt210.2.2.2.2.1 == t158 && (bt210.2.2.2.2.2.1 == t159 && (bt210.2.2.2.2.2.2 == t160))))))) = true then (if t152 = t161 then ((slot_Expired.f a0_0 a0_1 a0_2 a0_3 a0_4 a0_5 a0_6 a3).bind fun t217 => ((shellgamelaw15_as.f a0_0 a0_1 a0_2 a0_3 a0_4 a0_5 a0_6).bind fun bt218 => ((shellgameref15_Expired.f bt218.1 bt218.2.1 bt218.2.2.1 bt218.2.2.2.1 bt218.2.2.2.2.1 bt218.2.2.2.2.2.1 bt218.2.2.2.2.2.2 a3).bind fun t225 => (if (t217 == t225) = true then (if t163 = t165 then (if t164 = t166 then (if t167 = t176 then (some (t168 == t177)) else (some false)) else (some false)) else (some false)) else (some false))))) else (some false)) else (some false))) else (some false))))) else (some false)) = some r := H
    have A16 := Aside0.mk A160
    clear A160
    by_cases c17 : (t178 == t186) = true
    · rw [if_pos c17] at H
      have c17b0 : (t178 == t186) = true := c17
      (try (have c17b1 : decide (t178 = t186) = true := by simpa using c17))
      (try (have c17b2 : (t178 == t186) = true := by simpa using c17))
      clear c17
      replace H := Option.bind_eq_some_iff.mp H
      obtain ⟨⟨t187, t188, t189, t190, t191, t192, t193, t194⟩, A180, H⟩ := H
      replace H : ((shellgamelaw15_as.f a0_0 a0_1 a0_2 a0_3 a0_4 a0_5 a0_6).bind fun bt195 => ((shellgameref15_Data.f bt195.1 bt195.2.1 bt195.2.2.1 bt195.2.2.2.1 bt195.2.2.2.2.1 bt195.2.2.2.2.2.1 bt195.2.2.2.2.2.2).bind fun bt202 => (if (t187 == bt202.1 && (t188 == bt202.2.1 && (t189 == bt202.2.2.1 && (t190 == bt202.2.2.2.1 && (t191 == bt202.2.2.2.2.1 && (t192 == bt202.2.2.2.2.2.1 && (t193 == bt202.2.2.2.2.2.2.1 && (t194 == bt202.2.2.2.2.2.2.2)))))))) = true then ((shellgamelaw15_as.f t145 t146 t147 t148 t149 t150 t151).bind fun bt210 => (if (bt210.1 == t154 && (bt210.2.1 == t155 && (bt210.2.2.1 == t156 && (bt210.2.2.2.1 == t157 && (bt210.2.2.2.2.1 == t158 && (bt210.2.2.2.2.2.1 == t159 && (bt210.2.2.2.2.2.2 == t160))))))) = true then (if t152 = t161 then ((slot_Expired.f a0_0 a0_1 a0_2 a0_3 a0_4 a0_5 a0_6 a3).bind fun t217 => ((shellgamelaw15_as.f a0_0 a0_1 a0_2 a0_3 a0_4 a0_5 a0_6).bind fun bt218 => ((shellgameref15_Expired.f bt218.1 bt218.2.1 bt218.2.2.1 bt218.2.2.2.1 bt218.2.2.2.2.1 bt218.2.2.2.2.2.1 bt218.2.2.2.2.2.2 a3).bind fun t225 => (if (t217 == t225) = true then (if t163 = t165 then (if t164 = t166 then (if t167 = t176 then (some (t168 == t177)) else (some false)) else (some false)) else (some false)) else (some false))))) else (some false)) else (some false))) else (some false)))) = some r := H
      have A18 := Aside0.mk A180
      clear A180
      replace H := Option.bind_eq_some_iff.mp H
      obtain ⟨⟨t195, t196, t197, t198, t199, t200, t201⟩, A190, H⟩ := H
      replace H : ((shellgameref15_Data.f t195 t196 t197 t198 t199 t200 t201).bind fun bt202 => (if (t187 == bt202.1 && (t188 == bt202.2.1 && (t189 == bt202.2.2.1 && (t190 == bt202.2.2.2.1 && (t191 == bt202.2.2.2.2.1 && (t192 == bt202.2.2.2.2.2.1 && (t193 == bt202.2.2.2.2.2.2.1 && (t194 == bt202.2.2.2.2.2.2.2)))))))) = true then ((shellgamelaw15_as.f t145 t146 t147 t148 t149 t150 t151).bind fun bt210 => (if (bt210.1 == t154 && (bt210.2.1 == t155 && (bt210.2.2.1 == t156 && (bt210.2.2.2.1 == t157 && (bt210.2.2.2.2.1 == t158 && (bt210.2.2.2.2.2.1 == t159 && (bt210.2.2.2.2.2.2 == t160))))))) = true then (if t152 = t161 then ((slot_Expired.f a0_0 a0_1 a0_2 a0_3 a0_4 a0_5 a0_6 a3).bind fun t217 => ((shellgamelaw15_as.f a0_0 a0_1 a0_2 a0_3 a0_4 a0_5 a0_6).bind fun bt218 => ((shellgameref15_Expired.f bt218.1 bt218.2.1 bt218.2.2.1 bt218.2.2.2.1 bt218.2.2.2.2.1 bt218.2.2.2.2.2.1 bt218.2.2.2.2.2.2 a3).bind fun t225 => (if (t217 == t225) = true then (if t163 = t165 then (if t164 = t166 then (if t167 = t176 then (some (t168 == t177)) else (some false)) else (some false)) else (some false)) else (some false))))) else (some false)) else (some false))) else (some false))) = some r := H
      have A19 := Aside0.mk A190
      clear A190
      replace H := Option.bind_eq_some_iff.mp H
      obtain ⟨⟨t202, t203, t204, t205, t206, t207, t208, t209⟩, A200, H⟩ := H
      replace H : (if (t187 == t202 && (t188 == t203 && (t189 == t204 && (t190 == t205 && (t191 == t206 && (t192 == t207 && (t193 == t208 && (t194 == t209)))))))) = true then ((shellgamelaw15_as.f t145 t146 t147 t148 t149 t150 t151).bind fun bt210 => (if (bt210.1 == t154 && (bt210.2.1 == t155 && (bt210.2.2.1 == t156 && (bt210.2.2.2.1 == t157 && (bt210.2.2.2.2.1 == t158 && (bt210.2.2.2.2.2.1 == t159 && (bt210.2.2.2.2.2.2 == t160))))))) = true then (if t152 = t161 then ((slot_Expired.f a0_0 a0_1 a0_2 a0_3 a0_4 a0_5 a0_6 a3).bind fun t217 => ((shellgamelaw15_as.f a0_0 a0_1 a0_2 a0_3 a0_4 a0_5 a0_6).bind fun bt218 => ((shellgameref15_Expired.f bt218.1 bt218.2.1 bt218.2.2.1 bt218.2.2.2.1 bt218.2.2.2.2.1 bt218.2.2.2.2.2.1 bt218.2.2.2.2.2.2 a3).bind fun t225 => (if (t217 == t225) = true then (if t163 = t165 then (if t164 = t166 then (if t167 = t176 then (some (t168 == t177)) else (some false)) else (some false)) else (some false)) else (some false))))) else (some false)) else (some false))) else (some false)) = some r := H
      have A20 := Aside0.mk A200
      clear A200
      by_cases c21 : (t187 == t202 && (t188 == t203 && (t189 == t204 && (t190 == t205 && (t191 == t206 && (t192 == t207 && (t193 == t208 && (t194 == t209)))))))) = true
      · rw [if_pos c21] at H
        have c21b0 : (t187 == t202 && (t188 == t203 && (t189 == t204 && (t190 == t205 && (t191 == t206 && (t192 == t207 && (t193 == t208 && (t194 == t209)))))))) = true := c21
        (try (have c21b1 : decide (t187 = t202 && (t188 == t203 && (t189 == t204 && (t190 == t205 && (t191 == t206 && (t192 == t207 && (t193 == t208 && (t194 == t209)))))))) = true := by simpa using c21))
        (try (have c21b2 : (t187 == t202 && (t188 == t203 && (t189 == t204 && (t190 == t205 && (t191 == t206 && (t192 == t207 && (t193 == t208 && (t194 == t209)))))))) = true := by simpa using c21))
        clear c21
        replace H := Option.bind_eq_some_iff.mp H
        obtain ⟨⟨t210, t211, t212, t213, t214, t215, t216⟩, A220, H⟩ := H
        replace H : (if (t210 == t154 && (t211 == t155 && (t212 == t156 && (t213 == t157 && (t214 == t158 && (t215 == t159 && (t216 == t160))))))) = true then (if t152 = t161 then ((slot_Expired.f a0_0 a0_1 a0_2 a0_3 a0_4 a0_5 a0_6 a3).bind fun t217 => ((shellgamelaw15_as.f a0_0 a0_1 a0_2 a0_3 a0_4 a0_5 a0_6).bind fun bt218 => ((shellgameref15_Expired.f bt218.1 bt218.2.1 bt218.2.2.1 bt218.2.2.2.1 bt218.2.2.2.2.1 bt218.2.2.2.2.2.1 bt218.2.2.2.2.2.2 a3).bind fun t225 => (if (t217 == t225) = true then (if t163 = t165 then (if t164 = t166 then (if t167 = t176 then (some (t168 == t177)) else (some false)) else (some false)) else (some false)) else (some false))))) else (some false)) else (some false)) = some r := H
        have A22 := Aside0.mk A220
        clear A220
        by_cases c23 : (t210 == t154 && (t211 == t155 && (t212 == t156 && (t213 == t157 && (t214 == t158 && (t215 == t159 && (t216 == t160))))))) = true
        · rw [if_pos c23] at H
          have c23b0 : (t210 == t154 && (t211 == t155 && (t212 == t156 && (t213 == t157 && (t214 == t158 && (t215 == t159 && (t216 == t160))))))) = true := c23
          (try (have c23b1 : decide (t210 = t154 && (t211 == t155 && (t212 == t156 && (t213 == t157 && (t214 == t158 && (t215 == t159 && (t216 == t160))))))) = true := by simpa using c23))
          (try (have c23b2 : (t210 == t154 && (t211 == t155 && (t212 == t156 && (t213 == t157 && (t214 == t158 && (t215 == t159 && (t216 == t160))))))) = true := by simpa using c23))
          clear c23
          by_cases c24 : t152 = t161
          · rw [if_pos c24] at H
            have c24b0 : (t152 == t161) = true := beq_iff_eq.mpr c24
            have c24b1 : (t152 != t161) = false := bne_eq_false_iff_eq.mpr c24
            clear c24
            replace H := Option.bind_eq_some_iff.mp H
            obtain ⟨t217, A250, H⟩ := H
            replace H : ((shellgamelaw15_as.f a0_0 a0_1 a0_2 a0_3 a0_4 a0_5 a0_6).bind fun bt218 => ((shellgameref15_Expired.f bt218.1 bt218.2.1 bt218.2.2.1 bt218.2.2.2.1 bt218.2.2.2.2.1 bt218.2.2.2.2.2.1 bt218.2.2.2.2.2.2 a3).bind fun t225 => (if (t217 == t225) = true then (if t163 = t165 then (if t164 = t166 then (if t167 = t176 then (some (t168 == t177)) else (some false)) else (some false)) else (some false)) else (some false)))) = some r := H
            have A25 := Aside0.mk A250
            clear A250
            replace H := Option.bind_eq_some_iff.mp H
            obtain ⟨⟨t218, t219, t220, t221, t222, t223, t224⟩, A260, H⟩ := H
            replace H : ((shellgameref15_Expired.f t218 t219 t220 t221 t222 t223 t224 a3).bind fun t225 => (if (t217 == t225) = true then (if t163 = t165 then (if t164 = t166 then (if t167 = t176 then (some (t168 == t177)) else (some false)) else (some false)) else (some false)) else (some false))) = some r := H
            have A26 := Aside0.mk A260
            clear A260
            replace H := Option.bind_eq_some_iff.mp H
            obtain ⟨t225, A270, H⟩ := H
            replace H : (if (t217 == t225) = true then (if t163 = t165 then (if t164 = t166 then (if t167 = t176 then (some (t168 == t177)) else (some false)) else (some false)) else (some false)) else (some false)) = some r := H
            have A27 := Aside0.mk A270
            clear A270
            by_cases c28 : (t217 == t225) = true
            · rw [if_pos c28] at H
              have c28b0 : (t217 == t225) = true := c28
              (try (have c28b1 : decide (t217 = t225) = true := by simpa using c28))
              (try (have c28b2 : (t217 == t225) = true := by simpa using c28))
              clear c28
              by_cases c29 : t163 = t165
              · rw [if_pos c29] at H
                have c29b0 : (t163 == t165) = true := beq_iff_eq.mpr c29
                have c29b1 : (t163 != t165) = false := bne_eq_false_iff_eq.mpr c29
                clear c29
                by_cases c30 : t164 = t166
                · rw [if_pos c30] at H
                  have c30b0 : (t164 == t166) = true := beq_iff_eq.mpr c30
                  have c30b1 : (t164 != t166) = false := bne_eq_false_iff_eq.mpr c30
                  clear c30
                  by_cases c31 : t167 = t176
                  · rw [if_pos c31] at H
                    have c31b0 : (t167 == t176) = true := beq_iff_eq.mpr c31
                    have c31b1 : (t167 != t176) = false := bne_eq_false_iff_eq.mpr c31
                    clear c31
                    obtain rfl := Option.some.inj H
                    go_enter Try.func16, Try.ntmps16
                    try go_wp2_with (first | ((with_reducible refine gate_dst (N := 4) rfl ?_); refine box_event ?hg (N := 4) ?hd (cs := #[.bool a0_0, .int .u64 a0_1, .int .u64 a0_2, .int .u64 a0_3, .int .u64 a0_4, .int .u64 a0_5, .int .i64 a0_6]) (t := 31) ?hr ?_; (case hd => rfl); (case hg => rfl); (case hr => first | (go_simp; done) | (go_simp; rfl)); intro gb142 hg w32 hbox hb; have n0_ := Aside0.mk (below_step (by repeat (first | (with_reducible first | exact HB.out | apply below_alloc | apply pw_below_drewN | apply below_drew1) | exact HB.out)) hb); have n1_ := Aside0.mk (hbox); have n2_ := Aside0.mk ((by rw [hg]; exact (below_size (by repeat (first | (with_reducible first | exact HB.out | apply below_alloc | apply pw_below_drewN | apply below_drew1) | exact HB.out))) : w.heap.size ≤ gb142)); have n3_ := Aside0.mk ((by rw [hg]; exact (below_size (by repeat (first | (with_reducible first | exact HB.out | apply below_alloc | apply pw_below_drewN | apply below_drew1) | exact HB.out))) : w.heap.size ≤ gb142)); clear HB; have HB := n0_; have BK142 := n1_; have GW142 := n2_; have GE142 := n3_; clear n0_ n1_ n2_ n3_; clear hb hbox hg) | ((with_reducible refine gate_dst (N := 5) rfl ?_); refine box_event ?hg (N := 5) ?hd (cs := #[.int .u64 a1_0, .int .u64 a1_1, .int .u64 a1_2, .int .u64 a1_3, .int .u64 a1_4, .int .u64 a1_5, .int .u64 a1_6, .int .u64 a1_7]) (t := 58) ?hr ?_; (case hd => rfl); (case hg => rfl); (case hr => first | (go_simp; done) | (go_simp; rfl)); intro gb143 hg w33 hbox hb; have n0_ := Aside0.mk (blk_below (g := gb142) (o := .cells #[.bool a0_0, .int .u64 a0_1, .int .u64 a0_2, .int .u64 a0_3, .int .u64 a0_4, .int .u64 a0_5, .int .i64 a0_6] 31 (0, 0)) (by (with_reducible repeat (first | refine blk_drewN ?_ _ | refine blk_drew ?_ | refine blk_alloc ?_ _)); exact BK142.out) hb); have n1_ := Aside0.mk (below_step (by repeat (first | (with_reducible first | exact HB.out | apply below_alloc | apply pw_below_drewN | apply below_drew1 | refine below_set ?_ GE142.out) | exact HB.out)) hb); have n2_ := Aside0.mk (hbox); have n3_ := Aside0.mk ((by rw [hg]; exact (below_size (by repeat (first | (with_reducible first | exact HB.out | apply below_alloc | apply pw_below_drewN | apply below_drew1 | refine below_set ?_ GE142.out) | exact HB.out))) : w.heap.size ≤ gb143)); have n4_ := Aside0.mk ((by rw [hg]; exact (below_size (by repeat (first | (with_reducible first | exact HB.out | apply below_alloc | apply pw_below_drewN | apply below_drew1 | refine below_set ?_ GE142.out) | exact HB.out))) : w.heap.size ≤ gb143)); have n5_ := Aside0.mk ((by rw [hg]; exact Nat.ne_of_lt (blk_lt (g := gb142) (o := .cells #[.bool a0_0, .int .u64 a0_1, .int .u64 a0_2, .int .u64 a0_3, .int .u64 a0_4, .int .u64 a0_5, .int .i64 a0_6] 31 (0, 0)) (by (with_reducible repeat (first | refine blk_drewN ?_ _ | refine blk_drew ?_ | refine blk_alloc ?_ _)); exact BK142.out)) : gb142 ≠ gb143)); have n6_ := Aside0.mk ((by rw [hg]; exact Nat.ne_of_gt (blk_lt (g := gb142) (o := .cells #[.bool a0_0, .int .u64 a0_1, .int .u64 a0_2, .int .u64 a0_3, .int .u64 a0_4, .int .u64 a0_5, .int .i64 a0_6] 31 (0, 0)) (by (with_reducible repeat (first | refine blk_drewN ?_ _ | refine blk_drew ?_ | refine blk_alloc ?_ _)); exact BK142.out)) : gb143 ≠ gb142)); clear BK142; clear HB; have BK142 := n0_; have HB := n1_; have BK143 := n2_; have GW143 := n3_; have GE143 := n4_; have NB142_143 := n5_; have NB143_142 := n6_; clear n0_ n1_ n2_ n3_ n4_ n5_ n6_; clear hb hbox hg) | ((with_reducible refine gate_callee (f := 19) rfl ?_); refine goesL_ (some 22) rfl rfl Try.func19 (by kernel_rfl) rfl #[] rfl (by (try simp only [List.map_toArray, List.map_cons, List.map_nil]); first | done | rfl | (simp only [List.length_drop, List.length_take]; rfl)) ?_; (with_reducible refine (shellgamelaw15_shown.calls k  true _ A5.out).mono ?_); rintro e w34 ⟨rfl, hb⟩; refine ⟨_, rfl, ?_⟩; have n0_ := Aside0.mk (blk_below (g := gb142) (o := .cells #[.bool a0_0, .int .u64 a0_1, .int .u64 a0_2, .int .u64 a0_3, .int .u64 a0_4, .int .u64 a0_5, .int .i64 a0_6] 31 (0, 0)) (by (with_reducible repeat (first | refine blk_drewN ?_ _ | refine blk_drew ?_ | refine blk_alloc ?_ _)); exact BK142.out) hb); have n1_ := Aside0.mk (blk_below (g := gb143) (o := .cells #[.int .u64 a1_0, .int .u64 a1_1, .int .u64 a1_2, .int .u64 a1_3, .int .u64 a1_4, .int .u64 a1_5, .int .u64 a1_6, .int .u64 a1_7] 58 (0, 0)) (by (with_reducible repeat (first | refine blk_drewN ?_ _ | refine blk_drew ?_ | refine blk_alloc ?_ _)); exact BK143.out) hb); have n2_ := Aside0.mk (below_step (by repeat (first | (with_reducible first | exact HB.out | apply below_alloc | apply pw_below_drewN | apply below_drew1 | refine below_set ?_ GE142.out | refine below_set ?_ GE143.out) | exact HB.out)) hb); clear BK142; clear BK143; clear HB; have BK142 := n0_; have BK143 := n1_; have HB := n2_; clear n0_ n1_ n2_; (try clear hb); (try clear hb2); (try clear hk); (try clear hi); have hnb35 := NB143_142.out; have hnc35 := NB142_143.out; have hcz36_0 : w34.cell? ⟨gb143, 0, none⟩ = some (.int .u64 a1_0) := (blk_cell BK143.out 0).trans rfl; have hcz36_1 : w34.cell? ⟨gb143, 1, none⟩ = some (.int .u64 a1_1) := (blk_cell BK143.out 1).trans rfl; have hcz36_2 : w34.cell? ⟨gb143, 2, none⟩ = some (.int .u64 a1_2) := (blk_cell BK143.out 2).trans rfl; have hcz36_3 : w34.cell? ⟨gb143, 3, none⟩ = some (.int .u64 a1_3) := (blk_cell BK143.out 3).trans rfl; have hcz36_4 : w34.cell? ⟨gb143, 4, none⟩ = some (.int .u64 a1_4) := (blk_cell BK143.out 4).trans rfl; have hcz36_5 : w34.cell? ⟨gb143, 5, none⟩ = some (.int .u64 a1_5) := (blk_cell BK143.out 5).trans rfl; have hcz36_6 : w34.cell? ⟨gb143, 6, none⟩ = some (.int .u64 a1_6) := (blk_cell BK143.out 6).trans rfl; have hcz36_7 : w34.cell? ⟨gb143, 7, none⟩ = some (.int .u64 a1_7) := (blk_cell BK143.out 7).trans rfl; have hfz36_0 := blk_frozen BK143.out 0; have hfz36_1 := blk_frozen BK143.out 1; have hfz36_2 := blk_frozen BK143.out 2; have hfz36_3 := blk_frozen BK143.out 3; have hfz36_4 := blk_frozen BK143.out 4; have hfz36_5 := blk_frozen BK143.out 5; have hfz36_6 := blk_frozen BK143.out 6; have hfz36_7 := blk_frozen BK143.out 7) | ((with_reducible refine gate_callee (f := 37) rfl ?_); refine goesL_ (some 25) rfl rfl Try.func37 (by kernel_rfl) rfl #[.agg #[.int .u64 a1_0, .int .u64 a1_1, .int .u64 a1_2, .int .u64 a1_3, .int .u64 a1_4, .int .u64 a1_5, .int .u64 a1_6, .int .u64 a1_7]] rfl (by (try simp only [List.map_toArray, List.map_cons, List.map_nil]); first | done | rfl | (simp only [List.length_drop, List.length_take]; rfl)) ?_; (with_reducible refine (slot_Read.calls a1_0 a1_1 a1_2 a1_3 a1_4 a1_5 a1_6 a1_7 t145 t146 t147 t148 t149 t150 t151 t152 _ A6.out).mono ?_); rintro e w37 ⟨rfl, hb⟩; refine ⟨_, rfl, ?_⟩; have n0_ := Aside0.mk (blk_below (g := gb142) (o := .cells #[.bool a0_0, .int .u64 a0_1, .int .u64 a0_2, .int .u64 a0_3, .int .u64 a0_4, .int .u64 a0_5, .int .i64 a0_6] 31 (0, 0)) (by (with_reducible repeat (first | refine blk_drewN ?_ _ | refine blk_drew ?_ | refine blk_alloc ?_ _)); exact BK142.out) hb); have n1_ := Aside0.mk (blk_below (g := gb143) (o := .cells #[.int .u64 a1_0, .int .u64 a1_1, .int .u64 a1_2, .int .u64 a1_3, .int .u64 a1_4, .int .u64 a1_5, .int .u64 a1_6, .int .u64 a1_7] 58 (0, 0)) (by (with_reducible repeat (first | refine blk_drewN ?_ _ | refine blk_drew ?_ | refine blk_alloc ?_ _)); exact BK143.out) hb); have n2_ := Aside0.mk (below_step (by repeat (first | (with_reducible first | exact HB.out | apply below_alloc | apply pw_below_drewN | apply below_drew1 | refine below_set ?_ GE142.out | refine below_set ?_ GE143.out) | exact HB.out)) hb); clear BK142; clear BK143; clear HB; have BK142 := n0_; have BK143 := n1_; have HB := n2_; clear n0_ n1_ n2_; (try clear hb); (try clear hb2); (try clear hk); (try clear hi)) | ((with_reducible refine gate_dst (N := 10) rfl ?_); refine box_event ?hg (N := 10) ?hd (cs := #[.bool false, .int .u64 0, .int .u64 0, .int .u64 0, .int .u64 0, .int .u64 0, .int .i64 0]) (t := 31) ?hr ?_; (case hd => rfl); (case hg => rfl); (case hr => first | (go_simp; done) | (go_simp; rfl)); intro gb153 hg w38 hbox hb; have n0_ := Aside0.mk (blk_below (g := gb142) (o := .cells #[.bool a0_0, .int .u64 a0_1, .int .u64 a0_2, .int .u64 a0_3, .int .u64 a0_4, .int .u64 a0_5, .int .i64 a0_6] 31 (0, 0)) (by (with_reducible repeat (first | refine blk_drewN ?_ _ | refine blk_drew ?_ | refine blk_alloc ?_ _)); exact BK142.out) hb); have n1_ := Aside0.mk (blk_below (g := gb143) (o := .cells #[.int .u64 a1_0, .int .u64 a1_1, .int .u64 a1_2, .int .u64 a1_3, .int .u64 a1_4, .int .u64 a1_5, .int .u64 a1_6, .int .u64 a1_7] 58 (0, 0)) (by (with_reducible repeat (first | refine blk_drewN ?_ _ | refine blk_drew ?_ | refine blk_alloc ?_ _)); exact BK143.out) hb); have n2_ := Aside0.mk (below_step (by repeat (first | (with_reducible first | exact HB.out | apply below_alloc | apply pw_below_drewN | apply below_drew1 | refine below_set ?_ GE142.out | refine below_set ?_ GE143.out) | exact HB.out)) hb); have n3_ := Aside0.mk (hbox); have n4_ := Aside0.mk ((by rw [hg]; exact (below_size (by repeat (first | (with_reducible first | exact HB.out | apply below_alloc | apply pw_below_drewN | apply below_drew1 | refine below_set ?_ GE142.out | refine below_set ?_ GE143.out) | exact HB.out))) : w.heap.size ≤ gb153)); have n5_ := Aside0.mk ((by rw [hg]; exact (below_size (by repeat (first | (with_reducible first | exact HB.out | apply below_alloc | apply pw_below_drewN | apply below_drew1 | refine below_set ?_ GE142.out | refine below_set ?_ GE143.out) | exact HB.out))) : w.heap.size ≤ gb153)); have n6_ := Aside0.mk ((by rw [hg]; exact Nat.ne_of_lt (blk_lt (g := gb142) (o := .cells #[.bool a0_0, .int .u64 a0_1, .int .u64 a0_2, .int .u64 a0_3, .int .u64 a0_4, .int .u64 a0_5, .int .i64 a0_6] 31 (0, 0)) (by (with_reducible repeat (first | refine blk_drewN ?_ _ | refine blk_drew ?_ | refine blk_alloc ?_ _)); exact BK142.out)) : gb142 ≠ gb153)); have n7_ := Aside0.mk ((by rw [hg]; exact Nat.ne_of_gt (blk_lt (g := gb142) (o := .cells #[.bool a0_0, .int .u64 a0_1, .int .u64 a0_2, .int .u64 a0_3, .int .u64 a0_4, .int .u64 a0_5, .int .i64 a0_6] 31 (0, 0)) (by (with_reducible repeat (first | refine blk_drewN ?_ _ | refine blk_drew ?_ | refine blk_alloc ?_ _)); exact BK142.out)) : gb153 ≠ gb142)); have n8_ := Aside0.mk ((by rw [hg]; exact Nat.ne_of_lt (blk_lt (g := gb143) (o := .cells #[.int .u64 a1_0, .int .u64 a1_1, .int .u64 a1_2, .int .u64 a1_3, .int .u64 a1_4, .int .u64 a1_5, .int .u64 a1_6, .int .u64 a1_7] 58 (0, 0)) (by (with_reducible repeat (first | refine blk_drewN ?_ _ | refine blk_drew ?_ | refine blk_alloc ?_ _)); exact BK143.out)) : gb143 ≠ gb153)); have n9_ := Aside0.mk ((by rw [hg]; exact Nat.ne_of_gt (blk_lt (g := gb143) (o := .cells #[.int .u64 a1_0, .int .u64 a1_1, .int .u64 a1_2, .int .u64 a1_3, .int .u64 a1_4, .int .u64 a1_5, .int .u64 a1_6, .int .u64 a1_7] 58 (0, 0)) (by (with_reducible repeat (first | refine blk_drewN ?_ _ | refine blk_drew ?_ | refine blk_alloc ?_ _)); exact BK143.out)) : gb153 ≠ gb143)); clear BK142; clear BK143; clear HB; have BK142 := n0_; have BK143 := n1_; have HB := n2_; have BK153 := n3_; have GW153 := n4_; have GE153 := n5_; have NB142_153 := n6_; have NB153_142 := n7_; have NB143_153 := n8_; have NB153_143 := n9_; clear n0_ n1_ n2_ n3_ n4_ n5_ n6_ n7_ n8_ n9_; clear hb hbox hg; have hnb39 := NB153_142.out; have hnc39 := NB142_153.out; have hnb40 := NB153_143.out; have hnc40 := NB143_153.out; have hcz41_0 : w38.cell? ⟨gb153, 0, none⟩ = some (.bool false) := (blk_cell BK153.out 0).trans rfl; have hcz41_1 : w38.cell? ⟨gb153, 1, none⟩ = some (.int .u64 0) := (blk_cell BK153.out 1).trans rfl; have hcz41_2 : w38.cell? ⟨gb153, 2, none⟩ = some (.int .u64 0) := (blk_cell BK153.out 2).trans rfl; have hcz41_3 : w38.cell? ⟨gb153, 3, none⟩ = some (.int .u64 0) := (blk_cell BK153.out 3).trans rfl; have hcz41_4 : w38.cell? ⟨gb153, 4, none⟩ = some (.int .u64 0) := (blk_cell BK153.out 4).trans rfl; have hcz41_5 : w38.cell? ⟨gb153, 5, none⟩ = some (.int .u64 0) := (blk_cell BK153.out 5).trans rfl; have hcz41_6 : w38.cell? ⟨gb153, 6, none⟩ = some (.int .i64 0) := (blk_cell BK153.out 6).trans rfl; have hfz41_0 := blk_frozen BK153.out 0; have hfz41_1 := blk_frozen BK153.out 1; have hfz41_2 := blk_frozen BK153.out 2; have hfz41_3 := blk_frozen BK153.out 3; have hfz41_4 := blk_frozen BK153.out 4; have hfz41_5 := blk_frozen BK153.out 5; have hfz41_6 := blk_frozen BK153.out 6; have hcz42_0 : w38.cell? ⟨gb143, 0, none⟩ = some (.int .u64 a1_0) := (blk_cell BK143.out 0).trans rfl; have hcz42_1 : w38.cell? ⟨gb143, 1, none⟩ = some (.int .u64 a1_1) := (blk_cell BK143.out 1).trans rfl; have hcz42_2 : w38.cell? ⟨gb143, 2, none⟩ = some (.int .u64 a1_2) := (blk_cell BK143.out 2).trans rfl; have hcz42_3 : w38.cell? ⟨gb143, 3, none⟩ = some (.int .u64 a1_3) := (blk_cell BK143.out 3).trans rfl; have hcz42_4 : w38.cell? ⟨gb143, 4, none⟩ = some (.int .u64 a1_4) := (blk_cell BK143.out 4).trans rfl; have hcz42_5 : w38.cell? ⟨gb143, 5, none⟩ = some (.int .u64 a1_5) := (blk_cell BK143.out 5).trans rfl; have hcz42_6 : w38.cell? ⟨gb143, 6, none⟩ = some (.int .u64 a1_6) := (blk_cell BK143.out 6).trans rfl; have hcz42_7 : w38.cell? ⟨gb143, 7, none⟩ = some (.int .u64 a1_7) := (blk_cell BK143.out 7).trans rfl; have hfz42_0 := blk_frozen BK143.out 0; have hfz42_1 := blk_frozen BK143.out 1; have hfz42_2 := blk_frozen BK143.out 2; have hfz42_3 := blk_frozen BK143.out 3; have hfz42_4 := blk_frozen BK143.out 4; have hfz42_5 := blk_frozen BK143.out 5; have hfz42_6 := blk_frozen BK143.out 6; have hfz42_7 := blk_frozen BK143.out 7) | ((with_reducible refine gate_callee (f := 38) rfl ?_); refine goesL_ (some 30) rfl rfl Try.func38 (by kernel_rfl) rfl #[.agg #[.int .u64 a1_0, .int .u64 a1_1, .int .u64 a1_2, .int .u64 a1_3, .int .u64 a1_4, .int .u64 a1_5, .int .u64 a1_6, .int .u64 a1_7]] rfl (by (try simp only [List.map_toArray, List.map_cons, List.map_nil]); first | done | rfl | (simp only [List.length_drop, List.length_take]; rfl)) ?_; (with_reducible refine (shellgameref15_Read.calls k a1_0 a1_1 a1_2 a1_3 a1_4 a1_5 a1_6 a1_7 t154 t155 t156 t157 t158 t159 t160 t161 _ A7.out).mono ?_); rintro e w43 ⟨rfl, hb⟩; refine ⟨_, rfl, ?_⟩; have n0_ := Aside0.mk (blk_below (g := gb142) (o := .cells #[.bool a0_0, .int .u64 a0_1, .int .u64 a0_2, .int .u64 a0_3, .int .u64 a0_4, .int .u64 a0_5, .int .i64 a0_6] 31 (0, 0)) (by (with_reducible repeat (first | refine blk_drewN ?_ _ | refine blk_drew ?_ | refine blk_alloc ?_ _)); refine blk_far ?_ NB142_153.out _; (with_reducible repeat (first | refine blk_drewN ?_ _ | refine blk_drew ?_ | refine blk_alloc ?_ _)); refine blk_far ?_ NB142_153.out _; (with_reducible repeat (first | refine blk_drewN ?_ _ | refine blk_drew ?_ | refine blk_alloc ?_ _)); refine blk_far ?_ NB142_153.out _; (with_reducible repeat (first | refine blk_drewN ?_ _ | refine blk_drew ?_ | refine blk_alloc ?_ _)); refine blk_far ?_ NB142_153.out _; (with_reducible repeat (first | refine blk_drewN ?_ _ | refine blk_drew ?_ | refine blk_alloc ?_ _)); refine blk_far ?_ NB142_153.out _; (with_reducible repeat (first | refine blk_drewN ?_ _ | refine blk_drew ?_ | refine blk_alloc ?_ _)); refine blk_far ?_ NB142_153.out _; (with_reducible repeat (first | refine blk_drewN ?_ _ | refine blk_drew ?_ | refine blk_alloc ?_ _)); refine blk_far ?_ NB142_153.out _; (with_reducible repeat (first | refine blk_drewN ?_ _ | refine blk_drew ?_ | refine blk_alloc ?_ _)); exact BK142.out) hb); have n1_ := Aside0.mk (blk_below (g := gb143) (o := .cells #[.int .u64 a1_0, .int .u64 a1_1, .int .u64 a1_2, .int .u64 a1_3, .int .u64 a1_4, .int .u64 a1_5, .int .u64 a1_6, .int .u64 a1_7] 58 (0, 0)) (by (with_reducible repeat (first | refine blk_drewN ?_ _ | refine blk_drew ?_ | refine blk_alloc ?_ _)); refine blk_far ?_ NB143_153.out _; (with_reducible repeat (first | refine blk_drewN ?_ _ | refine blk_drew ?_ | refine blk_alloc ?_ _)); refine blk_far ?_ NB143_153.out _; (with_reducible repeat (first | refine blk_drewN ?_ _ | refine blk_drew ?_ | refine blk_alloc ?_ _)); refine blk_far ?_ NB143_153.out _; (with_reducible repeat (first | refine blk_drewN ?_ _ | refine blk_drew ?_ | refine blk_alloc ?_ _)); refine blk_far ?_ NB143_153.out _; (with_reducible repeat (first | refine blk_drewN ?_ _ | refine blk_drew ?_ | refine blk_alloc ?_ _)); refine blk_far ?_ NB143_153.out _; (with_reducible repeat (first | refine blk_drewN ?_ _ | refine blk_drew ?_ | refine blk_alloc ?_ _)); refine blk_far ?_ NB143_153.out _; (with_reducible repeat (first | refine blk_drewN ?_ _ | refine blk_drew ?_ | refine blk_alloc ?_ _)); refine blk_far ?_ NB143_153.out _; (with_reducible repeat (first | refine blk_drewN ?_ _ | refine blk_drew ?_ | refine blk_alloc ?_ _)); exact BK143.out) hb); have n2_ := Aside0.mk (blk_below (g := gb153) (o := .cells #[.bool t145, .int .u64 t146, .int .u64 t147, .int .u64 t148, .int .u64 t149, .int .u64 t150, .int .i64 t151] 31 (0, 0)) (by (with_reducible repeat (first | refine blk_drewN ?_ _ | refine blk_drew ?_ | refine blk_alloc ?_ _)); refine blk_put (cs := #[.bool t145, .int .u64 t146, .int .u64 t147, .int .u64 t148, .int .u64 t149, .int .u64 t150, .int .i64 0]) ?_ 6 _ rfl; (with_reducible repeat (first | refine blk_drewN ?_ _ | refine blk_drew ?_ | refine blk_alloc ?_ _)); refine blk_put (cs := #[.bool t145, .int .u64 t146, .int .u64 t147, .int .u64 t148, .int .u64 t149, .int .u64 0, .int .i64 0]) ?_ 5 _ rfl; (with_reducible repeat (first | refine blk_drewN ?_ _ | refine blk_drew ?_ | refine blk_alloc ?_ _)); refine blk_put (cs := #[.bool t145, .int .u64 t146, .int .u64 t147, .int .u64 t148, .int .u64 0, .int .u64 0, .int .i64 0]) ?_ 4 _ rfl; (with_reducible repeat (first | refine blk_drewN ?_ _ | refine blk_drew ?_ | refine blk_alloc ?_ _)); refine blk_put (cs := #[.bool t145, .int .u64 t146, .int .u64 t147, .int .u64 0, .int .u64 0, .int .u64 0, .int .i64 0]) ?_ 3 _ rfl; (with_reducible repeat (first | refine blk_drewN ?_ _ | refine blk_drew ?_ | refine blk_alloc ?_ _)); refine blk_put (cs := #[.bool t145, .int .u64 t146, .int .u64 0, .int .u64 0, .int .u64 0, .int .u64 0, .int .i64 0]) ?_ 2 _ rfl; (with_reducible repeat (first | refine blk_drewN ?_ _ | refine blk_drew ?_ | refine blk_alloc ?_ _)); refine blk_put (cs := #[.bool t145, .int .u64 0, .int .u64 0, .int .u64 0, .int .u64 0, .int .u64 0, .int .i64 0]) ?_ 1 _ rfl; (with_reducible repeat (first | refine blk_drewN ?_ _ | refine blk_drew ?_ | refine blk_alloc ?_ _)); refine blk_put (cs := #[.bool false, .int .u64 0, .int .u64 0, .int .u64 0, .int .u64 0, .int .u64 0, .int .i64 0]) ?_ 0 _ rfl; (with_reducible repeat (first | refine blk_drewN ?_ _ | refine blk_drew ?_ | refine blk_alloc ?_ _)); exact BK153.out) hb); have n3_ := Aside0.mk (below_step (by repeat (first | (with_reducible first | exact HB.out | apply below_alloc | apply pw_below_drewN | apply below_drew1 | refine below_set ?_ GE142.out | refine below_set ?_ GE143.out | refine below_set ?_ GE153.out) | exact HB.out)) hb); clear BK142; clear BK143; clear BK153; clear HB; have BK142 := n0_; have BK143 := n1_; have BK153 := n2_; have HB := n3_; clear n0_ n1_ n2_ n3_; (try clear hb); (try clear hb2); (try clear hk); (try clear hi)) | ((with_reducible refine gate_dst (N := 12) rfl ?_); refine box_event ?hg (N := 12) ?hd (cs := #[.bool false, .int .u64 0, .int .u64 0, .int .u64 0, .int .u64 0, .int .u64 0, .int .i64 0]) (t := 65) ?hr ?_; (case hd => rfl); (case hg => rfl); (case hr => first | (go_simp; done) | (go_simp; rfl)); intro gb162 hg w44 hbox hb; have n0_ := Aside0.mk (blk_below (g := gb142) (o := .cells #[.bool a0_0, .int .u64 a0_1, .int .u64 a0_2, .int .u64 a0_3, .int .u64 a0_4, .int .u64 a0_5, .int .i64 a0_6] 31 (0, 0)) (by (with_reducible repeat (first | refine blk_drewN ?_ _ | refine blk_drew ?_ | refine blk_alloc ?_ _)); exact BK142.out) hb); have n1_ := Aside0.mk (blk_below (g := gb143) (o := .cells #[.int .u64 a1_0, .int .u64 a1_1, .int .u64 a1_2, .int .u64 a1_3, .int .u64 a1_4, .int .u64 a1_5, .int .u64 a1_6, .int .u64 a1_7] 58 (0, 0)) (by (with_reducible repeat (first | refine blk_drewN ?_ _ | refine blk_drew ?_ | refine blk_alloc ?_ _)); exact BK143.out) hb); have n2_ := Aside0.mk (blk_below (g := gb153) (o := .cells #[.bool t145, .int .u64 t146, .int .u64 t147, .int .u64 t148, .int .u64 t149, .int .u64 t150, .int .i64 t151] 31 (0, 0)) (by (with_reducible repeat (first | refine blk_drewN ?_ _ | refine blk_drew ?_ | refine blk_alloc ?_ _)); exact BK153.out) hb); have n3_ := Aside0.mk (below_step (by repeat (first | (with_reducible first | exact HB.out | apply below_alloc | apply pw_below_drewN | apply below_drew1 | refine below_set ?_ GE142.out | refine below_set ?_ GE143.out | refine below_set ?_ GE153.out) | exact HB.out)) hb); have n4_ := Aside0.mk (hbox); have n5_ := Aside0.mk ((by rw [hg]; exact (below_size (by repeat (first | (with_reducible first | exact HB.out | apply below_alloc | apply pw_below_drewN | apply below_drew1 | refine below_set ?_ GE142.out | refine below_set ?_ GE143.out | refine below_set ?_ GE153.out) | exact HB.out))) : w.heap.size ≤ gb162)); have n6_ := Aside0.mk ((by rw [hg]; exact (below_size (by repeat (first | (with_reducible first | exact HB.out | apply below_alloc | apply pw_below_drewN | apply below_drew1 | refine below_set ?_ GE142.out | refine below_set ?_ GE143.out | refine below_set ?_ GE153.out) | exact HB.out))) : w.heap.size ≤ gb162)); have n7_ := Aside0.mk ((by rw [hg]; exact Nat.ne_of_lt (blk_lt (g := gb142) (o := .cells #[.bool a0_0, .int .u64 a0_1, .int .u64 a0_2, .int .u64 a0_3, .int .u64 a0_4, .int .u64 a0_5, .int .i64 a0_6] 31 (0, 0)) (by (with_reducible repeat (first | refine blk_drewN ?_ _ | refine blk_drew ?_ | refine blk_alloc ?_ _)); exact BK142.out)) : gb142 ≠ gb162)); have n8_ := Aside0.mk ((by rw [hg]; exact Nat.ne_of_gt (blk_lt (g := gb142) (o := .cells #[.bool a0_0, .int .u64 a0_1, .int .u64 a0_2, .int .u64 a0_3, .int .u64 a0_4, .int .u64 a0_5, .int .i64 a0_6] 31 (0, 0)) (by (with_reducible repeat (first | refine blk_drewN ?_ _ | refine blk_drew ?_ | refine blk_alloc ?_ _)); exact BK142.out)) : gb162 ≠ gb142)); have n9_ := Aside0.mk ((by rw [hg]; exact Nat.ne_of_lt (blk_lt (g := gb143) (o := .cells #[.int .u64 a1_0, .int .u64 a1_1, .int .u64 a1_2, .int .u64 a1_3, .int .u64 a1_4, .int .u64 a1_5, .int .u64 a1_6, .int .u64 a1_7] 58 (0, 0)) (by (with_reducible repeat (first | refine blk_drewN ?_ _ | refine blk_drew ?_ | refine blk_alloc ?_ _)); exact BK143.out)) : gb143 ≠ gb162)); have n10_ := Aside0.mk ((by rw [hg]; exact Nat.ne_of_gt (blk_lt (g := gb143) (o := .cells #[.int .u64 a1_0, .int .u64 a1_1, .int .u64 a1_2, .int .u64 a1_3, .int .u64 a1_4, .int .u64 a1_5, .int .u64 a1_6, .int .u64 a1_7] 58 (0, 0)) (by (with_reducible repeat (first | refine blk_drewN ?_ _ | refine blk_drew ?_ | refine blk_alloc ?_ _)); exact BK143.out)) : gb162 ≠ gb143)); have n11_ := Aside0.mk ((by rw [hg]; exact Nat.ne_of_lt (blk_lt (g := gb153) (o := .cells #[.bool t145, .int .u64 t146, .int .u64 t147, .int .u64 t148, .int .u64 t149, .int .u64 t150, .int .i64 t151] 31 (0, 0)) (by (with_reducible repeat (first | refine blk_drewN ?_ _ | refine blk_drew ?_ | refine blk_alloc ?_ _)); exact BK153.out)) : gb153 ≠ gb162)); have n12_ := Aside0.mk ((by rw [hg]; exact Nat.ne_of_gt (blk_lt (g := gb153) (o := .cells #[.bool t145, .int .u64 t146, .int .u64 t147, .int .u64 t148, .int .u64 t149, .int .u64 t150, .int .i64 t151] 31 (0, 0)) (by (with_reducible repeat (first | refine blk_drewN ?_ _ | refine blk_drew ?_ | refine blk_alloc ?_ _)); exact BK153.out)) : gb162 ≠ gb153)); clear BK142; clear BK143; clear BK153; clear HB; have BK142 := n0_; have BK143 := n1_; have BK153 := n2_; have HB := n3_; have BK162 := n4_; have GW162 := n5_; have GE162 := n6_; have NB142_162 := n7_; have NB162_142 := n8_; have NB143_162 := n9_; have NB162_143 := n10_; have NB153_162 := n11_; have NB162_153 := n12_; clear n0_ n1_ n2_ n3_ n4_ n5_ n6_ n7_ n8_ n9_ n10_ n11_ n12_; clear hb hbox hg; have hnb45 := NB162_142.out; have hnc45 := NB142_162.out; have hnb46 := NB162_143.out; have hnc46 := NB143_162.out; have hnb47 := NB162_153.out; have hnc47 := NB153_162.out; have hcz48_0 : w44.cell? ⟨gb162, 0, none⟩ = some (.bool false) := (blk_cell BK162.out 0).trans rfl; have hcz48_1 : w44.cell? ⟨gb162, 1, none⟩ = some (.int .u64 0) := (blk_cell BK162.out 1).trans rfl; have hcz48_2 : w44.cell? ⟨gb162, 2, none⟩ = some (.int .u64 0) := (blk_cell BK162.out 2).trans rfl; have hcz48_3 : w44.cell? ⟨gb162, 3, none⟩ = some (.int .u64 0) := (blk_cell BK162.out 3).trans rfl; have hcz48_4 : w44.cell? ⟨gb162, 4, none⟩ = some (.int .u64 0) := (blk_cell BK162.out 4).trans rfl; have hcz48_5 : w44.cell? ⟨gb162, 5, none⟩ = some (.int .u64 0) := (blk_cell BK162.out 5).trans rfl; have hcz48_6 : w44.cell? ⟨gb162, 6, none⟩ = some (.int .i64 0) := (blk_cell BK162.out 6).trans rfl; have hfz48_0 := blk_frozen BK162.out 0; have hfz48_1 := blk_frozen BK162.out 1; have hfz48_2 := blk_frozen BK162.out 2; have hfz48_3 := blk_frozen BK162.out 3; have hfz48_4 := blk_frozen BK162.out 4; have hfz48_5 := blk_frozen BK162.out 5; have hfz48_6 := blk_frozen BK162.out 6) | ((with_reducible refine gate_callee (f := 20) rfl ?_); refine goesL_ (some 36) rfl rfl Try.func20 (by kernel_rfl) rfl #[.int .i64 a2, .int .u64 a3] rfl (by (try simp only [List.map_toArray, List.map_cons, List.map_nil]); first | done | rfl | (simp only [List.length_drop, List.length_take]; rfl)) ?_; (with_reducible refine (slot_Enter.calls a2 a3 t163 t164 _ A8.out).mono ?_); rintro e w' ⟨rfl, ⟨nd, rfl⟩⟩; refine ⟨_, rfl, ?_⟩) | ((with_reducible refine gate_callee (f := 39) rfl ?_); refine goesL_ (some 42) rfl rfl Try.func39 (by kernel_rfl) rfl #[.int .i64 a2, .int .u64 a3] rfl (by (try simp only [List.map_toArray, List.map_cons, List.map_nil]); first | done | rfl | (simp only [List.length_drop, List.length_take]; rfl)) ?_; (with_reducible refine (shellgameref15_Enter.calls k a2 a3 t165 t166 _ A9.out).mono ?_); rintro e w' ⟨rfl, ⟨nd, rfl⟩⟩; refine ⟨_, rfl, ?_⟩; have hcz49_0 : w44.cell? ⟨gb142, 0, none⟩ = some (.bool a0_0) := (blk_cell BK142.out 0).trans rfl; have hcz49_1 : w44.cell? ⟨gb142, 1, none⟩ = some (.int .u64 a0_1) := (blk_cell BK142.out 1).trans rfl; have hcz49_2 : w44.cell? ⟨gb142, 2, none⟩ = some (.int .u64 a0_2) := (blk_cell BK142.out 2).trans rfl; have hcz49_3 : w44.cell? ⟨gb142, 3, none⟩ = some (.int .u64 a0_3) := (blk_cell BK142.out 3).trans rfl; have hcz49_4 : w44.cell? ⟨gb142, 4, none⟩ = some (.int .u64 a0_4) := (blk_cell BK142.out 4).trans rfl; have hcz49_5 : w44.cell? ⟨gb142, 5, none⟩ = some (.int .u64 a0_5) := (blk_cell BK142.out 5).trans rfl; have hcz49_6 : w44.cell? ⟨gb142, 6, none⟩ = some (.int .i64 a0_6) := (blk_cell BK142.out 6).trans rfl; have hfz49_0 := blk_frozen BK142.out 0; have hfz49_1 := blk_frozen BK142.out 1; have hfz49_2 := blk_frozen BK142.out 2; have hfz49_3 := blk_frozen BK142.out 3; have hfz49_4 := blk_frozen BK142.out 4; have hfz49_5 := blk_frozen BK142.out 5; have hfz49_6 := blk_frozen BK142.out 6) | ((with_reducible refine gate_callee (f := 22) rfl ?_); refine goesL_ (some 49) rfl rfl Try.func22 (by kernel_rfl) rfl #[.int .i64 a2, .agg #[.bool a0_0, .int .u64 a0_1, .int .u64 a0_2, .int .u64 a0_3, .int .u64 a0_4, .int .u64 a0_5, .int .i64 a0_6], .int .u64 a3] rfl (by (try simp only [List.map_toArray, List.map_cons, List.map_nil]); first | done | rfl | (simp only [List.length_drop, List.length_take]; rfl)) ?_; (with_reducible refine (slot_Use.calls a2 a0_0 a0_1 a0_2 a0_3 a0_4 a0_5 a0_6 a3 t167 t168 _ A10.out).mono ?_); rintro e w50 ⟨rfl, hb⟩; refine ⟨_, rfl, ?_⟩; have n0_ := Aside0.mk (blk_below (g := gb142) (o := .cells #[.bool a0_0, .int .u64 a0_1, .int .u64 a0_2, .int .u64 a0_3, .int .u64 a0_4, .int .u64 a0_5, .int .i64 a0_6] 31 (0, 0)) (by (with_reducible repeat (first | refine blk_drewN ?_ _ | refine blk_drew ?_ | refine blk_alloc ?_ _)); refine blk_far ?_ NB142_162.out _; (with_reducible repeat (first | refine blk_drewN ?_ _ | refine blk_drew ?_ | refine blk_alloc ?_ _)); refine blk_far ?_ NB142_162.out _; (with_reducible repeat (first | refine blk_drewN ?_ _ | refine blk_drew ?_ | refine blk_alloc ?_ _)); refine blk_far ?_ NB142_162.out _; (with_reducible repeat (first | refine blk_drewN ?_ _ | refine blk_drew ?_ | refine blk_alloc ?_ _)); refine blk_far ?_ NB142_162.out _; (with_reducible repeat (first | refine blk_drewN ?_ _ | refine blk_drew ?_ | refine blk_alloc ?_ _)); refine blk_far ?_ NB142_162.out _; (with_reducible repeat (first | refine blk_drewN ?_ _ | refine blk_drew ?_ | refine blk_alloc ?_ _)); refine blk_far ?_ NB142_162.out _; (with_reducible repeat (first | refine blk_drewN ?_ _ | refine blk_drew ?_ | refine blk_alloc ?_ _)); refine blk_far ?_ NB142_162.out _; (with_reducible repeat (first | refine blk_drewN ?_ _ | refine blk_drew ?_ | refine blk_alloc ?_ _)); exact BK142.out) hb); have n1_ := Aside0.mk (blk_below (g := gb143) (o := .cells #[.int .u64 a1_0, .int .u64 a1_1, .int .u64 a1_2, .int .u64 a1_3, .int .u64 a1_4, .int .u64 a1_5, .int .u64 a1_6, .int .u64 a1_7] 58 (0, 0)) (by (with_reducible repeat (first | refine blk_drewN ?_ _ | refine blk_drew ?_ | refine blk_alloc ?_ _)); refine blk_far ?_ NB143_162.out _; (with_reducible repeat (first | refine blk_drewN ?_ _ | refine blk_drew ?_ | refine blk_alloc ?_ _)); refine blk_far ?_ NB143_162.out _; (with_reducible repeat (first | refine blk_drewN ?_ _ | refine blk_drew ?_ | refine blk_alloc ?_ _)); refine blk_far ?_ NB143_162.out _; (with_reducible repeat (first | refine blk_drewN ?_ _ | refine blk_drew ?_ | refine blk_alloc ?_ _)); refine blk_far ?_ NB143_162.out _; (with_reducible repeat (first | refine blk_drewN ?_ _ | refine blk_drew ?_ | refine blk_alloc ?_ _)); refine blk_far ?_ NB143_162.out _; (with_reducible repeat (first | refine blk_drewN ?_ _ | refine blk_drew ?_ | refine blk_alloc ?_ _)); refine blk_far ?_ NB143_162.out _; (with_reducible repeat (first | refine blk_drewN ?_ _ | refine blk_drew ?_ | refine blk_alloc ?_ _)); refine blk_far ?_ NB143_162.out _; (with_reducible repeat (first | refine blk_drewN ?_ _ | refine blk_drew ?_ | refine blk_alloc ?_ _)); exact BK143.out) hb); have n2_ := Aside0.mk (blk_below (g := gb153) (o := .cells #[.bool t145, .int .u64 t146, .int .u64 t147, .int .u64 t148, .int .u64 t149, .int .u64 t150, .int .i64 t151] 31 (0, 0)) (by (with_reducible repeat (first | refine blk_drewN ?_ _ | refine blk_drew ?_ | refine blk_alloc ?_ _)); refine blk_far ?_ NB153_162.out _; (with_reducible repeat (first | refine blk_drewN ?_ _ | refine blk_drew ?_ | refine blk_alloc ?_ _)); refine blk_far ?_ NB153_162.out _; (with_reducible repeat (first | refine blk_drewN ?_ _ | refine blk_drew ?_ | refine blk_alloc ?_ _)); refine blk_far ?_ NB153_162.out _; (with_reducible repeat (first | refine blk_drewN ?_ _ | refine blk_drew ?_ | refine blk_alloc ?_ _)); refine blk_far ?_ NB153_162.out _; (with_reducible repeat (first | refine blk_drewN ?_ _ | refine blk_drew ?_ | refine blk_alloc ?_ _)); refine blk_far ?_ NB153_162.out _; (with_reducible repeat (first | refine blk_drewN ?_ _ | refine blk_drew ?_ | refine blk_alloc ?_ _)); refine blk_far ?_ NB153_162.out _; (with_reducible repeat (first | refine blk_drewN ?_ _ | refine blk_drew ?_ | refine blk_alloc ?_ _)); refine blk_far ?_ NB153_162.out _; (with_reducible repeat (first | refine blk_drewN ?_ _ | refine blk_drew ?_ | refine blk_alloc ?_ _)); exact BK153.out) hb); have n3_ := Aside0.mk (blk_below (g := gb162) (o := .cells #[.bool t154, .int .u64 t155, .int .u64 t156, .int .u64 t157, .int .u64 t158, .int .u64 t159, .int .i64 t160] 65 (0, 0)) (by (with_reducible repeat (first | refine blk_drewN ?_ _ | refine blk_drew ?_ | refine blk_alloc ?_ _)); refine blk_put (cs := #[.bool t154, .int .u64 t155, .int .u64 t156, .int .u64 t157, .int .u64 t158, .int .u64 t159, .int .i64 0]) ?_ 6 _ rfl; (with_reducible repeat (first | refine blk_drewN ?_ _ | refine blk_drew ?_ | refine blk_alloc ?_ _)); refine blk_put (cs := #[.bool t154, .int .u64 t155, .int .u64 t156, .int .u64 t157, .int .u64 t158, .int .u64 0, .int .i64 0]) ?_ 5 _ rfl; (with_reducible repeat (first | refine blk_drewN ?_ _ | refine blk_drew ?_ | refine blk_alloc ?_ _)); refine blk_put (cs := #[.bool t154, .int .u64 t155, .int .u64 t156, .int .u64 t157, .int .u64 0, .int .u64 0, .int .i64 0]) ?_ 4 _ rfl; (with_reducible repeat (first | refine blk_drewN ?_ _ | refine blk_drew ?_ | refine blk_alloc ?_ _)); refine blk_put (cs := #[.bool t154, .int .u64 t155, .int .u64 t156, .int .u64 0, .int .u64 0, .int .u64 0, .int .i64 0]) ?_ 3 _ rfl; (with_reducible repeat (first | refine blk_drewN ?_ _ | refine blk_drew ?_ | refine blk_alloc ?_ _)); refine blk_put (cs := #[.bool t154, .int .u64 t155, .int .u64 0, .int .u64 0, .int .u64 0, .int .u64 0, .int .i64 0]) ?_ 2 _ rfl; (with_reducible repeat (first | refine blk_drewN ?_ _ | refine blk_drew ?_ | refine blk_alloc ?_ _)); refine blk_put (cs := #[.bool t154, .int .u64 0, .int .u64 0, .int .u64 0, .int .u64 0, .int .u64 0, .int .i64 0]) ?_ 1 _ rfl; (with_reducible repeat (first | refine blk_drewN ?_ _ | refine blk_drew ?_ | refine blk_alloc ?_ _)); refine blk_put (cs := #[.bool false, .int .u64 0, .int .u64 0, .int .u64 0, .int .u64 0, .int .u64 0, .int .i64 0]) ?_ 0 _ rfl; (with_reducible repeat (first | refine blk_drewN ?_ _ | refine blk_drew ?_ | refine blk_alloc ?_ _)); exact BK162.out) hb); have n4_ := Aside0.mk (below_step (by repeat (first | (with_reducible first | exact HB.out | apply below_alloc | apply pw_below_drewN | apply below_drew1 | refine below_set ?_ GE142.out | refine below_set ?_ GE143.out | refine below_set ?_ GE153.out | refine below_set ?_ GE162.out) | exact HB.out)) hb); clear BK142; clear BK143; clear BK153; clear BK162; clear HB; have BK142 := n0_; have BK143 := n1_; have BK153 := n2_; have BK162 := n3_; have HB := n4_; clear n0_ n1_ n2_ n3_ n4_; (try clear hb); (try clear hb2); (try clear hk); (try clear hi); have hcz51_0 : w50.cell? ⟨gb142, 0, none⟩ = some (.bool a0_0) := (blk_cell BK142.out 0).trans rfl; have hcz51_1 : w50.cell? ⟨gb142, 1, none⟩ = some (.int .u64 a0_1) := (blk_cell BK142.out 1).trans rfl; have hcz51_2 : w50.cell? ⟨gb142, 2, none⟩ = some (.int .u64 a0_2) := (blk_cell BK142.out 2).trans rfl; have hcz51_3 : w50.cell? ⟨gb142, 3, none⟩ = some (.int .u64 a0_3) := (blk_cell BK142.out 3).trans rfl; have hcz51_4 : w50.cell? ⟨gb142, 4, none⟩ = some (.int .u64 a0_4) := (blk_cell BK142.out 4).trans rfl; have hcz51_5 : w50.cell? ⟨gb142, 5, none⟩ = some (.int .u64 a0_5) := (blk_cell BK142.out 5).trans rfl; have hcz51_6 : w50.cell? ⟨gb142, 6, none⟩ = some (.int .i64 a0_6) := (blk_cell BK142.out 6).trans rfl; have hfz51_0 := blk_frozen BK142.out 0; have hfz51_1 := blk_frozen BK142.out 1; have hfz51_2 := blk_frozen BK142.out 2; have hfz51_3 := blk_frozen BK142.out 3; have hfz51_4 := blk_frozen BK142.out 4; have hfz51_5 := blk_frozen BK142.out 5; have hfz51_6 := blk_frozen BK142.out 6) | ((with_reducible refine gate_callee (f := 41) rfl ?_); refine goesL_ (some 55) rfl rfl Try.func41 (by kernel_rfl) rfl #[.agg #[.bool a0_0, .int .u64 a0_1, .int .u64 a0_2, .int .u64 a0_3, .int .u64 a0_4, .int .u64 a0_5, .int .i64 a0_6]] rfl (by (try simp only [List.map_toArray, List.map_cons, List.map_nil]); first | done | rfl | (simp only [List.length_drop, List.length_take]; rfl)) ?_; (with_reducible refine (shellgamelaw15_as.calls a0_0 a0_1 a0_2 a0_3 a0_4 a0_5 a0_6 t169 t170 t171 t172 t173 t174 t175 _ A11.out).mono ?_); rintro e w52 ⟨rfl, hb⟩; refine ⟨_, rfl, ?_⟩; have n0_ := Aside0.mk (blk_below (g := gb142) (o := .cells #[.bool a0_0, .int .u64 a0_1, .int .u64 a0_2, .int .u64 a0_3, .int .u64 a0_4, .int .u64 a0_5, .int .i64 a0_6] 31 (0, 0)) (by (with_reducible repeat (first | refine blk_drewN ?_ _ | refine blk_drew ?_ | refine blk_alloc ?_ _)); exact BK142.out) hb); have n1_ := Aside0.mk (blk_below (g := gb143) (o := .cells #[.int .u64 a1_0, .int .u64 a1_1, .int .u64 a1_2, .int .u64 a1_3, .int .u64 a1_4, .int .u64 a1_5, .int .u64 a1_6, .int .u64 a1_7] 58 (0, 0)) (by (with_reducible repeat (first | refine blk_drewN ?_ _ | refine blk_drew ?_ | refine blk_alloc ?_ _)); exact BK143.out) hb); have n2_ := Aside0.mk (blk_below (g := gb153) (o := .cells #[.bool t145, .int .u64 t146, .int .u64 t147, .int .u64 t148, .int .u64 t149, .int .u64 t150, .int .i64 t151] 31 (0, 0)) (by (with_reducible repeat (first | refine blk_drewN ?_ _ | refine blk_drew ?_ | refine blk_alloc ?_ _)); exact BK153.out) hb); have n3_ := Aside0.mk (blk_below (g := gb162) (o := .cells #[.bool t154, .int .u64 t155, .int .u64 t156, .int .u64 t157, .int .u64 t158, .int .u64 t159, .int .i64 t160] 65 (0, 0)) (by (with_reducible repeat (first | refine blk_drewN ?_ _ | refine blk_drew ?_ | refine blk_alloc ?_ _)); exact BK162.out) hb); have n4_ := Aside0.mk (below_step (by repeat (first | (with_reducible first | exact HB.out | apply below_alloc | apply pw_below_drewN | apply below_drew1 | refine below_set ?_ GE142.out | refine below_set ?_ GE143.out | refine below_set ?_ GE153.out | refine below_set ?_ GE162.out) | exact HB.out)) hb); clear BK142; clear BK143; clear BK153; clear BK162; clear HB; have BK142 := n0_; have BK143 := n1_; have BK153 := n2_; have BK162 := n3_; have HB := n4_; clear n0_ n1_ n2_ n3_ n4_; (try clear hb); (try clear hb2); (try clear hk); (try clear hi)) | ((with_reducible refine gate_callee (f := 40) rfl ?_); refine goesL_ (some 57) rfl rfl Try.func40 (by kernel_rfl) rfl #[.int .i64 a2, .agg #[.bool t169, .int .u64 t170, .int .u64 t171, .int .u64 t172, .int .u64 t173, .int .u64 t174, .int .i64 t175], .int .u64 a3] rfl (by (try simp only [List.map_toArray, List.map_cons, List.map_nil]); first | done | rfl | (simp only [List.length_drop, List.length_take]; rfl)) ?_; (with_reducible refine (shellgameref15_Use.calls k a2 t169 t170 t171 t172 t173 t174 t175 a3 t176 t177 _ A12.out).mono ?_); rintro e w53 ⟨rfl, hb⟩; refine ⟨_, rfl, ?_⟩; have n0_ := Aside0.mk (blk_below (g := gb142) (o := .cells #[.bool a0_0, .int .u64 a0_1, .int .u64 a0_2, .int .u64 a0_3, .int .u64 a0_4, .int .u64 a0_5, .int .i64 a0_6] 31 (0, 0)) (by (with_reducible repeat (first | refine blk_drewN ?_ _ | refine blk_drew ?_ | refine blk_alloc ?_ _)); exact BK142.out) hb); have n1_ := Aside0.mk (blk_below (g := gb143) (o := .cells #[.int .u64 a1_0, .int .u64 a1_1, .int .u64 a1_2, .int .u64 a1_3, .int .u64 a1_4, .int .u64 a1_5, .int .u64 a1_6, .int .u64 a1_7] 58 (0, 0)) (by (with_reducible repeat (first | refine blk_drewN ?_ _ | refine blk_drew ?_ | refine blk_alloc ?_ _)); exact BK143.out) hb); have n2_ := Aside0.mk (blk_below (g := gb153) (o := .cells #[.bool t145, .int .u64 t146, .int .u64 t147, .int .u64 t148, .int .u64 t149, .int .u64 t150, .int .i64 t151] 31 (0, 0)) (by (with_reducible repeat (first | refine blk_drewN ?_ _ | refine blk_drew ?_ | refine blk_alloc ?_ _)); exact BK153.out) hb); have n3_ := Aside0.mk (blk_below (g := gb162) (o := .cells #[.bool t154, .int .u64 t155, .int .u64 t156, .int .u64 t157, .int .u64 t158, .int .u64 t159, .int .i64 t160] 65 (0, 0)) (by (with_reducible repeat (first | refine blk_drewN ?_ _ | refine blk_drew ?_ | refine blk_alloc ?_ _)); exact BK162.out) hb); have n4_ := Aside0.mk (below_step (by repeat (first | (with_reducible first | exact HB.out | apply below_alloc | apply pw_below_drewN | apply below_drew1 | refine below_set ?_ GE142.out | refine below_set ?_ GE143.out | refine below_set ?_ GE153.out | refine below_set ?_ GE162.out) | exact HB.out)) hb); clear BK142; clear BK143; clear BK153; clear BK162; clear HB; have BK142 := n0_; have BK143 := n1_; have BK153 := n2_; have BK162 := n3_; have HB := n4_; clear n0_ n1_ n2_ n3_ n4_; (try clear hb); (try clear hb2); (try clear hk); (try clear hi)))
                    have n0_ := Aside0.mk (blk_drew BK142.out)
                    have n1_ := Aside0.mk (blk_drew BK143.out)
                    have n2_ := Aside0.mk (blk_drew BK153.out)
                    have n3_ := Aside0.mk (blk_drew BK162.out)
                    have n4_ := Aside0.mk (below_drew1 HB.out)
                    clear BK142
                    clear BK143
                    clear BK153
                    clear BK162
                    clear HB
                    have BK142 := n0_
                    have BK143 := n1_
                    have BK153 := n2_
                    have BK162 := n3_
                    have HB := n4_
                    clear n0_ n1_ n2_ n3_ n4_
                    refine start_ (n := 59) (S := fun w' => w'.cell? ⟨gb142, 0, none⟩ = some (.bool a0_0) ∧ w'.cell? ⟨gb142, 1, none⟩ = some (.int .u64 a0_1) ∧ w'.cell? ⟨gb142, 2, none⟩ = some (.int .u64 a0_2) ∧ w'.cell? ⟨gb142, 3, none⟩ = some (.int .u64 a0_3) ∧ w'.cell? ⟨gb142, 4, none⟩ = some (.int .u64 a0_4) ∧ w'.cell? ⟨gb142, 5, none⟩ = some (.int .u64 a0_5) ∧ w'.cell? ⟨gb142, 6, none⟩ = some (.int .i64 a0_6) ∧ w'.cell? ⟨gb153, 0, none⟩ = some (.bool t145) ∧ w'.cell? ⟨gb153, 1, none⟩ = some (.int .u64 t146) ∧ w'.cell? ⟨gb153, 2, none⟩ = some (.int .u64 t147) ∧ w'.cell? ⟨gb153, 3, none⟩ = some (.int .u64 t148) ∧ w'.cell? ⟨gb153, 4, none⟩ = some (.int .u64 t149) ∧ w'.cell? ⟨gb153, 5, none⟩ = some (.int .u64 t150) ∧ w'.cell? ⟨gb153, 6, none⟩ = some (.int .i64 t151) ∧ w'.cell? ⟨gb162, 0, none⟩ = some (.bool t154) ∧ w'.cell? ⟨gb162, 1, none⟩ = some (.int .u64 t155) ∧ w'.cell? ⟨gb162, 2, none⟩ = some (.int .u64 t156) ∧ w'.cell? ⟨gb162, 3, none⟩ = some (.int .u64 t157) ∧ w'.cell? ⟨gb162, 4, none⟩ = some (.int .u64 t158) ∧ w'.cell? ⟨gb162, 5, none⟩ = some (.int .u64 t159) ∧ w'.cell? ⟨gb162, 6, none⟩ = some (.int .i64 t160)) (ds := []) #[false, false, false, false, false, false, false, false, false, false, false, false, false, false, false, false, false, false, false, false, false, false, false, false, false, false, false, false, false, false, false, false, false, false, false, false, false, false, false, false, false, false, false, false, false, false, false, false, false, false, false, false, false, false, false, false, false, false, false] (by kernel_rfl) rfl rfl ⟨(blk_cell BK142.out 0).trans rfl, (blk_cell BK142.out 1).trans rfl, (blk_cell BK142.out 2).trans rfl, (blk_cell BK142.out 3).trans rfl, (blk_cell BK142.out 4).trans rfl, (blk_cell BK142.out 5).trans rfl, (blk_cell BK142.out 6).trans rfl, (blk_cell BK153.out 0).trans rfl, (blk_cell BK153.out 1).trans rfl, (blk_cell BK153.out 2).trans rfl, (blk_cell BK153.out 3).trans rfl, (blk_cell BK153.out 4).trans rfl, (blk_cell BK153.out 5).trans rfl, (blk_cell BK153.out 6).trans rfl, (blk_cell BK162.out 0).trans rfl, (blk_cell BK162.out 1).trans rfl, (blk_cell BK162.out 2).trans rfl, (blk_cell BK162.out 3).trans rfl, (blk_cell BK162.out 4).trans rfl, (blk_cell BK162.out 5).trans rfl, (blk_cell BK162.out 6).trans rfl⟩ (fun hHeld => ?_); refine with_tabW shellgamelaw15_SlotBlocks.tab8 shellgamelaw15_SlotBlocks.bits8 (fun HT_ HW_ => ?_)
                    generalize w53.drew = w54 at BK142 BK143 BK153 BK162 HB hHeld ⊢
                    refine pure_ (i := 0) (N := some 60) (v := ?_) (a' := ?_) #[true, false, false, false, false, false, false, false, false, false, false, false, false, false, false, false, false, false, false, false, false, false, false, false, false, false, false, false, false, false, false, false, false, false, false, false, false, false, false, false, false, false, false, false, false, false, false, false, false, false, false, false, false, false, false, false, false, false, false] rfl rfl (any_of HT_.out (by kernel_rfl)) (fun _ _ _ h => h) (Or.inl ⟨by rfl, ?_⟩) ?_ ?_
                    rotate_left
                    · intro w'
                      go_simp
                      with_reducible rfl
                    rotate_left
                    · simp only [Act.put, List.setIfInBounds_toArray, List.set_cons_zero, List.set_cons_succ, i64_w, i32_w]
                      rfl
                    refine pure_ (i := 1) (N := some 61) (v := ?_) (a' := ?_) #[true, true, false, false, false, false, false, false, false, false, false, false, false, false, false, false, false, false, false, false, false, false, false, false, false, false, false, false, false, false, false, false, false, false, false, false, false, false, false, false, false, false, false, false, false, false, false, false, false, false, false, false, false, false, false, false, false, false, false] rfl rfl (any_of HT_.out (by kernel_rfl)) (fun _ _ _ h => h) (Or.inl ⟨by rfl, ?_⟩) ?_ ?_
                    rotate_left
                    · intro w'
                      go_simp
                      with_reducible rfl
                    rotate_left
                    · simp only [Act.put, List.setIfInBounds_toArray, List.set_cons_zero, List.set_cons_succ, i64_w, i32_w]
                      rfl
                    refine take_ (i := 2) (N := some 62) (v := ?_) (a' := ?_) #[true, true, true, false, false, false, false, false, false, false, false, false, false, false, false, false, false, false, false, false, false, false, false, false, false, false, false, false, false, false, false, false, false, false, false, false, false, false, false, false, false, false, false, false, false, false, false, false, false, false, false, false, false, false, false, false, false, false, false] rfl rfl (take_ofW HT_.out HW_.out (by kernel_rfl)) (fun _ _ _ h => h) (Or.inl ⟨by rfl, ?_⟩) hHeld ?_ ?_
                    rotate_left
                    · rintro w' ⟨s0, s1, s2, s3, s4, s5, s6, s7, s8, s9, s10, s11, s12, s13, s14, s15, s16, s17, s18, s19, s20⟩
                      go_simp
                      with_reducible rfl
                    rotate_left
                    · simp only [Act.put, List.setIfInBounds_toArray, List.set_cons_zero, List.set_cons_succ, i64_w, i32_w]
                      rfl
                    refine take_ (i := 4) (N := some 64) (v := ?_) (a' := ?_) #[true, true, true, false, true, false, false, false, false, false, false, false, false, false, false, false, false, false, false, false, false, false, false, false, false, false, false, false, false, false, false, false, false, false, false, false, false, false, false, false, false, false, false, false, false, false, false, false, false, false, false, false, false, false, false, false, false, false, false] rfl rfl (take_ofW HT_.out HW_.out (by kernel_rfl)) (fun _ _ _ h => h) (Or.inl ⟨by rfl, ?_⟩) hHeld ?_ ?_
                    rotate_left
                    · rintro w' ⟨s0, s1, s2, s3, s4, s5, s6, s7, s8, s9, s10, s11, s12, s13, s14, s15, s16, s17, s18, s19, s20⟩
                      go_simp
                      with_reducible rfl
                    rotate_left
                    · simp only [Act.put, List.setIfInBounds_toArray, List.set_cons_zero, List.set_cons_succ, i64_w, i32_w]
                      rfl
                    refine one_ (i := 3) (N := some 63) #[true, true, true, true, true, false, false, false, false, false, false, false, false, false, false, false, false, false, false, false, false, false, false, false, false, false, false, false, false, false, false, false, false, false, false, false, false, false, false, false, false, false, false, false, false, false, false, false, false, false, false, false, false, false, false, false, false, false, false] rfl rfl (one_of HT_.out (by kernel_rfl)) (by decide) (fun K hK => ?_)
                    refine goes_ Try.func36 (by kernel_rfl) rfl #[.agg #[.bool a0_0, .int .u64 a0_1, .int .u64 a0_2, .int .u64 a0_3, .int .u64 a0_4, .int .u64 a0_5, .int .i64 a0_6]] (by rfl) rfl rfl (by (try simp only [List.map_toArray, List.map_cons, List.map_nil]); first | done | rfl | (simp only [List.length_drop, List.length_take]; rfl)) ?_
                    with_reducible refine (slot_Right.calls a0_0 a0_1 a0_2 a0_3 a0_4 a0_5 a0_6 t178 _ A14.out).mono ?_
                    rintro e w55 ⟨rfl, hb⟩
                    refine ⟨_, rfl, ?_⟩
                    have n0_ := Aside0.mk (blk_below (g := gb142) (o := .cells #[.bool a0_0, .int .u64 a0_1, .int .u64 a0_2, .int .u64 a0_3, .int .u64 a0_4, .int .u64 a0_5, .int .i64 a0_6] 31 (0, 0)) (by (with_reducible repeat (first | refine blk_drewN ?_ _ | refine blk_drew ?_ | refine blk_alloc ?_ _)); exact BK142.out) hb)
                    have n1_ := Aside0.mk (blk_below (g := gb143) (o := .cells #[.int .u64 a1_0, .int .u64 a1_1, .int .u64 a1_2, .int .u64 a1_3, .int .u64 a1_4, .int .u64 a1_5, .int .u64 a1_6, .int .u64 a1_7] 58 (0, 0)) (by (with_reducible repeat (first | refine blk_drewN ?_ _ | refine blk_drew ?_ | refine blk_alloc ?_ _)); exact BK143.out) hb)
                    have n2_ := Aside0.mk (blk_below (g := gb153) (o := .cells #[.bool t145, .int .u64 t146, .int .u64 t147, .int .u64 t148, .int .u64 t149, .int .u64 t150, .int .i64 t151] 31 (0, 0)) (by (with_reducible repeat (first | refine blk_drewN ?_ _ | refine blk_drew ?_ | refine blk_alloc ?_ _)); exact BK153.out) hb)
                    have n3_ := Aside0.mk (blk_below (g := gb162) (o := .cells #[.bool t154, .int .u64 t155, .int .u64 t156, .int .u64 t157, .int .u64 t158, .int .u64 t159, .int .i64 t160] 65 (0, 0)) (by (with_reducible repeat (first | refine blk_drewN ?_ _ | refine blk_drew ?_ | refine blk_alloc ?_ _)); exact BK162.out) hb)
                    have n4_ := Aside0.mk (below_step (by repeat (first | (with_reducible first | exact HB.out | apply below_alloc | apply pw_below_drewN | apply below_drew1 | refine below_set ?_ GE142.out | refine below_set ?_ GE143.out | refine below_set ?_ GE153.out | refine below_set ?_ GE162.out) | exact HB.out)) hb)
                    clear BK142
                    clear BK143
                    clear BK153
                    clear BK162
                    clear HB
                    have BK142 := n0_
                    have BK143 := n1_
                    have BK153 := n2_
                    have BK162 := n3_
                    have HB := n4_
                    clear n0_ n1_ n2_ n3_ n4_
                    (try clear hb)
                    (try clear hb2)
                    (try clear hk)
                    (try clear hi)
                    refine hK.out _ _ ⟨(blk_cell BK142.out 0).trans rfl, (blk_cell BK142.out 1).trans rfl, (blk_cell BK142.out 2).trans rfl, (blk_cell BK142.out 3).trans rfl, (blk_cell BK142.out 4).trans rfl, (blk_cell BK142.out 5).trans rfl, (blk_cell BK142.out 6).trans rfl, (blk_cell BK153.out 0).trans rfl, (blk_cell BK153.out 1).trans rfl, (blk_cell BK153.out 2).trans rfl, (blk_cell BK153.out 3).trans rfl, (blk_cell BK153.out 4).trans rfl, (blk_cell BK153.out 5).trans rfl, (blk_cell BK153.out 6).trans rfl, (blk_cell BK162.out 0).trans rfl, (blk_cell BK162.out 1).trans rfl, (blk_cell BK162.out 2).trans rfl, (blk_cell BK162.out 3).trans rfl, (blk_cell BK162.out 4).trans rfl, (blk_cell BK162.out 5).trans rfl, (blk_cell BK162.out 6).trans rfl⟩ (fun hHeld => ?_)
                    clear hK K
                    refine norm_ (a' := ?_) ?_ ?_
                    rotate_left
                    · show Act.put _ (some 63) _ = _
                      simp only [Act.put, List.setIfInBounds_toArray, List.set_cons_zero, List.set_cons_succ, i64_w, i32_w]
                      rfl
                    refine one_ (i := 5) (N := some 65) #[true, true, true, true, true, true, false, false, false, false, false, false, false, false, false, false, false, false, false, false, false, false, false, false, false, false, false, false, false, false, false, false, false, false, false, false, false, false, false, false, false, false, false, false, false, false, false, false, false, false, false, false, false, false, false, false, false, false, false] rfl rfl (one_of HT_.out (by kernel_rfl)) (by decide) (fun K hK => ?_)
                    refine goes_ Try.func41 (by kernel_rfl) rfl #[.agg #[.bool a0_0, .int .u64 a0_1, .int .u64 a0_2, .int .u64 a0_3, .int .u64 a0_4, .int .u64 a0_5, .int .i64 a0_6]] (by rfl) rfl rfl (by (try simp only [List.map_toArray, List.map_cons, List.map_nil]); first | done | rfl | (simp only [List.length_drop, List.length_take]; rfl)) ?_
                    with_reducible refine (shellgamelaw15_as.calls a0_0 a0_1 a0_2 a0_3 a0_4 a0_5 a0_6 t179 t180 t181 t182 t183 t184 t185 _ A15.out).mono ?_
                    rintro e w56 ⟨rfl, hb⟩
                    refine ⟨_, rfl, ?_⟩
                    have n0_ := Aside0.mk (blk_below (g := gb142) (o := .cells #[.bool a0_0, .int .u64 a0_1, .int .u64 a0_2, .int .u64 a0_3, .int .u64 a0_4, .int .u64 a0_5, .int .i64 a0_6] 31 (0, 0)) (by (with_reducible repeat (first | refine blk_drewN ?_ _ | refine blk_drew ?_ | refine blk_alloc ?_ _)); exact BK142.out) hb)
                    have n1_ := Aside0.mk (blk_below (g := gb143) (o := .cells #[.int .u64 a1_0, .int .u64 a1_1, .int .u64 a1_2, .int .u64 a1_3, .int .u64 a1_4, .int .u64 a1_5, .int .u64 a1_6, .int .u64 a1_7] 58 (0, 0)) (by (with_reducible repeat (first | refine blk_drewN ?_ _ | refine blk_drew ?_ | refine blk_alloc ?_ _)); exact BK143.out) hb)
                    have n2_ := Aside0.mk (blk_below (g := gb153) (o := .cells #[.bool t145, .int .u64 t146, .int .u64 t147, .int .u64 t148, .int .u64 t149, .int .u64 t150, .int .i64 t151] 31 (0, 0)) (by (with_reducible repeat (first | refine blk_drewN ?_ _ | refine blk_drew ?_ | refine blk_alloc ?_ _)); exact BK153.out) hb)
                    have n3_ := Aside0.mk (blk_below (g := gb162) (o := .cells #[.bool t154, .int .u64 t155, .int .u64 t156, .int .u64 t157, .int .u64 t158, .int .u64 t159, .int .i64 t160] 65 (0, 0)) (by (with_reducible repeat (first | refine blk_drewN ?_ _ | refine blk_drew ?_ | refine blk_alloc ?_ _)); exact BK162.out) hb)
                    have n4_ := Aside0.mk (below_step (by repeat (first | (with_reducible first | exact HB.out | apply below_alloc | apply pw_below_drewN | apply below_drew1 | refine below_set ?_ GE142.out | refine below_set ?_ GE143.out | refine below_set ?_ GE153.out | refine below_set ?_ GE162.out) | exact HB.out)) hb)
                    clear BK142
                    clear BK143
                    clear BK153
                    clear BK162
                    clear HB
                    have BK142 := n0_
                    have BK143 := n1_
                    have BK153 := n2_
                    have BK162 := n3_
                    have HB := n4_
                    clear n0_ n1_ n2_ n3_ n4_
                    (try clear hb)
                    (try clear hb2)
                    (try clear hk)
                    (try clear hi)
                    refine hK.out _ _ ⟨(blk_cell BK142.out 0).trans rfl, (blk_cell BK142.out 1).trans rfl, (blk_cell BK142.out 2).trans rfl, (blk_cell BK142.out 3).trans rfl, (blk_cell BK142.out 4).trans rfl, (blk_cell BK142.out 5).trans rfl, (blk_cell BK142.out 6).trans rfl, (blk_cell BK153.out 0).trans rfl, (blk_cell BK153.out 1).trans rfl, (blk_cell BK153.out 2).trans rfl, (blk_cell BK153.out 3).trans rfl, (blk_cell BK153.out 4).trans rfl, (blk_cell BK153.out 5).trans rfl, (blk_cell BK153.out 6).trans rfl, (blk_cell BK162.out 0).trans rfl, (blk_cell BK162.out 1).trans rfl, (blk_cell BK162.out 2).trans rfl, (blk_cell BK162.out 3).trans rfl, (blk_cell BK162.out 4).trans rfl, (blk_cell BK162.out 5).trans rfl, (blk_cell BK162.out 6).trans rfl⟩ (fun hHeld => ?_)
                    clear hK K
                    refine norm_ (a' := ?_) ?_ ?_
                    rotate_left
                    · show Act.put _ (some 65) _ = _
                      simp only [Act.put, List.setIfInBounds_toArray, List.set_cons_zero, List.set_cons_succ, i64_w, i32_w]
                      rfl
                    refine one_ (i := 6) (N := some 66) #[true, true, true, true, true, true, true, false, false, false, false, false, false, false, false, false, false, false, false, false, false, false, false, false, false, false, false, false, false, false, false, false, false, false, false, false, false, false, false, false, false, false, false, false, false, false, false, false, false, false, false, false, false, false, false, false, false, false, false] rfl rfl (one_of HT_.out (by kernel_rfl)) (by decide) (fun K hK => ?_)
                    refine goes_ Try.func42 (by kernel_rfl) rfl #[.agg #[.bool t179, .int .u64 t180, .int .u64 t181, .int .u64 t182, .int .u64 t183, .int .u64 t184, .int .i64 t185]] (by rfl) rfl rfl (by (try simp only [List.map_toArray, List.map_cons, List.map_nil]); first | done | rfl | (simp only [List.length_drop, List.length_take]; rfl)) ?_
                    with_reducible refine (shellgameref15_Right.calls t179 t180 t181 t182 t183 t184 t185 t186 _ A16.out).mono ?_
                    rintro e w57 ⟨rfl, hb⟩
                    refine ⟨_, rfl, ?_⟩
                    have n0_ := Aside0.mk (blk_below (g := gb142) (o := .cells #[.bool a0_0, .int .u64 a0_1, .int .u64 a0_2, .int .u64 a0_3, .int .u64 a0_4, .int .u64 a0_5, .int .i64 a0_6] 31 (0, 0)) (by (with_reducible repeat (first | refine blk_drewN ?_ _ | refine blk_drew ?_ | refine blk_alloc ?_ _)); exact BK142.out) hb)
                    have n1_ := Aside0.mk (blk_below (g := gb143) (o := .cells #[.int .u64 a1_0, .int .u64 a1_1, .int .u64 a1_2, .int .u64 a1_3, .int .u64 a1_4, .int .u64 a1_5, .int .u64 a1_6, .int .u64 a1_7] 58 (0, 0)) (by (with_reducible repeat (first | refine blk_drewN ?_ _ | refine blk_drew ?_ | refine blk_alloc ?_ _)); exact BK143.out) hb)
                    have n2_ := Aside0.mk (blk_below (g := gb153) (o := .cells #[.bool t145, .int .u64 t146, .int .u64 t147, .int .u64 t148, .int .u64 t149, .int .u64 t150, .int .i64 t151] 31 (0, 0)) (by (with_reducible repeat (first | refine blk_drewN ?_ _ | refine blk_drew ?_ | refine blk_alloc ?_ _)); exact BK153.out) hb)
                    have n3_ := Aside0.mk (blk_below (g := gb162) (o := .cells #[.bool t154, .int .u64 t155, .int .u64 t156, .int .u64 t157, .int .u64 t158, .int .u64 t159, .int .i64 t160] 65 (0, 0)) (by (with_reducible repeat (first | refine blk_drewN ?_ _ | refine blk_drew ?_ | refine blk_alloc ?_ _)); exact BK162.out) hb)
                    have n4_ := Aside0.mk (below_step (by repeat (first | (with_reducible first | exact HB.out | apply below_alloc | apply pw_below_drewN | apply below_drew1 | refine below_set ?_ GE142.out | refine below_set ?_ GE143.out | refine below_set ?_ GE153.out | refine below_set ?_ GE162.out) | exact HB.out)) hb)
                    clear BK142
                    clear BK143
                    clear BK153
                    clear BK162
                    clear HB
                    have BK142 := n0_
                    have BK143 := n1_
                    have BK153 := n2_
                    have BK162 := n3_
                    have HB := n4_
                    clear n0_ n1_ n2_ n3_ n4_
                    (try clear hb)
                    (try clear hb2)
                    (try clear hk)
                    (try clear hi)
                    refine hK.out _ _ ⟨(blk_cell BK142.out 0).trans rfl, (blk_cell BK142.out 1).trans rfl, (blk_cell BK142.out 2).trans rfl, (blk_cell BK142.out 3).trans rfl, (blk_cell BK142.out 4).trans rfl, (blk_cell BK142.out 5).trans rfl, (blk_cell BK142.out 6).trans rfl, (blk_cell BK153.out 0).trans rfl, (blk_cell BK153.out 1).trans rfl, (blk_cell BK153.out 2).trans rfl, (blk_cell BK153.out 3).trans rfl, (blk_cell BK153.out 4).trans rfl, (blk_cell BK153.out 5).trans rfl, (blk_cell BK153.out 6).trans rfl, (blk_cell BK162.out 0).trans rfl, (blk_cell BK162.out 1).trans rfl, (blk_cell BK162.out 2).trans rfl, (blk_cell BK162.out 3).trans rfl, (blk_cell BK162.out 4).trans rfl, (blk_cell BK162.out 5).trans rfl, (blk_cell BK162.out 6).trans rfl⟩ (fun hHeld => ?_)
                    clear hK K
                    refine norm_ (a' := ?_) ?_ ?_
                    rotate_left
                    · show Act.put _ (some 66) _ = _
                      simp only [Act.put, List.setIfInBounds_toArray, List.set_cons_zero, List.set_cons_succ, i64_w, i32_w]
                      rfl
                    refine pure_ (i := 7) (N := some 67) (v := ?_) (a' := ?_) #[true, true, true, true, true, true, true, true, false, false, false, false, false, false, false, false, false, false, false, false, false, false, false, false, false, false, false, false, false, false, false, false, false, false, false, false, false, false, false, false, false, false, false, false, false, false, false, false, false, false, false, false, false, false, false, false, false, false, false] rfl rfl (any_of HT_.out (by kernel_rfl)) (fun _ _ _ h => h) (Or.inl ⟨by rfl, ?_⟩) ?_ ?_
                    rotate_left
                    · intro w'
                      go_simp
                      with_reducible rfl
                    rotate_left
                    · simp only [Act.put, List.setIfInBounds_toArray, List.set_cons_zero, List.set_cons_succ, i64_w, i32_w]
                      rfl
                    refine pure_ (i := 8) (N := some 68) (v := ?_) (a' := ?_) #[true, true, true, true, true, true, true, true, true, false, false, false, false, false, false, false, false, false, false, false, false, false, false, false, false, false, false, false, false, false, false, false, false, false, false, false, false, false, false, false, false, false, false, false, false, false, false, false, false, false, false, false, false, false, false, false, false, false, false] rfl rfl (any_of HT_.out (by kernel_rfl)) (fun _ _ _ h => h) (Or.inl ⟨by rfl, ?_⟩) ?_ ?_
                    rotate_left
                    · intro w'
                      go_simp
                      with_reducible rfl
                    rotate_left
                    · simp only [Act.put, List.setIfInBounds_toArray, List.set_cons_zero, List.set_cons_succ, i64_w, i32_w]
                      rfl
                    refine pure_ (i := 9) (N := some 69) (v := ?_) (a' := ?_) #[true, true, true, true, true, true, true, true, true, true, false, false, false, false, false, false, false, false, false, false, false, false, false, false, false, false, false, false, false, false, false, false, false, false, false, false, false, false, false, false, false, false, false, false, false, false, false, false, false, false, false, false, false, false, false, false, false, false, false] rfl rfl (any_of HT_.out (by kernel_rfl)) (fun _ _ _ h => h) (Or.inl ⟨by rfl, ?_⟩) ?_ ?_
                    rotate_left
                    · intro w'
                      go_simp
                      with_reducible rfl
                    rotate_left
                    · simp only [Act.put, List.setIfInBounds_toArray, List.set_cons_zero, List.set_cons_succ, i64_w, i32_w]
                      rfl
                    refine take_ (i := 10) (N := some 70) (v := ?_) (a' := ?_) #[true, true, true, true, true, true, true, true, true, true, true, false, false, false, false, false, false, false, false, false, false, false, false, false, false, false, false, false, false, false, false, false, false, false, false, false, false, false, false, false, false, false, false, false, false, false, false, false, false, false, false, false, false, false, false, false, false, false, false] rfl rfl (take_ofW HT_.out HW_.out (by kernel_rfl)) (fun _ _ _ h => h) (Or.inl ⟨by rfl, ?_⟩) hHeld ?_ ?_
                    rotate_left
                    · rintro w' ⟨s0, s1, s2, s3, s4, s5, s6, s7, s8, s9, s10, s11, s12, s13, s14, s15, s16, s17, s18, s19, s20⟩
                      go_simp
                      with_reducible rfl
                    rotate_left
                    · simp only [Act.put, List.setIfInBounds_toArray, List.set_cons_zero, List.set_cons_succ, i64_w, i32_w]
                      rfl
                    refine take_ (i := 12) (N := some 72) (v := ?_) (a' := ?_) #[true, true, true, true, true, true, true, true, true, true, true, false, true, false, false, false, false, false, false, false, false, false, false, false, false, false, false, false, false, false, false, false, false, false, false, false, false, false, false, false, false, false, false, false, false, false, false, false, false, false, false, false, false, false, false, false, false, false, false] rfl rfl (take_ofW HT_.out HW_.out (by kernel_rfl)) (fun _ _ _ h => h) (Or.inl ⟨by rfl, ?_⟩) hHeld ?_ ?_
                    rotate_left
                    · rintro w' ⟨s0, s1, s2, s3, s4, s5, s6, s7, s8, s9, s10, s11, s12, s13, s14, s15, s16, s17, s18, s19, s20⟩
                      go_simp
                      with_reducible rfl
                    rotate_left
                    · simp only [Act.put, List.setIfInBounds_toArray, List.set_cons_zero, List.set_cons_succ, i64_w, i32_w]
                      rfl
                    refine one_ (i := 11) (N := some 71) #[true, true, true, true, true, true, true, true, true, true, true, true, true, false, false, false, false, false, false, false, false, false, false, false, false, false, false, false, false, false, false, false, false, false, false, false, false, false, false, false, false, false, false, false, false, false, false, false, false, false, false, false, false, false, false, false, false, false, false] rfl rfl (one_of HT_.out (by kernel_rfl)) (by decide) (fun K hK => ?_)
                    refine goes_ Try.func35 (by kernel_rfl) rfl #[.agg #[.bool a0_0, .int .u64 a0_1, .int .u64 a0_2, .int .u64 a0_3, .int .u64 a0_4, .int .u64 a0_5, .int .i64 a0_6]] (by rfl) rfl rfl (by (try simp only [List.map_toArray, List.map_cons, List.map_nil]); first | done | rfl | (simp only [List.length_drop, List.length_take]; rfl)) ?_
                    with_reducible refine (slot_Data.calls a0_0 a0_1 a0_2 a0_3 a0_4 a0_5 a0_6 t187 t188 t189 t190 t191 t192 t193 t194 _ A18.out).mono ?_
                    rintro e w58 ⟨rfl, hb⟩
                    refine ⟨_, rfl, ?_⟩
                    have n0_ := Aside0.mk (blk_below (g := gb142) (o := .cells #[.bool a0_0, .int .u64 a0_1, .int .u64 a0_2, .int .u64 a0_3, .int .u64 a0_4, .int .u64 a0_5, .int .i64 a0_6] 31 (0, 0)) (by (with_reducible repeat (first | refine blk_drewN ?_ _ | refine blk_drew ?_ | refine blk_alloc ?_ _)); exact BK142.out) hb)
                    have n1_ := Aside0.mk (blk_below (g := gb143) (o := .cells #[.int .u64 a1_0, .int .u64 a1_1, .int .u64 a1_2, .int .u64 a1_3, .int .u64 a1_4, .int .u64 a1_5, .int .u64 a1_6, .int .u64 a1_7] 58 (0, 0)) (by (with_reducible repeat (first | refine blk_drewN ?_ _ | refine blk_drew ?_ | refine blk_alloc ?_ _)); exact BK143.out) hb)
                    have n2_ := Aside0.mk (blk_below (g := gb153) (o := .cells #[.bool t145, .int .u64 t146, .int .u64 t147, .int .u64 t148, .int .u64 t149, .int .u64 t150, .int .i64 t151] 31 (0, 0)) (by (with_reducible repeat (first | refine blk_drewN ?_ _ | refine blk_drew ?_ | refine blk_alloc ?_ _)); exact BK153.out) hb)
                    have n3_ := Aside0.mk (blk_below (g := gb162) (o := .cells #[.bool t154, .int .u64 t155, .int .u64 t156, .int .u64 t157, .int .u64 t158, .int .u64 t159, .int .i64 t160] 65 (0, 0)) (by (with_reducible repeat (first | refine blk_drewN ?_ _ | refine blk_drew ?_ | refine blk_alloc ?_ _)); exact BK162.out) hb)
                    have n4_ := Aside0.mk (below_step (by repeat (first | (with_reducible first | exact HB.out | apply below_alloc | apply pw_below_drewN | apply below_drew1 | refine below_set ?_ GE142.out | refine below_set ?_ GE143.out | refine below_set ?_ GE153.out | refine below_set ?_ GE162.out) | exact HB.out)) hb)
                    clear BK142
                    clear BK143
                    clear BK153
                    clear BK162
                    clear HB
                    have BK142 := n0_
                    have BK143 := n1_
                    have BK153 := n2_
                    have BK162 := n3_
                    have HB := n4_
                    clear n0_ n1_ n2_ n3_ n4_
                    (try clear hb)
                    (try clear hb2)
                    (try clear hk)
                    (try clear hi)
                    refine hK.out _ _ ⟨(blk_cell BK142.out 0).trans rfl, (blk_cell BK142.out 1).trans rfl, (blk_cell BK142.out 2).trans rfl, (blk_cell BK142.out 3).trans rfl, (blk_cell BK142.out 4).trans rfl, (blk_cell BK142.out 5).trans rfl, (blk_cell BK142.out 6).trans rfl, (blk_cell BK153.out 0).trans rfl, (blk_cell BK153.out 1).trans rfl, (blk_cell BK153.out 2).trans rfl, (blk_cell BK153.out 3).trans rfl, (blk_cell BK153.out 4).trans rfl, (blk_cell BK153.out 5).trans rfl, (blk_cell BK153.out 6).trans rfl, (blk_cell BK162.out 0).trans rfl, (blk_cell BK162.out 1).trans rfl, (blk_cell BK162.out 2).trans rfl, (blk_cell BK162.out 3).trans rfl, (blk_cell BK162.out 4).trans rfl, (blk_cell BK162.out 5).trans rfl, (blk_cell BK162.out 6).trans rfl⟩ (fun hHeld => ?_)
                    clear hK K
                    refine norm_ (a' := ?_) ?_ ?_
                    rotate_left
                    · show Act.put _ (some 71) _ = _
                      simp only [Act.put, List.setIfInBounds_toArray, List.set_cons_zero, List.set_cons_succ, i64_w, i32_w]
                      rfl
                    refine one_ (i := 13) (N := some 73) #[true, true, true, true, true, true, true, true, true, true, true, true, true, true, false, false, false, false, false, false, false, false, false, false, false, false, false, false, false, false, false, false, false, false, false, false, false, false, false, false, false, false, false, false, false, false, false, false, false, false, false, false, false, false, false, false, false, false, false] rfl rfl (one_of HT_.out (by kernel_rfl)) (by decide) (fun K hK => ?_)
                    refine goes_ Try.func41 (by kernel_rfl) rfl #[.agg #[.bool a0_0, .int .u64 a0_1, .int .u64 a0_2, .int .u64 a0_3, .int .u64 a0_4, .int .u64 a0_5, .int .i64 a0_6]] (by rfl) rfl rfl (by (try simp only [List.map_toArray, List.map_cons, List.map_nil]); first | done | rfl | (simp only [List.length_drop, List.length_take]; rfl)) ?_
                    with_reducible refine (shellgamelaw15_as.calls a0_0 a0_1 a0_2 a0_3 a0_4 a0_5 a0_6 t195 t196 t197 t198 t199 t200 t201 _ A19.out).mono ?_
                    rintro e w59 ⟨rfl, hb⟩
                    refine ⟨_, rfl, ?_⟩
                    have n0_ := Aside0.mk (blk_below (g := gb142) (o := .cells #[.bool a0_0, .int .u64 a0_1, .int .u64 a0_2, .int .u64 a0_3, .int .u64 a0_4, .int .u64 a0_5, .int .i64 a0_6] 31 (0, 0)) (by (with_reducible repeat (first | refine blk_drewN ?_ _ | refine blk_drew ?_ | refine blk_alloc ?_ _)); exact BK142.out) hb)
                    have n1_ := Aside0.mk (blk_below (g := gb143) (o := .cells #[.int .u64 a1_0, .int .u64 a1_1, .int .u64 a1_2, .int .u64 a1_3, .int .u64 a1_4, .int .u64 a1_5, .int .u64 a1_6, .int .u64 a1_7] 58 (0, 0)) (by (with_reducible repeat (first | refine blk_drewN ?_ _ | refine blk_drew ?_ | refine blk_alloc ?_ _)); exact BK143.out) hb)
                    have n2_ := Aside0.mk (blk_below (g := gb153) (o := .cells #[.bool t145, .int .u64 t146, .int .u64 t147, .int .u64 t148, .int .u64 t149, .int .u64 t150, .int .i64 t151] 31 (0, 0)) (by (with_reducible repeat (first | refine blk_drewN ?_ _ | refine blk_drew ?_ | refine blk_alloc ?_ _)); exact BK153.out) hb)
                    have n3_ := Aside0.mk (blk_below (g := gb162) (o := .cells #[.bool t154, .int .u64 t155, .int .u64 t156, .int .u64 t157, .int .u64 t158, .int .u64 t159, .int .i64 t160] 65 (0, 0)) (by (with_reducible repeat (first | refine blk_drewN ?_ _ | refine blk_drew ?_ | refine blk_alloc ?_ _)); exact BK162.out) hb)
                    have n4_ := Aside0.mk (below_step (by repeat (first | (with_reducible first | exact HB.out | apply below_alloc | apply pw_below_drewN | apply below_drew1 | refine below_set ?_ GE142.out | refine below_set ?_ GE143.out | refine below_set ?_ GE153.out | refine below_set ?_ GE162.out) | exact HB.out)) hb)
                    clear BK142
                    clear BK143
                    clear BK153
                    clear BK162
                    clear HB
                    have BK142 := n0_
                    have BK143 := n1_
                    have BK153 := n2_
                    have BK162 := n3_
                    have HB := n4_
                    clear n0_ n1_ n2_ n3_ n4_
                    (try clear hb)
                    (try clear hb2)
                    (try clear hk)
                    (try clear hi)
                    refine hK.out _ _ ⟨(blk_cell BK142.out 0).trans rfl, (blk_cell BK142.out 1).trans rfl, (blk_cell BK142.out 2).trans rfl, (blk_cell BK142.out 3).trans rfl, (blk_cell BK142.out 4).trans rfl, (blk_cell BK142.out 5).trans rfl, (blk_cell BK142.out 6).trans rfl, (blk_cell BK153.out 0).trans rfl, (blk_cell BK153.out 1).trans rfl, (blk_cell BK153.out 2).trans rfl, (blk_cell BK153.out 3).trans rfl, (blk_cell BK153.out 4).trans rfl, (blk_cell BK153.out 5).trans rfl, (blk_cell BK153.out 6).trans rfl, (blk_cell BK162.out 0).trans rfl, (blk_cell BK162.out 1).trans rfl, (blk_cell BK162.out 2).trans rfl, (blk_cell BK162.out 3).trans rfl, (blk_cell BK162.out 4).trans rfl, (blk_cell BK162.out 5).trans rfl, (blk_cell BK162.out 6).trans rfl⟩ (fun hHeld => ?_)
                    clear hK K
                    refine norm_ (a' := ?_) ?_ ?_
                    rotate_left
                    · show Act.put _ (some 73) _ = _
                      simp only [Act.put, List.setIfInBounds_toArray, List.set_cons_zero, List.set_cons_succ, i64_w, i32_w]
                      rfl
                    refine one_ (i := 14) (N := some 74) #[true, true, true, true, true, true, true, true, true, true, true, true, true, true, true, false, false, false, false, false, false, false, false, false, false, false, false, false, false, false, false, false, false, false, false, false, false, false, false, false, false, false, false, false, false, false, false, false, false, false, false, false, false, false, false, false, false, false, false] rfl rfl (one_of HT_.out (by kernel_rfl)) (by decide) (fun K hK => ?_)
                    refine goes_ Try.func43 (by kernel_rfl) rfl #[.agg #[.bool t195, .int .u64 t196, .int .u64 t197, .int .u64 t198, .int .u64 t199, .int .u64 t200, .int .i64 t201]] (by rfl) rfl rfl (by (try simp only [List.map_toArray, List.map_cons, List.map_nil]); first | done | rfl | (simp only [List.length_drop, List.length_take]; rfl)) ?_
                    with_reducible refine (shellgameref15_Data.calls t195 t196 t197 t198 t199 t200 t201 t202 t203 t204 t205 t206 t207 t208 t209 _ A20.out).mono ?_
                    rintro e w60 ⟨rfl, hb⟩
                    refine ⟨_, rfl, ?_⟩
                    have n0_ := Aside0.mk (blk_below (g := gb142) (o := .cells #[.bool a0_0, .int .u64 a0_1, .int .u64 a0_2, .int .u64 a0_3, .int .u64 a0_4, .int .u64 a0_5, .int .i64 a0_6] 31 (0, 0)) (by (with_reducible repeat (first | refine blk_drewN ?_ _ | refine blk_drew ?_ | refine blk_alloc ?_ _)); exact BK142.out) hb)
                    have n1_ := Aside0.mk (blk_below (g := gb143) (o := .cells #[.int .u64 a1_0, .int .u64 a1_1, .int .u64 a1_2, .int .u64 a1_3, .int .u64 a1_4, .int .u64 a1_5, .int .u64 a1_6, .int .u64 a1_7] 58 (0, 0)) (by (with_reducible repeat (first | refine blk_drewN ?_ _ | refine blk_drew ?_ | refine blk_alloc ?_ _)); exact BK143.out) hb)
                    have n2_ := Aside0.mk (blk_below (g := gb153) (o := .cells #[.bool t145, .int .u64 t146, .int .u64 t147, .int .u64 t148, .int .u64 t149, .int .u64 t150, .int .i64 t151] 31 (0, 0)) (by (with_reducible repeat (first | refine blk_drewN ?_ _ | refine blk_drew ?_ | refine blk_alloc ?_ _)); exact BK153.out) hb)
                    have n3_ := Aside0.mk (blk_below (g := gb162) (o := .cells #[.bool t154, .int .u64 t155, .int .u64 t156, .int .u64 t157, .int .u64 t158, .int .u64 t159, .int .i64 t160] 65 (0, 0)) (by (with_reducible repeat (first | refine blk_drewN ?_ _ | refine blk_drew ?_ | refine blk_alloc ?_ _)); exact BK162.out) hb)
                    have n4_ := Aside0.mk (below_step (by repeat (first | (with_reducible first | exact HB.out | apply below_alloc | apply pw_below_drewN | apply below_drew1 | refine below_set ?_ GE142.out | refine below_set ?_ GE143.out | refine below_set ?_ GE153.out | refine below_set ?_ GE162.out) | exact HB.out)) hb)
                    clear BK142
                    clear BK143
                    clear BK153
                    clear BK162
                    clear HB
                    have BK142 := n0_
                    have BK143 := n1_
                    have BK153 := n2_
                    have BK162 := n3_
                    have HB := n4_
                    clear n0_ n1_ n2_ n3_ n4_
                    (try clear hb)
                    (try clear hb2)
                    (try clear hk)
                    (try clear hi)
                    refine hK.out _ _ ⟨(blk_cell BK142.out 0).trans rfl, (blk_cell BK142.out 1).trans rfl, (blk_cell BK142.out 2).trans rfl, (blk_cell BK142.out 3).trans rfl, (blk_cell BK142.out 4).trans rfl, (blk_cell BK142.out 5).trans rfl, (blk_cell BK142.out 6).trans rfl, (blk_cell BK153.out 0).trans rfl, (blk_cell BK153.out 1).trans rfl, (blk_cell BK153.out 2).trans rfl, (blk_cell BK153.out 3).trans rfl, (blk_cell BK153.out 4).trans rfl, (blk_cell BK153.out 5).trans rfl, (blk_cell BK153.out 6).trans rfl, (blk_cell BK162.out 0).trans rfl, (blk_cell BK162.out 1).trans rfl, (blk_cell BK162.out 2).trans rfl, (blk_cell BK162.out 3).trans rfl, (blk_cell BK162.out 4).trans rfl, (blk_cell BK162.out 5).trans rfl, (blk_cell BK162.out 6).trans rfl⟩ (fun hHeld => ?_)
                    clear hK K
                    refine norm_ (a' := ?_) ?_ ?_
                    rotate_left
                    · show Act.put _ (some 74) _ = _
                      simp only [Act.put, List.setIfInBounds_toArray, List.set_cons_zero, List.set_cons_succ, i64_w, i32_w]
                      rfl
                    refine pure_ (i := 15) (N := some 75) (v := ?_) (a' := ?_) #[true, true, true, true, true, true, true, true, true, true, true, true, true, true, true, true, false, false, false, false, false, false, false, false, false, false, false, false, false, false, false, false, false, false, false, false, false, false, false, false, false, false, false, false, false, false, false, false, false, false, false, false, false, false, false, false, false, false, false] rfl rfl (any_of HT_.out (by kernel_rfl)) (fun _ _ _ h => h) (Or.inl ⟨by rfl, ?_⟩) ?_ ?_
                    rotate_left
                    · intro w'
                      go_simp
                      with_reducible rfl
                    rotate_left
                    · simp only [Act.put, List.setIfInBounds_toArray, List.set_cons_zero, List.set_cons_succ, i64_w, i32_w]
                      rfl
                    refine pure_ (i := 16) (N := some 76) (v := ?_) (a' := ?_) #[true, true, true, true, true, true, true, true, true, true, true, true, true, true, true, true, true, false, false, false, false, false, false, false, false, false, false, false, false, false, false, false, false, false, false, false, false, false, false, false, false, false, false, false, false, false, false, false, false, false, false, false, false, false, false, false, false, false, false] rfl rfl (any_of HT_.out (by kernel_rfl)) (fun _ _ _ h => h) (Or.inl ⟨by rfl, ?_⟩) ?_ ?_
                    rotate_left
                    · intro w'
                      go_simp
                      with_reducible rfl
                    rotate_left
                    · simp only [Act.put, List.setIfInBounds_toArray, List.set_cons_zero, List.set_cons_succ, i64_w, i32_w]
                      rfl
                    refine pure_ (i := 17) (N := some 77) (v := ?_) (a' := ?_) #[true, true, true, true, true, true, true, true, true, true, true, true, true, true, true, true, true, true, false, false, false, false, false, false, false, false, false, false, false, false, false, false, false, false, false, false, false, false, false, false, false, false, false, false, false, false, false, false, false, false, false, false, false, false, false, false, false, false, false] rfl rfl (any_of HT_.out (by kernel_rfl)) (fun _ _ _ h => h) (Or.inl ⟨by rfl, ?_⟩) ?_ ?_
                    rotate_left
                    · intro w'
                      go_simp
                      with_reducible rfl
                    rotate_left
                    · simp only [Act.put, List.setIfInBounds_toArray, List.set_cons_zero, List.set_cons_succ, i64_w, i32_w]
                      rfl
                    refine take_ (i := 18) (N := some 78) (v := ?_) (a' := ?_) #[true, true, true, true, true, true, true, true, true, true, true, true, true, true, true, true, true, true, true, false, false, false, false, false, false, false, false, false, false, false, false, false, false, false, false, false, false, false, false, false, false, false, false, false, false, false, false, false, false, false, false, false, false, false, false, false, false, false, false] rfl rfl (take_ofW HT_.out HW_.out (by kernel_rfl)) (fun _ _ _ h => h) (Or.inl ⟨by rfl, ?_⟩) hHeld ?_ ?_
                    rotate_left
                    · rintro w' ⟨s0, s1, s2, s3, s4, s5, s6, s7, s8, s9, s10, s11, s12, s13, s14, s15, s16, s17, s18, s19, s20⟩
                      go_simp
                      with_reducible rfl
                    rotate_left
                    · simp only [Act.put, List.setIfInBounds_toArray, List.set_cons_zero, List.set_cons_succ, i64_w, i32_w]
                      rfl
                    refine take_ (i := 20) (N := some 80) (v := ?_) (a' := ?_) #[true, true, true, true, true, true, true, true, true, true, true, true, true, true, true, true, true, true, true, false, true, false, false, false, false, false, false, false, false, false, false, false, false, false, false, false, false, false, false, false, false, false, false, false, false, false, false, false, false, false, false, false, false, false, false, false, false, false, false] rfl rfl (take_ofW HT_.out HW_.out (by kernel_rfl)) (fun _ _ _ h => h) (Or.inl ⟨by rfl, ?_⟩) hHeld ?_ ?_
                    rotate_left
                    · rintro w' ⟨s0, s1, s2, s3, s4, s5, s6, s7, s8, s9, s10, s11, s12, s13, s14, s15, s16, s17, s18, s19, s20⟩
                      go_simp
                      with_reducible rfl
                    rotate_left
                    · simp only [Act.put, List.setIfInBounds_toArray, List.set_cons_zero, List.set_cons_succ, i64_w, i32_w]
                      rfl
                    refine one_ (i := 19) (N := some 79) #[true, true, true, true, true, true, true, true, true, true, true, true, true, true, true, true, true, true, true, true, true, false, false, false, false, false, false, false, false, false, false, false, false, false, false, false, false, false, false, false, false, false, false, false, false, false, false, false, false, false, false, false, false, false, false, false, false, false, false] rfl rfl (one_of HT_.out (by kernel_rfl)) (by decide) (fun K hK => ?_)
                    refine goes_ Try.func41 (by kernel_rfl) rfl #[.agg #[.bool t145, .int .u64 t146, .int .u64 t147, .int .u64 t148, .int .u64 t149, .int .u64 t150, .int .i64 t151]] (by rfl) rfl rfl (by (try simp only [List.map_toArray, List.map_cons, List.map_nil]); first | done | rfl | (simp only [List.length_drop, List.length_take]; rfl)) ?_
                    with_reducible refine (shellgamelaw15_as.calls t145 t146 t147 t148 t149 t150 t151 t210 t211 t212 t213 t214 t215 t216 _ A22.out).mono ?_
                    rintro e w61 ⟨rfl, hb⟩
                    refine ⟨_, rfl, ?_⟩
                    have n0_ := Aside0.mk (blk_below (g := gb142) (o := .cells #[.bool a0_0, .int .u64 a0_1, .int .u64 a0_2, .int .u64 a0_3, .int .u64 a0_4, .int .u64 a0_5, .int .i64 a0_6] 31 (0, 0)) (by (with_reducible repeat (first | refine blk_drewN ?_ _ | refine blk_drew ?_ | refine blk_alloc ?_ _)); exact BK142.out) hb)
                    have n1_ := Aside0.mk (blk_below (g := gb143) (o := .cells #[.int .u64 a1_0, .int .u64 a1_1, .int .u64 a1_2, .int .u64 a1_3, .int .u64 a1_4, .int .u64 a1_5, .int .u64 a1_6, .int .u64 a1_7] 58 (0, 0)) (by (with_reducible repeat (first | refine blk_drewN ?_ _ | refine blk_drew ?_ | refine blk_alloc ?_ _)); exact BK143.out) hb)
                    have n2_ := Aside0.mk (blk_below (g := gb153) (o := .cells #[.bool t145, .int .u64 t146, .int .u64 t147, .int .u64 t148, .int .u64 t149, .int .u64 t150, .int .i64 t151] 31 (0, 0)) (by (with_reducible repeat (first | refine blk_drewN ?_ _ | refine blk_drew ?_ | refine blk_alloc ?_ _)); exact BK153.out) hb)
                    have n3_ := Aside0.mk (blk_below (g := gb162) (o := .cells #[.bool t154, .int .u64 t155, .int .u64 t156, .int .u64 t157, .int .u64 t158, .int .u64 t159, .int .i64 t160] 65 (0, 0)) (by (with_reducible repeat (first | refine blk_drewN ?_ _ | refine blk_drew ?_ | refine blk_alloc ?_ _)); exact BK162.out) hb)
                    have n4_ := Aside0.mk (below_step (by repeat (first | (with_reducible first | exact HB.out | apply below_alloc | apply pw_below_drewN | apply below_drew1 | refine below_set ?_ GE142.out | refine below_set ?_ GE143.out | refine below_set ?_ GE153.out | refine below_set ?_ GE162.out) | exact HB.out)) hb)
                    clear BK142
                    clear BK143
                    clear BK153
                    clear BK162
                    clear HB
                    have BK142 := n0_
                    have BK143 := n1_
                    have BK153 := n2_
                    have BK162 := n3_
                    have HB := n4_
                    clear n0_ n1_ n2_ n3_ n4_
                    (try clear hb)
                    (try clear hb2)
                    (try clear hk)
                    (try clear hi)
                    refine hK.out _ _ ⟨(blk_cell BK142.out 0).trans rfl, (blk_cell BK142.out 1).trans rfl, (blk_cell BK142.out 2).trans rfl, (blk_cell BK142.out 3).trans rfl, (blk_cell BK142.out 4).trans rfl, (blk_cell BK142.out 5).trans rfl, (blk_cell BK142.out 6).trans rfl, (blk_cell BK153.out 0).trans rfl, (blk_cell BK153.out 1).trans rfl, (blk_cell BK153.out 2).trans rfl, (blk_cell BK153.out 3).trans rfl, (blk_cell BK153.out 4).trans rfl, (blk_cell BK153.out 5).trans rfl, (blk_cell BK153.out 6).trans rfl, (blk_cell BK162.out 0).trans rfl, (blk_cell BK162.out 1).trans rfl, (blk_cell BK162.out 2).trans rfl, (blk_cell BK162.out 3).trans rfl, (blk_cell BK162.out 4).trans rfl, (blk_cell BK162.out 5).trans rfl, (blk_cell BK162.out 6).trans rfl⟩ (fun hHeld => ?_)
                    clear hK K
                    refine norm_ (a' := ?_) ?_ ?_
                    rotate_left
                    · show Act.put _ (some 79) _ = _
                      simp only [Act.put, List.setIfInBounds_toArray, List.set_cons_zero, List.set_cons_succ, i64_w, i32_w]
                      rfl
                    refine pure_ (i := 21) (N := some 81) (v := ?_) (a' := ?_) #[true, true, true, true, true, true, true, true, true, true, true, true, true, true, true, true, true, true, true, true, true, true, false, false, false, false, false, false, false, false, false, false, false, false, false, false, false, false, false, false, false, false, false, false, false, false, false, false, false, false, false, false, false, false, false, false, false, false, false] rfl rfl (any_of HT_.out (by kernel_rfl)) (fun _ _ _ h => h) (Or.inl ⟨by rfl, ?_⟩) ?_ ?_
                    rotate_left
                    · intro w'
                      go_simp
                      with_reducible rfl
                    rotate_left
                    · simp only [Act.put, List.setIfInBounds_toArray, List.set_cons_zero, List.set_cons_succ, i64_w, i32_w]
                      rfl
                    refine pure_ (i := 22) (N := some 82) (v := ?_) (a' := ?_) #[true, true, true, true, true, true, true, true, true, true, true, true, true, true, true, true, true, true, true, true, true, true, true, false, false, false, false, false, false, false, false, false, false, false, false, false, false, false, false, false, false, false, false, false, false, false, false, false, false, false, false, false, false, false, false, false, false, false, false] rfl rfl (any_of HT_.out (by kernel_rfl)) (fun _ _ _ h => h) (Or.inl ⟨by rfl, ?_⟩) ?_ ?_
                    rotate_left
                    · intro w'
                      go_simp
                      with_reducible rfl
                    rotate_left
                    · simp only [Act.put, List.setIfInBounds_toArray, List.set_cons_zero, List.set_cons_succ, i64_w, i32_w]
                      rfl
                    refine pure_ (i := 23) (N := some 83) (v := ?_) (a' := ?_) #[true, true, true, true, true, true, true, true, true, true, true, true, true, true, true, true, true, true, true, true, true, true, true, true, false, false, false, false, false, false, false, false, false, false, false, false, false, false, false, false, false, false, false, false, false, false, false, false, false, false, false, false, false, false, false, false, false, false, false] rfl rfl (any_of HT_.out (by kernel_rfl)) (fun _ _ _ h => h) (Or.inl ⟨by rfl, ?_⟩) ?_ ?_
                    rotate_left
                    · intro w'
                      go_simp
                      with_reducible rfl
                    rotate_left
                    · simp only [Act.put, List.setIfInBounds_toArray, List.set_cons_zero, List.set_cons_succ, i64_w, i32_w]
                      rfl
                    refine pure_ (i := 24) (N := some 84) (v := ?_) (a' := ?_) #[true, true, true, true, true, true, true, true, true, true, true, true, true, true, true, true, true, true, true, true, true, true, true, true, true, false, false, false, false, false, false, false, false, false, false, false, false, false, false, false, false, false, false, false, false, false, false, false, false, false, false, false, false, false, false, false, false, false, false] rfl rfl (any_of HT_.out (by kernel_rfl)) (fun _ _ _ h => h) (Or.inl ⟨by rfl, ?_⟩) ?_ ?_
                    rotate_left
                    · intro w'
                      go_simp
                      with_reducible rfl
                    rotate_left
                    · simp only [Act.put, List.setIfInBounds_toArray, List.set_cons_zero, List.set_cons_succ, i64_w, i32_w]
                      rfl
                    refine pure_ (i := 25) (N := some 85) (v := ?_) (a' := ?_) #[true, true, true, true, true, true, true, true, true, true, true, true, true, true, true, true, true, true, true, true, true, true, true, true, true, true, false, false, false, false, false, false, false, false, false, false, false, false, false, false, false, false, false, false, false, false, false, false, false, false, false, false, false, false, false, false, false, false, false] rfl rfl (any_of HT_.out (by kernel_rfl)) (fun _ _ _ h => h) (Or.inl ⟨by rfl, ?_⟩) ?_ ?_
                    rotate_left
                    · intro w'
                      go_simp
                      with_reducible rfl
                    rotate_left
                    · simp only [Act.put, List.setIfInBounds_toArray, List.set_cons_zero, List.set_cons_succ, i64_w, i32_w]
                      rfl
                    refine pure_ (i := 26) (N := some 86) (v := ?_) (a' := ?_) #[true, true, true, true, true, true, true, true, true, true, true, true, true, true, true, true, true, true, true, true, true, true, true, true, true, true, true, false, false, false, false, false, false, false, false, false, false, false, false, false, false, false, false, false, false, false, false, false, false, false, false, false, false, false, false, false, false, false, false] rfl rfl (any_of HT_.out (by kernel_rfl)) (fun _ _ _ h => h) (Or.inl ⟨by rfl, ?_⟩) ?_ ?_
                    rotate_left
                    · intro w'
                      go_simp
                      with_reducible rfl
                    rotate_left
                    · simp only [Act.put, List.setIfInBounds_toArray, List.set_cons_zero, List.set_cons_succ, i64_w, i32_w]
                      rfl
                    refine pure_ (i := 27) (N := some 87) (v := ?_) (a' := ?_) #[true, true, true, true, true, true, true, true, true, true, true, true, true, true, true, true, true, true, true, true, true, true, true, true, true, true, true, true, false, false, false, false, false, false, false, false, false, false, false, false, false, false, false, false, false, false, false, false, false, false, false, false, false, false, false, false, false, false, false] rfl rfl (any_of HT_.out (by kernel_rfl)) (fun _ _ _ h => h) (Or.inl ⟨by rfl, ?_⟩) ?_ ?_
                    rotate_left
                    · intro w'
                      go_simp
                      with_reducible rfl
                    rotate_left
                    · simp only [Act.put, List.setIfInBounds_toArray, List.set_cons_zero, List.set_cons_succ, i64_w, i32_w]
                      rfl
                    refine pure_ (i := 28) (N := some 88) (v := ?_) (a' := ?_) #[true, true, true, true, true, true, true, true, true, true, true, true, true, true, true, true, true, true, true, true, true, true, true, true, true, true, true, true, true, false, false, false, false, false, false, false, false, false, false, false, false, false, false, false, false, false, false, false, false, false, false, false, false, false, false, false, false, false, false] rfl rfl (any_of HT_.out (by kernel_rfl)) (fun _ _ _ h => h) (Or.inl ⟨by rfl, ?_⟩) ?_ ?_
                    rotate_left
                    · intro w'
                      go_simp
                      with_reducible rfl
                    rotate_left
                    · simp only [Act.put, List.setIfInBounds_toArray, List.set_cons_zero, List.set_cons_succ, i64_w, i32_w]
                      rfl
                    refine pure_ (i := 30) (N := some 90) (v := ?_) (a' := ?_) #[true, true, true, true, true, true, true, true, true, true, true, true, true, true, true, true, true, true, true, true, true, true, true, true, true, true, true, true, true, false, true, false, false, false, false, false, false, false, false, false, false, false, false, false, false, false, false, false, false, false, false, false, false, false, false, false, false, false, false] rfl rfl (any_of HT_.out (by kernel_rfl)) (fun _ _ _ h => h) (Or.inl ⟨by rfl, ?_⟩) ?_ ?_
                    rotate_left
                    · intro w'
                      go_simp
                      with_reducible rfl
                    rotate_left
                    · simp only [Act.put, List.setIfInBounds_toArray, List.set_cons_zero, List.set_cons_succ, i64_w, i32_w]
                      rfl
                    refine pure_ (i := 34) (N := some 94) (v := ?_) (a' := ?_) #[true, true, true, true, true, true, true, true, true, true, true, true, true, true, true, true, true, true, true, true, true, true, true, true, true, true, true, true, true, false, true, false, false, false, true, false, false, false, false, false, false, false, false, false, false, false, false, false, false, false, false, false, false, false, false, false, false, false, false] rfl rfl (any_of HT_.out (by kernel_rfl)) (fun _ _ _ h => h) (Or.inl ⟨by rfl, ?_⟩) ?_ ?_
                    rotate_left
                    · intro w'
                      go_simp
                      with_reducible rfl
                    rotate_left
                    · simp only [Act.put, List.setIfInBounds_toArray, List.set_cons_zero, List.set_cons_succ, i64_w, i32_w]
                      rfl
                    refine take_ (i := 29) (N := some 89) (v := ?_) (a' := ?_) #[true, true, true, true, true, true, true, true, true, true, true, true, true, true, true, true, true, true, true, true, true, true, true, true, true, true, true, true, true, true, true, false, false, false, true, false, false, false, false, false, false, false, false, false, false, false, false, false, false, false, false, false, false, false, false, false, false, false, false] rfl rfl (take_ofW HT_.out HW_.out (by kernel_rfl)) (fun _ _ _ h => h) (Or.inl ⟨by rfl, ?_⟩) hHeld ?_ ?_
                    rotate_left
                    · rintro w' ⟨s0, s1, s2, s3, s4, s5, s6, s7, s8, s9, s10, s11, s12, s13, s14, s15, s16, s17, s18, s19, s20⟩
                      go_simp
                      with_reducible rfl
                    rotate_left
                    · simp only [Act.put, List.setIfInBounds_toArray, List.set_cons_zero, List.set_cons_succ, i64_w, i32_w]
                      rfl
                    refine take_ (i := 32) (N := some 92) (v := ?_) (a' := ?_) #[true, true, true, true, true, true, true, true, true, true, true, true, true, true, true, true, true, true, true, true, true, true, true, true, true, true, true, true, true, true, true, false, true, false, true, false, false, false, false, false, false, false, false, false, false, false, false, false, false, false, false, false, false, false, false, false, false, false, false] rfl rfl (take_ofW HT_.out HW_.out (by kernel_rfl)) (fun _ _ _ h => h) (Or.inl ⟨by rfl, ?_⟩) hHeld ?_ ?_
                    rotate_left
                    · rintro w' ⟨s0, s1, s2, s3, s4, s5, s6, s7, s8, s9, s10, s11, s12, s13, s14, s15, s16, s17, s18, s19, s20⟩
                      go_simp
                      with_reducible rfl
                    rotate_left
                    · simp only [Act.put, List.setIfInBounds_toArray, List.set_cons_zero, List.set_cons_succ, i64_w, i32_w]
                      rfl
                    refine one_ (i := 31) (N := some 91) #[true, true, true, true, true, true, true, true, true, true, true, true, true, true, true, true, true, true, true, true, true, true, true, true, true, true, true, true, true, true, true, true, true, false, true, false, false, false, false, false, false, false, false, false, false, false, false, false, false, false, false, false, false, false, false, false, false, false, false] rfl rfl (one_of HT_.out (by kernel_rfl)) (by decide) (fun K hK => ?_)
                    refine goes_ Try.func21 (by kernel_rfl) rfl #[.agg #[.bool a0_0, .int .u64 a0_1, .int .u64 a0_2, .int .u64 a0_3, .int .u64 a0_4, .int .u64 a0_5, .int .i64 a0_6], .int .u64 a3] (by rfl) rfl rfl (by (try simp only [List.map_toArray, List.map_cons, List.map_nil]); first | done | rfl | (simp only [List.length_drop, List.length_take]; rfl)) ?_
                    with_reducible refine (slot_Expired.calls a0_0 a0_1 a0_2 a0_3 a0_4 a0_5 a0_6 a3 t217 _ A25.out).mono ?_
                    rintro e w62 ⟨rfl, hb⟩
                    refine ⟨_, rfl, ?_⟩
                    have n0_ := Aside0.mk (blk_below (g := gb142) (o := .cells #[.bool a0_0, .int .u64 a0_1, .int .u64 a0_2, .int .u64 a0_3, .int .u64 a0_4, .int .u64 a0_5, .int .i64 a0_6] 31 (0, 0)) (by (with_reducible repeat (first | refine blk_drewN ?_ _ | refine blk_drew ?_ | refine blk_alloc ?_ _)); exact BK142.out) hb)
                    have n1_ := Aside0.mk (blk_below (g := gb143) (o := .cells #[.int .u64 a1_0, .int .u64 a1_1, .int .u64 a1_2, .int .u64 a1_3, .int .u64 a1_4, .int .u64 a1_5, .int .u64 a1_6, .int .u64 a1_7] 58 (0, 0)) (by (with_reducible repeat (first | refine blk_drewN ?_ _ | refine blk_drew ?_ | refine blk_alloc ?_ _)); exact BK143.out) hb)
                    have n2_ := Aside0.mk (blk_below (g := gb153) (o := .cells #[.bool t145, .int .u64 t146, .int .u64 t147, .int .u64 t148, .int .u64 t149, .int .u64 t150, .int .i64 t151] 31 (0, 0)) (by (with_reducible repeat (first | refine blk_drewN ?_ _ | refine blk_drew ?_ | refine blk_alloc ?_ _)); exact BK153.out) hb)
                    have n3_ := Aside0.mk (blk_below (g := gb162) (o := .cells #[.bool t154, .int .u64 t155, .int .u64 t156, .int .u64 t157, .int .u64 t158, .int .u64 t159, .int .i64 t160] 65 (0, 0)) (by (with_reducible repeat (first | refine blk_drewN ?_ _ | refine blk_drew ?_ | refine blk_alloc ?_ _)); exact BK162.out) hb)
                    have n4_ := Aside0.mk (below_step (by repeat (first | (with_reducible first | exact HB.out | apply below_alloc | apply pw_below_drewN | apply below_drew1 | refine below_set ?_ GE142.out | refine below_set ?_ GE143.out | refine below_set ?_ GE153.out | refine below_set ?_ GE162.out) | exact HB.out)) hb)
                    clear BK142
                    clear BK143
                    clear BK153
                    clear BK162
                    clear HB
                    have BK142 := n0_
                    have BK143 := n1_
                    have BK153 := n2_
                    have BK162 := n3_
                    have HB := n4_
                    clear n0_ n1_ n2_ n3_ n4_
                    (try clear hb)
                    (try clear hb2)
                    (try clear hk)
                    (try clear hi)
                    refine hK.out _ _ ⟨(blk_cell BK142.out 0).trans rfl, (blk_cell BK142.out 1).trans rfl, (blk_cell BK142.out 2).trans rfl, (blk_cell BK142.out 3).trans rfl, (blk_cell BK142.out 4).trans rfl, (blk_cell BK142.out 5).trans rfl, (blk_cell BK142.out 6).trans rfl, (blk_cell BK153.out 0).trans rfl, (blk_cell BK153.out 1).trans rfl, (blk_cell BK153.out 2).trans rfl, (blk_cell BK153.out 3).trans rfl, (blk_cell BK153.out 4).trans rfl, (blk_cell BK153.out 5).trans rfl, (blk_cell BK153.out 6).trans rfl, (blk_cell BK162.out 0).trans rfl, (blk_cell BK162.out 1).trans rfl, (blk_cell BK162.out 2).trans rfl, (blk_cell BK162.out 3).trans rfl, (blk_cell BK162.out 4).trans rfl, (blk_cell BK162.out 5).trans rfl, (blk_cell BK162.out 6).trans rfl⟩ (fun hHeld => ?_)
                    clear hK K
                    refine norm_ (a' := ?_) ?_ ?_
                    rotate_left
                    · show Act.put _ (some 91) _ = _
                      simp only [Act.put, List.setIfInBounds_toArray, List.set_cons_zero, List.set_cons_succ, i64_w, i32_w]
                      rfl
                    refine one_ (i := 33) (N := some 93) #[true, true, true, true, true, true, true, true, true, true, true, true, true, true, true, true, true, true, true, true, true, true, true, true, true, true, true, true, true, true, true, true, true, true, true, false, false, false, false, false, false, false, false, false, false, false, false, false, false, false, false, false, false, false, false, false, false, false, false] rfl rfl (one_of HT_.out (by kernel_rfl)) (by decide) (fun K hK => ?_)
                    refine goes_ Try.func41 (by kernel_rfl) rfl #[.agg #[.bool a0_0, .int .u64 a0_1, .int .u64 a0_2, .int .u64 a0_3, .int .u64 a0_4, .int .u64 a0_5, .int .i64 a0_6]] (by rfl) rfl rfl (by (try simp only [List.map_toArray, List.map_cons, List.map_nil]); first | done | rfl | (simp only [List.length_drop, List.length_take]; rfl)) ?_
                    with_reducible refine (shellgamelaw15_as.calls a0_0 a0_1 a0_2 a0_3 a0_4 a0_5 a0_6 t218 t219 t220 t221 t222 t223 t224 _ A26.out).mono ?_
                    rintro e w63 ⟨rfl, hb⟩
                    refine ⟨_, rfl, ?_⟩
                    have n0_ := Aside0.mk (blk_below (g := gb142) (o := .cells #[.bool a0_0, .int .u64 a0_1, .int .u64 a0_2, .int .u64 a0_3, .int .u64 a0_4, .int .u64 a0_5, .int .i64 a0_6] 31 (0, 0)) (by (with_reducible repeat (first | refine blk_drewN ?_ _ | refine blk_drew ?_ | refine blk_alloc ?_ _)); exact BK142.out) hb)
                    have n1_ := Aside0.mk (blk_below (g := gb143) (o := .cells #[.int .u64 a1_0, .int .u64 a1_1, .int .u64 a1_2, .int .u64 a1_3, .int .u64 a1_4, .int .u64 a1_5, .int .u64 a1_6, .int .u64 a1_7] 58 (0, 0)) (by (with_reducible repeat (first | refine blk_drewN ?_ _ | refine blk_drew ?_ | refine blk_alloc ?_ _)); exact BK143.out) hb)
                    have n2_ := Aside0.mk (blk_below (g := gb153) (o := .cells #[.bool t145, .int .u64 t146, .int .u64 t147, .int .u64 t148, .int .u64 t149, .int .u64 t150, .int .i64 t151] 31 (0, 0)) (by (with_reducible repeat (first | refine blk_drewN ?_ _ | refine blk_drew ?_ | refine blk_alloc ?_ _)); exact BK153.out) hb)
                    have n3_ := Aside0.mk (blk_below (g := gb162) (o := .cells #[.bool t154, .int .u64 t155, .int .u64 t156, .int .u64 t157, .int .u64 t158, .int .u64 t159, .int .i64 t160] 65 (0, 0)) (by (with_reducible repeat (first | refine blk_drewN ?_ _ | refine blk_drew ?_ | refine blk_alloc ?_ _)); exact BK162.out) hb)
                    have n4_ := Aside0.mk (below_step (by repeat (first | (with_reducible first | exact HB.out | apply below_alloc | apply pw_below_drewN | apply below_drew1 | refine below_set ?_ GE142.out | refine below_set ?_ GE143.out | refine below_set ?_ GE153.out | refine below_set ?_ GE162.out) | exact HB.out)) hb)
                    clear BK142
                    clear BK143
                    clear BK153
                    clear BK162
                    clear HB
                    have BK142 := n0_
                    have BK143 := n1_
                    have BK153 := n2_
                    have BK162 := n3_
                    have HB := n4_
                    clear n0_ n1_ n2_ n3_ n4_
                    (try clear hb)
                    (try clear hb2)
                    (try clear hk)
                    (try clear hi)
                    refine hK.out _ _ ⟨(blk_cell BK142.out 0).trans rfl, (blk_cell BK142.out 1).trans rfl, (blk_cell BK142.out 2).trans rfl, (blk_cell BK142.out 3).trans rfl, (blk_cell BK142.out 4).trans rfl, (blk_cell BK142.out 5).trans rfl, (blk_cell BK142.out 6).trans rfl, (blk_cell BK153.out 0).trans rfl, (blk_cell BK153.out 1).trans rfl, (blk_cell BK153.out 2).trans rfl, (blk_cell BK153.out 3).trans rfl, (blk_cell BK153.out 4).trans rfl, (blk_cell BK153.out 5).trans rfl, (blk_cell BK153.out 6).trans rfl, (blk_cell BK162.out 0).trans rfl, (blk_cell BK162.out 1).trans rfl, (blk_cell BK162.out 2).trans rfl, (blk_cell BK162.out 3).trans rfl, (blk_cell BK162.out 4).trans rfl, (blk_cell BK162.out 5).trans rfl, (blk_cell BK162.out 6).trans rfl⟩ (fun hHeld => ?_)
                    clear hK K
                    refine norm_ (a' := ?_) ?_ ?_
                    rotate_left
                    · show Act.put _ (some 93) _ = _
                      simp only [Act.put, List.setIfInBounds_toArray, List.set_cons_zero, List.set_cons_succ, i64_w, i32_w]
                      rfl
                    refine one_ (i := 35) (N := some 95) #[true, true, true, true, true, true, true, true, true, true, true, true, true, true, true, true, true, true, true, true, true, true, true, true, true, true, true, true, true, true, true, true, true, true, true, true, false, false, false, false, false, false, false, false, false, false, false, false, false, false, false, false, false, false, false, false, false, false, false] rfl rfl (one_of HT_.out (by kernel_rfl)) (by decide) (fun K hK => ?_)
                    refine goes_ Try.func44 (by kernel_rfl) rfl #[.agg #[.bool t218, .int .u64 t219, .int .u64 t220, .int .u64 t221, .int .u64 t222, .int .u64 t223, .int .i64 t224], .int .u64 a3] (by rfl) rfl rfl (by (try simp only [List.map_toArray, List.map_cons, List.map_nil]); first | done | rfl | (simp only [List.length_drop, List.length_take]; rfl)) ?_
                    with_reducible refine (shellgameref15_Expired.calls t218 t219 t220 t221 t222 t223 t224 a3 t225 _ A27.out).mono ?_
                    rintro e w64 ⟨rfl, hb⟩
                    refine ⟨_, rfl, ?_⟩
                    have n0_ := Aside0.mk (blk_below (g := gb142) (o := .cells #[.bool a0_0, .int .u64 a0_1, .int .u64 a0_2, .int .u64 a0_3, .int .u64 a0_4, .int .u64 a0_5, .int .i64 a0_6] 31 (0, 0)) (by (with_reducible repeat (first | refine blk_drewN ?_ _ | refine blk_drew ?_ | refine blk_alloc ?_ _)); exact BK142.out) hb)
                    have n1_ := Aside0.mk (blk_below (g := gb143) (o := .cells #[.int .u64 a1_0, .int .u64 a1_1, .int .u64 a1_2, .int .u64 a1_3, .int .u64 a1_4, .int .u64 a1_5, .int .u64 a1_6, .int .u64 a1_7] 58 (0, 0)) (by (with_reducible repeat (first | refine blk_drewN ?_ _ | refine blk_drew ?_ | refine blk_alloc ?_ _)); exact BK143.out) hb)
                    have n2_ := Aside0.mk (blk_below (g := gb153) (o := .cells #[.bool t145, .int .u64 t146, .int .u64 t147, .int .u64 t148, .int .u64 t149, .int .u64 t150, .int .i64 t151] 31 (0, 0)) (by (with_reducible repeat (first | refine blk_drewN ?_ _ | refine blk_drew ?_ | refine blk_alloc ?_ _)); exact BK153.out) hb)
                    have n3_ := Aside0.mk (blk_below (g := gb162) (o := .cells #[.bool t154, .int .u64 t155, .int .u64 t156, .int .u64 t157, .int .u64 t158, .int .u64 t159, .int .i64 t160] 65 (0, 0)) (by (with_reducible repeat (first | refine blk_drewN ?_ _ | refine blk_drew ?_ | refine blk_alloc ?_ _)); exact BK162.out) hb)
                    have n4_ := Aside0.mk (below_step (by repeat (first | (with_reducible first | exact HB.out | apply below_alloc | apply pw_below_drewN | apply below_drew1 | refine below_set ?_ GE142.out | refine below_set ?_ GE143.out | refine below_set ?_ GE153.out | refine below_set ?_ GE162.out) | exact HB.out)) hb)
                    clear BK142
                    clear BK143
                    clear BK153
                    clear BK162
                    clear HB
                    have BK142 := n0_
                    have BK143 := n1_
                    have BK153 := n2_
                    have BK162 := n3_
                    have HB := n4_
                    clear n0_ n1_ n2_ n3_ n4_
                    (try clear hb)
                    (try clear hb2)
                    (try clear hk)
                    (try clear hi)
                    refine hK.out _ _ ⟨(blk_cell BK142.out 0).trans rfl, (blk_cell BK142.out 1).trans rfl, (blk_cell BK142.out 2).trans rfl, (blk_cell BK142.out 3).trans rfl, (blk_cell BK142.out 4).trans rfl, (blk_cell BK142.out 5).trans rfl, (blk_cell BK142.out 6).trans rfl, (blk_cell BK153.out 0).trans rfl, (blk_cell BK153.out 1).trans rfl, (blk_cell BK153.out 2).trans rfl, (blk_cell BK153.out 3).trans rfl, (blk_cell BK153.out 4).trans rfl, (blk_cell BK153.out 5).trans rfl, (blk_cell BK153.out 6).trans rfl, (blk_cell BK162.out 0).trans rfl, (blk_cell BK162.out 1).trans rfl, (blk_cell BK162.out 2).trans rfl, (blk_cell BK162.out 3).trans rfl, (blk_cell BK162.out 4).trans rfl, (blk_cell BK162.out 5).trans rfl, (blk_cell BK162.out 6).trans rfl⟩ (fun hHeld => ?_)
                    clear hK K
                    refine norm_ (a' := ?_) ?_ ?_
                    rotate_left
                    · show Act.put _ (some 95) _ = _
                      simp only [Act.put, List.setIfInBounds_toArray, List.set_cons_zero, List.set_cons_succ, i64_w, i32_w]
                      rfl
                    refine pure_ (i := 36) (N := some 96) (v := ?_) (a' := ?_) #[true, true, true, true, true, true, true, true, true, true, true, true, true, true, true, true, true, true, true, true, true, true, true, true, true, true, true, true, true, true, true, true, true, true, true, true, true, false, false, false, false, false, false, false, false, false, false, false, false, false, false, false, false, false, false, false, false, false, false] rfl rfl (any_of HT_.out (by kernel_rfl)) (fun _ _ _ h => h) (Or.inl ⟨by rfl, ?_⟩) ?_ ?_
                    rotate_left
                    · intro w'
                      go_simp
                      with_reducible rfl
                    rotate_left
                    · simp only [Act.put, List.setIfInBounds_toArray, List.set_cons_zero, List.set_cons_succ, i64_w, i32_w]
                      rfl
                    refine pure_ (i := 37) (N := some 97) (v := ?_) (a' := ?_) #[true, true, true, true, true, true, true, true, true, true, true, true, true, true, true, true, true, true, true, true, true, true, true, true, true, true, true, true, true, true, true, true, true, true, true, true, true, true, false, false, false, false, false, false, false, false, false, false, false, false, false, false, false, false, false, false, false, false, false] rfl rfl (any_of HT_.out (by kernel_rfl)) (fun _ _ _ h => h) (Or.inl ⟨by rfl, ?_⟩) ?_ ?_
                    rotate_left
                    · intro w'
                      go_simp
                      with_reducible rfl
                    rotate_left
                    · simp only [Act.put, List.setIfInBounds_toArray, List.set_cons_zero, List.set_cons_succ, i64_w, i32_w]
                      rfl
                    refine pure_ (i := 38) (N := some 98) (v := ?_) (a' := ?_) #[true, true, true, true, true, true, true, true, true, true, true, true, true, true, true, true, true, true, true, true, true, true, true, true, true, true, true, true, true, true, true, true, true, true, true, true, true, true, true, false, false, false, false, false, false, false, false, false, false, false, false, false, false, false, false, false, false, false, false] rfl rfl (any_of HT_.out (by kernel_rfl)) (fun _ _ _ h => h) (Or.inl ⟨by rfl, ?_⟩) ?_ ?_
                    rotate_left
                    · intro w'
                      go_simp
                      with_reducible rfl
                    rotate_left
                    · simp only [Act.put, List.setIfInBounds_toArray, List.set_cons_zero, List.set_cons_succ, i64_w, i32_w]
                      rfl
                    refine pure_ (i := 39) (N := some 99) (v := ?_) (a' := ?_) #[true, true, true, true, true, true, true, true, true, true, true, true, true, true, true, true, true, true, true, true, true, true, true, true, true, true, true, true, true, true, true, true, true, true, true, true, true, true, true, true, false, false, false, false, false, false, false, false, false, false, false, false, false, false, false, false, false, false, false] rfl rfl (any_of HT_.out (by kernel_rfl)) (fun _ _ _ h => h) (Or.inl ⟨by rfl, ?_⟩) ?_ ?_
                    rotate_left
                    · intro w'
                      go_simp
                      with_reducible rfl
                    rotate_left
                    · simp only [Act.put, List.setIfInBounds_toArray, List.set_cons_zero, List.set_cons_succ, i64_w, i32_w]
                      rfl
                    refine pure_ (i := 40) (N := some 100) (v := ?_) (a' := ?_) #[true, true, true, true, true, true, true, true, true, true, true, true, true, true, true, true, true, true, true, true, true, true, true, true, true, true, true, true, true, true, true, true, true, true, true, true, true, true, true, true, true, false, false, false, false, false, false, false, false, false, false, false, false, false, false, false, false, false, false] rfl rfl (any_of HT_.out (by kernel_rfl)) (fun _ _ _ h => h) (Or.inl ⟨by rfl, ?_⟩) ?_ ?_
                    rotate_left
                    · intro w'
                      go_simp
                      with_reducible rfl
                    rotate_left
                    · simp only [Act.put, List.setIfInBounds_toArray, List.set_cons_zero, List.set_cons_succ, i64_w, i32_w]
                      rfl
                    refine pure_ (i := 41) (N := some 101) (v := ?_) (a' := ?_) #[true, true, true, true, true, true, true, true, true, true, true, true, true, true, true, true, true, true, true, true, true, true, true, true, true, true, true, true, true, true, true, true, true, true, true, true, true, true, true, true, true, true, false, false, false, false, false, false, false, false, false, false, false, false, false, false, false, false, false] rfl rfl (any_of HT_.out (by kernel_rfl)) (fun _ _ _ h => h) (Or.inl ⟨by rfl, ?_⟩) ?_ ?_
                    rotate_left
                    · intro w'
                      go_simp
                      with_reducible rfl
                    rotate_left
                    · simp only [Act.put, List.setIfInBounds_toArray, List.set_cons_zero, List.set_cons_succ, i64_w, i32_w]
                      rfl
                    refine pure_ (i := 42) (N := some 102) (v := ?_) (a' := ?_) #[true, true, true, true, true, true, true, true, true, true, true, true, true, true, true, true, true, true, true, true, true, true, true, true, true, true, true, true, true, true, true, true, true, true, true, true, true, true, true, true, true, true, true, false, false, false, false, false, false, false, false, false, false, false, false, false, false, false, false] rfl rfl (any_of HT_.out (by kernel_rfl)) (fun _ _ _ h => h) (Or.inl ⟨by rfl, ?_⟩) ?_ ?_
                    rotate_left
                    · intro w'
                      go_simp
                      with_reducible rfl
                    rotate_left
                    · simp only [Act.put, List.setIfInBounds_toArray, List.set_cons_zero, List.set_cons_succ, i64_w, i32_w]
                      rfl
                    refine pure_ (i := 43) (N := some 103) (v := ?_) (a' := ?_) #[true, true, true, true, true, true, true, true, true, true, true, true, true, true, true, true, true, true, true, true, true, true, true, true, true, true, true, true, true, true, true, true, true, true, true, true, true, true, true, true, true, true, true, true, false, false, false, false, false, false, false, false, false, false, false, false, false, false, false] rfl rfl (any_of HT_.out (by kernel_rfl)) (fun _ _ _ h => h) (Or.inl ⟨by rfl, ?_⟩) ?_ ?_
                    rotate_left
                    · intro w'
                      go_simp
                      with_reducible rfl
                    rotate_left
                    · simp only [Act.put, List.setIfInBounds_toArray, List.set_cons_zero, List.set_cons_succ, i64_w, i32_w]
                      rfl
                    refine pure_ (i := 44) (N := some 104) (v := ?_) (a' := ?_) #[true, true, true, true, true, true, true, true, true, true, true, true, true, true, true, true, true, true, true, true, true, true, true, true, true, true, true, true, true, true, true, true, true, true, true, true, true, true, true, true, true, true, true, true, true, false, false, false, false, false, false, false, false, false, false, false, false, false, false] rfl rfl (any_of HT_.out (by kernel_rfl)) (fun _ _ _ h => h) (Or.inl ⟨by rfl, ?_⟩) ?_ ?_
                    rotate_left
                    · intro w'
                      go_simp
                      with_reducible rfl
                    rotate_left
                    · simp only [Act.put, List.setIfInBounds_toArray, List.set_cons_zero, List.set_cons_succ, i64_w, i32_w]
                      rfl
                    refine pure_ (i := 45) (N := some 105) (v := ?_) (a' := ?_) #[true, true, true, true, true, true, true, true, true, true, true, true, true, true, true, true, true, true, true, true, true, true, true, true, true, true, true, true, true, true, true, true, true, true, true, true, true, true, true, true, true, true, true, true, true, true, false, false, false, false, false, false, false, false, false, false, false, false, false] rfl rfl (any_of HT_.out (by kernel_rfl)) (fun _ _ _ h => h) (Or.inl ⟨by rfl, ?_⟩) ?_ ?_
                    rotate_left
                    · intro w'
                      go_simp
                      with_reducible rfl
                    rotate_left
                    · simp only [Act.put, List.setIfInBounds_toArray, List.set_cons_zero, List.set_cons_succ, i64_w, i32_w]
                      rfl
                    refine pure_ (i := 46) (N := some 106) (v := ?_) (a' := ?_) #[true, true, true, true, true, true, true, true, true, true, true, true, true, true, true, true, true, true, true, true, true, true, true, true, true, true, true, true, true, true, true, true, true, true, true, true, true, true, true, true, true, true, true, true, true, true, true, false, false, false, false, false, false, false, false, false, false, false, false] rfl rfl (any_of HT_.out (by kernel_rfl)) (fun _ _ _ h => h) (Or.inl ⟨by rfl, ?_⟩) ?_ ?_
                    rotate_left
                    · intro w'
                      go_simp
                      with_reducible rfl
                    rotate_left
                    · simp only [Act.put, List.setIfInBounds_toArray, List.set_cons_zero, List.set_cons_succ, i64_w, i32_w]
                      rfl
                    refine pure_ (i := 47) (N := some 107) (v := ?_) (a' := ?_) #[true, true, true, true, true, true, true, true, true, true, true, true, true, true, true, true, true, true, true, true, true, true, true, true, true, true, true, true, true, true, true, true, true, true, true, true, true, true, true, true, true, true, true, true, true, true, true, true, false, false, false, false, false, false, false, false, false, false, false] rfl rfl (any_of HT_.out (by kernel_rfl)) (fun _ _ _ h => h) (Or.inl ⟨by rfl, ?_⟩) ?_ ?_
                    rotate_left
                    · intro w'
                      go_simp
                      with_reducible rfl
                    rotate_left
                    · simp only [Act.put, List.setIfInBounds_toArray, List.set_cons_zero, List.set_cons_succ, i64_w, i32_w]
                      rfl
                    refine pure_ (i := 48) (N := some 108) (v := ?_) (a' := ?_) #[true, true, true, true, true, true, true, true, true, true, true, true, true, true, true, true, true, true, true, true, true, true, true, true, true, true, true, true, true, true, true, true, true, true, true, true, true, true, true, true, true, true, true, true, true, true, true, true, true, false, false, false, false, false, false, false, false, false, false] rfl rfl (any_of HT_.out (by kernel_rfl)) (fun _ _ _ h => h) (Or.inl ⟨by rfl, ?_⟩) ?_ ?_
                    rotate_left
                    · intro w'
                      go_simp
                      with_reducible rfl
                    rotate_left
                    · simp only [Act.put, List.setIfInBounds_toArray, List.set_cons_zero, List.set_cons_succ, i64_w, i32_w]
                      rfl
                    refine pure_ (i := 49) (N := some 109) (v := ?_) (a' := ?_) #[true, true, true, true, true, true, true, true, true, true, true, true, true, true, true, true, true, true, true, true, true, true, true, true, true, true, true, true, true, true, true, true, true, true, true, true, true, true, true, true, true, true, true, true, true, true, true, true, true, true, false, false, false, false, false, false, false, false, false] rfl rfl (any_of HT_.out (by kernel_rfl)) (fun _ _ _ h => h) (Or.inl ⟨by rfl, ?_⟩) ?_ ?_
                    rotate_left
                    · intro w'
                      go_simp
                      with_reducible rfl
                    rotate_left
                    · simp only [Act.put, List.setIfInBounds_toArray, List.set_cons_zero, List.set_cons_succ, i64_w, i32_w]
                      rfl
                    refine pure_ (i := 50) (N := some 110) (v := ?_) (a' := ?_) #[true, true, true, true, true, true, true, true, true, true, true, true, true, true, true, true, true, true, true, true, true, true, true, true, true, true, true, true, true, true, true, true, true, true, true, true, true, true, true, true, true, true, true, true, true, true, true, true, true, true, true, false, false, false, false, false, false, false, false] rfl rfl (any_of HT_.out (by kernel_rfl)) (fun _ _ _ h => h) (Or.inl ⟨by rfl, ?_⟩) ?_ ?_
                    rotate_left
                    · intro w'
                      go_simp
                      with_reducible rfl
                    rotate_left
                    · simp only [Act.put, List.setIfInBounds_toArray, List.set_cons_zero, List.set_cons_succ, i64_w, i32_w]
                      rfl
                    refine pure_ (i := 51) (N := some 111) (v := ?_) (a' := ?_) #[true, true, true, true, true, true, true, true, true, true, true, true, true, true, true, true, true, true, true, true, true, true, true, true, true, true, true, true, true, true, true, true, true, true, true, true, true, true, true, true, true, true, true, true, true, true, true, true, true, true, true, true, false, false, false, false, false, false, false] rfl rfl (any_of HT_.out (by kernel_rfl)) (fun _ _ _ h => h) (Or.inl ⟨by rfl, ?_⟩) ?_ ?_
                    rotate_left
                    · intro w'
                      go_simp
                      with_reducible rfl
                    rotate_left
                    · simp only [Act.put, List.setIfInBounds_toArray, List.set_cons_zero, List.set_cons_succ, i64_w, i32_w]
                      rfl
                    refine pure_ (i := 52) (N := some 112) (v := ?_) (a' := ?_) #[true, true, true, true, true, true, true, true, true, true, true, true, true, true, true, true, true, true, true, true, true, true, true, true, true, true, true, true, true, true, true, true, true, true, true, true, true, true, true, true, true, true, true, true, true, true, true, true, true, true, true, true, true, false, false, false, false, false, false] rfl rfl (any_of HT_.out (by kernel_rfl)) (fun _ _ _ h => h) (Or.inl ⟨by rfl, ?_⟩) ?_ ?_
                    rotate_left
                    · intro w'
                      go_simp
                      with_reducible rfl
                    rotate_left
                    · simp only [Act.put, List.setIfInBounds_toArray, List.set_cons_zero, List.set_cons_succ, i64_w, i32_w]
                      rfl
                    refine pure_ (i := 53) (N := some 113) (v := ?_) (a' := ?_) #[true, true, true, true, true, true, true, true, true, true, true, true, true, true, true, true, true, true, true, true, true, true, true, true, true, true, true, true, true, true, true, true, true, true, true, true, true, true, true, true, true, true, true, true, true, true, true, true, true, true, true, true, true, true, false, false, false, false, false] rfl rfl (any_of HT_.out (by kernel_rfl)) (fun _ _ _ h => h) (Or.inl ⟨by rfl, ?_⟩) ?_ ?_
                    rotate_left
                    · intro w'
                      go_simp
                      with_reducible rfl
                    rotate_left
                    · simp only [Act.put, List.setIfInBounds_toArray, List.set_cons_zero, List.set_cons_succ, i64_w, i32_w]
                      rfl
                    refine pure_ (i := 54) (N := some 114) (v := ?_) (a' := ?_) #[true, true, true, true, true, true, true, true, true, true, true, true, true, true, true, true, true, true, true, true, true, true, true, true, true, true, true, true, true, true, true, true, true, true, true, true, true, true, true, true, true, true, true, true, true, true, true, true, true, true, true, true, true, true, true, false, false, false, false] rfl rfl (any_of HT_.out (by kernel_rfl)) (fun _ _ _ h => h) (Or.inl ⟨by rfl, ?_⟩) ?_ ?_
                    rotate_left
                    · intro w'
                      go_simp
                      with_reducible rfl
                    rotate_left
                    · simp only [Act.put, List.setIfInBounds_toArray, List.set_cons_zero, List.set_cons_succ, i64_w, i32_w]
                      rfl
                    refine pure_ (i := 55) (N := some 115) (v := ?_) (a' := ?_) #[true, true, true, true, true, true, true, true, true, true, true, true, true, true, true, true, true, true, true, true, true, true, true, true, true, true, true, true, true, true, true, true, true, true, true, true, true, true, true, true, true, true, true, true, true, true, true, true, true, true, true, true, true, true, true, true, false, false, false] rfl rfl (any_of HT_.out (by kernel_rfl)) (fun _ _ _ h => h) (Or.inl ⟨by rfl, ?_⟩) ?_ ?_
                    rotate_left
                    · intro w'
                      go_simp
                      with_reducible rfl
                    rotate_left
                    · simp only [Act.put, List.setIfInBounds_toArray, List.set_cons_zero, List.set_cons_succ, i64_w, i32_w]
                      rfl
                    refine pure_ (i := 56) (N := some 116) (v := ?_) (a' := ?_) #[true, true, true, true, true, true, true, true, true, true, true, true, true, true, true, true, true, true, true, true, true, true, true, true, true, true, true, true, true, true, true, true, true, true, true, true, true, true, true, true, true, true, true, true, true, true, true, true, true, true, true, true, true, true, true, true, true, false, false] rfl rfl (any_of HT_.out (by kernel_rfl)) (fun _ _ _ h => h) (Or.inl ⟨by rfl, ?_⟩) ?_ ?_
                    rotate_left
                    · intro w'
                      go_simp
                      with_reducible rfl
                    rotate_left
                    · simp only [Act.put, List.setIfInBounds_toArray, List.set_cons_zero, List.set_cons_succ, i64_w, i32_w]
                      rfl
                    refine pure_ (i := 57) (N := some 117) (v := ?_) (a' := ?_) #[true, true, true, true, true, true, true, true, true, true, true, true, true, true, true, true, true, true, true, true, true, true, true, true, true, true, true, true, true, true, true, true, true, true, true, true, true, true, true, true, true, true, true, true, true, true, true, true, true, true, true, true, true, true, true, true, true, true, false] rfl rfl (any_of HT_.out (by kernel_rfl)) (fun _ _ _ h => h) (Or.inl ⟨by rfl, ?_⟩) ?_ ?_
                    rotate_left
                    · intro w'
                      go_simp
                      with_reducible rfl
                    rotate_left
                    · simp only [Act.put, List.setIfInBounds_toArray, List.set_cons_zero, List.set_cons_succ, i64_w, i32_w]
                      rfl
                    refine pure_ (i := 58) (N := some 8) (v := ?_) (a' := ?_) #[true, true, true, true, true, true, true, true, true, true, true, true, true, true, true, true, true, true, true, true, true, true, true, true, true, true, true, true, true, true, true, true, true, true, true, true, true, true, true, true, true, true, true, true, true, true, true, true, true, true, true, true, true, true, true, true, true, true, true] rfl rfl (any_of HT_.out (by kernel_rfl)) (fun _ _ _ h => h) (Or.inl ⟨by rfl, ?_⟩) ?_ ?_
                    rotate_left
                    · intro w'
                      go_simp
                      with_reducible rfl
                    rotate_left
                    · simp only [Act.put, List.setIfInBounds_toArray, List.set_cons_zero, List.set_cons_succ, i64_w, i32_w]
                      rfl
                    refine done_ (done_of HT_.out (by kernel_rfl)) ?_
                    try go_wp2
                    go_ret
                    exact ⟨by first | rfl | (simp [errW_none, errW_some] <;> rfl) | (simp [*, errW_none, errW_some] <;> rfl), by repeat (first | (with_reducible first | exact HB.out | apply below_alloc | apply pw_below_drewN | apply below_drew1 | refine below_set ?_ GE142.out | refine below_set ?_ GE143.out | refine below_set ?_ GE153.out | refine below_set ?_ GE162.out) | exact HB.out)⟩
                  · rw [if_neg c31] at H
                    have c31b0 : (t167 == t176) = false := beq_eq_false_iff_ne.mpr c31
                    have c31b1 : (t167 != t176) = true := bne_iff_ne.mpr c31
                    rw [hrT.out] at H
                    exact absurd H (by simp)
                · rw [if_neg c30] at H
                  have c30b0 : (t164 == t166) = false := beq_eq_false_iff_ne.mpr c30
                  have c30b1 : (t164 != t166) = true := bne_iff_ne.mpr c30
                  rw [hrT.out] at H
                  exact absurd H (by simp)
              · rw [if_neg c29] at H
                have c29b0 : (t163 == t165) = false := beq_eq_false_iff_ne.mpr c29
                have c29b1 : (t163 != t165) = true := bne_iff_ne.mpr c29
                rw [hrT.out] at H
                exact absurd H (by simp)
            · rw [if_neg c28] at H
              have c28b0 : (t217 == t225) = false := by simpa using c28
              (try (have c28b1 : decide (t217 = t225) = false := by simpa using c28))
              (try (have c28b2 : (t217 == t225) = false := by simpa using c28))
              (try (have c28b3 : ¬ (t217 = t225) := by simpa using c28))
              clear c28
              rw [hrT.out] at H
              exact absurd H (by simp)
          · rw [if_neg c24] at H
            have c24b0 : (t152 == t161) = false := beq_eq_false_iff_ne.mpr c24
            have c24b1 : (t152 != t161) = true := bne_iff_ne.mpr c24
            rw [hrT.out] at H
            exact absurd H (by simp)
        · rw [if_neg c23] at H
          have c23b0 : (t210 == t154 && (t211 == t155 && (t212 == t156 && (t213 == t157 && (t214 == t158 && (t215 == t159 && (t216 == t160))))))) = false := by simpa using c23
          (try (have c23b1 : decide (t210 = t154 && (t211 == t155 && (t212 == t156 && (t213 == t157 && (t214 == t158 && (t215 == t159 && (t216 == t160))))))) = false := by simpa using c23))
          (try (have c23b2 : (t210 == t154 && (t211 == t155 && (t212 == t156 && (t213 == t157 && (t214 == t158 && (t215 == t159 && (t216 == t160))))))) = false := by simpa using c23))
          (try (have c23b3 : ¬ (t210 = t154 && (t211 == t155 && (t212 == t156 && (t213 == t157 && (t214 == t158 && (t215 == t159 && (t216 == t160))))))) := by simpa using c23))
          clear c23
          rw [hrT.out] at H
          exact absurd H (by simp)
      · rw [if_neg c21] at H
        have c21b0 : (t187 == t202 && (t188 == t203 && (t189 == t204 && (t190 == t205 && (t191 == t206 && (t192 == t207 && (t193 == t208 && (t194 == t209)))))))) = false := by simpa using c21
        (try (have c21b1 : decide (t187 = t202 && (t188 == t203 && (t189 == t204 && (t190 == t205 && (t191 == t206 && (t192 == t207 && (t193 == t208 && (t194 == t209)))))))) = false := by simpa using c21))
        (try (have c21b2 : (t187 == t202 && (t188 == t203 && (t189 == t204 && (t190 == t205 && (t191 == t206 && (t192 == t207 && (t193 == t208 && (t194 == t209)))))))) = false := by simpa using c21))
        (try (have c21b3 : ¬ (t187 = t202 && (t188 == t203 && (t189 == t204 && (t190 == t205 && (t191 == t206 && (t192 == t207 && (t193 == t208 && (t194 == t209)))))))) := by simpa using c21))
        clear c21
        rw [hrT.out] at H
        exact absurd H (by simp)
    · rw [if_neg c17] at H
      have c17b0 : (t178 == t186) = false := by simpa using c17
      (try (have c17b1 : decide (t178 = t186) = false := by simpa using c17))
      (try (have c17b2 : (t178 == t186) = false := by simpa using c17))
      (try (have c17b3 : ¬ (t178 = t186) := by simpa using c17))
      clear c17
      rw [hrT.out] at H
      exact absurd H (by simp)
  · replace c13 := Bool.eq_false_iff.mpr c13
    subst c13
    have H1 : (some false) = some r := by rw [if_neg (show ¬ (false = true) by decide)] at H; exact H
    clear H
    have H := H1
    clear H1
    rw [hrT.out] at H
    exact absurd H (by simp)

/-- THE ONE PURE STATEMENT of shellgamelaw15_SlotBlocks: yours. -/
def shellgamelaw15_SlotBlocks.Pure : Prop := ∀ (a0_0 : Bool) (a0_1 : Int) (a0_2 : Int) (a0_3 : Int) (a0_4 : Int) (a0_5 : Int) (a0_6 : Int) (a1_0 : Int) (a1_1 : Int) (a1_2 : Int) (a1_3 : Int) (a1_4 : Int) (a1_5 : Int) (a1_6 : Int) (a1_7 : Int) (a2 : Int) (a3 : Int), (Lit.int .u64 a0_1).wf = true → (Lit.int .u64 a0_2).wf = true → (Lit.int .u64 a0_3).wf = true → (Lit.int .u64 a0_4).wf = true → (Lit.int .u64 a0_5).wf = true → (Lit.int .i64 a0_6).wf = true → (Lit.int .u64 a1_0).wf = true → (Lit.int .u64 a1_1).wf = true → (Lit.int .u64 a1_2).wf = true → (Lit.int .u64 a1_3).wf = true → (Lit.int .u64 a1_4).wf = true → (Lit.int .u64 a1_5).wf = true → (Lit.int .u64 a1_6).wf = true → (Lit.int .u64 a1_7).wf = true → (Lit.int .i64 a2).wf = true → (Lit.int .u64 a3).wf = true → ∃ k, shellgamelaw15_SlotBlocks.f k a0_0 a0_1 a0_2 a0_3 a0_4 a0_5 a0_6 a1_0 a1_1 a1_2 a1_3 a1_4 a1_5 a1_6 a1_7 a2 a3 = some true
theorem shellgamelaw15_SlotBlocks.walk (P : shellgamelaw15_SlotBlocks.Pure) (a0_0 : Bool) (a0_1 : Int) (a0_2 : Int) (a0_3 : Int) (a0_4 : Int) (a0_5 : Int) (a0_6 : Int) (a1_0 : Int) (a1_1 : Int) (a1_2 : Int) (a1_3 : Int) (a1_4 : Int) (a1_5 : Int) (a1_6 : Int) (a1_7 : Int) (a2 : Int) (a3 : Int) (w : World) (w0_1 : (Lit.int .u64 a0_1).wf = true) (w0_2 : (Lit.int .u64 a0_2).wf = true) (w0_3 : (Lit.int .u64 a0_3).wf = true) (w0_4 : (Lit.int .u64 a0_4).wf = true) (w0_5 : (Lit.int .u64 a0_5).wf = true) (w0_6 : (Lit.int .i64 a0_6).wf = true) (w1_0 : (Lit.int .u64 a1_0).wf = true) (w1_1 : (Lit.int .u64 a1_1).wf = true) (w1_2 : (Lit.int .u64 a1_2).wf = true) (w1_3 : (Lit.int .u64 a1_3).wf = true) (w1_4 : (Lit.int .u64 a1_4).wf = true) (w1_5 : (Lit.int .u64 a1_5).wf = true) (w1_6 : (Lit.int .u64 a1_6).wf = true) (w1_7 : (Lit.int .u64 a1_7).wf = true) (w2 : (Lit.int .i64 a2).wf = true) (w3 : (Lit.int .u64 a3).wf = true) :
    Calls Try.prog 16 #[.agg #[.bool a0_0, .int .u64 a0_1, .int .u64 a0_2, .int .u64 a0_3, .int .u64 a0_4, .int .u64 a0_5, .int .i64 a0_6], .agg #[.int .u64 a1_0, .int .u64 a1_1, .int .u64 a1_2, .int .u64 a1_3, .int .u64 a1_4, .int .u64 a1_5, .int .u64 a1_6, .int .u64 a1_7], .int .i64 a2, .int .u64 a3] w fun e w' => e = .returned (.bool true) ∧ Below w.heap.size w w' := by
  obtain ⟨k, h⟩ := P a0_0 a0_1 a0_2 a0_3 a0_4 a0_5 a0_6 a1_0 a1_1 a1_2 a1_3 a1_4 a1_5 a1_6 a1_7 a2 a3 w0_1 w0_2 w0_3 w0_4 w0_5 w0_6 w1_0 w1_1 w1_2 w1_3 w1_4 w1_5 w1_6 w1_7 w2 w3
  refine (shellgamelaw15_SlotBlocks.calls k a0_0 a0_1 a0_2 a0_3 a0_4 a0_5 a0_6 a1_0 a1_1 a1_2 a1_3 a1_4 a1_5 a1_6 a1_7 a2 a3 true w ⟨rfl⟩ h).mono ?_
  rintro e w' ⟨rfl, hd⟩
  exact ⟨rfl, hd⟩

end Go.Proofs.Ytjkifbadbadoaaa.PSlotBlocks
