/-
  No cell of these rows narrows 'for every input' (looked for: loops, veiled, ifaces, maps, wideKeys, modest, calm, conditions, laid).
  DERIVED. THE GIVEN ROWS OF THIS SEAT. 14 by the template 'for every input the law returns true; each argument reads behind the call as it read before'; 0 by the template 'total and deterministic' (their statements: YtjkifbadbadoaaaTotals.lean).
  GIVEN WITH THE SEED: the statements are not yours to turn. If you find one false, say at which input.
  Laid BY PROGRAM, IN A SANDBOX (cutbox-rows.mjs): the forced cells as the released guide's own fill.sh prints them over the translation 06dfd7a191a59c13… (all of the seat's roots in one cut). By AI agents, Wed Nov 11 2026. No macro, syntax, notation, axiom, sorry.
-/
import Derived.Test.YtjkifbadbadoaaaChecked
import GoSem.Claim
import GoSem.ClaimJoined
import GoSem.ClaimMapViews
import Derived.JoinedTies
import Derived.KernelRfl
namespace Go.Proofs.Ytjkifbadbadoaaa
/- THE CELL 'sum', in the pinned program and in every row, IS THE sha256 OF THE DUMP (.gsa) THAT YtjkifbadbadoaaaProg.lean LOADS. Nothing in Lean hashes anything: it is a label: what it is worth is what the hold of that sum in a sandbox is worth. -/
noncomputable def Try.pinned : Pinned := { name := "ytjkifbadbadoaaa", sum := "06dfd7a191a59c13f0b306279e6c2f40bcc649b7e4156ba0d02246be110387b3", checked := Try.checked }
namespace Rows
def none {H : Type} : Left H := { results := [], args := [] }

/-- 'shellgamelaw4.PackJoin': WHATEVER THE INPUT: true; the input reads as it did. -/
def packJoinSpec : ChangeSpec := { name := "packJoin", fn := fun _ => fun
  | [d1, d2] => { results := [.lit (.bool true)], args := [d1, d2] }
  | _ => none }
def packJoinRow : OpenClaim := { program := "ytjkifbadbadoaaa", sum := "06dfd7a191a59c13f0b306279e6c2f40bcc649b7e4156ba0d02246be110387b3", func := "shellgame/shellgamelaw4.PackJoin", spec := "packJoin", apart := false }
def PackJoinSaid : Prop := packJoinRow.holds Try.pinned (OpenSpec.ofChange packJoinSpec)

/-- ITS FALSE NEIGHBOUR: 'it returns false'. Refute it at one input. -/
def packJoinWrong : ChangeSpec := { name := "packJoin", fn := fun _ => fun
  | [d1, d2] => { results := [.lit (.bool false)], args := [d1, d2] }
  | _ => none }
def PackJoinWrongFalsely : Prop := packJoinRow.holds Try.pinned (OpenSpec.ofChange packJoinWrong)

/-- 'shellgamelaw15.SlotRises': WHATEVER THE INPUT: true; the input reads as it did. -/
def slotRisesSpec : ChangeSpec := { name := "slotRises", fn := fun _ => fun
  | [d1, d2] => { results := [.lit (.bool true)], args := [d1, d2] }
  | _ => none }
def slotRisesRow : OpenClaim := { program := "ytjkifbadbadoaaa", sum := "06dfd7a191a59c13f0b306279e6c2f40bcc649b7e4156ba0d02246be110387b3", func := "shellgame/shellgamelaw15.SlotRises", spec := "slotRises", apart := false }
def SlotRisesSaid : Prop := slotRisesRow.holds Try.pinned (OpenSpec.ofChange slotRisesSpec)

/-- ITS FALSE NEIGHBOUR: 'it returns false'. Refute it at one input. -/
def slotRisesWrong : ChangeSpec := { name := "slotRises", fn := fun _ => fun
  | [d1, d2] => { results := [.lit (.bool false)], args := [d1, d2] }
  | _ => none }
def SlotRisesWrongFalsely : Prop := slotRisesRow.holds Try.pinned (OpenSpec.ofChange slotRisesWrong)

/-- 'shellgamelaw15.SlotTimes': WHATEVER THE INPUT: true; the input reads as it did. -/
def slotTimesSpec : ChangeSpec := { name := "slotTimes", fn := fun _ => fun
  | [d1, d2, d3] => { results := [.lit (.bool true)], args := [d1, d2, d3] }
  | _ => none }
def slotTimesRow : OpenClaim := { program := "ytjkifbadbadoaaa", sum := "06dfd7a191a59c13f0b306279e6c2f40bcc649b7e4156ba0d02246be110387b3", func := "shellgame/shellgamelaw15.SlotTimes", spec := "slotTimes", apart := false }
def SlotTimesSaid : Prop := slotTimesRow.holds Try.pinned (OpenSpec.ofChange slotTimesSpec)

/-- ITS FALSE NEIGHBOUR: 'it returns false'. Refute it at one input. -/
def slotTimesWrong : ChangeSpec := { name := "slotTimes", fn := fun _ => fun
  | [d1, d2, d3] => { results := [.lit (.bool false)], args := [d1, d2, d3] }
  | _ => none }
def SlotTimesWrongFalsely : Prop := slotTimesRow.holds Try.pinned (OpenSpec.ofChange slotTimesWrong)

/-- 'shellgamelaw12.HashPlaces': WHATEVER THE INPUT: true; the input reads as it did. -/
def hashPlacesSpec : ChangeSpec := { name := "hashPlaces", fn := fun _ => fun
  | [d1, d2, d3, d4] => { results := [.lit (.bool true)], args := [d1, d2, d3, d4] }
  | _ => none }
def hashPlacesRow : OpenClaim := { program := "ytjkifbadbadoaaa", sum := "06dfd7a191a59c13f0b306279e6c2f40bcc649b7e4156ba0d02246be110387b3", func := "shellgame/shellgamelaw12.HashPlaces", spec := "hashPlaces", unfollowed := true, recurses := true, apart := false }
def HashPlacesSaid : Prop := hashPlacesRow.holds Try.pinned (OpenSpec.ofChange hashPlacesSpec)

/-- ITS FALSE NEIGHBOUR: 'it returns false'. Refute it at one input. -/
def hashPlacesWrong : ChangeSpec := { name := "hashPlaces", fn := fun _ => fun
  | [d1, d2, d3, d4] => { results := [.lit (.bool false)], args := [d1, d2, d3, d4] }
  | _ => none }
def HashPlacesWrongFalsely : Prop := hashPlacesRow.holds Try.pinned (OpenSpec.ofChange hashPlacesWrong)

/-- 'shellgamelaw12.HashSpread': WHATEVER THE INPUT: true; the input reads as it did. -/
def hashSpreadSpec : ChangeSpec := { name := "hashSpread", fn := fun _ => fun
  | [d1, d2, d3] => { results := [.lit (.bool true)], args := [d1, d2, d3] }
  | _ => none }
def hashSpreadRow : OpenClaim := { program := "ytjkifbadbadoaaa", sum := "06dfd7a191a59c13f0b306279e6c2f40bcc649b7e4156ba0d02246be110387b3", func := "shellgame/shellgamelaw12.HashSpread", spec := "hashSpread", unfollowed := true, recurses := true, apart := false }
def HashSpreadSaid : Prop := hashSpreadRow.holds Try.pinned (OpenSpec.ofChange hashSpreadSpec)

/-- ITS FALSE NEIGHBOUR: 'it returns false'. Refute it at one input. -/
def hashSpreadWrong : ChangeSpec := { name := "hashSpread", fn := fun _ => fun
  | [d1, d2, d3] => { results := [.lit (.bool false)], args := [d1, d2, d3] }
  | _ => none }
def HashSpreadWrongFalsely : Prop := hashSpreadRow.holds Try.pinned (OpenSpec.ofChange hashSpreadWrong)

/-- 'shellgamelaw12.HashStirs': WHATEVER THE INPUT: true; the input reads as it did. -/
def hashStirsSpec : ChangeSpec := { name := "hashStirs", fn := fun _ => fun
  | [d1, d2] => { results := [.lit (.bool true)], args := [d1, d2] }
  | _ => none }
def hashStirsRow : OpenClaim := { program := "ytjkifbadbadoaaa", sum := "06dfd7a191a59c13f0b306279e6c2f40bcc649b7e4156ba0d02246be110387b3", func := "shellgame/shellgamelaw12.HashStirs", spec := "hashStirs", unfollowed := true, recurses := true, apart := false }
def HashStirsSaid : Prop := hashStirsRow.holds Try.pinned (OpenSpec.ofChange hashStirsSpec)

/-- ITS FALSE NEIGHBOUR: 'it returns false'. Refute it at one input. -/
def hashStirsWrong : ChangeSpec := { name := "hashStirs", fn := fun _ => fun
  | [d1, d2] => { results := [.lit (.bool false)], args := [d1, d2] }
  | _ => none }
def HashStirsWrongFalsely : Prop := hashStirsRow.holds Try.pinned (OpenSpec.ofChange hashStirsWrong)

/-- 'shellgamelaw12.HashMoves': WHATEVER THE INPUT: true; the input reads as it did. -/
def hashMovesSpec : ChangeSpec := { name := "hashMoves", fn := fun _ => fun
  | [d1, d2, d3, d4, d5, d6] => { results := [.lit (.bool true)], args := [d1, d2, d3, d4, d5, d6] }
  | _ => none }
def hashMovesRow : OpenClaim := { program := "ytjkifbadbadoaaa", sum := "06dfd7a191a59c13f0b306279e6c2f40bcc649b7e4156ba0d02246be110387b3", func := "shellgame/shellgamelaw12.HashMoves", spec := "hashMoves", unfollowed := true, recurses := true, apart := false }
def HashMovesSaid : Prop := hashMovesRow.holds Try.pinned (OpenSpec.ofChange hashMovesSpec)

/-- ITS FALSE NEIGHBOUR: 'it returns false'. Refute it at one input. -/
def hashMovesWrong : ChangeSpec := { name := "hashMoves", fn := fun _ => fun
  | [d1, d2, d3, d4, d5, d6] => { results := [.lit (.bool false)], args := [d1, d2, d3, d4, d5, d6] }
  | _ => none }
def HashMovesWrongFalsely : Prop := hashMovesRow.holds Try.pinned (OpenSpec.ofChange hashMovesWrong)

/-- 'shellgamelaw12.HashFew': WHATEVER THE INPUT: true; the input reads as it did. -/
def hashFewSpec : ChangeSpec := { name := "hashFew", fn := fun _ => fun
  | [d1, d2, d3] => { results := [.lit (.bool true)], args := [d1, d2, d3] }
  | _ => none }
def hashFewRow : OpenClaim := { program := "ytjkifbadbadoaaa", sum := "06dfd7a191a59c13f0b306279e6c2f40bcc649b7e4156ba0d02246be110387b3", func := "shellgame/shellgamelaw12.HashFew", spec := "hashFew", unfollowed := true, recurses := true, apart := false }
def HashFewSaid : Prop := hashFewRow.holds Try.pinned (OpenSpec.ofChange hashFewSpec)

/-- ITS FALSE NEIGHBOUR: 'it returns false'. Refute it at one input. -/
def hashFewWrong : ChangeSpec := { name := "hashFew", fn := fun _ => fun
  | [d1, d2, d3] => { results := [.lit (.bool false)], args := [d1, d2, d3] }
  | _ => none }
def HashFewWrongFalsely : Prop := hashFewRow.holds Try.pinned (OpenSpec.ofChange hashFewWrong)

/-- 'shellgamelaw4.PackBack': WHATEVER THE INPUT: true; the input reads as it did. -/
def packBackSpec : ChangeSpec := { name := "packBack", fn := fun _ => fun
  | [d1, d2, d3] => { results := [.lit (.bool true)], args := [d1, d2, d3] }
  | _ => none }
def packBackRow : OpenClaim := { program := "ytjkifbadbadoaaa", sum := "06dfd7a191a59c13f0b306279e6c2f40bcc649b7e4156ba0d02246be110387b3", func := "shellgame/shellgamelaw4.PackBack", spec := "packBack", apart := false }
def PackBackSaid : Prop := packBackRow.holds Try.pinned (OpenSpec.ofChange packBackSpec)

/-- ITS FALSE NEIGHBOUR: 'it returns false'. Refute it at one input. -/
def packBackWrong : ChangeSpec := { name := "packBack", fn := fun _ => fun
  | [d1, d2, d3] => { results := [.lit (.bool false)], args := [d1, d2, d3] }
  | _ => none }
def PackBackWrongFalsely : Prop := packBackRow.holds Try.pinned (OpenSpec.ofChange packBackWrong)

/-- 'shellgamelaw4.PackWords': WHATEVER THE INPUT: true; the input reads as it did. -/
def packWordsSpec : ChangeSpec := { name := "packWords", fn := fun _ => fun
  | [d1, d2] => { results := [.lit (.bool true)], args := [d1, d2] }
  | _ => none }
def packWordsRow : OpenClaim := { program := "ytjkifbadbadoaaa", sum := "06dfd7a191a59c13f0b306279e6c2f40bcc649b7e4156ba0d02246be110387b3", func := "shellgame/shellgamelaw4.PackWords", spec := "packWords", apart := false }
def PackWordsSaid : Prop := packWordsRow.holds Try.pinned (OpenSpec.ofChange packWordsSpec)

/-- ITS FALSE NEIGHBOUR: 'it returns false'. Refute it at one input. -/
def packWordsWrong : ChangeSpec := { name := "packWords", fn := fun _ => fun
  | [d1, d2] => { results := [.lit (.bool false)], args := [d1, d2] }
  | _ => none }
def PackWordsWrongFalsely : Prop := packWordsRow.holds Try.pinned (OpenSpec.ofChange packWordsWrong)

/-- 'shellgamelaw4.PackRight': WHATEVER THE INPUT: true; the input reads as it did. -/
def packRightSpec : ChangeSpec := { name := "packRight", fn := fun _ => fun
  | [d1, d2, d3] => { results := [.lit (.bool true)], args := [d1, d2, d3] }
  | _ => none }
def packRightRow : OpenClaim := { program := "ytjkifbadbadoaaa", sum := "06dfd7a191a59c13f0b306279e6c2f40bcc649b7e4156ba0d02246be110387b3", func := "shellgame/shellgamelaw4.PackRight", spec := "packRight", apart := false }
def PackRightSaid : Prop := packRightRow.holds Try.pinned (OpenSpec.ofChange packRightSpec)

/-- ITS FALSE NEIGHBOUR: 'it returns false'. Refute it at one input. -/
def packRightWrong : ChangeSpec := { name := "packRight", fn := fun _ => fun
  | [d1, d2, d3] => { results := [.lit (.bool false)], args := [d1, d2, d3] }
  | _ => none }
def PackRightWrongFalsely : Prop := packRightRow.holds Try.pinned (OpenSpec.ofChange packRightWrong)

/-- 'shellgamelaw15.SlotOnce': WHATEVER THE INPUT: true; the input reads as it did. -/
def slotOnceSpec : ChangeSpec := { name := "slotOnce", fn := fun _ => fun
  | [d1, d2] => { results := [.lit (.bool true)], args := [d1, d2] }
  | _ => none }
def slotOnceRow : OpenClaim := { program := "ytjkifbadbadoaaa", sum := "06dfd7a191a59c13f0b306279e6c2f40bcc649b7e4156ba0d02246be110387b3", func := "shellgame/shellgamelaw15.SlotOnce", spec := "slotOnce", apart := false }
def SlotOnceSaid : Prop := slotOnceRow.holds Try.pinned (OpenSpec.ofChange slotOnceSpec)

/-- ITS FALSE NEIGHBOUR: 'it returns false'. Refute it at one input. -/
def slotOnceWrong : ChangeSpec := { name := "slotOnce", fn := fun _ => fun
  | [d1, d2] => { results := [.lit (.bool false)], args := [d1, d2] }
  | _ => none }
def SlotOnceWrongFalsely : Prop := slotOnceRow.holds Try.pinned (OpenSpec.ofChange slotOnceWrong)

/-- 'shellgamelaw15.SlotBack': WHATEVER THE INPUT: true; the input reads as it did. -/
def slotBackSpec : ChangeSpec := { name := "slotBack", fn := fun _ => fun
  | [d1, d2] => { results := [.lit (.bool true)], args := [d1, d2] }
  | _ => none }
def slotBackRow : OpenClaim := { program := "ytjkifbadbadoaaa", sum := "06dfd7a191a59c13f0b306279e6c2f40bcc649b7e4156ba0d02246be110387b3", func := "shellgame/shellgamelaw15.SlotBack", spec := "slotBack", apart := false }
def SlotBackSaid : Prop := slotBackRow.holds Try.pinned (OpenSpec.ofChange slotBackSpec)

/-- ITS FALSE NEIGHBOUR: 'it returns false'. Refute it at one input. -/
def slotBackWrong : ChangeSpec := { name := "slotBack", fn := fun _ => fun
  | [d1, d2] => { results := [.lit (.bool false)], args := [d1, d2] }
  | _ => none }
def SlotBackWrongFalsely : Prop := slotBackRow.holds Try.pinned (OpenSpec.ofChange slotBackWrong)

/-- 'shellgamelaw15.SlotBlocks': WHATEVER THE INPUT: true; the input reads as it did. -/
def slotBlocksSpec : ChangeSpec := { name := "slotBlocks", fn := fun _ => fun
  | [d1, d2, d3, d4] => { results := [.lit (.bool true)], args := [d1, d2, d3, d4] }
  | _ => none }
def slotBlocksRow : OpenClaim := { program := "ytjkifbadbadoaaa", sum := "06dfd7a191a59c13f0b306279e6c2f40bcc649b7e4156ba0d02246be110387b3", func := "shellgame/shellgamelaw15.SlotBlocks", spec := "slotBlocks", apart := false }
def SlotBlocksSaid : Prop := slotBlocksRow.holds Try.pinned (OpenSpec.ofChange slotBlocksSpec)

/-- ITS FALSE NEIGHBOUR: 'it returns false'. Refute it at one input. -/
def slotBlocksWrong : ChangeSpec := { name := "slotBlocks", fn := fun _ => fun
  | [d1, d2, d3, d4] => { results := [.lit (.bool false)], args := [d1, d2, d3, d4] }
  | _ => none }
def SlotBlocksWrongFalsely : Prop := slotBlocksRow.holds Try.pinned (OpenSpec.ofChange slotBlocksWrong)

/- THE SECOND FORM. 'bulk': how many values and letters a reading holds, each counted each time it is reached (what is shared counts as often as it is met; a slice's spare places count too). A statement '..UptoSaid' is the law's where the arguments, and the package variables that the reading takes, are together of bulk at most 1048576: NARROWER than '..Said'. Prove '..Said' where nothing that the law and all that it calls make is longer than what came in: it says more and counts as full. Else prove '..UptoSaid'. A law counts once. -/
mutual
def uptoBulk {H : Type} : DataW H → Nat
  | .lit (.string bytes) => bytes.length + 1
  | .lit _ => 1
  | .nil => 1
  | .ptr d => uptoBulk d + 1
  | .slice elems spare => uptoBulkAll elems + uptoBulkAll spare + 1
  | .agg parts => uptoBulkAll parts + 1
  | .iface _ d => uptoBulk d + 1
  | .map entries => uptoBulkEntries entries + 1
  | .held _ => 1
def uptoBulkAll {H : Type} : List (DataW H) → Nat
  | [] => 0
  | d :: r => uptoBulk d + uptoBulkAll r
def uptoBulkEntries {H : Type} : List (Lit × DataW H) → Nat
  | [] => 0
  | x :: r => uptoBulkEntry x + uptoBulkEntries r
def uptoBulkEntry {H : Type} : Lit × DataW H → Nat
  | (.string bytes, d) => bytes.length + uptoBulk d + 1
  | (_, d) => uptoBulk d + 1
 end
def uptoSmall : (H : Type) → List (DataW H) → Bool := fun _ ds => decide (uptoBulkAll ds ≤ 1048576)
def OpenSpec.upto (s : _root_.Go.ChangeSpec) : _root_.Go.OpenSpec := { _root_.Go.OpenSpec.ofChange s with cond := some uptoSmall }

/-- 'shellgamelaw4.PackJoin', WHERE WHAT IT READS IS OF BULK AT MOST 1048576: true; the input reads as it did. -/
def packJoinUptoRow : OpenClaim := { program := "ytjkifbadbadoaaa", sum := "06dfd7a191a59c13f0b306279e6c2f40bcc649b7e4156ba0d02246be110387b3", func := "shellgame/shellgamelaw4.PackJoin", spec := "packJoin", apart := false, narrowed := true }
def PackJoinUptoSaid : Prop := packJoinUptoRow.holds Try.pinned (OpenSpec.upto packJoinSpec)

/-- 'shellgamelaw15.SlotRises', WHERE WHAT IT READS IS OF BULK AT MOST 1048576: true; the input reads as it did. -/
def slotRisesUptoRow : OpenClaim := { program := "ytjkifbadbadoaaa", sum := "06dfd7a191a59c13f0b306279e6c2f40bcc649b7e4156ba0d02246be110387b3", func := "shellgame/shellgamelaw15.SlotRises", spec := "slotRises", apart := false, narrowed := true }
def SlotRisesUptoSaid : Prop := slotRisesUptoRow.holds Try.pinned (OpenSpec.upto slotRisesSpec)

/-- 'shellgamelaw15.SlotTimes', WHERE WHAT IT READS IS OF BULK AT MOST 1048576: true; the input reads as it did. -/
def slotTimesUptoRow : OpenClaim := { program := "ytjkifbadbadoaaa", sum := "06dfd7a191a59c13f0b306279e6c2f40bcc649b7e4156ba0d02246be110387b3", func := "shellgame/shellgamelaw15.SlotTimes", spec := "slotTimes", apart := false, narrowed := true }
def SlotTimesUptoSaid : Prop := slotTimesUptoRow.holds Try.pinned (OpenSpec.upto slotTimesSpec)

/-- 'shellgamelaw12.HashPlaces', WHERE WHAT IT READS IS OF BULK AT MOST 1048576: true; the input reads as it did. -/
def hashPlacesUptoRow : OpenClaim := { program := "ytjkifbadbadoaaa", sum := "06dfd7a191a59c13f0b306279e6c2f40bcc649b7e4156ba0d02246be110387b3", func := "shellgame/shellgamelaw12.HashPlaces", spec := "hashPlaces", unfollowed := true, recurses := true, apart := false, narrowed := true }
def HashPlacesUptoSaid : Prop := hashPlacesUptoRow.holds Try.pinned (OpenSpec.upto hashPlacesSpec)

/-- 'shellgamelaw12.HashSpread', WHERE WHAT IT READS IS OF BULK AT MOST 1048576: true; the input reads as it did. -/
def hashSpreadUptoRow : OpenClaim := { program := "ytjkifbadbadoaaa", sum := "06dfd7a191a59c13f0b306279e6c2f40bcc649b7e4156ba0d02246be110387b3", func := "shellgame/shellgamelaw12.HashSpread", spec := "hashSpread", unfollowed := true, recurses := true, apart := false, narrowed := true }
def HashSpreadUptoSaid : Prop := hashSpreadUptoRow.holds Try.pinned (OpenSpec.upto hashSpreadSpec)

/-- 'shellgamelaw12.HashStirs', WHERE WHAT IT READS IS OF BULK AT MOST 1048576: true; the input reads as it did. -/
def hashStirsUptoRow : OpenClaim := { program := "ytjkifbadbadoaaa", sum := "06dfd7a191a59c13f0b306279e6c2f40bcc649b7e4156ba0d02246be110387b3", func := "shellgame/shellgamelaw12.HashStirs", spec := "hashStirs", unfollowed := true, recurses := true, apart := false, narrowed := true }
def HashStirsUptoSaid : Prop := hashStirsUptoRow.holds Try.pinned (OpenSpec.upto hashStirsSpec)

/-- 'shellgamelaw12.HashMoves', WHERE WHAT IT READS IS OF BULK AT MOST 1048576: true; the input reads as it did. -/
def hashMovesUptoRow : OpenClaim := { program := "ytjkifbadbadoaaa", sum := "06dfd7a191a59c13f0b306279e6c2f40bcc649b7e4156ba0d02246be110387b3", func := "shellgame/shellgamelaw12.HashMoves", spec := "hashMoves", unfollowed := true, recurses := true, apart := false, narrowed := true }
def HashMovesUptoSaid : Prop := hashMovesUptoRow.holds Try.pinned (OpenSpec.upto hashMovesSpec)

/-- 'shellgamelaw12.HashFew', WHERE WHAT IT READS IS OF BULK AT MOST 1048576: true; the input reads as it did. -/
def hashFewUptoRow : OpenClaim := { program := "ytjkifbadbadoaaa", sum := "06dfd7a191a59c13f0b306279e6c2f40bcc649b7e4156ba0d02246be110387b3", func := "shellgame/shellgamelaw12.HashFew", spec := "hashFew", unfollowed := true, recurses := true, apart := false, narrowed := true }
def HashFewUptoSaid : Prop := hashFewUptoRow.holds Try.pinned (OpenSpec.upto hashFewSpec)

/-- 'shellgamelaw4.PackBack', WHERE WHAT IT READS IS OF BULK AT MOST 1048576: true; the input reads as it did. -/
def packBackUptoRow : OpenClaim := { program := "ytjkifbadbadoaaa", sum := "06dfd7a191a59c13f0b306279e6c2f40bcc649b7e4156ba0d02246be110387b3", func := "shellgame/shellgamelaw4.PackBack", spec := "packBack", apart := false, narrowed := true }
def PackBackUptoSaid : Prop := packBackUptoRow.holds Try.pinned (OpenSpec.upto packBackSpec)

/-- 'shellgamelaw4.PackWords', WHERE WHAT IT READS IS OF BULK AT MOST 1048576: true; the input reads as it did. -/
def packWordsUptoRow : OpenClaim := { program := "ytjkifbadbadoaaa", sum := "06dfd7a191a59c13f0b306279e6c2f40bcc649b7e4156ba0d02246be110387b3", func := "shellgame/shellgamelaw4.PackWords", spec := "packWords", apart := false, narrowed := true }
def PackWordsUptoSaid : Prop := packWordsUptoRow.holds Try.pinned (OpenSpec.upto packWordsSpec)

/-- 'shellgamelaw4.PackRight', WHERE WHAT IT READS IS OF BULK AT MOST 1048576: true; the input reads as it did. -/
def packRightUptoRow : OpenClaim := { program := "ytjkifbadbadoaaa", sum := "06dfd7a191a59c13f0b306279e6c2f40bcc649b7e4156ba0d02246be110387b3", func := "shellgame/shellgamelaw4.PackRight", spec := "packRight", apart := false, narrowed := true }
def PackRightUptoSaid : Prop := packRightUptoRow.holds Try.pinned (OpenSpec.upto packRightSpec)

/-- 'shellgamelaw15.SlotOnce', WHERE WHAT IT READS IS OF BULK AT MOST 1048576: true; the input reads as it did. -/
def slotOnceUptoRow : OpenClaim := { program := "ytjkifbadbadoaaa", sum := "06dfd7a191a59c13f0b306279e6c2f40bcc649b7e4156ba0d02246be110387b3", func := "shellgame/shellgamelaw15.SlotOnce", spec := "slotOnce", apart := false, narrowed := true }
def SlotOnceUptoSaid : Prop := slotOnceUptoRow.holds Try.pinned (OpenSpec.upto slotOnceSpec)

/-- 'shellgamelaw15.SlotBack', WHERE WHAT IT READS IS OF BULK AT MOST 1048576: true; the input reads as it did. -/
def slotBackUptoRow : OpenClaim := { program := "ytjkifbadbadoaaa", sum := "06dfd7a191a59c13f0b306279e6c2f40bcc649b7e4156ba0d02246be110387b3", func := "shellgame/shellgamelaw15.SlotBack", spec := "slotBack", apart := false, narrowed := true }
def SlotBackUptoSaid : Prop := slotBackUptoRow.holds Try.pinned (OpenSpec.upto slotBackSpec)

/-- 'shellgamelaw15.SlotBlocks', WHERE WHAT IT READS IS OF BULK AT MOST 1048576: true; the input reads as it did. -/
def slotBlocksUptoRow : OpenClaim := { program := "ytjkifbadbadoaaa", sum := "06dfd7a191a59c13f0b306279e6c2f40bcc649b7e4156ba0d02246be110387b3", func := "shellgame/shellgamelaw15.SlotBlocks", spec := "slotBlocks", apart := false, narrowed := true }
def SlotBlocksUptoSaid : Prop := slotBlocksUptoRow.holds Try.pinned (OpenSpec.upto slotBlocksSpec)

end Rows
end Go.Proofs.Ytjkifbadbadoaaa
