/- The contract of store.Right (it ranges over a function): whether a store can be so. Nothing that lay in memory is changed. -/
import Derived.RangeFuncFrom
import Derived.RangeFuncBound
import Derived.RangeFuncCalls
import Derived.RangeFuncLeaves
import Derived.RangeFuncBox
import Derived.Shelf.Abstract
import Derived.WalkKit
import Derived.OwnWalkIn
import Derived.TacticsInMore
import Derived.LoopNIn
import Derived.LoopIn
import Derived.Test.YtpaafeaolodkjaaDoorPSizesx1
import Derived.Test.YtpaafeaolodkjaaDoorPlevelx1
namespace Go.Proofs.YtpaafeaolodkjaaDoor.Hand
open Go.RowKit Go.Shelf Go.Proofs.YtpaafeaolodkjaaDoorW.PrintWords Go.Proofs.YtpaafeaolodkjaaDoorW.PrintLast Go.Proofs.YtpaafeaolodkjaaDoorW.PrintMore
attribute [local go_sem] Oper.semAt_some
set_option linter.unusedVariables false

theorem keeps_below {W W' : World} (h : Below W.heap.size W W') : KeepsOthers W W' :=
  ⟨h.size, fun k o hk _ => (h.block k (Array.getElem?_eq_some_iff.1 hk).1).trans hk⟩

/-- a level's number -/
abbrev Lv := { x : Int // 0 ≤ x ∧ x < 4 }
/-- what comes in the round j, of N levels: N - 1, N - 2, .. -/
def dn (N j : Nat) : Lv := ⟨(((N - 1 - j) % 4 : Nat) : Int), by omega⟩
def downto (N k : Nat) : List Lv := (List.range k).map fun j => dn N j
theorem downto_succ (N k : Nat) : downto N (k + 1) = downto N k ++ [dn N k] := by simp [downto, List.range_succ]
theorem downto_length (N k : Nat) : (downto N k).length = k := by simp [downto]
theorem dn_val (N k : Nat) (h : k < N) (hN : N ≤ 4) : (dn N k).1 = (N : Int) - 1 - k := by
  show (((N - 1 - k) % 4 : Nat) : Int) = _
  omega

set_option maxRecDepth 100000 in
set_option maxHeartbeats 2000000 in
theorem down1_in (F : Fence) (n : Nat) (h7 : F.fn 60) (hro : F.round = none) (hn : 1 ≤ n) (l Bs n₀ N : Nat) (hN : N ≤ 4) (J Jx : List Lv → World → Prop)
    (hY : ∀ (pre : List Lv) (x : Lv) W, J pre W → pre.length < N → YieldAt F (n - 1) Tryd.prog l #[.int .i64 x.1] W fun e W' =>
      (e = .returned (.bool true) ∧ J (pre ++ [x]) W' ∧ Below n₀ W W') ∨ (e = .returned (.bool false) ∧ Jx (pre ++ [x]) W'))
    (W : World) (hBs : W.cell? ⟨Bs, 3, none⟩ = some (.int .i64 N)) (h0 : J [] W) :
    CallsIn F n Tryd.prog 60 #[.func (.yield l) #[] #[], .pointer (some ⟨Bs, 0, none⟩)] W fun e W' => (∃ v, e = .returned v) ∧
      ((∃ ys, ys = downto N N ∧ J ys W') ∨ (∃ pre, (∃ k, k ≤ N ∧ pre = downto N k) ∧ Jx pre W')) := by
  refine callsIn_of_wp Tryd.func60 rfl h7 ?_ hro
  simp only [Tryd.ntmps60, List.size_toArray, List.length_cons, List.length_nil, Nat.reduceAdd, Nat.reduceSub, Array.replicate_succ, Array.replicate_zero, List.push_toArray, List.append_toArray, List.nil_append, List.cons_append]
  gi_wp2
  gi_loopw [3] (fun i wr => ∃ k : Nat, k ≤ N ∧ i = .int .i64 ((N : Int) - 1 - k) ∧ J (downto N k) wr)
    (fun i _ => (intOf i + 1).toNat)
  case atStart => exact ⟨0, Nat.zero_le _, by simp, h0⟩
  case round =>
    obtain ⟨k, hk, rfl, hJs⟩ := hrel
    by_cases hlt : k < N
    · obtain ⟨fn, tmps, assign, body, hy, hR⟩ := hY _ (dn N k) wr hJs (by rw [downto_length]; exact hlt)
      rw [dn_val N k hlt hN] at hy
      have d0 : decide (0 ≤ (N : Int) - 1 - k) = true := decide_eq_true (by omega)
      have d1 : (0 ≤ (N : Int) - 1 - k) := by omega
      gi_wp2
      refine hR.mono ?_
      rintro e W3 (⟨rfl, hJ3, hk3⟩ | ⟨rfl, hJx3⟩)
      · gi_wp2
        go_roundw
        case rel => exact ⟨k + 1, by omega, by simp; omega, by rw [downto_succ]; exact hJ3⟩
        case measure => simp [intOf]; omega
      · gi_wp2
        go_end0
        exact ⟨⟨_, rfl⟩, .inr ⟨_, ⟨k + 1, by omega, (downto_succ _ _).symm⟩, hJx3⟩⟩
    · obtain rfl : k = N := by omega
      have d0 : decide (0 ≤ (k : Int) - 1 - k) = false := decide_eq_false (by omega)
      gi_wp2
      refine ⟨fun _ h => (by cases h), ?_⟩
      gi_wp2
      go_end0
      exact ⟨⟨_, rfl⟩, .inl ⟨_, rfl, hJs⟩⟩
set_option maxHeartbeats 1000000 in
set_option maxRecDepth 100000 in
theorem down_in (F : Fence) (n : Nat) (h5 : F.fn 42) (hro : F.round = none) (b s t L : Int) (w : World) :
    CallsIn F n Tryd.prog 42 #[.agg #[.int .i64 b, .int .i64 s, .int .i64 t, .int .i64 L]] w fun e w' => e = .returned (.func (.func 60) #[] #[.pointer (some ⟨w.heap.size, 0, none⟩)]) ∧ w' = w.alloc (.cells #[.int .i64 b, .int .i64 s, .int .i64 t, .int .i64 L] 33) := by
  refine callsIn_of_wp Tryd.func42 rfl h5 ?_ hro
  simp only [Tryd.ntmps42, List.size_toArray, List.length_cons, List.length_nil, Nat.reduceAdd, Nat.reduceSub, Array.replicate_succ, Array.replicate_zero, List.push_toArray, List.append_toArray, List.nil_append, List.cons_append]
  gi_wp2
  go_ret
  exact ⟨rfl, rfl⟩
theorem down_stops (F : Fence) (n : Nat) (h7 : F.fn 60) (hro : F.round = none) (hn : 1 ≤ n) (Bs n₀ N : Nat) (hN : N ≤ 4) (w : World) (hBs : Bs < w.heap.size)
    (hc : w.cell? ⟨Bs, 3, none⟩ = some (.int .i64 N)) :
    SeqStopsK F n Tryd.prog 60 #[.pointer (some ⟨Bs, 0, none⟩)] (fun x : Lv => #[Value.int .i64 x.1]) (Below n₀) (fun ys => ys = downto N N) (fun pre => ∃ k, k ≤ N ∧ pre = downto N k) N w := fun l J Jx W hW _ _ hY h0 => by
  have hc' := (hW.cell (p := ⟨Bs, 3, none⟩) hBs).trans hc
  exact down1_in F n h7 hro hn l Bs n₀ N hN J Jx hY W hc' h0

/-! ### that a level is told to be right or not, of each level -/
theorem tot_path (a : Int) : ∃ r, PSizes.path_Right.f a = some r := by
  unfold PSizes.path_Right.f
  split
  · split <;> exact ⟨_, rfl⟩
  · exact ⟨_, rfl⟩
theorem tot_len (a : Int) : ∃ n : Nat, bits_Len64.f (IntKind.u64.wrap a) = some (n : Int) := by
  unfold bits_Len64.f
  have h : 0 ≤ IntKind.u64.wrap a ∧ IntKind.u64.wrap a ≤ 18446744073709551615 := by rw [IntKind.wrap_u64]; omega
  rw [if_pos h.1, if_pos h.2]
  exact ⟨_, rfl⟩
theorem tot_depth (a : Int) : ∃ r, PSizes.path_Depth.f a = some r := by
  unfold PSizes.path_Depth.f PSizes.word_Log.f
  obtain ⟨r, hr⟩ := tot_path a
  obtain ⟨n, hn⟩ := tot_len a
  rw [hr, hn]
  cases r
  · exact ⟨_, rfl⟩
  · exact ⟨_, rfl⟩
theorem tot_round (a : Int) : ∃ r, PSizes.word_Round.f a = some r := by
  unfold PSizes.word_Round.f
  split
  · exact ⟨_, rfl⟩
  · obtain ⟨n, hn⟩ := tot_len (wrap64 (a - 1))
    rw [hn, Option.bind_some, if_pos (by unfold mn; split <;> omega)]
    exact ⟨_, rfl⟩
theorem tot_places (a b c : Int) : ∃ r, PSizes.deal_Places.f a b c = some r := by
  unfold PSizes.deal_Places.f deal_Right.f
  rw [Option.bind_some]
  split
  · exact ⟨_, rfl⟩
  · exact ⟨_, rfl⟩
theorem tot_table (a b c : Int) : ∃ r, PSizes.level_Config_table.f a b c = some r := by
  unfold PSizes.level_Config_table.f PSizes.level_Config_shape.f
  obtain ⟨d, hd⟩ := tot_depth a
  rw [hd, Option.bind_some, Option.bind_some]
  obtain ⟨p, hp⟩ := tot_places d b c
  rw [hp, Option.bind_some]
  obtain ⟨r, hr⟩ := tot_round p
  rw [hr]
  exact ⟨_, rfl⟩
theorem tot_right (a b c : Int) : ∃ r, PSizes.level_Right.f a b c = some r := by
  unfold PSizes.level_Right.f PSizes.level_Config_shape.f deal_Right.f
  obtain ⟨r, hr⟩ := tot_path a
  obtain ⟨d, hd⟩ := tot_depth a
  obtain ⟨t, ht⟩ := tot_table a b c
  rw [hr, hd, ht, Option.bind_some, Option.bind_some, Option.bind_some, Option.bind_some]
  split
  · split <;> exact ⟨_, rfl⟩
  · exact ⟨_, rfl⟩
theorem tot_blocks : ∀ (d k : Nat) (x n i : Int), n - i = d → d < k → 0 ≤ i → n ≤ 100 → ∃ r, Plevel.store_Config_blocks.l0 k x n i = some r := by
  intro d
  induction d with
  | zero =>
    intro k x n i h1 h2 h3 h4
    obtain ⟨k, rfl⟩ : ∃ m, k = m + 1 := ⟨k - 1, by omega⟩
    simp only [Plevel.store_Config_blocks.l0]
    rw [if_neg (by omega)]
    exact ⟨_, rfl⟩
  | succ d ih =>
    intro k x n i h1 h2 h3 h4
    obtain ⟨k, rfl⟩ : ∃ m, k = m + 1 := ⟨k - 1, by omega⟩
    simp only [Plevel.store_Config_blocks.l0]
    rw [if_pos (by omega)]
    have e : wrap64 (i + 1) = i + 1 := by unfold wrap64; omega
    rw [e]
    exact ih k _ n (i + 1) (by omega) (by omega) (by omega) h4
theorem tot_level (b s t L : Int) (h : Lv) : ∃ x, Plevel.store_Config_level.f 10 b s t L h.1 = some (x, s, t) := by
  obtain ⟨h, h0, h1⟩ := h
  obtain ⟨r, hr⟩ := tot_blocks h.toNat 10 b h 0 (by omega) (by omega) (by omega) (by omega)
  unfold Plevel.store_Config_level.f Plevel.store_Config_blocks.f
  rw [hr]
  exact ⟨r, rfl⟩
/-- is a level of a store right? -/
def lvOk (b s t L : Int) (h : Int) : Bool := ((Plevel.store_Config_level.f 10 b s t L h).bind fun c => PSizes.level_Right.f c.1 c.2.1 c.2.2) == some true
def store_Right.f (b s t L : Int) : Option Bool := some (decide (1 ≤ L) && (decide (L ≤ 4) && (List.range L.toNat).all fun h => lvOk b s t L h))

set_option maxRecDepth 100000 in
set_option maxHeartbeats 2000000 in
theorem right_out (b s t L : Int) (h : L < 1 ∨ 4 < L) (w : World) : Calls Tryd.prog 25 #[.agg #[.int .i64 b, .int .i64 s, .int .i64 t, .int .i64 L]] w fun e w' => e = .returned (.bool false) ∧ Below w.heap.size w w' := by
  rcases h with h | h
  · have k1 : decide (L < 1) = true := decide_eq_true h
    clear h
    go_enter Tryd.func25, Tryd.ntmps25
    go_wp2
    refine bodyPost_ret (v := .bool false) ?_ rfl ⟨rfl, ((Below.refl _ w).alloc (Nat.le_refl _) _).alloc (by simp) _⟩
    simp [results, Tryd.f25, go_sem]
  · have k1 : decide (L < 1) = false := decide_eq_false (by omega)
    have k2 : decide (4 < L) = true := decide_eq_true h
    clear h
    go_enter Tryd.func25, Tryd.ntmps25
    go_wp2
    refine bodyPost_ret (v := .bool false) ?_ rfl ⟨rfl, ((Below.refl _ w).alloc (Nat.le_refl _) _).alloc (by simp) _⟩
    simp [results, Tryd.f25, go_sem]

theorem lt_of_cell {W : World} {g j : Nat} {v : Value} (h : W.cell? ⟨g, j, none⟩ = some v) : g < W.heap.size := by
  rcases Nat.lt_or_ge g W.heap.size with h' | h'
  · exact h'
  · simp [World.cell?, Array.getElem?_eq_none h'] at h
theorem ok_of {b s t L : Int} {h : Int} {c1 : Int} {r : Bool} (hc : Plevel.store_Config_level.f 10 b s t L h = some (c1, s, t)) (hr : PSizes.level_Right.f c1 s t = some r) : lvOk b s t L h = r := by
  unfold lvOk
  rw [hc, Option.bind_some, hr]
  cases r <;> rfl
theorem all_down {p : Int → Bool} {N : Nat} (hN : N ≤ 4) (h : ∀ y ∈ downto N N, p y.1 = true) : ((List.range N).all fun h => p h) = true := by
  rw [List.all_eq_true]
  intro j hj
  have hj' := List.mem_range.1 hj
  have := h (dn N (N - 1 - j)) (List.mem_map.2 ⟨N - 1 - j, List.mem_range.2 (by omega), rfl⟩)
  rw [dn_val N _ (by omega) hN] at this
  have e : (N : Int) - 1 - ((N - 1 - j : Nat) : Int) = j := by omega
  rwa [e] at this
theorem not_all_down {p : Int → Bool} {N k : Nat} (hN : N ≤ 4) (hk : k ≤ N) {y : Lv} (hy : y ∈ downto N k) (h : p y.1 = false) : ((List.range N).all fun h => p h) = false := by
  obtain ⟨j, hj, rfl⟩ := List.mem_map.1 hy
  have hj' := List.mem_range.1 hj
  rw [dn_val N j (by omega) hN] at h
  rw [List.all_eq_false]
  refine ⟨N - 1 - j, List.mem_range.2 (by omega), ?_⟩
  have e : ((N - 1 - j : Nat) : Int) = (N : Int) - 1 - j := by omega
  rw [e, h]
  simp

set_option maxRecDepth 100000 in
set_option maxHeartbeats 4000000 in
theorem right_in (b s t : Int) (N : Nat) (h1 : 1 ≤ N) (h4 : N ≤ 4) (w : World) : Calls Tryd.prog 25 #[.agg #[.int .i64 b, .int .i64 s, .int .i64 t, .int .i64 N]] w fun e w' => e = .returned (.bool ((List.range N).all fun h => lvOk b s t N h)) ∧ Below w.heap.size w w' := by
  refine (callsIn_wide (n := 3)).1 ?_
  have hro : Fence.wide.round = none := rfl
  refine callsIn_of_wp_marks Tryd.func25 rfl trivial ?_ hro
  simp only [Tryd.ntmps25, List.size_toArray, List.length_cons, List.length_nil, Nat.reduceAdd, Nat.reduceSub, Array.replicate_succ, Array.replicate_zero, List.push_toArray, List.append_toArray, List.nil_append, List.cons_append]
  have k1 : decide ((N : Int) < 1) = false := decide_eq_false (by omega)
  have k2 : decide (4 < (N : Int)) = false := decide_eq_false (by omega)
  have k1n : decide (N < 1) = false := decide_eq_false (by omega)
  have k2n : decide (4 < N) = false := decide_eq_false (by omega)
  gi_wp2_with (refine ⟨trivial, ?_⟩; gi_at_call 42; refine (down_in Fence.wide (3 - 1) trivial hro _ _ _ _ _).mono ?_; rintro e w' ⟨rfl, rfl⟩)
  have hB0 : Below w.heap.size w (((w.alloc (.cells #[.int .i64 b, .int .i64 s, .int .i64 t, .int .i64 (N : Int)] 33)).alloc (.cells #[.bool false] 4)).alloc (.cells #[.int .i64 b, .int .i64 s, .int .i64 t, .int .i64 (N : Int)] 33)) := (((Below.refl _ w).alloc (Nat.le_refl _) _).alloc (by simp) _).alloc (by simp; omega) _
  have d0 := World.cell?_alloc_new ((w.alloc (.cells #[.int .i64 b, .int .i64 s, .int .i64 t, .int .i64 (N : Int)] 33)).alloc (.cells #[.bool false] 4)) #[.int .i64 b, .int .i64 s, .int .i64 t, .int .i64 (N : Int)] 33 3
  have i0 : (((w.alloc (.cells #[.int .i64 b, .int .i64 s, .int .i64 t, .int .i64 (N : Int)] 33)).alloc (.cells #[.bool false] 4)).alloc (.cells #[.int .i64 b, .int .i64 s, .int .i64 t, .int .i64 (N : Int)] 33)).cell? ⟨w.heap.size, 0, none⟩ = some (.int .i64 b) := by simp [go_sem]
  have i1 : (((w.alloc (.cells #[.int .i64 b, .int .i64 s, .int .i64 t, .int .i64 (N : Int)] 33)).alloc (.cells #[.bool false] 4)).alloc (.cells #[.int .i64 b, .int .i64 s, .int .i64 t, .int .i64 (N : Int)] 33)).cell? ⟨w.heap.size, 1, none⟩ = some (.int .i64 s) := by simp [go_sem]
  have i2 : (((w.alloc (.cells #[.int .i64 b, .int .i64 s, .int .i64 t, .int .i64 (N : Int)] 33)).alloc (.cells #[.bool false] 4)).alloc (.cells #[.int .i64 b, .int .i64 s, .int .i64 t, .int .i64 (N : Int)] 33)).cell? ⟨w.heap.size, 2, none⟩ = some (.int .i64 t) := by simp [go_sem]
  have i3 : (((w.alloc (.cells #[.int .i64 b, .int .i64 s, .int .i64 t, .int .i64 (N : Int)] 33)).alloc (.cells #[.bool false] 4)).alloc (.cells #[.int .i64 b, .int .i64 s, .int .i64 t, .int .i64 (N : Int)] 33)).cell? ⟨w.heap.size, 3, none⟩ = some (.int .i64 (N : Int)) := by simp [go_sem]
  have i4 : (((w.alloc (.cells #[.int .i64 b, .int .i64 s, .int .i64 t, .int .i64 (N : Int)] 33)).alloc (.cells #[.bool false] 4)).alloc (.cells #[.int .i64 b, .int .i64 s, .int .i64 t, .int .i64 (N : Int)] 33)).cell? ⟨w.heap.size + 1, 0, none⟩ = some (.bool false) := by simp [go_sem]
  have i5 : (((w.alloc (.cells #[.int .i64 b, .int .i64 s, .int .i64 t, .int .i64 (N : Int)] 33)).alloc (.cells #[.bool false] 4)).alloc (.cells #[.int .i64 b, .int .i64 s, .int .i64 t, .int .i64 (N : Int)] 33)).frozen? ⟨w.heap.size + 1, 0, none⟩ = false := by simp [go_sem]
  refine wpIn_rangeFunc_ownF (α := Lv) hro (by decide) (gf := 60) (lb := #[.pointer (some ⟨w.heap.size + 1 + 1, 0, none⟩)]) rfl trivial (enters_of Tryd.func60 (by kernel_rfl) rfl)
    (down_stops Fence.wide (3 - 1) trivial hro (by decide) (w.heap.size + 1 + 1) w.heap.size N h4 _ (by simp) (by simpa using d0)) belowK_t (belowK_b (by simp; omega)) (Below.refl _ _) (fun _ => rfl)
    (fun pre W => ((∀ y ∈ pre, lvOk b s t N y.1 = true) ∧ W.cell? ⟨w.heap.size, 0, none⟩ = some (.int .i64 b) ∧ W.cell? ⟨w.heap.size, 1, none⟩ = some (.int .i64 s) ∧ W.cell? ⟨w.heap.size, 2, none⟩ = some (.int .i64 t) ∧ W.cell? ⟨w.heap.size, 3, none⟩ = some (.int .i64 (N : Int)) ∧ W.cell? ⟨w.heap.size + 1, 0, none⟩ = some (.bool false) ∧ W.frozen? ⟨w.heap.size + 1, 0, none⟩ = false) ∧ Below w.heap.size w W)
    (fun c pre W => (c = .ret ∧ (∃ y ∈ pre, lvOk b s t N y.1 = false) ∧ W.cell? ⟨w.heap.size + 1, 0, none⟩ = some (.bool false)) ∧ Below w.heap.size w W)
    (OwnFrom.and (Own.from (fun s A B row hs hg hr => ⟨hs.1, cell_kept hs.2.1 hg hr, cell_kept hs.2.2.1 hg hr, cell_kept hs.2.2.2.1 hg hr, cell_kept hs.2.2.2.2.1 hg hr, cell_kept hs.2.2.2.2.2.1 hg hr, (frozen_kept hs.2.2.2.2.2.1 hg hr).trans hs.2.2.2.2.2.2⟩) _) (ownFrom_below (Nat.le_refl _) (by simp; omega)))
    (fun c => OwnFrom.and (Own.from (fun s A B row hs hg hr => ⟨hs.1, hs.2.1, cell_kept hs.2.2 hg hr⟩) _) (ownFrom_below (Nat.le_refl _) (by simp; omega)))
    ⟨⟨fun y hy => by simp at hy, i0, i1, i2, i3, i4, i5⟩, hB0⟩
    (fun x => { tmps := #[.agg #[.int .i64 b, .int .i64 s, .int .i64 t, .int .i64 (N : Int)], .pointer (some ⟨w.heap.size, 0, none⟩), .pointer (some ⟨w.heap.size + 1, 0, none⟩), .int .i64 x.1, .pointer (some ⟨w.heap.size, 3, none⟩), .int .i64 (N : Int), .bool false, .bool false, .pointer (some ⟨w.heap.size, 3, none⟩), .int .i64 (N : Int), .bool false, .bool false, .agg #[.int .i64 b, .int .i64 s, .int .i64 t, .int .i64 (N : Int)], .func (.func 60) #[] #[.pointer (some ⟨w.heap.size + 1 + 1, 0, none⟩)], .int .i64 x.1, undef, undef, undef, undef, undef], defers := [] }) ?assign ?body ?done ?stop
  case assign =>
    intro l x W K hK
    gi_wp2
    exact hK
  case body =>
    rintro l pre x W ⟨⟨hp, q0, q1, q2, q3, hcr, hfr⟩, hB⟩ _
    obtain ⟨c1, hc1⟩ := tot_level b s t N x
    obtain ⟨r, hr⟩ := tot_right c1 s t
    have hok := ok_of hc1 hr
    have hl0 := lt_of_cell q0
    have hl1 := lt_of_cell hcr
    have L1 := Lib.hid (fun W => Plevel.store_Config_level.calls 10 b s t N x.1 c1 s t W hc1)
    have L2 := Lib.hid (fun W => PSizes.level_Right.calls c1 s t r W hr)
    have HP := Lib.hid hp
    have HO := Lib.hid hok
    have HB := Lib.hid hB
    clear hc1 hr hp hok hB hB0 d0
    cases r
    all_goals
      gi_wp2_with (refine ⟨trivial, ?_⟩; gi_at_call 44; refine (CallsIn.inRound l (callsIn_wide.2 (L1.out _))).mono ?_)
      rintro e W1 ⟨rfl, hb1⟩
      have B1 := Lib.hid hb1
      clear hb1
      gi_wp2_with (refine ⟨trivial, ?_⟩; gi_at_call 43; refine (CallsIn.inRound l (callsIn_wide.2 (L2.out _))).mono ?_)
      rintro e W2 ⟨rfl, hb2⟩
      have B2 := Lib.hid (B1.out.trans (hb2.mono B1.out.size))
      clear hb2 B1
      have p0 := (B2.out.cell (p := ⟨w.heap.size, 0, none⟩) hl0).trans q0
      have p1 := (B2.out.cell (p := ⟨w.heap.size, 1, none⟩) hl0).trans q1
      have p2 := (B2.out.cell (p := ⟨w.heap.size, 2, none⟩) hl0).trans q2
      have p3 := (B2.out.cell (p := ⟨w.heap.size, 3, none⟩) hl0).trans q3
      have p4 := (B2.out.cell (p := ⟨w.heap.size + 1, 0, none⟩) hl1).trans hcr
      have p5 := (B2.out.frozen (p := ⟨w.heap.size + 1, 0, none⟩) hl1).trans hfr
      clear q0 q1 q2 q3 hcr hfr
      gi_wp2
    · exact ⟨(keeps_below B2.out).trans (KeepsOthers.setCell _ _ _), ⟨rfl, ⟨x, by simp, HO.out⟩, World.cell?_setCell_same' _ _ _ (by rw [p4]; rfl)⟩, (HB.out.trans (B2.out.mono HB.out.size)).setCell (p := ⟨w.heap.size + 1, 0, none⟩) (by simp) _⟩
    · exact ⟨keeps_below B2.out, B2.out.mono HB.out.size, ⟨fun y hy => (List.mem_append.1 hy).elim (HP.out y) (fun e => by simp at e; subst e; exact HO.out), p0, p1, p2, p3, p4, p5⟩, HB.out.trans (B2.out.mono HB.out.size)⟩
  case done =>
    rintro D ys W hD rfl ⟨⟨hne, _, _, _, _, hcr, hfr⟩, hB⟩ hK
    have HN := Lib.hid (all_down h4 hne)
    clear hne
    gi_wp2
    have hK' := (KeepsOthers.setCell W ⟨w.heap.size + 1, 0, none⟩ (.bool true)).same D _ hK rfl
    refine ⟨by simp, .inl ⟨_, _, rfl, run_takeDeferred hK', ?_⟩⟩
    have hc5 := cell_kept (World.cell?_setCell_same' W ⟨w.heap.size + 1, 0, none⟩ (.bool true) (by rw [hcr]; rfl)) (grownBy_putObj' _ D (.deferred none)) (fun r e => by cases e; exact ⟨_, hK', rfl⟩)
    refine ⟨.bool true, ?_, by rw [HN.out], (hB.setCell (p := ⟨w.heap.size + 1, 0, none⟩) (by simp) _).trans (belowK_b (w := w) (Nat.le_refl _) _ D _ _ (by simp at hD; omega) hK' rfl rfl)⟩
    simp [results, Tryd.f25, go_sem, hc5]
  case stop =>
    rintro D c pre W hD ⟨k, hk, rfl⟩ ⟨⟨rfl, ⟨y, hy, hn⟩, hcr⟩, hB⟩ hK
    have HN := Lib.hid (not_all_down h4 hk hy hn)
    gi_wp2
    refine ⟨by simp, .inl ⟨_, _, rfl, run_takeDeferred hK, ?_⟩⟩
    have hc5 := cell_kept hcr (grownBy_putObj' _ D (.deferred none)) (fun r e => by cases e; exact ⟨_, hK, rfl⟩)
    refine ⟨.bool false, ?_, by rw [HN.out], hB.trans (belowK_b (w := w) (Nat.le_refl _) W D _ _ (by simp at hD; omega) hK rfl rfl)⟩
    simp [results, Tryd.f25, go_sem, hc5]
theorem store_Right.calls (b s t L : Int) (r : Bool) (w : World) (h : store_Right.f b s t L = some r) : Calls Tryd.prog 25 #[.agg #[.int .i64 b, .int .i64 s, .int .i64 t, .int .i64 L]] w fun e w' => e = .returned (.bool r) ∧ Below w.heap.size w w' := by
  obtain rfl := Option.some.inj h
  by_cases h1 : L < 1
  · rw [decide_eq_false (by omega), Bool.false_and]; exact right_out b s t L (.inl h1) w
  · by_cases h4 : 4 < L
    · rw [decide_eq_true (by omega), decide_eq_false (by omega), Bool.false_and, Bool.and_false]; exact right_out b s t L (.inr h4) w
    · obtain ⟨N, rfl⟩ := Int.eq_ofNat_of_zero_le (show 0 ≤ L by omega)
      rw [decide_eq_true (by omega), decide_eq_true (by omega), Bool.true_and, Bool.true_and, Int.toNat_natCast]
      exact right_in b s t N (by omega) (by omega) w
end Go.Proofs.YtpaafeaolodkjaaDoor.Hand
