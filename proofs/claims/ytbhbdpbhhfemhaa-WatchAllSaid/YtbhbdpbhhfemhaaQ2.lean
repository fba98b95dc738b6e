/-
  Parts of the proof, joined in one file: InsL, Rww, CloC, Tree2C, Tree3C, Rng, IterC, Iter2C, Chain, Chain2.
-/
import Derived.Test.YtbhbdpbhhfemhaaQ1
import Derived.Lib.Overlaps
import Derived.RangeFuncRecord
import Derived.Scope
set_option linter.unusedSimpArgs false
set_option linter.unusedVariables false
/-
  slices.Insert, Delete, Clone at one type of elements: contracts over rows of cells.
-/
namespace Go.Proofs.Ytbhbdpbhhfemhaa.IL
open Go Go.Proofs
set_option maxRecDepth 100000
set_option maxHeartbeats 4000000
set_option linter.unusedVariables false

abbrev TT : TypeId := 78
abbrev TE : TypeId := 114
theorem K : ElemOk Try.prog TT TE 1 24 (.slice none 0 0) := ⟨Try.underlying78, ⟨Try.t114, Try.type114, rfl, rfl, rfl⟩, rfl⟩

theorem call_overlaps (w : World) {b1 o1 n1 c1 b2 o2 n2 c2 : Nat} {A B : List Value} {tA tB : TypeId} (hne : b1 ≠ b2) (hA : w.heap[b1]? = some (.cells A.toArray tA (0, 0))) (hB : w.heap[b2]? = some (.cells B.toArray tB (0, 0))) (hl : B.length ≠ 0) :
    (callFunc 92 #[.slice (some ⟨b1, o1, none⟩) n1 c1, .slice (some ⟨b2, o2, none⟩) n2 c2]).run Try.prog w = .ok (.value (.bool false)) w := by
  rw [run_callFunc_extern Try.func92 (by kernel_rfl) (by kernel_rfl) (by kernel_rfl) (e := Extern.SlicesOverlaps.overlaps #[TT, TT] #[4]) (by kernel_rfl),
    Lib.run_overlaps_apart w TT _ TE Try.underlying78 1 Try.sizeOf114 ⟨b1, o1, none⟩ ⟨b2, o2, none⟩ n1 c1 n2 c2 hne tA tB A.length B.length (by simp [World.shape?, hA]) (by simp [World.shape?, hB]) hl (by simp [World.frozen?, hA]) (by simp [World.frozen?, hA])]
  rfl

theorem Insert_spec {w : World} {r : List HP} {b n c i bv k : Nat} {A B tl V : List Value} (H : Sat w (pt b (.cells (A ++ B ++ tl).toArray TE (0, 0)) :: pt bv (.cells V.toArray TE (0, 0)) :: r))
    (hn : n = i + k) (hA : A.length = i * 1) (hB : B.length = k * 1) (hV : V.length = 1) (hc : n * 1 + tl.length = c * 1) (hle : n ≤ 2000000)
    (oA : ∀ u ∈ A, u.oneCell' = true) (oB : ∀ u ∈ B, u.oneCell' = true) (oV : ∀ u ∈ V, u.oneCell' = true) :
    Calls Try.prog 66 #[.slice (some ⟨b, 0, none⟩) n c, .int .i64 i, .slice (some ⟨bv, 0, none⟩) 1 1] w (Ret fun v w' => ∃ b' c' tl', v = .slice (some ⟨b', 0, none⟩) (n + 1) c' ∧ n + 1 ≤ c' ∧ (n + 1) * 1 + tl'.length = c' * 1 ∧
      Sat w' (pt b' (.cells (A ++ V ++ B ++ tl').toArray TE (0, 0)) :: r)) := by
  have hnc : n ≤ c := by omega
  refine Calls.of_wp Try.func66 rfl Try.ntmps66 Try.results66 (Nat.le_of_ble_eq_true rfl) ?_
  refine WP.seq ?_
  refine WP.region ?_
  refine OpsE.val (x_assign (v := .slice _ _ _) rfl) ?_
  refine OpsE.nil ?_
  refine Then.normal ?_
  refine WP.seq ?_
  refine WP.region ?_
  refine OpsE.val (x_move (v := .slice _ _ _) rfl) ?_
  refine OpsE.val (x_move (v := .int .i64 _) rfl) ?_
  refine OpsE.val (x_slLo (l := i) (off' := (if c = i then 0 else 0 + i * 1)) rfl rfl Try.runUnderlying78 Try.sizeOf114 rfl (by omega) rfl) ?_
  refine OpsE.nil ?_
  refine Then.normal ?_
  refine WP.seq ?_
  refine WP.region ?_
  refine OpsE.val (x_move (v := .slice _ _ _) rfl) ?_
  refine OpsE.val (x_lenL rfl rfl Try.runUnderlying78) ?_
  refine OpsE.val (x_assign (v := .int .i64 _) rfl) ?_
  refine OpsE.nil ?_
  refine Then.normal ?_
  refine WP.seq ?_
  refine WP.seq ?_
  refine WP.region ?_
  refine OpsE.val (x_move (v := .int .i64 _) rfl) ?_
  refine OpsE.val (x_eqI rfl rfl) ?_
  rw [decide_eq_false (by decide)]
  refine OpsE.nil ?_
  refine Then.normal ?_
  refine WP.cond_f rfl rfl ?_
  refine WP.skip ?_
  refine Then.normal ?_
  refine WP.seq ?_
  refine WP.region ?_
  refine OpsE.val (x_move (v := .slice _ _ _) rfl) ?_
  refine OpsE.val (x_lenL rfl rfl Try.runUnderlying78) ?_
  refine OpsE.val (x_assign (v := .int .i64 _) rfl) ?_
  refine OpsE.nil ?_
  refine Then.normal ?_
  refine WP.seq ?_
  refine WP.seq ?_
  refine WP.region ?_
  refine OpsE.val (x_move (v := .int .i64 _) rfl) ?_
  refine OpsE.val (x_move (v := .int .i64 _) rfl) ?_
  refine OpsE.val (x_eqI rfl rfl) ?_
  by_cases hin : (i : Int) = (n : Int)
  · rw [decide_eq_true hin]
    refine OpsE.nil ?_
    refine Then.normal ?_
    refine WP.cond_t rfl rfl ?_
    refine WP.seq ?_
    refine WP.region ?_
    refine OpsE.val (x_move (v := .slice _ _ _) rfl) ?_
    refine OpsE.val (x_move (v := .slice _ _ _) rfl) ?_
    have hk0 : k = 0 := by omega
    subst hk0
    have hB0 : B = [] := List.length_eq_zero_iff.1 (by omega)
    subst hB0
    rw [List.append_nil] at H
    refine OpsE.append_own (olds := A) (tl := tl) (news := V) rfl K rfl rfl H (by omega) (by omega) (H.look bv) (by rw [List.drop_zero, List.take_of_length_le (Nat.le_refl _)]) (by omega) oV (by omega) (by omega) ?_
    intro b' c' tl' w h1 h2 H
    refine OpsE.val (x_assign (v := .slice _ _ _) rfl) ?_
    refine OpsE.nil ?_
    refine Then.normal ?_
    refine WP.ret ?_
    refine Then.ret ?_
    refine Leave0.ret (v := .slice _ _ _) rfl ?_
    exact ⟨b', c', tl', rfl, h1, h2, by simpa using H.second⟩
  · rw [decide_eq_false hin]
    refine OpsE.nil ?_
    refine Then.normal ?_
    refine WP.cond_f rfl rfl ?_
    refine WP.skip ?_
    refine Then.normal ?_
    refine WP.seq ?_
    refine WP.seq ?_
    refine WP.region ?_
    refine OpsE.val (x_move (v := .int .i64 _) rfl) ?_
    refine OpsE.val (x_move (v := .int .i64 _) rfl) ?_
    refine OpsE.val (x_add (z := ((n + 1 : Nat) : Int)) rfl rfl (by rw [i64n (by omega) (by omega)]; omega)) ?_
    refine OpsE.val (x_move (v := .slice _ _ _) rfl) ?_
    refine OpsE.val (x_cap rfl rfl Try.runUnderlying78) ?_
    refine OpsE.val (x_gt rfl rfl) ?_
    by_cases hg : ((n + 1 : Nat) : Int) > (c : Int)
    · rw [decide_eq_true hg]
      refine OpsE.nil ?_
      refine Then.normal ?_
      refine WP.cond_t rfl rfl ?_
      refine WP.seq ?_
      refine WP.region ?_
      refine OpsE.val (x_move (v := .slice _ _ _) rfl) ?_
      refine OpsE.val (x_move (v := .int .i64 _) rfl) ?_
      refine OpsE.val (x_slHi (h := i) rfl rfl Try.runUnderlying78 Try.sizeOf114 rfl (by omega)) ?_
      refine OpsE.val (x_move (v := .int .i64 _) rfl) ?_
      refine OpsE.val (x_move (v := .int .i64 _) rfl) ?_
      refine OpsE.val (x_add (z := ((n + 1 : Nat) : Int)) rfl rfl (by rw [i64n (by omega) (by omega)]; omega)) ?_
      refine OpsE.val (x_move (v := .int .i64 _) rfl) ?_
      refine OpsE.val (x_sub (z := ((k + 1 : Nat) : Int)) rfl rfl (by rw [i64n (by omega) (by omega)]; omega)) ?_
      refine OpsE.append_make (m := k + 1) (olds := A) rfl K Try.underlying3 rfl rfl rfl H (.inr ⟨b, 0, _, _, _, rfl, H.look b, by simp [List.append_assoc], hA⟩) (by omega) (by omega) (by omega) (by omega) (by omega) ?_
      intro b' c' tl' w h1 h2 H
      refine OpsE.val (x_assign (v := .slice _ _ _) rfl) ?_
      refine OpsE.nil ?_
      refine Then.normal ?_
      refine WP.seq ?_
      refine WP.region ?_
      refine OpsE.val (x_move (v := .slice _ _ _) rfl) ?_
      refine OpsE.val (x_move (v := .int .i64 _) rfl) ?_
      refine OpsE.val (x_slLo (l := i) (off' := i * 1) rfl rfl Try.runUnderlying78 Try.sizeOf114 rfl (by omega) (by rw [if_neg (by omega), Nat.zero_add])) ?_
      refine OpsE.val (x_move (v := .slice _ _ _) rfl) ?_
      refine OpsE.copy (m := 1) (news := V) rfl K rfl rfl H (H.look bv) (by omega) (by rw [List.drop_zero, List.take_of_length_le (Nat.le_refl _)]) (by omega) oV (by simp only [List.length_append]; omega) ?_
      intro w H
      have e1 : (A ++ tl').take (i * 1) = A := by rw [← hA]; simp
      have e2 : (A ++ tl').drop (i * 1 + V.length) = tl'.drop V.length := by rw [← hA]; simp
      rw [e1, e2] at H
      refine OpsE.nil ?_
      refine Then.normal ?_
      refine WP.seq ?_
      refine WP.mix (kdOf [0, 0, 0, 0, 0, 0, 0, 0]) (fun w => Sat w _) (by kernel_rfl) (by kernel_rfl) (fun w hw => Sat.heap (H) hw) ?_
      intro w hw; replace H := H.heap hw; clear hw
      refine MixE.q rfl (fun w H => x_move (v := .slice _ _ _) rfl) ?_
      refine MixE.q rfl (fun w H => x_move (v := .int .i64 _) rfl) ?_
      refine MixE.q rfl (fun w H => x_move (v := .int .i64 _) rfl) ?_
      refine MixE.q rfl (fun w H => x_add (z := ((i + 1 : Nat) : Int)) rfl rfl (by rw [i64n (by omega) (by omega)]; omega)) ?_
      refine MixE.q rfl (fun w H => x_slLo (l := i + 1) (off' := (i + 1) * 1) rfl rfl Try.runUnderlying78 Try.sizeOf114 rfl (by omega) (by rw [if_neg (by omega), Nat.zero_add])) ?_
      refine MixE.q rfl (fun w H => x_move (v := .slice _ _ _) rfl) ?_
      refine MixE.q rfl (fun w H => x_move (v := .int .i64 _) rfl) ?_
      refine MixE.q rfl (fun w H => x_slLo (l := i) (off' := i * 1) rfl rfl Try.runUnderlying78 Try.sizeOf114 rfl (by omega) (by rw [if_neg (by omega), Nat.zero_add])) ?_
      refine MixE.two _ (fun k _ => kdOf_ge (Nat.le_add_right _ _)) ?_
      refine OpsE.copy (m := k) (news := B) rfl K rfl rfl H (H.look b) (by omega) (by rw [← hA]; simp [List.append_assoc]) hB oB (by simp only [List.length_append, List.length_drop]; omega) ?_
      intro w H
      have e1 : (A ++ V ++ tl'.drop V.length).take ((i + 1) * 1) = A ++ V := by rw [List.take_append_of_le_length (by simp only [List.length_append]; omega), List.take_of_length_le (by simp only [List.length_append]; omega)]
      rw [e1] at H
      obtain ⟨tl2, htl2⟩ : ∃ tl2, (A ++ V ++ tl'.drop V.length).drop ((i + 1) * 1 + B.length) = tl2 := ⟨_, rfl⟩
      have hl2 : (n + 1) * 1 + tl2.length = c' * 1 := by rw [← htl2]; simp only [List.length_append, List.length_drop]; omega
      rw [htl2] at H
      refine OpsE.nil ?_
      refine Then.normal ?_
      refine WP.seq ?_
      refine WP.region ?_
      refine OpsE.val (x_move (v := .slice _ _ _) rfl) ?_
      refine OpsE.val (x_assign (v := .slice _ _ _) rfl) ?_
      refine OpsE.nil ?_
      refine Then.normal ?_
      refine WP.ret ?_
      refine Then.ret ?_
      refine Leave0.ret (v := .slice _ _ _) rfl ?_
      exact ⟨b', c', tl2, (by rw [hn]; rfl), by omega, hl2, H.second.second⟩
    · rw [decide_eq_false hg]
      refine OpsE.nil ?_
      refine Then.normal ?_
      refine WP.cond_f rfl rfl ?_
      refine WP.skip ?_
      refine Then.normal ?_
      refine WP.seq ?_
      refine WP.region ?_
      refine OpsE.val (x_move (v := .slice _ _ _) rfl) ?_
      refine OpsE.val (x_move (v := .int .i64 _) rfl) ?_
      refine OpsE.val (x_move (v := .int .i64 _) rfl) ?_
      refine OpsE.val (x_add (z := ((n + 1 : Nat) : Int)) rfl rfl (by rw [i64n (by omega) (by omega)]; omega)) ?_
      refine OpsE.val (x_slHi (h := n + 1) rfl rfl Try.runUnderlying78 Try.sizeOf114 rfl (by omega)) ?_
      refine OpsE.val (x_assign (v := .slice _ _ _) rfl) ?_
      refine OpsE.nil ?_
      refine Then.normal ?_
      refine WP.seq ?_
      refine WP.seq ?_
      refine WP.region ?_
      refine OpsE.val (x_move (v := .slice _ _ _) rfl) ?_
      refine OpsE.val (x_move (v := .slice _ _ _) rfl) ?_
      refine OpsE.val (x_move (v := .int .i64 _) rfl) ?_
      refine OpsE.val (x_move (v := .int .i64 _) rfl) ?_
      refine OpsE.val (x_add (z := ((i + 1 : Nat) : Int)) rfl rfl (by rw [i64n (by omega) (by omega)]; omega)) ?_
      refine OpsE.val (x_slLo (l := i + 1) (off' := (i + 1) * 1) rfl rfl Try.runUnderlying78 Try.sizeOf114 rfl (by omega) (by rw [if_neg (by omega), Nat.zero_add])) ?_
      have hne : bv ≠ b := H.ne.symm
      have ho := call_overlaps w (o1 := 0) (n1 := 1) (c1 := 1) (o2 := (i + 1) * 1) (n2 := n + 1 - (i + 1)) (c2 := c - (i + 1)) hne (H.look bv) (H.look b) (by simp only [List.length_append]; omega)
      refine OpsE.val (x_callX (vl := [.slice (some ⟨bv, 0, none⟩) 1 1, .slice (some ⟨b, (i + 1) * 1, none⟩) (n + 1 - (i + 1)) (c - (i + 1))]) rfl ho) ?_
      refine OpsE.val (x_not rfl) ?_
      rw [Bool.not_false]
      refine OpsE.nil ?_
      refine Then.normal ?_
      refine WP.cond_t rfl rfl ?_
      refine WP.seq ?_
      refine WP.mix (kdOf [0, 0, 0, 0, 0, 0, 0, 0]) (fun w => Sat w _) (by kernel_rfl) (by kernel_rfl) (fun w hw => Sat.heap (H) hw) ?_
      intro w hw; replace H := H.heap hw; clear hw
      refine MixE.q rfl (fun w H => x_move (v := .slice _ _ _) rfl) ?_
      refine MixE.q rfl (fun w H => x_move (v := .int .i64 _) rfl) ?_
      refine MixE.q rfl (fun w H => x_move (v := .int .i64 _) rfl) ?_
      refine MixE.q rfl (fun w H => x_add (z := ((i + 1 : Nat) : Int)) rfl rfl (by rw [i64n (by omega) (by omega)]; omega)) ?_
      refine MixE.q rfl (fun w H => x_slLo (l := i + 1) (off' := (i + 1) * 1) rfl rfl Try.runUnderlying78 Try.sizeOf114 rfl (by omega) (by rw [if_neg (by omega), Nat.zero_add])) ?_
      refine MixE.q rfl (fun w H => x_move (v := .slice _ _ _) rfl) ?_
      refine MixE.q rfl (fun w H => x_move (v := .int .i64 _) rfl) ?_
      refine MixE.q rfl (fun w H => x_slLo (l := i) (off' := i * 1) rfl rfl Try.runUnderlying78 Try.sizeOf114 rfl (by omega) (by rw [if_neg (by omega), Nat.zero_add])) ?_
      refine MixE.two _ (fun k _ => kdOf_ge (Nat.le_add_right _ _)) ?_
      refine OpsE.copy (m := k) (news := B) rfl K rfl rfl H (H.look b) (by omega) (by rw [← hA]; simp [List.append_assoc]) hB oB (by simp only [List.length_append]; omega) ?_
      intro w H
      obtain ⟨M, hM⟩ : ∃ M, (A ++ B ++ tl).take ((i + 1) * 1) = A ++ M := ⟨(B ++ tl).take 1, by rw [List.append_assoc, List.take_append, hA, List.take_of_length_le (by omega)]; congr 2; omega⟩
      have hMl : M.length = 1 := by have := congrArg List.length hM; simp only [List.length_append, List.length_take] at this; omega
      obtain ⟨tl2, htl2⟩ : ∃ tl2, (A ++ B ++ tl).drop ((i + 1) * 1 + B.length) = tl2 := ⟨_, rfl⟩
      have hl2 : (n + 1) * 1 + tl2.length = c * 1 := by rw [← htl2]; simp only [List.length_append, List.length_drop]; omega
      rw [hM, htl2] at H
      refine OpsE.nil ?_
      refine Then.normal ?_
      refine WP.seq ?_
      refine WP.region ?_
      refine OpsE.val (x_move (v := .slice _ _ _) rfl) ?_
      refine OpsE.val (x_move (v := .int .i64 _) rfl) ?_
      refine OpsE.val (x_slLo (l := i) (off' := i * 1) rfl rfl Try.runUnderlying78 Try.sizeOf114 rfl (by omega) (by rw [if_neg (by omega), Nat.zero_add])) ?_
      refine OpsE.val (x_move (v := .slice _ _ _) rfl) ?_
      refine OpsE.copy (m := 1) (news := V) rfl K rfl rfl H (H.look bv) (by omega) (by rw [List.drop_zero, List.take_of_length_le (Nat.le_refl _)]) (by omega) oV (by simp only [List.length_append]; omega) ?_
      intro w H
      have e1 : (A ++ M ++ B ++ tl2).take (i * 1) = A := by rw [← hA]; simp [List.append_assoc]
      have e2 : (A ++ M ++ B ++ tl2).drop (i * 1 + V.length) = B ++ tl2 := by rw [hV, ← hA, ← hMl]; simp [List.append_assoc, ← List.drop_drop]
      rw [e1, e2, ← List.append_assoc] at H
      refine OpsE.nil ?_
      refine Then.normal ?_
      refine WP.seq ?_
      refine WP.region ?_
      refine OpsE.val (x_move (v := .slice _ _ _) rfl) ?_
      refine OpsE.val (x_assign (v := .slice _ _ _) rfl) ?_
      refine OpsE.nil ?_
      refine Then.normal ?_
      refine WP.ret ?_
      refine Then.ret ?_
      refine Leave0.ret (v := .slice _ _ _) rfl ?_
      exact ⟨b, c, tl2, rfl, by omega, hl2, H.second⟩

theorem Delete_spec {w : World} {r : List HP} {b n c i k : Nat} {A B C tl : List Value} (H : Sat w (pt b (.cells (A ++ B ++ C ++ tl).toArray TE (0, 0)) :: r))
    (hn : n = i + 1 + k) (hA : A.length = i * 1) (hB : B.length = 1) (hC : C.length = k * 1) (hc : n * 1 + tl.length = c * 1) (hle : n ≤ 2000000)
    (oC : ∀ u ∈ C, u.oneCell' = true) :
    Calls Try.prog 70 #[.slice (some ⟨b, 0, none⟩) n c, .int .i64 i, .int .i64 ((i + 1 : Nat) : Int)] w (Ret fun v w' => ∃ tl', v = .slice (some ⟨b, 0, none⟩) (i + k) c ∧ (i + k) * 1 + tl'.length = c * 1 ∧
      Sat w' (pt b (.cells (A ++ C ++ tl').toArray TE (0, 0)) :: r)) := by
  have hnc : n ≤ c := by omega
  have hk : n - (i + 1) = k := by omega
  refine Calls.of_wp Try.func70 rfl Try.ntmps70 Try.results70 (Nat.le_of_ble_eq_true rfl) ?_
  refine WP.seq ?_
  refine WP.region ?_
  refine OpsE.val (x_assign (v := .slice _ _ _) rfl) ?_
  refine OpsE.nil ?_
  refine Then.normal ?_
  refine WP.seq ?_
  refine WP.region ?_
  refine OpsE.val (x_move (v := .slice _ _ _) rfl) ?_
  refine OpsE.val (x_move (v := .int .i64 _) rfl) ?_
  refine OpsE.val (x_move (v := .int .i64 _) rfl) ?_
  refine OpsE.val (x_move (v := .slice _ _ _) rfl) ?_
  refine OpsE.val (x_lenL rfl rfl Try.runUnderlying78) ?_
  refine OpsE.val (x_slLHM (l := i) (h := i + 1) (m := n) (off' := 0 + i * 1) rfl rfl rfl rfl Try.runUnderlying78 Try.sizeOf114 rfl rfl rfl (by omega) (by omega) (by omega) (if_neg (by omega))) ?_
  refine OpsE.nil ?_
  refine Then.normal ?_
  refine WP.seq ?_
  refine WP.seq ?_
  refine WP.region ?_
  refine OpsE.val (x_move (v := .int .i64 _) rfl) ?_
  refine OpsE.val (x_move (v := .int .i64 _) rfl) ?_
  refine OpsE.val (x_eqI rfl rfl) ?_
  rw [decide_eq_false (by omega)]
  refine OpsE.nil ?_
  refine Then.normal ?_
  refine WP.cond_f rfl rfl ?_
  refine WP.skip ?_
  refine Then.normal ?_
  refine WP.seq ?_
  refine WP.region ?_
  refine OpsE.val (x_move (v := .slice _ _ _) rfl) ?_
  refine OpsE.val (x_lenL rfl rfl Try.runUnderlying78) ?_
  refine OpsE.val (x_assign (v := .int .i64 _) rfl) ?_
  refine OpsE.nil ?_
  refine Then.normal ?_
  refine WP.seq ?_
  refine WP.mix (kdOf [0, 0, 0, 0, 0, 0]) (fun w => Sat w _) (by kernel_rfl) (by kernel_rfl) (fun w hw => Sat.heap (H) hw) ?_
  intro w hw; replace H := H.heap hw; clear hw
  refine MixE.q rfl (fun w H => x_move (v := .slice _ _ _) rfl) ?_
  refine MixE.q rfl (fun w H => x_move (v := .int .i64 _) rfl) ?_
  refine MixE.q rfl (fun w H => x_slHi (h := i) rfl rfl Try.runUnderlying78 Try.sizeOf114 rfl (by omega)) ?_
  refine MixE.q rfl (fun w H => x_move (v := .slice _ _ _) rfl) ?_
  refine MixE.q rfl (fun w H => x_move (v := .int .i64 _) rfl) ?_
  refine MixE.q rfl (fun w H => x_slLo (l := i + 1) (off' := (if c = i + 1 then 0 else 0 + (i + 1) * 1)) rfl rfl Try.runUnderlying78 Try.sizeOf114 rfl (by omega) rfl) ?_
  refine MixE.two _ (fun k _ => kdOf_ge (Nat.le_add_right _ _)) ?_
  rw [hk]
  have h2 : ((A ++ B ++ C ++ tl).toArray.toList.drop (if c = i + 1 then 0 else 0 + (i + 1) * 1)).take C.length = C := by
    by_cases h0 : c = i + 1
    · have : C = [] := List.length_eq_zero_iff.1 (by omega)
      subst this; rfl
    · rw [if_neg h0, show 0 + (i + 1) * 1 = (A ++ B).length by simp only [List.length_append]; omega, List.append_assoc (A ++ B)]; simp
  refine OpsE.append_room (n := i) (ns := k) (news := C) rfl K rfl rfl H (H.look b) h2 hC oC (by omega) (by simp only [List.length_append]; omega) ?_
  intro w H
  have e1 : (A ++ B ++ C ++ tl).take (i * 1) = A := by rw [← hA]; simp [List.append_assoc]
  obtain ⟨D, hD⟩ : ∃ D, (A ++ B ++ C ++ tl).drop ((i + k) * 1) = D := ⟨_, rfl⟩
  have hDl : (i + k) * 1 + D.length = c * 1 := by rw [← hD]; simp only [List.length_append, List.length_drop]; omega
  rw [e1, hD] at H
  refine OpsE.val (x_assign (v := .slice _ _ _) rfl) ?_
  refine OpsE.nil ?_
  refine Then.normal ?_
  refine WP.seq ?_
  refine WP.region ?_
  refine OpsE.val (x_move (v := .slice _ _ _) rfl) ?_
  refine OpsE.val (x_move (v := .slice _ _ _) rfl) ?_
  refine OpsE.val (x_lenL rfl rfl Try.runUnderlying78) ?_
  refine OpsE.val (x_move (v := .int .i64 _) rfl) ?_
  refine OpsE.val (x_slLH (l := i + k) (h := n) (off' := (i + k) * 1) rfl rfl rfl Try.runUnderlying78 Try.sizeOf114 rfl rfl (by omega) (by omega) (by rw [if_neg (by omega), Nat.zero_add])) ?_
  refine OpsE.clear rfl K (by decide) rfl H (by simp only [List.length_append]; omega) ?_
  intro tl1 w ht1 H
  have e2 : (A ++ C ++ D).take ((i + k) * 1) = A ++ C := by rw [List.take_append_of_le_length (by simp only [List.length_append]; omega), List.take_of_length_le (by simp only [List.length_append]; omega)]
  obtain ⟨D2, hD2⟩ : ∃ D2, (A ++ C ++ D).drop ((i + k) * 1 + (n - (i + k)) * 1) = D2 := ⟨_, rfl⟩
  have hD2l : D2.length + 1 = D.length := by rw [← hD2]; simp only [List.length_append, List.length_drop]; omega
  rw [e2, hD2, List.append_assoc (A ++ C)] at H
  refine OpsE.nil ?_
  refine Then.normal ?_
  refine WP.seq ?_
  refine WP.region ?_
  refine OpsE.val (x_move (v := .slice _ _ _) rfl) ?_
  refine OpsE.val (x_assign (v := .slice _ _ _) rfl) ?_
  refine OpsE.nil ?_
  refine Then.normal ?_
  refine WP.ret ?_
  refine Leave0.ret (v := .slice _ _ _) rfl ?_
  exact ⟨tl1 ++ D2, rfl, by simp only [List.length_append]; omega, H⟩

end Go.Proofs.Ytbhbdpbhhfemhaa.IL

/-
  Rows of elements behind slices: read by whoever holds a list of assertions; owned ones that grow. Nothing of the program.
-/
namespace Go.Proofs.Ytbhbdpbhhfemhaa
open Go
set_option linter.unusedVariables false

/-- a slice's elements, for whoever holds the list of assertions -/
structure RIn {α : Type} (f : α → List Value) (T : TypeId) (l : List HP) (a : Option Addr) (n c : Nat) (xs : List α) : Prop where
  len : n = xs.length
  cap : n ≤ c
  mem : (xs = [] ∧ (a = none → c = 0)) ∨ ∃ (b off : Nat) (B : Array Value) (fz : TypeId × Nat × Nat) (pre post : List Value), a = some ⟨b, off, none⟩ ∧ (∀ w, Sat w l → w.heap[b]? = some (.cells B fz.1 fz.2)) ∧ B.toList = pre ++ xs.flatMap f ++ post ∧ pre.length = off

section
variable {α : Type} {f : α → List Value} {T : TypeId} {l : List HP} {a : Option Addr} {n c S : Nat} {xs : List α}

theorem RIn.more {A : HP} (h : RIn f T l a n c xs) : RIn f T (A :: l) a n c xs :=
  ⟨h.len, h.cap, h.mem.imp id fun ⟨b, off, B, fz, pre, post, h1, h2, h3⟩ => ⟨b, off, B, fz, pre, post, h1, fun w H => h2 w H.tail, h3⟩⟩
theorem RIn.nil : RIn f T l none 0 0 ([] : List α) := ⟨rfl, Nat.le_refl _, .inl ⟨rfl, fun _ => rfl⟩⟩

theorem RIn.some (h : RIn f T l a n c xs) (h0 : 0 < n) : ∃ (b off : Nat) (B : Array Value) (fz : TypeId × Nat × Nat) (pre post : List Value), a = some ⟨b, off, none⟩ ∧ (∀ w, Sat w l → w.heap[b]? = some (.cells B fz.1 fz.2)) ∧ B.toList = pre ++ xs.flatMap f ++ post ∧ pre.length = off := by
  rcases h.mem with ⟨h2, _⟩ | h'
  · have := h.len; subst h2; simp at this; omega
  · exact h'

theorem row_el (hf : ∀ x, (f x).length = S) {B : Array Value} {pre post : List Value} (hB : B.toList = pre ++ xs.flatMap f ++ post) {off i : Nat} (ho : pre.length = off) {x : α} (hx : xs[i]? = some x) : (B.toList.drop (off + i * S)).take S = f x := by
  rw [hB, ← ho, List.append_assoc, List.drop_length_add_append]
  exact flat_take hf post hx
theorem row_cell (hf : ∀ x, (f x).length = S) {B : Array Value} {pre post : List Value} (hB : B.toList = pre ++ xs.flatMap f ++ post) {off i j : Nat} (ho : pre.length = off) {x : α} {v : Value} (hx : xs[i]? = some x) (hv : (f x)[j]? = some v) : B[off + i * S + j]? = some v := by
  rw [← Array.getElem?_toList, hB, ← ho, List.append_assoc, Nat.add_assoc, List.getElem?_append_right (Nat.le_add_right _ _), Nat.add_sub_cancel_left]
  exact flat_get hf post hx hv
theorem row_all {B : Array Value} {pre post : List Value} (hB : B.toList = pre ++ xs.flatMap f ++ post) {off : Nat} (ho : pre.length = off) : (B.toList.drop off).take (xs.flatMap f).length = xs.flatMap f := by
  rw [hB, ← ho, List.append_assoc]; simp

/-- an owned row that grows -/
structure Rw (α : Type) where
  xs : List α
  arr : Option (Nat × Nat × List Value)
def Rw.ad (r : Rw α) : Option Addr := r.arr.map fun p => ⟨p.1, 0, none⟩
def Rw.cp (r : Rw α) : Nat := match r.arr with | none => 0 | some p => p.2.1
def Rw.val (r : Rw α) : Value := .slice r.ad r.xs.length r.cp
def Rw.own (f : α → List Value) (T : TypeId) (r : Rw α) : HP := match r.arr with
  | none => HP.one
  | some p => pt p.1 (.cells (r.xs.flatMap f ++ p.2.2).toArray T (0, 0))
def Rw.ror (f : α → List Value) (T : TypeId) (r : Rw α) : HP := match r.arr with
  | none => HP.one
  | some p => ro p.1 (.cells (r.xs.flatMap f ++ p.2.2).toArray T (0, 0))
structure Rw.Ok (S : Nat) (r : Rw α) : Prop where
  nil : r.arr = none → r.xs = []
  fit : ∀ p, r.arr = some p → r.xs.length ≤ p.2.1 ∧ r.xs.length * S + p.2.2.length = p.2.1 * S

theorem Rw.empty_ok : (⟨[], none⟩ : Rw α).Ok S := ⟨fun _ => rfl, fun p h => by cases h⟩
theorem Rw.ror_dup (r : Rw α) : Dup (r.ror f T) := by
  unfold Rw.ror
  split
  · exact one_dup
  · exact ro_dup _ _
theorem sat_one {w : World} {l : List HP} : Sat w (HP.one :: l) ↔ Sat w l := by
  unfold Sat; rw [stars_cons, HP.sep_comm, HP.sep_one]
theorem Rw.freeze {w : World} {r : Rw α} {l : List HP} (H : Sat w (r.own f T :: l)) : Sat w (r.ror f T :: l) := by
  unfold Rw.own at H; unfold Rw.ror
  split
  · rename_i h; rw [h] at H; exact H
  · rename_i p h; rw [h] at H; exact H.freeze

theorem Rw.rin_of (r : Rw α) (ok : r.Ok S) (hl : ∀ w p, Sat w l → r.arr = some p → w.heap[p.1]? = some (.cells (r.xs.flatMap f ++ p.2.2).toArray T (0, 0))) : RIn f T l r.ad r.xs.length r.cp r.xs := by
  obtain ⟨xs, arr⟩ := r
  cases arr with
  | none => exact ⟨rfl, by rw [ok.nil rfl]; exact Nat.le_refl _, .inl ⟨ok.nil rfl, fun _ => rfl⟩⟩
  | some p => exact ⟨rfl, (ok.fit p rfl).1, .inr ⟨p.1, 0, _, (T, (0, 0)), [], p.2.2, rfl, fun w H => hl w p H rfl, by simp, rfl⟩⟩
theorem Rw.rin_own (r : Rw α) (ok : r.Ok S) {m : List HP} [t : Take l (r.own f T) m] : RIn f T l r.ad r.xs.length r.cp r.xs :=
  r.rin_of ok fun w p H hp => by
    have H' := H.take (r.own f T)
    unfold Rw.own at H'
    rw [hp] at H'
    exact H'.pt_get
theorem Rw.rin_ror (r : Rw α) (ok : r.Ok S) {m : List HP} [t : Take l (r.ror f T) m] : RIn f T l r.ad r.xs.length r.cp r.xs :=
  r.rin_of ok fun w p H hp => by
    have H' := H.take (r.ror f T)
    unfold Rw.ror at H'
    rw [hp] at H'
    exact H'.ro_get
end

/-- x[k:] of a slice that is read -/
theorem rin_slice {α : Type} {f : α → List Value} {P : Program} {T e : TypeId} {l : List HP} {a : Option Addr} {n c k S : Nat} {xs : List α} (hf : ∀ x, (f x).length = S) (hr : RIn f e l a n c xs) (hu : ∀ w, (underlying T).run P w = .ok (.slice e) w) (hs : ∀ w, (sizeOf e).run P w = .ok S w) (hk : k ≤ n) :
    ∃ a', (∀ (E : Env) (x lo : Operand) (ty : TypeId) (ki : IntKind) w, evE E x = .slice a n c → evE E lo = .int ki (k : Int) → (xop E (.slice T x (some lo) none none) ty).run P w = .ok (.value (.slice a' (n - k) (c - k))) w) ∧ RIn f e l a' (n - k) (c - k) (xs.drop k) := by
  have hlen := hr.len
  have hcap := hr.cap
  rcases hr.mem with ⟨rfl, hc0⟩ | ⟨b, off, B, fz, pre, post, rfl, hB, hBl, hpo⟩
  · have hn : n = 0 := hlen
    subst hn
    have hk0 : k = 0 := by omega
    subst hk0
    cases a with
    | none =>
      have hc0 := hc0 rfl
      subst hc0
      refine ⟨none, fun E x lo ty ki w hx hl => ?_, by simpa using hr⟩
      simp [xop, execOp, Instr.sliceAt, hx, hl, hu, Instr.slice, Instr.sliceBounds, Instr.sliceBound, asIntOf, hs]
    | some ad =>
      have e0 : ad.add 0 = ad := by unfold Addr.add; rfl
      refine ⟨some ad, fun E x lo ty ki w hx hl => ?_, by simpa using hr⟩
      simp [xop, execOp, Instr.sliceAt, hx, hl, hu, Instr.slice, Instr.sliceBounds, Instr.sliceBound, asIntOf, hs, e0]
  · refine ⟨_, fun E x lo ty ki w hx hl => x_slLo (l := k) (off' := if c = k then off else off + k * S) hx hl hu hs rfl hk rfl, ?_⟩
    refine ⟨by rw [List.length_drop, hlen], by omega, .inr ?_⟩
    by_cases hc : c = k
    · have hnil : xs.drop k = [] := List.drop_of_length_le (by omega)
      refine ⟨b, _, B, fz, pre, xs.flatMap f ++ post, rfl, hB, by rw [hnil, hBl]; simp, by rw [if_pos hc]; exact hpo⟩
    · refine ⟨b, _, B, fz, pre ++ (xs.take k).flatMap f, post, rfl, hB, ?_, ?_⟩
      · rw [hBl]
        have : xs.flatMap f = (xs.take k).flatMap f ++ (xs.drop k).flatMap f := by rw [← List.flatMap_append, List.take_append_drop]
        rw [this]; simp [List.append_assoc]
      · rw [if_neg hc, List.length_append, hpo, flat_len hf, List.length_take, Nat.min_eq_left (by omega)]

section
variable {P : Program} {N : Nat} {ops : Array Oper} {Q : Post} {rest : List Oper} {E : Env} {ds : List Deferred} {w : World} {ty T e : TypeId} {x y : Operand} {l : List HP} {d : Nat} {pos : String} {af : Array Edge} {S by_ : Nat} {z : Value}

/-- append(row, nothing...) -/
theorem x_append_none {ats : Array TypeId} {a a2 : Option Addr} {n c c2 : Nat} (ht : ats = #[T, T]) (K : ElemOk P T e S by_ z) (hx : evE E x = .slice a n c) (hy : evE E y = .slice a2 0 c2) (hc : n ≤ c) :
    (xop E (.call { callee := .builtin .append, args := #[x, y], argTypes := ats }) ty).run P w = .ok (.value (.slice a n c)) w := by
  subst ht
  obtain ⟨i, hi, rfl, rfl, hz⟩ := K.i
  have hf : ∀ w, (Builtin.firstCells i.size 0 (.slice a2 0 c2)).run P w = .ok #[] w := by
    intro w
    cases a2 with
    | none => rfl
    | some ad => simp [Builtin.firstCells, loadCells, loadCellsFrom]
  cases a with
  | none => simp [xop, execOp, resolve, hx, hy, invoke, builtin, Builtin.append_, run_underlying K.u, sizeOf, typeInfo, hi, Builtin.lenOf, hc, hf]
  | some ad => simp [xop, execOp, resolve, hx, hy, invoke, builtin, Builtin.append_, run_underlying K.u, sizeOf, typeInfo, hi, Builtin.lenOf, hc, hf, storeCells]

/-- append(row, elements...) -/
theorem OpsE.append_rw {α : Type} {f : α → List Value} {ats : Array TypeId} {r : Rw α} {bs offs ns cs_ : Nat} {ys : List α} {B : Array Value} {tB : TypeId} {fB : Nat × Nat} {m : List HP} (ht : ats = #[T, T]) (K : ElemOk P T e S by_ z) (hf : ∀ x, (f x).length = S) (h1 : ∀ x, ∀ u ∈ f x, u.oneCell' = true)
    (hx : evE E x = r.val) (hy : evE E y = .slice (some ⟨bs, offs, none⟩) ns cs_) (H : Sat w l) [tk : Take l (r.own f e) m] (ok : r.Ok S)
    (hB : w.heap[bs]? = some (.cells B tB fB)) (h2 : (B.toList.drop offs).take (ys.flatMap f).length = ys.flatMap f) (hns : ns = ys.length) (h0 : 0 < ns)
    (hb : (r.xs.length + ns) * by_ ≤ 140737488355328) (h63 : r.xs.length + ns ≤ 9223372036854775807)
    (k : ∀ (r' : Rw α) w', r'.xs = r.xs ++ ys → r'.Ok S → r'.arr.isSome = true → Sat w' (r'.own f e :: m) → OpsE P N ops Q rest (upd N E d r'.val) ds w') :
    OpsE P N ops Q (⟨some d, .call { callee := .builtin .append, args := #[x, y], argTypes := ats }, ty, pos, af, none⟩ :: rest) E ds w := by
  have H' := H.take (r.own f e)
  obtain ⟨xs, arr⟩ := r
  have hl2 : (ys.flatMap f).length = ns * S := by rw [flat_len hf, hns]
  have h1' : ∀ u ∈ ys.flatMap f, u.oneCell' = true := fun u hu => by
    obtain ⟨y, _, hy⟩ := List.mem_flatMap.1 hu
    exact h1 y u hy
  cases arr with
  | none =>
    have hxs : xs = [] := ok.nil rfl
    subst hxs
    refine OpsE.append_nil (news := ys.flatMap f) ht K hx hy H' hB h2 hl2 h0 (by simpa using hb) (by simpa using h63) ?_
    intro g c' tl' w' h3 h4 H
    have hm := Nat.mul_le_mul_right S h3
    rw [Nat.sub_mul] at h4
    have := k ⟨ys, some (g, c', tl')⟩ w' (by simp) ⟨fun h => (by cases h), fun p hp => by cases hp; exact ⟨by show ys.length ≤ c'; omega, by show ys.length * S + tl'.length = c' * S; rw [← hns]; omega⟩⟩ rfl (sat_one.1 H.swap)
    unfold Rw.val at this
    rw [hns]; exact this
  | some p =>
    obtain ⟨b, c, tl⟩ := p
    obtain ⟨hc1, hc2⟩ := ok.fit _ rfl
    have H2 : Sat w (pt b (.cells (xs.flatMap f ++ tl).toArray e (0, 0)) :: m) := H'
    refine OpsE.append_own (b := b) (n := xs.length) (c := c) (olds := xs.flatMap f) (tl := tl) (news := ys.flatMap f) ht K hx hy H2 (flat_len hf _) hc2 hB h2 hl2 h1' hb h63 ?_
    intro g c' tl' w' h3 h4 H
    have := k ⟨xs ++ ys, some (g, c', tl')⟩ w' rfl ⟨fun h => (by cases h), fun p hp => by cases hp; exact ⟨by show (xs ++ ys).length ≤ c'; rw [List.length_append, ← hns]; exact h3, by show (xs ++ ys).length * S + tl'.length = c' * S; rw [List.length_append, ← hns]; exact h4⟩⟩ rfl (by
      show Sat w' (pt g (.cells ((xs ++ ys).flatMap f ++ tl').toArray e (0, 0)) :: m)
      rw [List.flatMap_append]; exact H)
    unfold Rw.val at this
    have e : (xs ++ ys).length = xs.length + ns := by rw [List.length_append, hns]
    dsimp only at this
    rw [e] at this
    exact this

/-- append(row, any row that is read...) -/
theorem OpsE.append_rin {α : Type} {f : α → List Value} {ats : Array TypeId} {r : Rw α} {a : Option Addr} {ns cs_ : Nat} {ys : List α} {m : List HP} (ht : ats = #[T, T]) (K : ElemOk P T e S by_ z) (hf : ∀ x, (f x).length = S) (h1 : ∀ x, ∀ u ∈ f x, u.oneCell' = true)
    (hx : evE E x = r.val) (hy : evE E y = .slice a ns cs_) (H : Sat w l) [tk : Take l (r.own f e) m] (ok : r.Ok S) (hr : RIn f e l a ns cs_ ys)
    (hb : (r.xs.length + ns) * by_ ≤ 140737488355328) (h63 : r.xs.length + ns ≤ 9223372036854775807)
    (k : ∀ (r' : Rw α) w', r'.xs = r.xs ++ ys → r'.Ok S → Sat w' (r'.own f e :: m) → OpsE P N ops Q rest (upd N E d r'.val) ds w') :
    OpsE P N ops Q (⟨some d, .call { callee := .builtin .append, args := #[x, y], argTypes := ats }, ty, pos, af, none⟩ :: rest) E ds w := by
  have hlen := hr.len
  rcases Nat.eq_zero_or_pos ns with h0 | h0
  · subst h0
    have hys : ys = [] := List.length_eq_zero_iff.1 hlen.symm
    subst hys
    have hcp : r.xs.length ≤ r.cp := by
      obtain ⟨xs, arr⟩ := r
      cases arr with
      | none => rw [ok.nil rfl]; exact Nat.zero_le _
      | some p => exact (ok.fit p rfl).1
    exact OpsE.val (x_append_none ht K hx hy hcp) (k r w (by simp) ok (H.take (r.own f e)))
  · obtain ⟨b, off, B, fz, pre, post, rfl, hB, hBl, hpo⟩ := hr.some h0
    exact OpsE.append_rw ht K hf h1 hx hy H ok (hB w H) (row_all hBl hpo) hlen h0 hb h63 fun r' w' e1 e2 _ H' => k r' w' e1 e2 H'
end
end Go.Proofs.Ytbhbdpbhhfemhaa

/-
  slices.Clone at one type of elements: a contract over rows of cells.
-/
namespace Go.Proofs.Ytbhbdpbhhfemhaa.CC
open Go Go.Proofs
set_option maxRecDepth 100000
set_option maxHeartbeats 4000000
set_option linter.unusedVariables false

abbrev TT : TypeId := 114
abbrev TE : TypeId := 113
theorem K : ElemOk Try.prog TT TE 2 40 (.agg #[.string ByteArray.empty, .slice none 0 0]) := ⟨Try.underlying114, ⟨Try.t113, Try.type113, rfl, rfl, rfl⟩, rfl⟩

theorem Clone_spec {w : World} {l : List HP} {b off n c : Nat} {B : Array Value} {news : List Value} {tB : TypeId} {fB : Nat × Nat} (H : Sat w l) (hB : ∀ w, Sat w l → w.heap[b]? = some (.cells B tB fB)) (h2 : (B.toList.drop off).take news.length = news) (hl2 : news.length = n * 2) (hle : n ≤ 2000000)
    (h1 : ∀ u ∈ news, u.oneCell' = true) :
    Calls Try.prog 91 #[.slice (some ⟨b, off, none⟩) n c] w (Ret fun v w' => ∃ g c' tl', v = .slice (some ⟨g, 0, none⟩) n c' ∧ n ≤ c' ∧ n * 2 + tl'.length = c' * 2 ∧
      Sat w' (pt g (.cells (news ++ tl').toArray TE (0, 0)) :: l)) := by
  refine Calls.of_wp Try.func91 rfl Try.ntmps91 Try.results91 (Nat.le_of_ble_eq_true rfl) ?_
  refine WP.seq ?_
  refine WP.region ?_
  refine OpsE.val (x_assign (v := .slice _ _ _) rfl) ?_
  refine OpsE.nil ?_
  refine Then.normal ?_
  refine WP.seq ?_
  refine WP.seq ?_
  refine WP.region ?_
  refine OpsE.val (x_move (v := .slice _ _ _) rfl) ?_
  refine OpsE.val (x_eqLs rfl rfl Try.runUnderlying114) ?_
  refine OpsE.nil ?_
  refine Then.normal ?_
  refine WP.cond_f rfl rfl ?_
  refine WP.skip ?_
  refine Then.normal ?_
  refine WP.seq ?_
  refine WP.region ?_
  refine OpsE.buildSlice0 K H ?_
  intro g0 w H
  refine OpsE.val (x_move (v := .slice _ _ _) rfl) ?_
  refine OpsE.append_own (n := 0) (c := 0) (olds := []) (tl := []) (news := news) rfl K rfl rfl H (by simp) (by simp) (hB _ H.tail) h2 hl2 h1 (by omega) (by omega) ?_
  intro g c' tl' w hc1 hc2 H
  rw [List.nil_append] at H
  simp only [Nat.zero_add] at hc1 hc2
  rw [Nat.zero_add]
  refine OpsE.val (x_assign (v := .slice _ _ _) rfl) ?_
  refine OpsE.nil ?_
  refine Then.normal ?_
  refine WP.ret ?_
  refine Leave0.ret (v := .slice _ _ _) rfl ?_
  exact ⟨g, c', tl', rfl, hc1, hc2, H⟩


theorem Clone_nil {w : World} {l : List HP} (H : Sat w l) :
    Calls Try.prog 91 #[.slice none 0 0] w (Ret fun v w' => v = .slice none 0 0 ∧ Sat w' l) := by
  refine Calls.of_wp Try.func91 rfl Try.ntmps91 Try.results91 (Nat.le_of_ble_eq_true rfl) ?_
  refine WP.seq ?_
  refine WP.region ?_
  refine OpsE.val (x_assign (v := .slice _ _ _) rfl) ?_
  refine OpsE.nil ?_
  refine Then.normal ?_
  refine WP.seq ?_
  refine WP.seq ?_
  refine WP.region ?_
  refine OpsE.val (x_move (v := .slice _ _ _) rfl) ?_
  refine OpsE.val (x_eqLn rfl rfl Try.runUnderlying114) ?_
  refine OpsE.nil ?_
  refine Then.normal ?_
  refine WP.cond_t rfl rfl ?_
  refine WP.seq ?_
  refine WP.region ?_
  refine OpsE.val (x_assign (v := .slice _ _ _) rfl) ?_
  refine OpsE.nil ?_
  refine Then.normal ?_
  refine WP.ret ?_
  refine Then.ret ?_
  refine Leave0.ret (v := .slice _ _ _) rfl ?_
  exact ⟨rfl, H⟩
theorem Clone_emp {w : World} {l : List HP} {ad : Addr} {c : Nat} (H : Sat w l) :
    Calls Try.prog 91 #[.slice (some ad) 0 c] w (Ret fun v w' => ∃ g, v = .slice (some ⟨g, 0, none⟩) 0 0 ∧ Sat w' (pt g (.cells ([] : List Value).toArray TE (0, 0)) :: l)) := by
  refine Calls.of_wp Try.func91 rfl Try.ntmps91 Try.results91 (Nat.le_of_ble_eq_true rfl) ?_
  refine WP.seq ?_
  refine WP.region ?_
  refine OpsE.val (x_assign (v := .slice _ _ _) rfl) ?_
  refine OpsE.nil ?_
  refine Then.normal ?_
  refine WP.seq ?_
  refine WP.seq ?_
  refine WP.region ?_
  refine OpsE.val (x_move (v := .slice _ _ _) rfl) ?_
  refine OpsE.val (x_eqLs rfl rfl Try.runUnderlying114) ?_
  refine OpsE.nil ?_
  refine Then.normal ?_
  refine WP.cond_f rfl rfl ?_
  refine WP.skip ?_
  refine Then.normal ?_
  refine WP.seq ?_
  refine WP.region ?_
  refine OpsE.buildSlice0 K H ?_
  intro g0 w H
  refine OpsE.val (x_move (v := .slice _ _ _) rfl) ?_
  refine OpsE.val (x_append_none rfl K rfl rfl (Nat.le_refl _)) ?_
  refine OpsE.val (x_assign (v := .slice _ _ _) rfl) ?_
  refine OpsE.nil ?_
  refine Then.normal ?_
  refine WP.ret ?_
  refine Leave0.ret (v := .slice _ _ _) rfl ?_
  exact ⟨g0, rfl, H⟩
theorem Clone_rin {α : Type} {f : α → List Value} {w : World} {l : List HP} {a : Option Addr} {n c : Nat} {xs : List α} (hf : ∀ x, (f x).length = 2) (h1 : ∀ x, ∀ u ∈ f x, u.oneCell' = true) (H : Sat w l) (hr : RIn f TE l a n c xs) (hle : n ≤ 2000000) :
    Calls Try.prog 91 #[.slice a n c] w (Ret fun v w' => ∃ r' : Rw α, v = r'.val ∧ r'.xs = xs ∧ r'.Ok 2 ∧ Sat w' (r'.own f TE :: l)) := by
  have hlen := hr.len
  rcases hr.mem with ⟨rfl, hc0⟩ | ⟨b, off, B, fz, pre, post, rfl, hB, hBl, hpo⟩
  · have hn0 : n = 0 := hlen
    subst hn0
    cases a with
    | none =>
      have hc0 := hc0 rfl
      subst hc0
      refine Calls.ret (Clone_nil H) ?_
      rintro v w' ⟨rfl, H⟩
      exact ⟨⟨[], none⟩, rfl, rfl, Rw.empty_ok, sat_one.2 H⟩
    | some ad =>
      refine Calls.ret (Clone_emp H) ?_
      rintro v w' ⟨g, rfl, H⟩
      exact ⟨⟨[], some (g, 0, [])⟩, rfl, rfl, ⟨fun h => (by cases h), fun p hp => by cases hp; exact ⟨Nat.le_refl _, rfl⟩⟩, H⟩
  · refine Calls.ret (Clone_spec (news := xs.flatMap f) H hB (row_all hBl hpo) (by rw [flat_len hf, hlen]) hle (fun u hu => by
      obtain ⟨x, _, hx⟩ := List.mem_flatMap.1 hu
      exact h1 x u hx)) ?_
    rintro v w' ⟨g, c', tl', rfl, hc1, hc2, H⟩
    subst hlen
    exact ⟨⟨xs, some (g, c', tl')⟩, rfl, rfl, ⟨fun h => (by cases h), fun p hp => by cases hp; exact ⟨hc1, hc2⟩⟩, H⟩
end Go.Proofs.Ytbhbdpbhhfemhaa.CC

/-
  The tree of keys: Get, halves, Concat, Put.
-/
namespace Go.Proofs.Ytbhbdpbhhfemhaa.TC
open Go Go.Proofs
set_option maxRecDepth 100000
set_option maxHeartbeats 4000000
set_option linter.unusedVariables false

/-- the header of a tree: two cells of a block -/
structure Hd (cs : List Value) (ho : Nat) (t : Tr) : Prop where
  hv : cs[ho]? = some t.hv
  sz : cs[ho + 1]? = some (.int .i64 ((all t.lv).length : Int))
def hset (cs : List Value) (ho : Nat) (t : Tr) : List Value := (cs.set ho t.hv).set (ho + 1) (.int .i64 ((all t.lv).length : Int))

theorem Hd.len {cs : List Value} {ho : Nat} {t : Tr} (h : Hd cs ho t) : ho + 1 < cs.length := (List.getElem?_eq_some_iff.1 h.sz).1

theorem Fnd.ne {lv : List Leaf} {key : ByteArray} {i k : Nat} (F : Fnd lv key i k true) : lv ≠ [] := by
  rcases F with ⟨_, _, _, h⟩ | ⟨x, hx, _⟩
  · cases h
  · rintro rfl; simp at hx
theorem Tr.Ok.some {lv : List Leaf} {arr : Option (Nat × Nat × List Value)} (ok : Tr.Ok ⟨lv, arr⟩) (h : lv ≠ []) : ∃ L cap tl, arr = some (L, cap, tl) ∧ lv.length + tl.length = cap := by
  cases arr with
  | none => exact absurd (ok.nil rfl) h
  | some p => obtain ⟨L, cap, tl⟩ := p; exact ⟨L, cap, tl, rfl, ok.len L cap tl rfl⟩

def getV (o : Option TV) : Value := match o with
  | some u => .tuple #[tvv u, .bool true]
  | none => .tuple #[tvz, .bool false]
theorem Get_spec {w : World} {r : List HP} {cs : List Value} {t : Tr} {hb ho TH : Nat} {key : ByteArray} (H : Sat w (hd hb cs TH :: t.ap :: Lvs t.lv :: r)) (hc : Hd cs ho t) (ok : t.Ok) :
    Calls Try.prog 45 #[.pointer (some ⟨hb, ho, none⟩), .string key] w (Ret fun v w' => v = getV (getL (all t.lv) key) ∧
      Sat w' (hd hb cs TH :: t.ap :: Lvs t.lv :: r)) := by
  obtain ⟨lv, arr⟩ := t
  refine Calls.of_wp Try.func45 rfl Try.ntmps45 Try.results45 (Nat.le_of_ble_eq_true rfl) ?_
  refine WP.seq ?_
  refine WP.region ?_
  refine OpsE.val (x_assign (v := .slice _ _ _) rfl) ?_
  refine OpsE.val (x_assign (v := .bool _) rfl) ?_
  refine OpsE.nil ?_
  refine Then.normal ?_
  refine WP.seq ?_
  refine WP.region ?_
  refine OpsE.val (x_move (v := .pointer _) rfl) ?_
  refine OpsE.val (x_move (v := .string _) rfl) ?_
  refine OpsE.call (x_call (vl := [.pointer _, .string _]) rfl Try.call63) (find_spec H hc.hv ok) ?_
  rintro _ w ⟨i, k, th, rfl, F, H⟩
  refine OpsE.val (x_move (v := .tuple _) rfl) ?_
  refine OpsE.val (x_extract (v := .int .i64 _) rfl rfl) ?_
  refine OpsE.val (x_extract (v := .int .i64 _) rfl rfl) ?_
  refine OpsE.val (x_extract (v := .bool _) rfl rfl) ?_
  refine OpsE.val (x_assign (v := .int .i64 _) rfl) ?_
  refine OpsE.val (x_assign (v := .int .i64 _) rfl) ?_
  refine OpsE.val (x_assign (v := .bool _) rfl) ?_
  refine OpsE.nil ?_
  refine Then.normal ?_
  refine WP.seq ?_
  refine WP.seq ?_
  refine WP.region ?_
  refine OpsE.val (x_move (v := .bool _) rfl) ?_
  refine OpsE.val (x_not rfl) ?_
  refine OpsE.nil ?_
  refine Then.normal ?_
  refine WP.cond rfl (fun hth => ?_) (fun hth => ?_)
  · skip
    refine WP.seq ?_
    refine WP.region ?_
    refine OpsE.val (x_assign (v := .slice _ _ _) rfl) ?_
    refine OpsE.nil ?_
    refine Then.normal ?_
    refine WP.seq ?_
    refine WP.region ?_
    refine OpsE.val (x_move (v := .slice _ _ _) rfl) ?_
    refine OpsE.val (x_assign (v := .slice _ _ _) rfl) ?_
    refine OpsE.val (x_assign (v := .bool _) rfl) ?_
    refine OpsE.nil ?_
    refine Then.normal ?_
    refine WP.ret ?_
    refine Then.ret ?_
    refine Leave0.ret (v := .tuple #[.slice _ _ _, .bool _]) rfl ?_
    have ht : th = false := by simpa using hth
    subst ht
    have hm : ∀ y ∈ all lv, y.key ≠ key := by
      by_cases hne : lv = []
      · subst hne; intro y hy; simp [all] at hy
      · obtain ⟨P, x, Q, X, Y, rfl, _, hi, _, h1, h2, _, h4⟩ := F.split ok.ok hne
        intro y hy
        rw [all_mid, hi] at hy
        simp only [List.mem_append] at hy h1
        rcases hy with (hy | hy | hy) | hy
        · exact slt_ne (h1 y (.inl hy))
        · exact slt_ne (h1 y (.inr hy))
        · exact (slt_ne (h4 rfl y hy)).symm
        · exact (slt_ne (h2 y hy)).symm
    rw [getL_miss hm]
    exact ⟨rfl, H⟩
  · skip
    refine WP.skip ?_
    refine Then.normal ?_
    refine WP.seq ?_
    refine WP.region ?_
    have ht : th = true := by simpa using hth
    subst ht
    obtain ⟨L, cap, tl, rfl, hcap⟩ := Tr.Ok.some ok F.ne
    obtain ⟨P, x, Q, X, Y, rfl, rfl, hi, rfl, h1, h2, h3, _⟩ := F.split ok.ok F.ne
    obtain ⟨y0, Y', rfl, hk0, h3⟩ := h3 rfl
    have hch : cs[ho]? = some (.slice (some ⟨L, 0, none⟩) (P ++ x :: Q).length cap) := hc.hv
    have hg : getL (all (P ++ x :: Q)) key = some y0.val := by
      rw [all_mid, hi, List.append_assoc, List.append_assoc, ← List.append_assoc (all P), getL_app_ne (fun y hy => slt_ne (h1 y hy)), List.cons_append, getL_cons_eq hk0]
    have H' : Sat w (pt L (arrO (P ++ x :: Q) tl) :: Lvs (P ++ x :: Q) :: hd hb cs TH :: r) := Sat.take2 (l := hd hb cs TH :: pt L (arrO (P ++ x :: Q) tl) :: Lvs (P ++ x :: Q) :: r) H _ _
    have hx : w.heap[x.blk]? = some (.cells x.cells.toArray 113 (0, 0)) := (lvOut (H'.take (Lvs (P ++ x :: Q)))).pt_get
    have hxl : x.its.length = X.length + 1 + Y'.length := by rw [hi]; simp; omega
    refine OpsE.val (x_move (v := .pointer _) rfl) ?_
    refine OpsE.val (x_nilCheck rfl) ?_
    refine OpsE.val (x_fieldAddr0 rfl Try.runUnderlying80 rfl rfl Try.sizeOf78) ?_
    refine OpsE.val (x_load (v := .slice (some ⟨L, 0, none⟩) (P ++ x :: Q).length cap) rfl Try.isAgg78 (H.look _) (by simpa using hch)) ?_
    refine OpsE.val (x_move (v := .int .i64 _) rfl) ?_
    refine OpsE.val (x_indexAddr1 (i := P.length) rfl rfl Try.runUnderlying78 Try.sizeOf114 rfl (by simp)) ?_
    refine OpsE.val (x_load (v := .slice _ _ _) rfl Try.isAgg114 (H'.look L) (lv_mid P Q x tl)) ?_
    refine OpsE.val (x_move (v := .int .i64 _) rfl) ?_
    refine OpsE.val (x_indexAddr (i := X.length) rfl rfl Try.runUnderlying114 Try.sizeOf113 rfl (by omega)) ?_
    refine OpsE.val (x_fieldAddr (o := 1) rfl Try.runUnderlying113 rfl rfl Try.sizeOf84) ?_
    refine OpsE.val (x_load (v := .slice _ _ _) rfl Try.isAgg84 hx (by simpa [Leaf.cells] using flat_get (f := itc) itc_len x.tl (xs := x.its) (k := X.length) (j := 1) (y := y0) (by rw [hi]; simp) rfl)) ?_
    refine OpsE.val (x_assign (v := .slice _ _ _) rfl) ?_
    refine OpsE.val (x_assign (v := .bool _) rfl) ?_
    refine OpsE.nil ?_
    refine Then.normal ?_
    refine WP.ret ?_
    refine Leave0.ret (v := .tuple #[.slice _ _ _, .bool _]) rfl ?_
    rw [hg]
    exact ⟨rfl, H⟩

theorem set_same {cs : List Value} {j : Nat} {v : Value} (h : cs[j]? = some v) : cs.set j v = cs := by
  obtain ⟨hj, e⟩ := List.getElem?_eq_some_iff.1 h
  rw [← e]; exact List.set_getElem_self hj

theorem halves_spec {w : World} {l : List HP} {b n c : Nat} {X1 X2 tl : List Value} (H : Sat w l) (hB : ∀ w, Sat w l → w.heap[b]? = some (.cells (X1 ++ X2 ++ tl).toArray 113 (0, 0)))
    (h1 : X1.length = (n / 2) * 2) (h2 : X2.length = (n - n / 2) * 2) (hn : n ≤ 1000) (hc : n ≤ c) (o1 : ∀ u ∈ X1, u.oneCell' = true) (o2 : ∀ u ∈ X2, u.oneCell' = true) :
    Calls Try.prog 65 #[.slice (some ⟨b, 0, none⟩) n c] w (Ret fun v w' => ∃ g1 c1 t1 g2 c2 t2, v = .tuple #[.slice (some ⟨g1, 0, none⟩) (n / 2) c1, .slice (some ⟨g2, 0, none⟩) (n - n / 2) c2] ∧
      n / 2 ≤ c1 ∧ (n / 2) * 2 + t1.length = c1 * 2 ∧ n - n / 2 ≤ c2 ∧ (n - n / 2) * 2 + t2.length = c2 * 2 ∧
      Sat w' (pt g2 (.cells (X2 ++ t2).toArray 113 (0, 0)) :: pt g1 (.cells (X1 ++ t1).toArray 113 (0, 0)) :: l)) := by
  have e1 : (((X1 ++ X2 ++ tl).toArray.toList.drop 0).take X1.length) = X1 := by simp [List.append_assoc]
  have e2 : (((X1 ++ X2 ++ tl).toArray.toList.drop ((n / 2) * 2)).take X2.length) = X2 := by rw [← h1]; simp [List.append_assoc]
  refine Calls.of_wp Try.func65 rfl Try.ntmps65 Try.results65 (Nat.le_of_ble_eq_true rfl) ?_
  refine WP.seq ?_
  refine WP.region ?_
  refine OpsE.val (x_assign (v := .slice _ _ _) rfl) ?_
  refine OpsE.val (x_assign (v := .slice _ _ _) rfl) ?_
  refine OpsE.nil ?_
  refine Then.normal ?_
  refine WP.seq ?_
  refine WP.region ?_
  refine OpsE.val (x_move (v := .slice _ _ _) rfl) ?_
  refine OpsE.val (x_lenL rfl rfl Try.runUnderlying114) ?_
  refine OpsE.val (x_half rfl (by omega)) ?_
  refine OpsE.val (x_assign (v := .int .i64 _) rfl) ?_
  refine OpsE.nil ?_
  refine Then.normal ?_
  refine WP.seq ?_
  refine WP.mix (kdOf [0, 0, 0, 1, 0, 0, 0]) (fun w => Sat w _) (by kernel_rfl) (by kernel_rfl) (fun w hw => Sat.heap (H) hw) ?_
  intro w hw; replace H := H.heap hw; clear hw
  refine MixE.q rfl (fun w H => x_move (v := .slice _ _ _) rfl) ?_
  refine MixE.q rfl (fun w H => x_move (v := .int .i64 _) rfl) ?_
  refine MixE.q rfl (fun w H => x_slHi (h := n / 2) rfl rfl Try.runUnderlying114 Try.sizeOf113 rfl (by omega)) ?_
  refine MixE.one rfl ?_
  refine OpsE.call (x_call (vl := [.slice _ _ _]) rfl Try.call91) (CC.Clone_spec (news := X1) H hB e1 h1 (by omega) o1) ?_
  rintro _ w ⟨g1, c1, t1, rfl, hc1, hl1, H1⟩
  refine OpsE.nil ⟨rfl, rfl, H1.tail, ?_⟩
  refine MixE.q rfl (fun w H => x_move (v := .slice _ _ _) rfl) ?_
  refine MixE.q rfl (fun w H => x_move (v := .int .i64 _) rfl) ?_
  refine MixE.q rfl (fun w H => x_slLo (l := n / 2) (off' := (n / 2) * 2) rfl rfl Try.runUnderlying114 Try.sizeOf113 rfl (by omega) (by split <;> omega)) ?_
  refine MixE.two _ (fun k _ => kdOf_ge (Nat.le_add_right _ _)) ?_
  refine OpsE.call (x_call (vl := [.slice _ _ _]) rfl Try.call91) (CC.Clone_spec (news := X2) H1 (fun w H => hB w H.tail) e2 h2 (by omega) o2) ?_
  rintro _ w ⟨g2, c2, t2, rfl, hc2, hl2, H2⟩
  refine OpsE.val (x_assign (v := .slice _ _ _) rfl) ?_
  refine OpsE.val (x_assign (v := .slice _ _ _) rfl) ?_
  refine OpsE.nil ?_
  refine Then.normal ?_
  refine WP.ret ?_
  refine Leave0.ret (v := .tuple #[.slice _ _ _, .slice _ _ _]) rfl ?_
  exact ⟨g1, c1, t1, g2, c2, t2, rfl, hc1, hl1, hc2, hl2, H2⟩

theorem putL_miss {L R : List It} {y : It} (h1 : ∀ z ∈ L, slt z.key y.key = true) (h2 : ∀ z ∈ R, slt y.key z.key = true) : putL (L ++ R) y = L ++ y :: R := by
  have p := Parts.miss h1 h2
  unfold putL; rw [p.lo, p.hi]
theorem putL_hit {L R : List It} {y y0 : It} (h1 : ∀ z ∈ L, slt z.key y.key = true) (h0 : y0.key = y.key) (h2 : ∀ z ∈ R, slt y.key z.key = true) : putL (L ++ y0 :: R) y = L ++ y :: R := by
  have p := Parts.hit h1 h0 h2
  unfold putL; rw [p.lo, p.hi]

theorem lv_len (P Q : List Leaf) (x : Leaf) : (P ++ x :: Q).length = P.length + Q.length + 1 := by simp; omega
theorem vals_one (l : List Leaf) : ∀ u ∈ l.map Leaf.val, u.oneCell' = true := by
  intro u hu
  obtain ⟨x, _, rfl⟩ := List.mem_map.1 hu
  rfl
theorem ok_of {lv : List Leaf} (h : ∀ x ∈ lv, x.Ok) (hs : Srt It.key (all lv)) (hl : (all lv).length ≤ 1000000) : Ok lv := ⟨h, hs, Nat.le_trans (len_lv h) hl⟩

theorem Put_spec {w : World} {r : List HP} {cs : List Value} {t : Tr} {hb ho TH : Nat} {key : ByteArray} {u : TV} (H : Sat w (hd hb cs TH :: t.ap :: Lvs t.lv :: r)) (hc : Hd cs ho t) (ok : t.Ok) (hl : (all t.lv).length < 1000000) :
    Calls Try.prog 47 #[.pointer (some ⟨hb, ho, none⟩), .string key, tvv u] w (Ret fun v w' => ∃ (b : Bool) (t' : Tr), v = .bool b ∧ t'.Ok ∧ all t'.lv = putL (all t.lv) ⟨key, u⟩ ∧
      Sat w' (hd hb (hset cs ho t') TH :: t'.ap :: Lvs t'.lv :: r)) := by
  obtain ⟨lv, arr⟩ := t
  have hsz := hc.sz
  have hlen := hc.len
  have hs2 := srt_put ok.ok.srt ⟨key, u⟩
  have hl2 : (putL (all lv) ⟨key, u⟩).length ≤ 1000000 := by
    have := len_lo_hi (all lv) key
    unfold putL; simp only [List.length_append, List.length_cons]; dsimp only at hl ⊢; omega
  dsimp only at hl hsz hs2
  refine Calls.of_wp Try.func47 rfl Try.ntmps47 Try.results47 (Nat.le_of_ble_eq_true rfl) ?_
  refine WP.seq ?_
  refine WP.region ?_
  refine OpsE.val (x_assign (v := .bool _) rfl) ?_
  refine OpsE.nil ?_
  refine Then.normal ?_
  refine WP.seq ?_
  refine WP.seq ?_
  refine WP.region ?_
  refine OpsE.val (x_move (v := .pointer _) rfl) ?_
  refine OpsE.val (x_eqPs rfl rfl Try.runUnderlying109) ?_
  refine OpsE.nil ?_
  refine Then.normal ?_
  refine WP.cond_f rfl rfl ?_
  refine WP.skip ?_
  refine Then.normal ?_
  refine WP.seq ?_
  refine WP.region ?_
  refine OpsE.val (x_move (v := .pointer _) rfl) ?_
  refine OpsE.val (x_move (v := .string _) rfl) ?_
  refine OpsE.call (x_call (vl := [.pointer _, .string _]) rfl Try.call63) (find_spec H hc.hv ok) ?_
  rintro _ w ⟨i, k, th, rfl, F, H⟩
  refine OpsE.val (x_move (v := .tuple _) rfl) ?_
  refine OpsE.val (x_extract (v := .int .i64 _) rfl rfl) ?_
  refine OpsE.val (x_extract (v := .int .i64 _) rfl rfl) ?_
  refine OpsE.val (x_extract (v := .bool _) rfl rfl) ?_
  refine OpsE.val (x_assign (v := .int .i64 _) rfl) ?_
  refine OpsE.val (x_assign (v := .int .i64 _) rfl) ?_
  refine OpsE.val (x_assign (v := .bool _) rfl) ?_
  refine OpsE.nil ?_
  refine Then.normal ?_
  refine WP.seq ?_
  refine WP.seq ?_
  refine WP.region ?_
  refine OpsE.val (x_move (v := .bool _) rfl) ?_
  refine OpsE.nil ?_
  refine Then.normal ?_
  refine WP.cond rfl (fun ht => ?_) (fun ht => ?_)
  · skip
    refine WP.seq ?_
    refine WP.region ?_
    subst ht
    obtain ⟨L, cap, tl, rfl, hcap⟩ := Tr.Ok.some ok F.ne
    obtain ⟨P, x, Q, X, Y, rfl, rfl, hi, rfl, h1, h2, h3, _⟩ := F.split ok.ok F.ne
    obtain ⟨y0, Y', rfl, hk0, h3⟩ := h3 rfl
    have hch : cs[ho]? = some (.slice (some ⟨L, 0, none⟩) (P ++ x :: Q).length cap) := hc.hv
    have H' : Sat w (x.at :: Lvs (P ++ Q) :: pt L (arrO (P ++ x :: Q) tl) :: hd hb cs TH :: r) := (lvOut (Sat.take2 (l := hd hb cs TH :: pt L (arrO (P ++ x :: Q) tl) :: Lvs (P ++ x :: Q) :: r) H (Lvs (P ++ x :: Q)) (pt L (arrO (P ++ x :: Q) tl)) ))
    replace H : Sat w (pt x.blk (.cells x.cells.toArray 113 (0, 0)) :: Lvs (P ++ Q) :: pt L (arrO (P ++ x :: Q) tl) :: hd hb cs TH :: r) := H'
    have hxl : x.its.length = X.length + 1 + Y'.length := by rw [hi]; simp; omega
    have hxc : x.cells.length = x.its.length * 2 + x.tl.length := by unfold Leaf.cells; rw [List.length_append, flat_len itc_len]
    refine OpsE.val (x_move (v := .pointer _) rfl) ?_
    refine OpsE.val (x_nilCheck rfl) ?_
    refine OpsE.val (x_fieldAddr0 rfl Try.runUnderlying80 rfl rfl Try.sizeOf78) ?_
    refine OpsE.val (x_load (v := .slice (some ⟨L, 0, none⟩) (P ++ x :: Q).length cap) rfl Try.isAgg78 (H.look _) (by simpa using hch)) ?_
    refine OpsE.val (x_move (v := .int .i64 _) rfl) ?_
    refine OpsE.val (x_indexAddr1 (i := P.length) rfl rfl Try.runUnderlying78 Try.sizeOf114 rfl (by simp)) ?_
    refine OpsE.val (x_load (v := .slice _ _ _) rfl Try.isAgg114 (H.look L) (lv_mid P Q x tl)) ?_
    refine OpsE.val (x_move (v := .int .i64 _) rfl) ?_
    refine OpsE.val (x_move (v := .slice _ _ _) rfl) ?_
    refine OpsE.val (x_indexAddr (i := X.length) rfl rfl Try.runUnderlying114 Try.sizeOf113 rfl (by omega)) ?_
    refine OpsE.val (x_fieldAddr (o := 1) rfl Try.runUnderlying113 rfl rfl Try.sizeOf84) ?_
    refine OpsE.store (v := .slice _ _ _) rfl rfl rfl rfl Try.sizeOf84 H (by omega) ?_
    intro w H
    refine OpsE.nil ?_
    refine Then.normal ?_
    refine WP.seq ?_
    refine WP.region ?_
    refine OpsE.val (x_assign (v := .bool _) rfl) ?_
    refine OpsE.nil ?_
    refine Then.normal ?_
    refine WP.ret ?_
    refine Then.ret ?_
    refine Leave0.ret (v := .bool _) rfl ?_
    have e1 : x.cells.set (X.length * 2 + 1) (tvv u) = (⟨x.blk, x.cap, X ++ ⟨key, u⟩ :: Y', x.tl⟩ : Leaf).cells := by
      unfold Leaf.cells
      rw [hi, flat_set itc_len x.tl (k := X.length) (j := 1) (y := y0) (z := ⟨key, u⟩) (by simp) (by decide) (by unfold itc; rw [hk0]; rfl)]
      simp
    have hA : all (P ++ (⟨x.blk, x.cap, X ++ ⟨key, u⟩ :: Y', x.tl⟩ : Leaf) :: Q) = putL (all (P ++ x :: Q)) ⟨key, u⟩ := by
      rw [all_mid, all_mid, hi]
      have := putL_hit (y := ⟨key, u⟩) (L := all P ++ X) (R := Y' ++ all Q) (y0 := y0) h1 hk0 (fun z hz => (List.mem_append.1 hz).elim (h3 z) (h2 z))
      rw [show all P ++ (X ++ y0 :: Y') ++ all Q = all P ++ X ++ y0 :: (Y' ++ all Q) by simp, this]; simp
    refine ⟨true, ⟨P ++ (⟨x.blk, x.cap, X ++ ⟨key, u⟩ :: Y', x.tl⟩ : Leaf) :: Q, some (L, cap, tl)⟩, rfl, ⟨ok_of ?_ ?_ ?_, fun h => (by cases h), fun L' c' tl' h => ?_⟩, hA, ?_⟩
    · intro z hz
      rcases List.mem_append.1 hz with hz | hz
      · exact ok.ok.leaf z (by simp [hz])
      · rcases List.mem_cons.1 hz with rfl | hz
        · have := ok.ok.leaf x (by simp)
          refine ⟨by simp, ?_, ?_⟩
          · rw [← e1, List.length_set]; exact this.len
          · have := this.le; rw [hi] at this; simpa using this
        · exact ok.ok.leaf z (by simp [hz])
    · dsimp only; rw [hA]; exact hs2
    · dsimp only; rw [hA]; exact hl2
    · cases h; have h := hcap; rw [lv_len] at h; dsimp only; rw [lv_len]; exact h
    · have e2 : hset cs ho ⟨P ++ (⟨x.blk, x.cap, X ++ ⟨key, u⟩ :: Y', x.tl⟩ : Leaf) :: Q, some (L, cap, tl)⟩ = cs := by
        unfold hset
        have e3 : Tr.hv ⟨P ++ (⟨x.blk, x.cap, X ++ ⟨key, u⟩ :: Y', x.tl⟩ : Leaf) :: Q, some (L, cap, tl)⟩ = .slice (some ⟨L, 0, none⟩) (P ++ x :: Q).length cap := by show Value.slice _ _ _ = _; rw [lv_len, lv_len]
        rw [e3, set_same hch, set_same]
        rw [hsz]; congr 3; dsimp only; rw [all_mid, all_mid, hi]; simp
      rw [e2]
      have e4 : arrO (P ++ (⟨x.blk, x.cap, X ++ ⟨key, u⟩ :: Y', x.tl⟩ : Leaf) :: Q) tl = arrO (P ++ x :: Q) tl := by
        unfold arrO; rw [← lv_set P Q x ⟨x.blk, x.cap, X ++ ⟨key, u⟩ :: Y', x.tl⟩ tl]
        rw [set_same]
        have := lv_mid P Q x tl
        rw [hi] at this
        simpa [Leaf.val] using this
      have e1' : x.cells.set (X.length * 2 + 1) (.slice u.1 u.2.1 u.2.2) = _ := e1
      rw [e1'] at H
      replace H := lvIn (x := (⟨x.blk, x.cap, X ++ ⟨key, u⟩ :: Y', x.tl⟩ : Leaf)) H
      rw [← e4] at H
      exact Sat.take3 H (hd hb cs TH) (pt L (arrO (P ++ (⟨x.blk, x.cap, X ++ ⟨key, u⟩ :: Y', x.tl⟩ : Leaf) :: Q) tl)) (Lvs (P ++ (⟨x.blk, x.cap, X ++ ⟨key, u⟩ :: Y', x.tl⟩ : Leaf) :: Q))
  · skip
    refine WP.skip ?_
    refine Then.normal ?_
    refine WP.seq ?_
    refine WP.region ?_
    obtain ⟨a0, c0, hf⟩ := ok.form
    have hch0 := hc.hv
    rw [hf] at hch0
    subst ht
    dsimp only at hch0
    refine OpsE.val (x_move (v := .pointer _) rfl) ?_
    refine OpsE.val (x_nilCheck rfl) ?_
    refine OpsE.val (x_fieldAddr (o := 1) rfl Try.runUnderlying80 rfl rfl Try.sizeOf3) ?_
    refine OpsE.val (x_load (v := .int .i64 _) rfl Try.isAgg3 (H.look _) (by simpa using hsz)) ?_
    refine OpsE.val (x_add (z := (((all lv).length + 1 : Nat) : Int)) rfl rfl (by rw [i64n (by omega) (by omega)]; omega)) ?_
    refine OpsE.val (x_nilCheck rfl) ?_
    refine OpsE.val (x_fieldAddr (o := 1) rfl Try.runUnderlying80 rfl rfl Try.sizeOf3) ?_
    refine OpsE.store (v := .int .i64 _) rfl rfl rfl rfl Try.sizeOf3 H hlen ?_
    intro w H
    refine OpsE.nil ?_
    refine Then.normal ?_
    refine WP.seq ?_
    refine WP.seq ?_
    refine WP.region ?_
    refine OpsE.val (x_move (v := .pointer _) rfl) ?_
    refine OpsE.val (x_nilCheck rfl) ?_
    refine OpsE.val (x_fieldAddr0 rfl Try.runUnderlying80 rfl rfl Try.sizeOf78) ?_
    refine OpsE.val (x_load (v := .slice _ _ _) rfl Try.isAgg78 (H.look _) (by rw [List.getElem?_toArray, List.getElem?_set_ne (by omega)]; exact hch0)) ?_
    refine OpsE.val (x_lenL rfl rfl Try.runUnderlying78) ?_
    refine OpsE.val (x_eqI rfl rfl) ?_
    by_cases h0 : (lv.length : Int) = 0
    · rw [decide_eq_true h0]
      refine OpsE.nil ?_
      refine Then.normal ?_
      refine WP.cond_t rfl rfl ?_
      refine WP.seq ?_
      refine WP.region ?_
      refine OpsE.val (x_move (v := .pointer _) rfl) ?_
      refine OpsE.val (x_move (v := .string _) rfl) ?_
      refine OpsE.val (x_move (v := .slice _ _ _) rfl) ?_
      refine OpsE.val (x_build2 (vl := [.string _, .slice _ _ _]) rfl Try.zeroValue113 Try.runUnderlying113 Try.sizeOf9 Try.sizeOf84 rfl) ?_
      have hlv : lv = [] := List.length_eq_zero_iff.1 (by omega)
      subst hlv
      refine OpsE.buildSlice1 (vs := itc ⟨key, u⟩) IC.K (by decide) rfl rfl rfl (by decide) H ?_
      intro g w H
      refine OpsE.buildSlice1 (vs := [(⟨g, 1, [⟨key, u⟩], []⟩ : Leaf).val]) IL.K (by decide) rfl rfl rfl (by decide) H ?_
      intro L w H
      refine OpsE.val (x_nilCheck rfl) ?_
      refine OpsE.val (x_fieldAddr0 rfl Try.runUnderlying80 rfl rfl Try.sizeOf78) ?_
      refine OpsE.store (v := .slice _ _ _) rfl rfl rfl rfl Try.sizeOf78 H (by rw [List.length_set]; omega) ?_
      intro w H
      refine OpsE.nil ?_
      refine Then.normal ?_
      refine WP.seq ?_
      refine WP.region ?_
      refine OpsE.val (x_assign (v := .bool _) rfl) ?_
      refine OpsE.nil ?_
      refine Then.normal ?_
      refine WP.ret ?_
      refine Then.ret ?_
      refine Leave0.ret (v := .bool _) rfl ?_
      have hA : all [(⟨g, 1, [⟨key, u⟩], []⟩ : Leaf)] = putL (all []) ⟨key, u⟩ := rfl
      refine ⟨false, ⟨[(⟨g, 1, [⟨key, u⟩], []⟩ : Leaf)], some (L, 1, [])⟩, rfl, ⟨ok_of ?_ ?_ ?_, fun h => (by cases h), fun L' c' tl' h => ?_⟩, hA, ?_⟩
      · intro z hz
        rcases List.mem_singleton.1 hz with rfl
        exact ⟨by simp, rfl, by simp⟩
      · exact hs2
      · exact hl2
      · cases h; rfl
      · have e2 : (cs.set (ho + 1) (.int .i64 (((all ([] : List Leaf)).length + 1 : Nat) : Int))).set ho (.slice (some ⟨L, 0, none⟩) 1 1) = hset cs ho ⟨[(⟨g, 1, [⟨key, u⟩], []⟩ : Leaf)], some (L, 1, [])⟩ := List.set_comm _ _ (by omega)
        rw [e2] at H
        have H1 : Sat w (hd hb (hset cs ho ⟨[(⟨g, 1, [⟨key, u⟩], []⟩ : Leaf)], some (L, 1, [])⟩) TH :: pt L (arrO [(⟨g, 1, [⟨key, u⟩], []⟩ : Leaf)] []) :: (⟨g, 1, [⟨key, u⟩], []⟩ : Leaf).at :: Tr.ap ⟨[], arr⟩ :: Lvs [] :: r) := H
        have H2 := (H1.take (Tr.ap ⟨[], arr⟩)).tail
        refine H2.perm ?_
        show HP.sep _ (HP.sep _ (HP.sep _ (HP.sep _ _))) = HP.sep _ (HP.sep _ (HP.sep (HP.sep _ _) _))
        rw [HP.sep_assoc]; rfl
    · rw [decide_eq_false h0]
      refine OpsE.nil ?_
      refine Then.normal ?_
      refine WP.cond_f rfl rfl ?_
      refine WP.skip ?_
      refine Then.normal ?_
      refine WP.seq ?_
      refine WP.region ?_
      have hne : lv ≠ [] := fun h => h0 (by rw [h]; rfl)
      obtain ⟨L, cap, tl, rfl, hcap⟩ := Tr.Ok.some ok hne
      obtain ⟨P, x, Q, X, Y, rfl, rfl, hi, rfl, h1, h2, _, h4⟩ := F.split ok.ok hne
      replace h4 := h4 rfl
      have hch : cs[ho]? = some (.slice (some ⟨L, 0, none⟩) (P ++ x :: Q).length cap) := hc.hv
      obtain ⟨cs1, hcs1⟩ : ∃ c, cs.set (ho + 1) (.int .i64 (((all (P ++ x :: Q)).length + 1 : Nat) : Int)) = c := ⟨_, rfl⟩
      have hch1 : cs1[ho]? = some (.slice (some ⟨L, 0, none⟩) (P ++ x :: Q).length cap) := by rw [← hcs1, List.getElem?_set_ne (by omega)]; exact hch
      rw [hcs1] at H
      have H' : Sat w (x.at :: Lvs (P ++ Q) :: pt L (arrO (P ++ x :: Q) tl) :: hd hb cs1 TH :: r) := (lvOut (Sat.take2 (l := hd hb cs1 TH :: pt L (arrO (P ++ x :: Q) tl) :: Lvs (P ++ x :: Q) :: r) H (Lvs (P ++ x :: Q)) (pt L (arrO (P ++ x :: Q) tl)) ))
      have hxc : x.cells = X.flatMap itc ++ Y.flatMap itc ++ x.tl := by unfold Leaf.cells; rw [hi, List.flatMap_append]
      have hxo := ok.ok.leaf x (by simp)
      have hxl := hxo.len
      rw [hxc] at hxl
      simp only [List.length_append, flat_len itc_len] at hxl
      have hx9 := hxo.le
      have hn : x.its.length = X.length + Y.length := by rw [hi]; simp
      replace H : Sat w (pt x.blk (.cells x.cells.toArray 113 (0, 0)) :: Lvs (P ++ Q) :: pt L (arrO (P ++ x :: Q) tl) :: hd hb cs1 TH :: r) := H'
      rw [hxc] at H
      have hA2 : putL (all (P ++ x :: Q)) ⟨key, u⟩ = all P ++ (X ++ ⟨key, u⟩ :: Y) ++ all Q := by
        rw [all_mid, hi]
        have := putL_miss (y := ⟨key, u⟩) (L := all P ++ X) (R := Y ++ all Q) h1 (fun z hz => (List.mem_append.1 hz).elim (h4 z) (h2 z))
        rw [show all P ++ (X ++ Y) ++ all Q = all P ++ X ++ (Y ++ all Q) by simp, this]; simp
      have hlN : (P ++ x :: Q).length ≤ 1000000 := ok.ok.le
      have hlQ := lv_len P Q x
      refine OpsE.val (x_move (v := .pointer _) rfl) ?_
      refine OpsE.val (x_nilCheck rfl) ?_
      refine OpsE.val (x_fieldAddr0 rfl Try.runUnderlying80 rfl rfl Try.sizeOf78) ?_
      refine OpsE.val (x_load (v := .slice (some ⟨L, 0, none⟩) (P ++ x :: Q).length cap) rfl Try.isAgg78 (H.look _) (by simpa using hch1)) ?_
      refine OpsE.val (x_move (v := .int .i64 _) rfl) ?_
      refine OpsE.val (x_indexAddr1 (i := P.length) rfl rfl Try.runUnderlying78 Try.sizeOf114 rfl (by omega)) ?_
      refine OpsE.val (x_load (v := .slice _ _ _) rfl Try.isAgg114 (H.look L) (lv_mid P Q x tl)) ?_
      refine OpsE.val (x_move (v := .int .i64 _) rfl) ?_
      refine OpsE.val (x_move (v := .string _) rfl) ?_
      refine OpsE.val (x_move (v := .slice _ _ _) rfl) ?_
      refine OpsE.val (x_build2 (vl := [.string _, .slice _ _ _]) rfl Try.zeroValue113 Try.runUnderlying113 Try.sizeOf9 Try.sizeOf84 rfl) ?_
      refine OpsE.buildSlice1 (vs := itc ⟨key, u⟩) IC.K (by decide) rfl rfl rfl (by decide) H ?_
      intro bv w H
      refine OpsE.call (x_call (vl := [.slice _ _ _, .int .i64 _, .slice _ _ _]) rfl Try.call64) (IC.Insert_spec (V := itc ⟨key, u⟩) H.swap hn (flat_len itc_len X) (flat_len itc_len Y) rfl (by omega) (by omega) (its_one X) (its_one Y) (fun z hz => its_one [⟨key, u⟩] z (by simpa using hz))) ?_
      rintro _ w ⟨b', c', tl', rfl, hbc, hbl, H⟩
      refine OpsE.val (x_assign (v := .slice _ _ _) rfl) ?_
      refine OpsE.nil ?_
      refine Then.normal ?_
      refine WP.seq ?_
      refine WP.region ?_
      refine OpsE.val (x_move (v := .pointer _) rfl) ?_
      refine OpsE.val (x_nilCheck rfl) ?_
      refine OpsE.val (x_fieldAddr0 rfl Try.runUnderlying80 rfl rfl Try.sizeOf78) ?_
      refine OpsE.val (x_load (v := .slice (some ⟨L, 0, none⟩) (P ++ x :: Q).length cap) rfl Try.isAgg78 (H.look _) (by simpa using hch1)) ?_
      refine OpsE.val (x_move (v := .int .i64 _) rfl) ?_
      refine OpsE.val (x_move (v := .slice _ _ _) rfl) ?_
      refine OpsE.val (x_indexAddr1 (i := P.length) rfl rfl Try.runUnderlying78 Try.sizeOf114 rfl (by omega)) ?_
      refine OpsE.store (v := .slice _ _ _) rfl rfl rfl rfl Try.sizeOf114 H (by simp) ?_
      intro w H
      refine OpsE.nil ?_
      refine Then.normal ?_
      refine WP.seq ?_
      refine WP.seq ?_
      refine WP.region ?_
      refine OpsE.val (x_move (v := .slice _ _ _) rfl) ?_
      obtain ⟨x', hx'⟩ : ∃ x' : Leaf, x' = ⟨b', c', X ++ ⟨key, u⟩ :: Y, tl'⟩ := ⟨_, rfl⟩
      have hxv : Value.slice (some ⟨b', 0, none⟩) (x.its.length + 1) c' = x'.val := by rw [hx']; unfold Leaf.val; dsimp only; rw [hn]; congr 1; simp; omega
      have hxc' : X.flatMap itc ++ itc ⟨key, u⟩ ++ Y.flatMap itc ++ tl' = x'.cells := by rw [hx']; unfold Leaf.cells; simp
      have hxb : x'.its.length = x.its.length + 1 := by rw [hx', hn]; simp; omega
      have hx'l : x'.cells.length = x'.cap * 2 := by rw [← hxc', hx']; simp only [List.length_append, flat_len itc_len, itc_len]; omega
      have hA3 : all (P ++ x' :: Q) = putL (all (P ++ x :: Q)) ⟨key, u⟩ := by rw [hA2, all_mid, hx']
      rw [hxv, lv_set, hxc'] at H
      have H1 : Sat w (pt L (arrO (P ++ x' :: Q) tl) :: x'.at :: Lvs (P ++ Q) :: hd hb cs1 TH :: r) := by rw [hx'] at H ⊢; exact H
      refine OpsE.val (x_lenL rfl rfl Try.runUnderlying114) ?_
      refine OpsE.val (x_gt rfl rfl) ?_
      by_cases hgt : ((x.its.length + 1 : Nat) : Int) > 8
      · rw [decide_eq_true hgt]
        refine OpsE.nil ?_
        refine Then.normal ?_
        refine WP.cond_t rfl rfl ?_
        refine WP.seq ?_
        refine WP.region ?_
        refine OpsE.val (x_move (v := .slice _ _ _) rfl) ?_
        obtain ⟨n', hn'⟩ : ∃ n', x.its.length + 1 = n' := ⟨_, rfl⟩
        have H0 : Sat w (pt b' (.cells x'.cells.toArray 113 (0, 0)) :: pt L (arrO (P ++ x' :: Q) tl) :: Lvs (P ++ Q) :: hd hb cs1 TH :: r) := by
          have := Sat.take2 H1 x'.at (pt L (arrO (P ++ x' :: Q) tl))
          rw [hx'] at this ⊢; exact this
        have hsp : x'.cells = (x'.its.take (n' / 2)).flatMap itc ++ (x'.its.drop (n' / 2)).flatMap itc ++ x'.tl := by
          unfold Leaf.cells; rw [← List.flatMap_append, List.take_append_drop]
        rw [hn'] at hxb hgt hbc hbl ⊢
        refine OpsE.call (x_call (vl := [.slice _ _ _]) rfl Try.call65) (halves_spec (X1 := (x'.its.take (n' / 2)).flatMap itc) (X2 := (x'.its.drop (n' / 2)).flatMap itc) (tl := x'.tl) H0 (fun w H => by rw [← hsp]; exact H.pt_get) (by rw [flat_len itc_len, List.length_take]; congr 1; omega) (by rw [flat_len itc_len, List.length_drop, hxb]) (by omega) (by omega) (its_one _) (its_one _)) ?_
        rintro _ w ⟨g1, c1, t1, g2, c2, t2, rfl, hc1, hl1, hc2, hl2', H⟩
        obtain ⟨a, ha⟩ : ∃ a : Leaf, a = ⟨g1, c1, x'.its.take (n' / 2), t1⟩ := ⟨_, rfl⟩
        obtain ⟨b, hb'⟩ : ∃ b : Leaf, b = ⟨g2, c2, x'.its.drop (n' / 2), t2⟩ := ⟨_, rfl⟩
        have hav : Value.slice (some ⟨g1, 0, none⟩) (n' / 2) c1 = a.val := by rw [ha]; unfold Leaf.val; dsimp only; rw [List.length_take]; congr 1; omega
        have hbv : Value.slice (some ⟨g2, 0, none⟩) (n' - n' / 2) c2 = b.val := by rw [hb']; unfold Leaf.val; dsimp only; rw [List.length_drop, hxb]
        have hal : a.its.length = n' / 2 := by rw [ha]; dsimp only; rw [List.length_take]; omega
        have hbl2 : b.its.length = n' - n' / 2 := by rw [hb']; dsimp only; rw [List.length_drop, hxb]
        have haO : a.Ok := by
          refine ⟨fun h => ?_, ?_, by omega⟩
          · rw [h] at hal; simp at hal; omega
          · unfold Leaf.cells; rw [List.length_append, flat_len itc_len, hal, ha]; exact hl1
        have hbO : b.Ok := by
          refine ⟨fun h => ?_, ?_, by omega⟩
          · rw [h] at hbl2; simp at hbl2; omega
          · unfold Leaf.cells; rw [List.length_append, flat_len itc_len, hbl2, hb']; exact hl2'
        have H3 : Sat w (b.at :: a.at :: pt b' (.cells x'.cells.toArray 113 (0, 0)) :: pt L (arrO (P ++ x' :: Q) tl) :: Lvs (P ++ Q) :: hd hb cs1 TH :: r) := by rw [ha, hb']; exact H
        replace H : Sat w (pt L (arrO (P ++ x' :: Q) tl) :: b.at :: a.at :: Lvs (P ++ Q) :: hd hb cs1 TH :: r) := (Sat.take2 H3 (pt b' (.cells x'.cells.toArray 113 (0, 0))) (pt L (arrO (P ++ x' :: Q) tl))).tail
        refine OpsE.val (x_move (v := .tuple _) rfl) ?_
        refine OpsE.val (x_extract (v := .slice _ _ _) rfl rfl) ?_
        refine OpsE.val (x_extract (v := .slice _ _ _) rfl rfl) ?_
        refine OpsE.val (x_assign (v := .slice _ _ _) rfl) ?_
        refine OpsE.val (x_assign (v := .slice _ _ _) rfl) ?_
        refine OpsE.nil ?_
        refine Then.normal ?_
        refine WP.seq ?_
        refine WP.region ?_
        refine OpsE.val (x_move (v := .pointer _) rfl) ?_
        refine OpsE.val (x_nilCheck rfl) ?_
        refine OpsE.val (x_fieldAddr0 rfl Try.runUnderlying80 rfl rfl Try.sizeOf78) ?_
        refine OpsE.val (x_load (v := .slice (some ⟨L, 0, none⟩) (P ++ x :: Q).length cap) rfl Try.isAgg78 (H.look _) (by simpa using hch1)) ?_
        refine OpsE.val (x_move (v := .int .i64 _) rfl) ?_
        refine OpsE.val (x_move (v := .slice _ _ _) rfl) ?_
        refine OpsE.val (x_indexAddr1 (i := P.length) rfl rfl Try.runUnderlying78 Try.sizeOf114 rfl (by omega)) ?_
        refine OpsE.store (v := .slice _ _ _) rfl rfl rfl rfl Try.sizeOf114 H (by simp) ?_
        intro w H
        refine OpsE.nil ?_
        refine Then.normal ?_
        refine WP.region ?_
        rw [hav, lv_set] at H
        refine OpsE.val (x_move (v := .pointer _) rfl) ?_
        refine OpsE.val (x_move (v := .pointer _) rfl) ?_
        refine OpsE.val (x_nilCheck rfl) ?_
        refine OpsE.val (x_fieldAddr0 rfl Try.runUnderlying80 rfl rfl Try.sizeOf78) ?_
        refine OpsE.val (x_load (v := .slice (some ⟨L, 0, none⟩) (P ++ x :: Q).length cap) rfl Try.isAgg78 (H.look _) (by simpa using hch1)) ?_
        refine OpsE.val (x_move (v := .int .i64 _) rfl) ?_
        refine OpsE.val (x_add (z := ((P.length + 1 : Nat) : Int)) rfl rfl (by rw [i64n (by omega) (by omega)]; omega)) ?_
        refine OpsE.val (x_move (v := .slice _ _ _) rfl) ?_
        refine OpsE.buildSlice1 (vs := [b.val]) IL.K (by decide) rfl (by rw [hbv]; rfl) rfl (by decide) H ?_
        intro bv2 w H
        have e5 : (P ++ a :: Q).map Leaf.val ++ tl = (P ++ [a]).map Leaf.val ++ Q.map Leaf.val ++ tl := by simp
        rw [show pt L (arrO (P ++ a :: Q) tl) = pt L (.cells ((P ++ [a]).map Leaf.val ++ Q.map Leaf.val ++ tl).toArray IL.TE (0, 0)) by unfold arrO; rw [e5]] at H
        refine OpsE.call (x_call (vl := [.slice _ _ _, .int .i64 _, .slice _ _ _]) rfl Try.call66) (IL.Insert_spec (V := [b.val]) H.swap (k := Q.length) (by omega) (by simp) (by simp) rfl (by omega) (by omega) (vals_one _) (vals_one _) (by simp [Leaf.val, Value.oneCell'])) ?_
        rintro _ w ⟨L2, cap2, tl2, rfl, hL1, hL2, H⟩
        refine OpsE.val (x_nilCheck rfl) ?_
        refine OpsE.val (x_fieldAddr0 rfl Try.runUnderlying80 rfl rfl Try.sizeOf78) ?_
        refine OpsE.store (v := .slice _ _ _) rfl rfl rfl rfl Try.sizeOf78 H (by rw [← hcs1, List.length_set]; omega) ?_
        intro w H
        refine OpsE.nil ?_
        refine Then.normal ?_
        refine WP.seq ?_
        refine WP.region ?_
        refine OpsE.val (x_assign (v := .bool _) rfl) ?_
        refine OpsE.nil ?_
        refine Then.normal ?_
        refine WP.ret ?_
        refine Leave0.ret (v := .bool _) rfl ?_
        have e6 : (P ++ [a]).map Leaf.val ++ [b.val] ++ Q.map Leaf.val ++ tl2 = (P ++ a :: b :: Q).map Leaf.val ++ tl2 := by simp
        have hA4 : all (P ++ a :: b :: Q) = putL (all (P ++ x :: Q)) ⟨key, u⟩ := by
          rw [← hA3, all_mid, all_mid, ha, hb']
          have : all (({ blk := g2, cap := c2, its := x'.its.drop (n' / 2), tl := t2 } : Leaf) :: Q) = x'.its.drop (n' / 2) ++ all Q := rfl
          rw [this]; dsimp only
          rw [← List.append_assoc, List.append_assoc (all P), List.take_append_drop]
        rw [e6] at H
        refine ⟨false, ⟨P ++ a :: b :: Q, some (L2, cap2, tl2)⟩, rfl, ⟨ok_of ?_ ?_ ?_, fun h => (by cases h), fun L' c' tl' h => ?_⟩, hA4, ?_⟩
        · intro z hz
          rcases List.mem_append.1 hz with hz | hz
          · exact ok.ok.leaf z (by simp [hz])
          · rcases List.mem_cons.1 hz with rfl | hz
            · exact haO
            · rcases List.mem_cons.1 hz with rfl | hz
              · exact hbO
              · exact ok.ok.leaf z (by simp [hz])
        · dsimp only; rw [hA4]; exact hs2
        · dsimp only; rw [hA4]; exact hl2
        · cases h; dsimp only; rw [lv_len, List.length_cons]; omega
        · have e2 : cs1.set ho (.slice (some ⟨L2, 0, none⟩) ((P ++ x :: Q).length + 1) cap2) = hset cs ho ⟨P ++ a :: b :: Q, some (L2, cap2, tl2)⟩ := by
            unfold hset
            have e3 : Tr.hv ⟨P ++ a :: b :: Q, some (L2, cap2, tl2)⟩ = .slice (some ⟨L2, 0, none⟩) ((P ++ x :: Q).length + 1) cap2 := by show Value.slice _ _ _ = _; rw [lv_len, lv_len]; rfl
            rw [e3, ← hcs1, List.set_comm _ _ (by omega)]
            congr 3; dsimp only; rw [hA4, hA2, all_mid, hi]; simp; omega
          rw [e2] at H
          have H4 : Sat w (hd hb (hset cs ho ⟨P ++ a :: b :: Q, some (L2, cap2, tl2)⟩) TH :: pt L2 (arrO (P ++ a :: b :: Q) tl2) :: b.at :: a.at :: Lvs (P ++ Q) :: r) := H
          refine H4.perm ?_
          show HP.sep _ (HP.sep _ (HP.sep _ (HP.sep _ (HP.sep _ _)))) = HP.sep _ (HP.sep _ (HP.sep _ _))
          rw [Lvs_mid, Lvs_mid P Q b, HP.sep_assoc, HP.sep_assoc, HP.sep_left b.at]; rfl
      · rw [decide_eq_false hgt]
        refine OpsE.nil ?_
        refine Then.normal ?_
        refine WP.cond_f rfl rfl ?_
        refine WP.skip ?_
        refine Then.normal ?_
        refine WP.seq ?_
        refine WP.region ?_
        refine OpsE.val (x_assign (v := .bool _) rfl) ?_
        refine OpsE.nil ?_
        refine Then.normal ?_
        refine WP.ret ?_
        refine Leave0.ret (v := .bool _) rfl ?_
        refine ⟨false, ⟨P ++ x' :: Q, some (L, cap, tl)⟩, rfl, ⟨ok_of ?_ ?_ ?_, fun h => (by cases h), fun L' c' tl' h => ?_⟩, hA3, ?_⟩
        · intro z hz
          rcases List.mem_append.1 hz with hz | hz
          · exact ok.ok.leaf z (by simp [hz])
          · rcases List.mem_cons.1 hz with rfl | hz
            · exact ⟨fun h => by rw [h] at hxb; simp at hxb, hx'l, by omega⟩
            · exact ok.ok.leaf z (by simp [hz])
        · dsimp only; rw [hA3]; exact hs2
        · dsimp only; rw [hA3]; exact hl2
        · cases h; have h := hcap; dsimp only at h ⊢; rw [lv_len] at h ⊢; exact h
        · have e2 : hset cs ho ⟨P ++ x' :: Q, some (L, cap, tl)⟩ = cs1 := by
            unfold hset
            have e3 : Tr.hv ⟨P ++ x' :: Q, some (L, cap, tl)⟩ = .slice (some ⟨L, 0, none⟩) (P ++ x :: Q).length cap := by show Value.slice _ _ _ = _; rw [lv_len, lv_len]
            rw [e3, set_same hch, ← hcs1]
            congr 3; dsimp only; rw [all_mid, all_mid, hx', hi]; simp; omega
          rw [e2]
          have H2 : Sat w (x'.at :: Lvs (P ++ Q) :: pt L (arrO (P ++ x' :: Q) tl) :: hd hb cs1 TH :: r) := Sat.take2 H1 _ _
          exact Sat.take3 (lvIn H2) (hd hb cs1 TH) (pt L (arrO (P ++ x' :: Q) tl)) (Lvs (P ++ x' :: Q))
end Go.Proofs.Ytbhbdpbhhfemhaa.TC

/-
  The tree of keys: Concat, join, Drop.
-/
namespace Go.Proofs.Ytbhbdpbhhfemhaa.TC
open Go Go.Proofs
set_option maxRecDepth 100000
set_option maxHeartbeats 4000000
set_option linter.unusedVariables false

theorem Grow_spec {w : World} {l : List HP} {n : Nat} (H : Sat w l) (h0 : 0 < n) (hn : n ≤ 100000) :
    Calls Try.prog 109 #[.slice none 0 0, .int .i64 n] w (Ret fun v w' => ∃ (g c' : Nat) (tl' : List Value), v = .slice (some ⟨g, 0, none⟩) 0 c' ∧ n ≤ c' ∧ tl'.length = c' * 2 ∧
      Sat w' (pt g (.cells tl'.toArray 113 (0, 0)) :: l)) := by
  refine Calls.of_wp Try.func109 rfl Try.ntmps109 Try.results109 (Nat.le_of_ble_eq_true rfl) ?_
  refine WP.seq ?_
  refine WP.region ?_
  refine OpsE.val (x_assign (v := .slice _ _ _) rfl) ?_
  refine OpsE.nil ?_
  refine Then.normal ?_
  refine WP.seq ?_
  refine WP.seq ?_
  refine WP.region ?_
  refine OpsE.val (x_move (v := .int .i64 _) rfl) ?_
  refine OpsE.val (x_lt rfl rfl) ?_
  rw [decide_eq_false (by omega)]
  refine OpsE.nil ?_
  refine Then.normal ?_
  refine WP.cond_f rfl rfl ?_
  refine WP.skip ?_
  refine Then.normal ?_
  refine WP.seq ?_
  refine WP.seq ?_
  refine WP.region ?_
  refine OpsE.val (x_move (v := .int .i64 _) rfl) ?_
  refine OpsE.val (x_move (v := .slice _ _ _) rfl) ?_
  refine OpsE.val (x_cap rfl rfl Try.runUnderlying114) ?_
  refine OpsE.val (x_move (v := .slice _ _ _) rfl) ?_
  refine OpsE.val (x_lenL rfl rfl Try.runUnderlying114) ?_
  refine OpsE.val (x_sub (z := 0) rfl rfl rfl) ?_
  refine OpsE.val (x_sub (z := (n : Int)) rfl rfl (by rw [i64n (by omega) (by omega)]; omega)) ?_
  refine OpsE.val (x_assign (v := .int .i64 _) rfl) ?_
  refine OpsE.nil ?_
  refine Then.normal ?_
  refine WP.seq ?_
  refine WP.region ?_
  refine OpsE.val (x_move (v := .int .i64 _) rfl) ?_
  refine OpsE.val (x_gt rfl rfl) ?_
  rw [decide_eq_true (by omega)]
  refine OpsE.nil ?_
  refine Then.normal ?_
  refine WP.cond_t rfl rfl ?_
  refine WP.region ?_
  refine OpsE.val (x_move (v := .slice _ _ _) rfl) ?_
  refine OpsE.val (x_move (v := .slice _ _ _) rfl) ?_
  refine OpsE.val (x_cap rfl rfl Try.runUnderlying114) ?_
  refine OpsE.val (x_slHi (h := 0) rfl rfl Try.runUnderlying114 Try.sizeOf113 rfl (by omega)) ?_
  refine OpsE.val (x_move (v := .int .i64 _) rfl) ?_
  refine OpsE.append_make (m := n) (olds := []) rfl IC.K Try.underlying3 rfl rfl rfl H (.inl ⟨rfl, rfl, rfl⟩) (by omega) (by omega) (by omega) (by omega) (by omega) ?_
  intro g c' tl' w h1 h2 H
  refine OpsE.val (x_move (v := .slice _ _ _) rfl) ?_
  refine OpsE.val (x_lenL rfl rfl Try.runUnderlying114) ?_
  refine OpsE.val (x_slHi (h := 0) rfl rfl Try.runUnderlying114 Try.sizeOf113 rfl (by omega)) ?_
  refine OpsE.val (x_assign (v := .slice _ _ _) rfl) ?_
  refine OpsE.nil ?_
  refine Then.normal ?_
  refine WP.seq ?_
  refine WP.region ?_
  refine OpsE.val (x_move (v := .slice _ _ _) rfl) ?_
  refine OpsE.val (x_assign (v := .slice _ _ _) rfl) ?_
  refine OpsE.nil ?_
  refine Then.normal ?_
  refine WP.ret ?_
  refine Leave0.ret (v := .slice _ _ _) rfl ?_
  exact ⟨g, c', tl', rfl, by omega, by simpa using h2, by simpa using H⟩

structure Part where
  b : Nat
  n : Nat
  c : Nat
  X : List Value
  t : List Value
def Part.val (p : Part) : Value := .slice (some ⟨p.b, 0, none⟩) p.n p.c
def cnt (ps : List Part) (s : Nat) : Nat := ((ps.take s).map Part.n).sum
def cont (ps : List Part) (s : Nat) : List Value := (ps.take s).flatMap Part.X
theorem cnt_succ {ps : List Part} {s : Nat} {p : Part} (h : ps[s]? = some p) : cnt ps (s + 1) = cnt ps s + p.n := by
  obtain ⟨hs, e⟩ := List.getElem?_eq_some_iff.1 h
  unfold cnt; rw [← List.take_append_getElem hs, e]; simp
theorem cont_succ {ps : List Part} {s : Nat} {p : Part} (h : ps[s]? = some p) : cont ps (s + 1) = cont ps s ++ p.X := by
  obtain ⟨hs, e⟩ := List.getElem?_eq_some_iff.1 h
  unfold cont; rw [← List.take_append_getElem hs, e]; simp
theorem cnt_le {ps : List Part} {s : Nat} (m : Nat) (h : s + m = ps.length) : cnt ps s ≤ cnt ps ps.length := by
  induction m generalizing s with
  | zero => have : s = ps.length := by omega
            subst this; exact Nat.le_refl _
  | succ m ih =>
    have hp : ps[s]? = some (ps[s]'(by omega)) := by simp
    have := ih (s := s + 1) (by omega)
    rw [cnt_succ hp] at this; omega

theorem cont_len {ps : List Part} (h : ∀ p ∈ ps, p.X.length = p.n * 2) : ∀ s, (cont ps s).length = cnt ps s * 2 := by
  intro s
  unfold cont cnt
  have : ∀ q : List Part, (∀ p ∈ q, p.X.length = p.n * 2) → (q.flatMap Part.X).length = (q.map Part.n).sum * 2 := by
    intro q hq
    induction q with
    | nil => simp
    | cons p q ih =>
      have h1 := hq p (by simp)
      have h2 := ih fun z hz => hq z (by simp [hz])
      simp only [List.flatMap_cons, List.length_append, List.map_cons, List.sum_cons, Nat.add_mul]; omega
  exact this _ fun p hp => h p (List.mem_of_mem_take hp)

theorem Concat_spec {w : World} {l : List HP} {bs : Nat} {ps : List Part} {tB : TypeId} (H : Sat w l) (hs : ∀ w, Sat w l → w.heap[bs]? = some (.cells (ps.map Part.val).toArray tB (0, 0))) (hps : ∀ p ∈ ps, (∀ w, Sat w l → w.heap[p.b]? = some (.cells (p.X ++ p.t).toArray 113 (0, 0))) ∧ p.X.length = p.n * 2 ∧ ∀ u ∈ p.X, u.oneCell' = true)
    (h0 : 0 < cnt ps ps.length) (hn : cnt ps ps.length ≤ 10000) (hl : ps.length ≤ 1000) :
    Calls Try.prog 97 #[.slice (some ⟨bs, 0, none⟩) ps.length ps.length] w (Ret fun v w' => ∃ g c' tl', v = .slice (some ⟨g, 0, none⟩) (cnt ps ps.length) c' ∧ cnt ps ps.length ≤ c' ∧ cnt ps ps.length * 2 + tl'.length = c' * 2 ∧
      Sat w' (pt g (.cells (cont ps ps.length ++ tl').toArray 113 (0, 0)) :: l)) := by
  refine Calls.of_wp Try.func97 rfl Try.ntmps97 Try.results97 (Nat.le_of_ble_eq_true rfl) ?_
  refine WP.seq ?_
  refine WP.region ?_
  refine OpsE.val (x_assign (v := .slice _ _ _) rfl) ?_
  refine OpsE.nil ?_
  refine Then.normal ?_
  refine WP.seq ?_
  refine WP.region ?_
  refine OpsE.val (x_assign (v := .int .i64 _) rfl) ?_
  refine OpsE.nil ?_
  refine Then.normal ?_
  refine WP.seq ?_
  refine WP.seq ?_
  refine WP.region ?_
  refine OpsE.val (x_move (v := .slice _ _ _) rfl) ?_
  refine OpsE.val (x_lenL rfl rfl Try.runUnderlying78) ?_
  refine OpsE.val (x_move (v := .int .i64 _) rfl) ?_
  refine OpsE.nil ?_
  refine Then.normal ?_
  refine WP.block ?_
  refine WP.loopS [3, 5, 11, 12, 13, 14, 15, 16, 17, 18, 19, 20, 21, 22] (fun (s : Nat) E w => E 11 = .int .i64 (s : Int) ∧ E 3 = .int .i64 (cnt ps s : Int) ∧ s ≤ ps.length ∧ Sat w l) (fun s => ps.length - s) 0 ⟨rfl, rfl, Nat.zero_le _, H⟩ ?_
  rintro s E1 w hs' ⟨e11, e3, hsl, H⟩
  refine WP.seq ?_
  refine WP.region ?_
  refine OpsE.val (x_lt e11 (hs' 10 rfl)) ?_
  by_cases hlt : (s : Int) < (ps.length : Int)
  · rw [decide_eq_true hlt]
    refine OpsE.nil ?_
    refine Then.normal ?_
    refine WP.seq ?_
    refine WP.cond_t rfl rfl ?_
    refine WP.skip ?_
    refine Then.normal ?_
    refine WP.seq ?_
    refine WP.block ?_
    refine WP.seq ?_
    refine WP.region ?_
    refine OpsE.val (x_indexAddr1 (i := s) (hs' 9 rfl) e11 Try.runUnderlying78 Try.sizeOf114 rfl (by omega)) ?_
    obtain ⟨p, hp⟩ : ∃ p, ps[s]? = some p := ⟨_, List.getElem?_eq_getElem (by omega)⟩
    have hc1 := cnt_succ hp
    have hc2 := cnt_le (ps := ps) (s := s + 1) (ps.length - (s + 1)) (by omega)
    refine OpsE.val (x_load (v := .slice (some ⟨p.b, 0, none⟩) p.n p.c) rfl Try.isAgg114 (hs w H) (by simp [hp, Part.val])) ?_
    refine OpsE.val (x_assign (v := .slice _ _ _) rfl) ?_
    refine OpsE.nil ?_
    refine Then.normal ?_
    refine WP.seq ?_
    refine WP.region ?_
    refine OpsE.val (x_move (v := .int .i64 _) e3) ?_
    refine OpsE.val (x_move (v := .slice _ _ _) rfl) ?_
    refine OpsE.val (x_lenL rfl rfl Try.runUnderlying114) ?_
    refine OpsE.val (x_add (z := ((cnt ps (s + 1) : Nat) : Int)) rfl rfl (by rw [i64n (by omega) (by omega)]; omega)) ?_
    refine OpsE.val (x_assign (v := .int .i64 _) rfl) ?_
    refine OpsE.nil ?_
    refine Then.normal ?_
    refine WP.seq ?_
    refine WP.region ?_
    refine OpsE.val (x_move (v := .int .i64 _) rfl) ?_
    refine OpsE.val (x_lt rfl rfl) ?_
    rw [decide_eq_false (by omega)]
    refine OpsE.nil ?_
    refine Then.normal ?_
    refine WP.cond_f rfl rfl ?_
    refine WP.skip ?_
    refine InBlock.normal ?_
    refine Then.normal ?_
    refine WP.region ?_
    refine OpsE.val (x_add (z := ((s + 1 : Nat) : Int)) e11 rfl (by rw [i64n (by omega) (by omega)]; omega)) ?_
    refine OpsE.val (x_move (v := .int .i64 _) rfl) ?_
    refine OpsE.nil ?_
    refine Then.normal ?_
    exact ⟨rfl, (by repeat (first | exact hs' | refine Same.upd ?_ rfl)), s + 1, (by omega), rfl, rfl, (by omega), H⟩
  · rw [decide_eq_false hlt]
    refine OpsE.nil ?_
    refine Then.normal ?_
    refine WP.seq ?_
    refine WP.cond_f rfl rfl ?_
    refine WP.exit ?_
    refine Then.exit ?_
    refine Then.exit ?_
    refine InBlock.hit ?_
    refine Then.normal ?_
    refine WP.seq ?_
    refine WP.region ?_
    refine OpsE.val (x_move (v := .int .i64 _) e3) ?_
    have hse : s = ps.length := by omega
    subst hse
    refine OpsE.call (x_call (vl := [.slice none 0 0, .int .i64 _]) rfl Try.call109) (Grow_spec H h0 (by omega)) ?_
    rintro _ w ⟨g, c', tl', rfl, hg1, hg2, H⟩
    refine OpsE.val (x_assign (v := .slice _ _ _) rfl) ?_
    refine OpsE.nil ?_
    refine Then.normal ?_
    refine WP.seq ?_
    refine WP.seq ?_
    refine WP.region ?_
    refine OpsE.val (x_move (v := .slice _ _ _) (hs' 0 rfl)) ?_
    refine OpsE.val (x_lenL rfl rfl Try.runUnderlying78) ?_
    refine OpsE.val (x_move (v := .int .i64 _) rfl) ?_
    refine OpsE.nil ?_
    refine Then.normal ?_
    refine WP.block ?_
    refine WP.loopS [6, 8, 27, 28, 29, 30, 31, 32, 33, 34] (fun (s : Nat) E w => ∃ g c' tl', E 27 = .int .i64 (s : Int) ∧ E 6 = .slice (some ⟨g, 0, none⟩) (cnt ps s) c' ∧ s ≤ ps.length ∧ cnt ps s ≤ c' ∧ cnt ps s * 2 + tl'.length = c' * 2 ∧ Sat w (pt g (.cells (cont ps s ++ tl').toArray 113 (0, 0)) :: l)) (fun s => ps.length - s) 0 ⟨g, c', tl', rfl, rfl, Nat.zero_le _, Nat.zero_le _, (by show 0 * 2 + _ = _; omega), H⟩ ?_
    rintro s E1 w hs' ⟨g, c', tl', e27, e6, hsl, hg1, hg2, H⟩
    refine WP.seq ?_
    refine WP.region ?_
    refine OpsE.val (x_lt e27 (hs' 26 rfl)) ?_
    by_cases hlt : (s : Int) < (ps.length : Int)
    · rw [decide_eq_true hlt]
      refine OpsE.nil ?_
      refine Then.normal ?_
      refine WP.seq ?_
      refine WP.cond_t rfl rfl ?_
      refine WP.skip ?_
      refine Then.normal ?_
      refine WP.seq ?_
      refine WP.block ?_
      refine WP.seq ?_
      refine WP.region ?_
      refine OpsE.val (x_indexAddr1 (i := s) (hs' 25 rfl) e27 Try.runUnderlying78 Try.sizeOf114 rfl (by omega)) ?_
      obtain ⟨p, hp⟩ : ∃ p, ps[s]? = some p := ⟨_, List.getElem?_eq_getElem (by omega)⟩
      have hc1 := cnt_succ hp
      have hc2 := cnt_le (ps := ps) (s := s + 1) (ps.length - (s + 1)) (by omega)
      obtain ⟨hp1, hp2, hp3⟩ := hps p (List.mem_of_getElem? hp)
      have hcl : (cont ps s).length = cnt ps s * 2 := cont_len (fun p hp => (hps p hp).2.1) s
      refine OpsE.val (x_load (v := .slice (some ⟨p.b, 0, none⟩) p.n p.c) rfl Try.isAgg114 (hs w H.tail) (by simp [hp, Part.val])) ?_
      refine OpsE.val (x_assign (v := .slice _ _ _) rfl) ?_
      refine OpsE.nil ?_
      refine Then.normal ?_
      refine WP.region ?_
      refine OpsE.val (x_move (v := .slice _ _ _) e6) ?_
      refine OpsE.val (x_move (v := .slice _ _ _) rfl) ?_
      refine OpsE.append_own (olds := cont ps s) (tl := tl') (news := p.X) rfl IC.K rfl rfl H hcl hg2 (hp1 w H.tail) (by simp) hp2 hp3 (by omega) (by omega) ?_
      intro g' c2 tl2 w h1 h2 H
      rw [← hc1] at h1 h2
      rw [← cont_succ hp] at H
      refine OpsE.val (x_assign (v := .slice _ _ _) rfl) ?_
      refine OpsE.nil ?_
      refine InBlock.normal ?_
      refine Then.normal ?_
      refine WP.region ?_
      refine OpsE.val (x_add (z := ((s + 1 : Nat) : Int)) e27 rfl (by rw [i64n (by omega) (by omega)]; omega)) ?_
      refine OpsE.val (x_move (v := .int .i64 _) rfl) ?_
      refine OpsE.nil ?_
      refine Then.normal ?_
      refine ⟨rfl, (by repeat (first | exact hs' | refine Same.upd ?_ rfl)), s + 1, (by omega), g', c2, tl2, rfl, ?_, (by omega), h1, h2, H⟩
      rw [hc1]; rfl
    · rw [decide_eq_false hlt]
      refine OpsE.nil ?_
      refine Then.normal ?_
      refine WP.seq ?_
      refine WP.cond_f rfl rfl ?_
      refine WP.exit ?_
      refine Then.exit ?_
      refine Then.exit ?_
      refine InBlock.hit ?_
      refine Then.normal ?_
      refine WP.seq ?_
      refine WP.region ?_
      refine OpsE.val (x_move (v := .slice _ _ _) e6) ?_
      refine OpsE.val (x_assign (v := .slice _ _ _) rfl) ?_
      refine OpsE.nil ?_
      refine Then.normal ?_
      refine WP.ret ?_
      refine Leave0.ret (v := .slice _ _ _) rfl ?_
      have hse : s = ps.length := by omega
      subst hse
      exact ⟨g, c', tl', rfl, hg1, hg2, H⟩

/-- what a header says, and where its parts lie -/
theorem Hd.slice {cs : List Value} {ho : Nat} {lv : List Leaf} {L cap : Nat} {tl : List Value} (h : Hd cs ho ⟨lv, some (L, cap, tl)⟩) : cs[ho]? = some (.slice (some ⟨L, 0, none⟩) lv.length cap) := h.hv
theorem join_spec {w : World} {r : List HP} {cs : List Value} {t : Tr} {hb ho TH i : Nat} (H : Sat w (hd hb cs TH :: t.ap :: Lvs t.lv :: r)) (hc : Hd cs ho t) (ok : t.Ok) (hi : i ≤ 1000000) (hl : (all t.lv).length ≤ 1000000) :
    Calls Try.prog 71 #[.pointer (some ⟨hb, ho, none⟩), .int .i64 i] w (Ret fun v w' => ∃ (t' : Tr), t'.Ok ∧ all t'.lv = all t.lv ∧
      Sat w' (hd hb (cs.set ho t'.hv) TH :: t'.ap :: Lvs t'.lv :: r)) := by
  obtain ⟨lv, arr⟩ := t
  obtain ⟨a0, c0, hf⟩ := ok.form
  have hch0 := hc.hv
  rw [hf] at hch0
  have hlN : lv.length ≤ 1000000 := ok.ok.le
  have hlen := hc.len
  dsimp only at hch0
  refine Calls.of_wp Try.func71 rfl Try.ntmps71 Try.results71 (Nat.le_of_ble_eq_true rfl) ?_
  refine WP.seq ?_
  refine WP.draw (fun w => Sat w _) (by kernel_rfl) (by kernel_rfl) (H.heap rfl) ?_
  refine QuietE.val (fun w H => x_move (v := .int .i64 _) rfl) ?_
  refine QuietE.val (fun w H => x_add (z := ((i + 1 : Nat) : Int)) rfl rfl (by rw [i64n (by omega) (by omega)]; omega)) ?_
  refine QuietE.val (fun w H => x_move (v := .pointer _) rfl) ?_
  refine QuietE.val (fun w H => x_nilCheck rfl) ?_
  refine QuietE.val (fun w H => x_fieldAddr0 rfl Try.runUnderlying80 rfl rfl Try.sizeOf78) ?_
  refine QuietE.val (fun w H => x_load (v := .slice a0 lv.length c0) rfl Try.isAgg78 (H.look _) (by simpa using hch0)) ?_
  refine QuietE.val (fun w H => x_lenL rfl rfl Try.runUnderlying78) ?_
  refine QuietE.val (fun w H => x_lt rfl rfl) ?_
  by_cases hlt : ((i + 1 : Nat) : Int) < (lv.length : Int)
  · rw [decide_eq_true hlt]
    refine QuietE.val (fun w H => x_move (v := .bool _) rfl) ?_
    refine QuietE.yes rfl ?_
    obtain ⟨P, x1, x2, Q, rfl, rfl⟩ : ∃ P x1 x2 Q, lv = P ++ x1 :: x2 :: Q ∧ P.length = i := by
      refine ⟨lv.take i, lv[i]'(by omega), lv[i + 1]'(by omega), lv.drop (i + 2), ?_, by simp; omega⟩
      rw [← List.drop_eq_getElem_cons (by omega), ← List.drop_eq_getElem_cons (by omega), List.take_append_drop]
    obtain ⟨L, cap, tl, rfl, hcap⟩ := Tr.Ok.some ok (by simp)
    have hch := hc.slice
    have hx1 := ok.ok.leaf x1 (by simp)
    have hx2 := ok.ok.leaf x2 (by simp)
    have h19 := hx1.le
    have h29 := hx2.le
    have hx2m : ((P ++ x1 :: x2 :: Q).map Leaf.val ++ tl).toArray[P.length + 1]? = some (.slice (some ⟨x2.blk, 0, none⟩) x2.its.length x2.cap) := by
      simpa using lv_mid (P ++ [x1]) Q x2 tl
    have happ : ∀ w, Sat w (hd hb cs TH :: Tr.ap ⟨P ++ x1 :: x2 :: Q, some (L, cap, tl)⟩ :: Lvs (P ++ x1 :: x2 :: Q) :: r) → w.heap[L]? = some (arrO (P ++ x1 :: x2 :: Q) tl) := fun w H => Sat.look (l := hd hb cs TH :: pt L (arrO (P ++ x1 :: x2 :: Q) tl) :: Lvs (P ++ x1 :: x2 :: Q) :: r) H L
    refine QuietE.val (fun w H => x_move (v := .pointer _) rfl) ?_
    refine QuietE.yes rfl ?_
    refine QuietE.val (fun w H => x_nilCheck rfl) ?_
    refine QuietE.yes rfl ?_
    refine QuietE.val (fun w H => x_fieldAddr0 rfl Try.runUnderlying80 rfl rfl Try.sizeOf78) ?_
    refine QuietE.yes rfl ?_
    refine QuietE.val (fun w H => x_load (v := .slice (some ⟨L, 0, none⟩) (P ++ x1 :: x2 :: Q).length cap) rfl Try.isAgg78 (H.look _) (by simpa using hch)) ?_
    refine QuietE.yes rfl ?_
    refine QuietE.val (fun w H => x_move (v := .int .i64 _) rfl) ?_
    refine QuietE.yes rfl ?_
    refine QuietE.val (fun w H => x_indexAddr1 (i := P.length) rfl rfl Try.runUnderlying78 Try.sizeOf114 rfl (by omega)) ?_
    refine QuietE.yes rfl ?_
    refine QuietE.val (fun w H => x_load (v := .slice _ _ _) rfl Try.isAgg114 (happ w H) (lv_mid P (x2 :: Q) x1 tl)) ?_
    refine QuietE.yes rfl ?_
    refine QuietE.val (fun w H => x_lenL rfl rfl Try.runUnderlying114) ?_
    refine QuietE.yes rfl ?_
    refine QuietE.val (fun w H => x_move (v := .pointer _) rfl) ?_
    refine QuietE.yes rfl ?_
    refine QuietE.val (fun w H => x_nilCheck rfl) ?_
    refine QuietE.yes rfl ?_
    refine QuietE.val (fun w H => x_fieldAddr0 rfl Try.runUnderlying80 rfl rfl Try.sizeOf78) ?_
    refine QuietE.yes rfl ?_
    refine QuietE.val (fun w H => x_load (v := .slice (some ⟨L, 0, none⟩) (P ++ x1 :: x2 :: Q).length cap) rfl Try.isAgg78 (H.look _) (by simpa using hch)) ?_
    refine QuietE.yes rfl ?_
    refine QuietE.val (fun w H => x_move (v := .int .i64 _) rfl) ?_
    refine QuietE.yes rfl ?_
    refine QuietE.val (fun w H => x_add (z := ((P.length + 1 : Nat) : Int)) rfl rfl (by rw [i64n (by omega) (by omega)]; omega)) ?_
    refine QuietE.yes rfl ?_
    refine QuietE.val (fun w H => x_indexAddr1 (i := P.length + 1) rfl rfl Try.runUnderlying78 Try.sizeOf114 rfl (by omega)) ?_
    refine QuietE.yes rfl ?_
    refine QuietE.val (fun w H => x_load (v := .slice _ _ _) rfl Try.isAgg114 (happ w H) hx2m) ?_
    refine QuietE.yes rfl ?_
    refine QuietE.val (fun w H => x_lenL rfl rfl Try.runUnderlying114) ?_
    refine QuietE.yes rfl ?_
    refine QuietE.val (fun w H => x_add (z := ((x1.its.length + x2.its.length : Nat) : Int)) rfl rfl (by rw [i64n (by omega) (by omega)]; omega)) ?_
    refine QuietE.yes rfl ?_
    refine QuietE.val (fun w H => x_le rfl rfl) ?_
    by_cases h4 : ((x1.its.length + x2.its.length : Nat) : Int) ≤ 4
    · rw [decide_eq_true h4]
      refine QuietE.val (fun w H => x_pickT rfl rfl) ?_
      refine QuietE.nil ?_
      intro w H
      refine Then.normal ?_
      refine WP.cond_t rfl rfl ?_
      refine WP.seq ?_
      refine WP.mix (kdOf [0, 0, 0, 0, 0, 0, 0, 0, 0, 0, 0, 0, 0, 0, 0, 0, 0, 0, 0, 0, 1, 1]) (fun w => Sat w _) (by kernel_rfl) (by kernel_rfl) (fun w hw => Sat.heap (H) hw) ?_
      intro w hw; replace H := H.heap hw; clear hw
      refine MixE.q rfl (fun w H => x_move (v := .pointer _) rfl) ?_
      refine MixE.q rfl (fun w H => x_nilCheck rfl) ?_
      refine MixE.q rfl (fun w H => x_fieldAddr0 rfl Try.runUnderlying80 rfl rfl Try.sizeOf78) ?_
      refine MixE.q rfl (fun w H => x_load (v := .slice (some ⟨L, 0, none⟩) (P ++ x1 :: x2 :: Q).length cap) rfl Try.isAgg78 (H.look _) (by simpa using hch)) ?_
      refine MixE.q rfl (fun w H => x_move (v := .int .i64 _) rfl) ?_
      refine MixE.q rfl (fun w H => x_move (v := .pointer _) rfl) ?_
      refine MixE.q rfl (fun w H => x_nilCheck rfl) ?_
      refine MixE.q rfl (fun w H => x_fieldAddr0 rfl Try.runUnderlying80 rfl rfl Try.sizeOf78) ?_
      refine MixE.q rfl (fun w H => x_load (v := .slice (some ⟨L, 0, none⟩) (P ++ x1 :: x2 :: Q).length cap) rfl Try.isAgg78 (H.look _) (by simpa using hch)) ?_
      refine MixE.q rfl (fun w H => x_move (v := .int .i64 _) rfl) ?_
      refine MixE.q rfl (fun w H => x_indexAddr1 (i := P.length) rfl rfl Try.runUnderlying78 Try.sizeOf114 rfl (by omega)) ?_
      refine MixE.q rfl (fun w H => x_load (v := .slice _ _ _) rfl Try.isAgg114 (happ w H) (lv_mid P (x2 :: Q) x1 tl)) ?_
      refine MixE.q rfl (fun w H => x_move (v := .pointer _) rfl) ?_
      refine MixE.q rfl (fun w H => x_nilCheck rfl) ?_
      refine MixE.q rfl (fun w H => x_fieldAddr0 rfl Try.runUnderlying80 rfl rfl Try.sizeOf78) ?_
      refine MixE.q rfl (fun w H => x_load (v := .slice (some ⟨L, 0, none⟩) (P ++ x1 :: x2 :: Q).length cap) rfl Try.isAgg78 (H.look _) (by simpa using hch)) ?_
      refine MixE.q rfl (fun w H => x_move (v := .int .i64 _) rfl) ?_
      refine MixE.q rfl (fun w H => x_add (z := ((P.length + 1 : Nat) : Int)) rfl rfl (by rw [i64n (by omega) (by omega)]; omega)) ?_
      refine MixE.q rfl (fun w H => x_indexAddr1 (i := P.length + 1) rfl rfl Try.runUnderlying78 Try.sizeOf114 rfl (by omega)) ?_
      refine MixE.q rfl (fun w H => x_load (v := .slice _ _ _) rfl Try.isAgg114 (happ w H) hx2m) ?_
      refine MixE.one rfl ?_
      refine OpsE.buildSlice2 (vs := [x1.val]) (vs2 := [x2.val]) IL.K (by decide) rfl rfl rfl rfl rfl rfl (by decide) H ?_
      intro bs w H1
      refine OpsE.nil ⟨rfl, rfl, H1.tail, ?_⟩
      refine MixE.one rfl ?_
      have hat1 : ∀ w, Sat w (pt bs (.cells ([x1.val] ++ [x2.val]).toArray IL.TE (0, 0)) :: hd hb cs TH :: Tr.ap ⟨P ++ x1 :: x2 :: Q, some (L, cap, tl)⟩ :: Lvs (P ++ x1 :: x2 :: Q) :: r) → w.heap[x1.blk]? = some (.cells x1.cells.toArray 113 (0, 0)) := fun w H => (lvOut (P := P) (Q := x2 :: Q) (H.take (Lvs _))).pt_get
      have hat2 : ∀ w, Sat w (pt bs (.cells ([x1.val] ++ [x2.val]).toArray IL.TE (0, 0)) :: hd hb cs TH :: Tr.ap ⟨P ++ x1 :: x2 :: Q, some (L, cap, tl)⟩ :: Lvs (P ++ x1 :: x2 :: Q) :: r) → w.heap[x2.blk]? = some (.cells x2.cells.toArray 113 (0, 0)) := fun w H => by
        have := H.take (Lvs (P ++ x1 :: x2 :: Q))
        rw [show P ++ x1 :: x2 :: Q = (P ++ [x1]) ++ x2 :: Q by simp] at this
        exact (lvOut this).pt_get
      obtain ⟨ps, hps⟩ : ∃ ps : List Part, ps = [⟨x1.blk, x1.its.length, x1.cap, x1.its.flatMap itc, x1.tl⟩, ⟨x2.blk, x2.its.length, x2.cap, x2.its.flatMap itc, x2.tl⟩] := ⟨_, rfl⟩
      have hp1 : cnt ps ps.length = x1.its.length + x2.its.length := by rw [hps]; simp [cnt]
      have hp2 : cont ps ps.length = (x1.its ++ x2.its).flatMap itc := by rw [hps]; simp [cont]
      have hp0 : 0 < x1.its.length := List.length_pos_iff.2 hx1.ne
      have hpl : ps.length = 2 := by rw [hps]; rfl
      have hC := Concat_spec (ps := ps) H1 (bs := bs) (fun w H => by rw [H.pt_get, hps]; rfl) (fun p hp => by
        rw [hps] at hp
        rcases List.mem_cons.1 hp with rfl | hp
        · exact ⟨hat1, flat_len itc_len _, its_one _⟩
        · rcases List.mem_singleton.1 hp with rfl
          exact ⟨hat2, flat_len itc_len _, its_one _⟩) (by omega) (by omega) (by omega)
      rw [hp1, hp2, hpl] at hC
      refine OpsE.call (x_call (vl := [.slice _ _ _]) rfl Try.call97) hC ?_
      rintro _ w ⟨g, c', tl', rfl, hg1, hg2, H2⟩
      refine OpsE.nil ⟨rfl, rfl, H2.tail.tail, ?_⟩
      refine MixE.two _ (fun k _ => kdOf_ge (Nat.le_add_right _ _)) ?_
      obtain ⟨x', hx'⟩ : ∃ x' : Leaf, x' = ⟨g, c', x1.its ++ x2.its, tl'⟩ := ⟨_, rfl⟩
      have hxv : Value.slice (some ⟨g, 0, none⟩) (x1.its.length + x2.its.length) c' = x'.val := by rw [hx']; unfold Leaf.val; dsimp only; congr 1; simp
      have hxO : x'.Ok := by
        refine ⟨fun h => ?_, ?_, ?_⟩
        · rw [hx'] at h; dsimp only at h; rw [List.append_eq_nil_iff] at h; exact hx1.ne h.1
        · unfold Leaf.cells; rw [List.length_append, flat_len itc_len, hx']; dsimp only; rw [List.length_append]; exact hg2
        · rw [hx']; dsimp only; rw [List.length_append]; omega
      have H3 : Sat w (pt L (arrO (P ++ x1 :: x2 :: Q) tl) :: x'.at :: Lvs (P ++ Q) :: hd hb cs TH :: r) := by
        have h1 : Sat w (x'.at :: hd hb cs TH :: pt L (arrO (P ++ x1 :: x2 :: Q) tl) :: Lvs (P ++ x1 :: x2 :: Q) :: r) := by rw [hx']; exact H2.second
        have h2 := (lvOut (P := P) (Q := Q) (lvOut (P := P) (Q := x2 :: Q) (h1.take (Lvs (P ++ x1 :: x2 :: Q)))).tail).tail
        exact h2.take2 (pt L (arrO (P ++ x1 :: x2 :: Q) tl)) x'.at
      refine OpsE.val (x_indexAddr1 (i := P.length) rfl rfl Try.runUnderlying78 Try.sizeOf114 rfl (by omega)) ?_
      refine OpsE.store (v := .slice _ _ _) rfl rfl rfl rfl Try.sizeOf114 H3 (by simp) ?_
      intro w H
      rw [hxv, lv_set P (x2 :: Q) x1 x' tl] at H
      refine OpsE.nil ?_
      refine Then.normal ?_
      refine WP.region ?_
      refine OpsE.val (x_move (v := .pointer _) rfl) ?_
      refine OpsE.val (x_move (v := .pointer _) rfl) ?_
      refine OpsE.val (x_nilCheck rfl) ?_
      refine OpsE.val (x_fieldAddr0 rfl Try.runUnderlying80 rfl rfl Try.sizeOf78) ?_
      refine OpsE.val (x_load (v := .slice (some ⟨L, 0, none⟩) (P ++ x1 :: x2 :: Q).length cap) rfl Try.isAgg78 (H.look _) (by simpa using hch)) ?_
      refine OpsE.val (x_move (v := .int .i64 _) rfl) ?_
      refine OpsE.val (x_add (z := ((P.length + 1 : Nat) : Int)) rfl rfl (by rw [i64n (by omega) (by omega)]; omega)) ?_
      refine OpsE.val (x_move (v := .int .i64 _) rfl) ?_
      refine OpsE.val (x_add (z := ((P.length + 1 + 1 : Nat) : Int)) rfl rfl (by rw [i64n (by omega) (by omega)]; omega)) ?_
      have e5 : (P ++ x' :: x2 :: Q).map Leaf.val ++ tl = (P ++ [x']).map Leaf.val ++ [x2.val] ++ Q.map Leaf.val ++ tl := by simp
      have hlQ : (P ++ x1 :: x2 :: Q).length = P.length + 1 + 1 + Q.length := by simp; omega
      rw [e5] at H
      refine OpsE.call (x_call (vl := [.slice _ _ _, .int .i64 _, .int .i64 _]) rfl Try.call70) (IL.Delete_spec (i := P.length + 1) (k := Q.length) H hlQ (by simp) rfl (by simp) (by omega) (by omega) (vals_one _)) ?_
      rintro _ w ⟨tl2, rfl, hl2, H⟩
      refine OpsE.val (x_nilCheck rfl) ?_
      refine OpsE.val (x_fieldAddr0 rfl Try.runUnderlying80 rfl rfl Try.sizeOf78) ?_
      refine OpsE.store (v := .slice _ _ _) rfl rfl rfl rfl Try.sizeOf78 H (by omega) ?_
      intro w H
      refine OpsE.nil ?_
      refine Leave0.normal (v := .tuple #[]) rfl ?_
      have hA : all (P ++ x' :: Q) = all (P ++ x1 :: x2 :: Q) := by rw [hx']; simp [all]
      have e6 : (P ++ [x']).map Leaf.val ++ Q.map Leaf.val ++ tl2 = (P ++ x' :: Q).map Leaf.val ++ tl2 := by simp
      have e7 : Tr.hv ⟨P ++ x' :: Q, some (L, cap, tl2)⟩ = .slice (some ⟨L, 0, none⟩) (P.length + 1 + Q.length) cap := by show Value.slice _ _ _ = _; rw [lv_len]; congr 1; omega
      rw [e6, ← e7] at H
      refine ⟨⟨P ++ x' :: Q, some (L, cap, tl2)⟩, ⟨ok_of ?_ ?_ ?_, fun h => (by cases h), fun L' c' tl' h => ?_⟩, hA, ?_⟩
      · intro z hz
        rcases List.mem_append.1 hz with hz | hz
        · exact ok.ok.leaf z (by simp [hz])
        · rcases List.mem_cons.1 hz with rfl | hz
          · exact hxO
          · exact ok.ok.leaf z (by simp [hz])
      · dsimp only; rw [hA]; exact ok.ok.srt
      · dsimp only; rw [hA]; exact hl
      · cases h; dsimp only; rw [lv_len]; omega
      · have H4 : Sat w (hd hb (cs.set ho (Tr.hv ⟨P ++ x' :: Q, some (L, cap, tl2)⟩)) TH :: pt L (arrO (P ++ x' :: Q) tl2) :: x'.at :: Lvs (P ++ Q) :: r) := H
        refine H4.perm ?_
        show HP.sep _ (HP.sep _ (HP.sep _ (HP.sep _ _))) = HP.sep _ (HP.sep _ (HP.sep _ _))
        rw [Lvs_mid, HP.sep_assoc]; rfl
    · rw [decide_eq_false h4]
      refine QuietE.val (fun w H => x_pickT rfl rfl) ?_
      refine QuietE.nil ?_
      intro w H
      refine Then.normal ?_
      refine WP.cond_f rfl rfl ?_
      refine WP.skip ?_
      refine Leave0.normal (v := .tuple #[]) rfl ?_
      exact ⟨⟨P ++ x1 :: x2 :: Q, some (L, cap, tl)⟩, ok, rfl, by rw [set_same hc.hv]; exact H⟩
  · rw [decide_eq_false hlt]
    refine QuietE.val (fun w H => x_move (v := .bool _) rfl) ?_
    refine QuietE.no rfl ?_
    refine QuietE.no rfl ?_
    refine QuietE.no rfl ?_
    refine QuietE.no rfl ?_
    refine QuietE.no rfl ?_
    refine QuietE.no rfl ?_
    refine QuietE.no rfl ?_
    refine QuietE.no rfl ?_
    refine QuietE.no rfl ?_
    refine QuietE.no rfl ?_
    refine QuietE.no rfl ?_
    refine QuietE.no rfl ?_
    refine QuietE.no rfl ?_
    refine QuietE.no rfl ?_
    refine QuietE.no rfl ?_
    refine QuietE.no rfl ?_
    refine QuietE.no rfl ?_
    refine QuietE.no rfl ?_
    refine QuietE.no rfl ?_
    refine QuietE.val (fun w H => x_pickF rfl rfl) ?_
    refine QuietE.nil ?_
    intro w H
    refine Then.normal ?_
    refine WP.cond_f rfl rfl ?_
    refine WP.skip ?_
    refine Leave0.normal (v := .tuple #[]) rfl ?_
    exact ⟨⟨lv, arr⟩, ok, rfl, by rw [set_same hc.hv]; exact H⟩

theorem dropL_miss {L R : List It} {key : ByteArray} (h1 : ∀ z ∈ L, slt z.key key = true) (h2 : ∀ z ∈ R, slt key z.key = true) : dropL (L ++ R) key = L ++ R := by
  have p := Parts.miss h1 h2
  unfold dropL; rw [p.lo, p.hi]
theorem dropL_hit {L R : List It} {y0 : It} {key : ByteArray} (h1 : ∀ z ∈ L, slt z.key key = true) (h0 : y0.key = key) (h2 : ∀ z ∈ R, slt key z.key = true) : dropL (L ++ y0 :: R) key = L ++ R := by
  have p := Parts.hit h1 h0 h2
  unfold dropL; rw [p.lo, p.hi]

theorem Drop_spec {w : World} {r : List HP} {cs : List Value} {t : Tr} {hb ho TH : Nat} {key : ByteArray} (H : Sat w (hd hb cs TH :: t.ap :: Lvs t.lv :: r)) (hc : Hd cs ho t) (ok : t.Ok) (hl : (all t.lv).length ≤ 1000000) :
    Calls Try.prog 50 #[.pointer (some ⟨hb, ho, none⟩), .string key] w (Ret fun v w' => ∃ (b : Bool) (t' : Tr), v = .bool b ∧ t'.Ok ∧ all t'.lv = dropL (all t.lv) key ∧
      Sat w' (hd hb (hset cs ho t') TH :: t'.ap :: Lvs t'.lv :: r)) := by
  obtain ⟨lv, arr⟩ := t
  have hsz := hc.sz
  have hlen := hc.len
  have hs2 := srt_drop ok.ok.srt key
  have hl2 : (dropL (all lv) key).length ≤ 1000000 := by
    have := len_lo_hi (all lv) key
    unfold dropL; simp only [List.length_append]; dsimp only at hl ⊢; omega
  dsimp only at hl hsz hs2
  refine Calls.of_wp Try.func50 rfl Try.ntmps50 Try.results50 (Nat.le_of_ble_eq_true rfl) ?_
  refine WP.seq ?_
  refine WP.region ?_
  refine OpsE.val (x_assign (v := .bool _) rfl) ?_
  refine OpsE.nil ?_
  refine Then.normal ?_
  refine WP.seq ?_
  refine WP.region ?_
  refine OpsE.val (x_move (v := .pointer _) rfl) ?_
  refine OpsE.val (x_move (v := .string _) rfl) ?_
  refine OpsE.call (x_call (vl := [.pointer _, .string _]) rfl Try.call63) (find_spec H hc.hv ok) ?_
  rintro _ w ⟨i, k, th, rfl, F, H⟩
  refine OpsE.val (x_move (v := .tuple _) rfl) ?_
  refine OpsE.val (x_extract (v := .int .i64 _) rfl rfl) ?_
  refine OpsE.val (x_extract (v := .int .i64 _) rfl rfl) ?_
  refine OpsE.val (x_extract (v := .bool _) rfl rfl) ?_
  refine OpsE.val (x_assign (v := .int .i64 _) rfl) ?_
  refine OpsE.val (x_assign (v := .int .i64 _) rfl) ?_
  refine OpsE.val (x_assign (v := .bool _) rfl) ?_
  refine OpsE.nil ?_
  refine Then.normal ?_
  refine WP.seq ?_
  refine WP.seq ?_
  refine WP.region ?_
  refine OpsE.val (x_move (v := .bool _) rfl) ?_
  refine OpsE.val (x_not rfl) ?_
  refine OpsE.nil ?_
  refine Then.normal ?_
  refine WP.cond rfl (fun ht => ?_) (fun ht => ?_)
  · skip
    refine WP.seq ?_
    refine WP.region ?_
    refine OpsE.val (x_assign (v := .bool _) rfl) ?_
    refine OpsE.nil ?_
    refine Then.normal ?_
    refine WP.ret ?_
    refine Then.ret ?_
    refine Leave0.ret (v := .bool _) rfl ?_
    have ht' : th = false := by simpa using ht
    subst ht'
    have hm : all lv = dropL (all lv) key := by
      by_cases hne : lv = []
      · subst hne; rfl
      · obtain ⟨P, x, Q, X, Y, rfl, _, hi, _, h1, h2, _, h4⟩ := F.split ok.ok hne
        rw [all_mid, hi, show all P ++ (X ++ Y) ++ all Q = all P ++ X ++ (Y ++ all Q) by simp]
        exact (dropL_miss h1 (fun z hz => (List.mem_append.1 hz).elim (h4 rfl z) (h2 z))).symm
    refine ⟨false, ⟨lv, arr⟩, rfl, ok, hm, ?_⟩
    unfold hset
    rw [set_same hc.hv, set_same hc.sz]; exact H
  · skip
    refine WP.skip ?_
    refine Then.normal ?_
    refine WP.seq ?_
    refine WP.region ?_
    have ht' : th = true := by simpa using ht
    subst ht'
    obtain ⟨L, cap, tl, rfl, hcap⟩ := Tr.Ok.some ok F.ne
    obtain ⟨P, x, Q, X, Y, rfl, rfl, hi, rfl, h1, h2, h3, _⟩ := F.split ok.ok F.ne
    obtain ⟨y0, Y', rfl, hk0, h3⟩ := h3 rfl
    have hch : cs[ho]? = some (.slice (some ⟨L, 0, none⟩) (P ++ x :: Q).length cap) := hc.hv
    have H' : Sat w (x.at :: Lvs (P ++ Q) :: pt L (arrO (P ++ x :: Q) tl) :: hd hb cs TH :: r) := (lvOut (Sat.take2 (l := hd hb cs TH :: pt L (arrO (P ++ x :: Q) tl) :: Lvs (P ++ x :: Q) :: r) H (Lvs (P ++ x :: Q)) (pt L (arrO (P ++ x :: Q) tl)) ))
    have hxc : x.cells = X.flatMap itc ++ itc y0 ++ Y'.flatMap itc ++ x.tl := by unfold Leaf.cells; rw [hi]; simp
    have hxo := ok.ok.leaf x (by simp)
    have hxl := hxo.len
    rw [hxc] at hxl
    simp only [List.length_append, flat_len itc_len, itc_len] at hxl
    have hx9 := hxo.le
    have hn : x.its.length = X.length + 1 + Y'.length := by rw [hi]; simp; omega
    replace H : Sat w (pt x.blk (.cells x.cells.toArray 113 (0, 0)) :: Lvs (P ++ Q) :: pt L (arrO (P ++ x :: Q) tl) :: hd hb cs TH :: r) := H'
    rw [hxc] at H
    have hA2 : dropL (all (P ++ x :: Q)) key = all P ++ (X ++ Y') ++ all Q := by
      rw [all_mid, hi]
      have := dropL_hit (L := all P ++ X) (R := Y' ++ all Q) h1 hk0 (fun z hz => (List.mem_append.1 hz).elim (h3 z) (h2 z))
      rw [show all P ++ (X ++ y0 :: Y') ++ all Q = all P ++ X ++ y0 :: (Y' ++ all Q) by simp, this]; simp
    have hA1 : (all (P ++ x :: Q)).length = (all P ++ (X ++ Y') ++ all Q).length + 1 := by rw [all_mid, hi]; simp; omega
    have hlN : (P ++ x :: Q).length ≤ 1000000 := ok.ok.le
    have hlQ := lv_len P Q x
    obtain ⟨m, hm⟩ : ∃ m, (all P ++ (X ++ Y') ++ all Q).length = m := ⟨_, rfl⟩
    rw [hm] at hA1
    obtain ⟨cs1, hcs1⟩ : ∃ c, cs.set (ho + 1) (.int .i64 ((m : Nat) : Int)) = c := ⟨_, rfl⟩
    have hch1 : cs1[ho]? = some (.slice (some ⟨L, 0, none⟩) (P ++ x :: Q).length cap) := by rw [← hcs1, List.getElem?_set_ne (by omega)]; exact hch
    refine OpsE.val (x_move (v := .pointer _) rfl) ?_
    refine OpsE.val (x_nilCheck rfl) ?_
    refine OpsE.val (x_fieldAddr (o := 1) rfl Try.runUnderlying80 rfl rfl Try.sizeOf3) ?_
    refine OpsE.val (x_load (v := .int .i64 _) rfl Try.isAgg3 (H.look _) (by simpa using hsz)) ?_
    refine OpsE.val (x_sub (z := ((m : Nat) : Int)) rfl rfl (by rw [i64n (by omega) (by omega)]; omega)) ?_
    refine OpsE.val (x_nilCheck rfl) ?_
    refine OpsE.val (x_fieldAddr (o := 1) rfl Try.runUnderlying80 rfl rfl Try.sizeOf3) ?_
    refine OpsE.store (v := .int .i64 _) rfl rfl rfl rfl Try.sizeOf3 H hlen ?_
    intro w H
    rw [hcs1] at H
    replace H := H.take (pt x.blk (.cells (X.flatMap itc ++ itc y0 ++ Y'.flatMap itc ++ x.tl).toArray 113 (0, 0)))
    refine OpsE.nil ?_
    refine Then.normal ?_
    refine WP.seq ?_
    refine WP.mix (kdOf [0, 0, 0, 0, 0, 0, 0, 0, 0, 0, 0, 0, 0, 0, 0, 1]) (fun w => Sat w _) (by kernel_rfl) (by kernel_rfl) (fun w hw => Sat.heap (H.tail) hw) ?_
    intro w hw; replace H := H.heap hw; clear hw
    refine MixE.q rfl (fun w H => x_move (v := .pointer _) rfl) ?_
    refine MixE.q rfl (fun w H => x_nilCheck rfl) ?_
    refine MixE.q rfl (fun w H => x_fieldAddr0 rfl Try.runUnderlying80 rfl rfl Try.sizeOf78) ?_
    refine MixE.q rfl (fun w H => x_load (v := .slice (some ⟨L, 0, none⟩) (P ++ x :: Q).length cap) rfl Try.isAgg78 (H.look _) (by simpa using hch1)) ?_
    refine MixE.q rfl (fun w H => x_move (v := .int .i64 _) rfl) ?_
    refine MixE.q rfl (fun w H => x_move (v := .pointer _) rfl) ?_
    refine MixE.q rfl (fun w H => x_nilCheck rfl) ?_
    refine MixE.q rfl (fun w H => x_fieldAddr0 rfl Try.runUnderlying80 rfl rfl Try.sizeOf78) ?_
    refine MixE.q rfl (fun w H => x_load (v := .slice (some ⟨L, 0, none⟩) (P ++ x :: Q).length cap) rfl Try.isAgg78 (H.look _) (by simpa using hch1)) ?_
    refine MixE.q rfl (fun w H => x_move (v := .int .i64 _) rfl) ?_
    refine MixE.q rfl (fun w H => x_indexAddr1 (i := P.length) rfl rfl Try.runUnderlying78 Try.sizeOf114 rfl (by omega)) ?_
    refine MixE.q rfl (fun w H => x_load (v := .slice _ _ _) rfl Try.isAgg114 (H.look L) (lv_mid P Q x tl)) ?_
    refine MixE.q rfl (fun w H => x_move (v := .int .i64 _) rfl) ?_
    refine MixE.q rfl (fun w H => x_move (v := .int .i64 _) rfl) ?_
    refine MixE.q rfl (fun w H => x_add (z := ((X.length + 1 : Nat) : Int)) rfl rfl (by rw [i64n (by omega) (by omega)]; omega)) ?_
    refine MixE.one rfl ?_
    refine OpsE.call (x_call (vl := [.slice _ _ _, .int .i64 _, .int .i64 _]) rfl Try.call69) (IC.Delete_spec (i := X.length) (k := Y'.length) H hn (flat_len itc_len X) (itc_len y0) (flat_len itc_len Y') (by omega) (by omega) (its_one Y')) ?_
    rintro _ w ⟨tl', rfl, hl', H⟩
    refine OpsE.nil ⟨rfl, rfl, H.tail, ?_⟩
    refine MixE.two _ (fun k _ => kdOf_ge (Nat.le_add_right _ _)) ?_
    refine OpsE.val (x_indexAddr1 (i := P.length) rfl rfl Try.runUnderlying78 Try.sizeOf114 rfl (by omega)) ?_
    refine OpsE.store (v := .slice _ _ _) rfl rfl rfl rfl Try.sizeOf114 H (by simp) ?_
    intro w H
    refine OpsE.nil ?_
    refine Then.normal ?_
    refine WP.seq ?_
    refine WP.seq ?_
    refine WP.region ?_
    obtain ⟨x', hx'⟩ : ∃ x' : Leaf, x' = ⟨x.blk, x.cap, X ++ Y', tl'⟩ := ⟨_, rfl⟩
    have hxv : Value.slice (some ⟨x.blk, 0, none⟩) (X.length + Y'.length) x.cap = x'.val := by rw [hx']; unfold Leaf.val; dsimp only; congr 1; simp
    have hxc' : X.flatMap itc ++ Y'.flatMap itc ++ tl' = x'.cells := by rw [hx']; unfold Leaf.cells; simp
    have hxb : x'.its.length = X.length + Y'.length := by rw [hx']; simp
    have hx'l : x'.cells.length = x'.cap * 2 := by rw [← hxc', hx']; simp only [List.length_append, flat_len itc_len, itc_len]; omega
    have hA3 : all (P ++ x' :: Q) = dropL (all (P ++ x :: Q)) key := by rw [hA2, all_mid, hx']
    rw [hxv, lv_set, hxc'] at H
    have H1 : Sat w (pt L (arrO (P ++ x' :: Q) tl) :: x'.at :: hd hb cs1 TH :: Lvs (P ++ Q) :: r) := by rw [hx'] at H ⊢; exact H
    replace H := H1
    refine OpsE.val (x_move (v := .pointer _) rfl) ?_
    refine OpsE.val (x_nilCheck rfl) ?_
    refine OpsE.val (x_fieldAddr0 rfl Try.runUnderlying80 rfl rfl Try.sizeOf78) ?_
    refine OpsE.val (x_load (v := .slice (some ⟨L, 0, none⟩) (P ++ x :: Q).length cap) rfl Try.isAgg78 (H.look _) (by simpa using hch1)) ?_
    refine OpsE.val (x_move (v := .int .i64 _) rfl) ?_
    refine OpsE.val (x_indexAddr1 (i := P.length) rfl rfl Try.runUnderlying78 Try.sizeOf114 rfl (by omega)) ?_
    refine OpsE.val (x_load (v := .slice _ _ _) rfl Try.isAgg114 (H.look L) (lv_mid P Q x' tl)) ?_
    refine OpsE.val (x_lenL rfl rfl Try.runUnderlying114) ?_
    refine OpsE.val (x_eqI rfl rfl) ?_
    by_cases h0 : (x'.its.length : Int) = 0
    · rw [decide_eq_true h0]
      refine OpsE.nil ?_
      refine Then.normal ?_
      refine WP.cond_t rfl rfl ?_
      refine WP.seq ?_
      refine WP.region ?_
      refine OpsE.val (x_move (v := .pointer _) rfl) ?_
      refine OpsE.val (x_move (v := .pointer _) rfl) ?_
      refine OpsE.val (x_nilCheck rfl) ?_
      refine OpsE.val (x_fieldAddr0 rfl Try.runUnderlying80 rfl rfl Try.sizeOf78) ?_
      refine OpsE.val (x_load (v := .slice (some ⟨L, 0, none⟩) (P ++ x :: Q).length cap) rfl Try.isAgg78 (H.look _) (by simpa using hch1)) ?_
      refine OpsE.val (x_move (v := .int .i64 _) rfl) ?_
      refine OpsE.val (x_move (v := .int .i64 _) rfl) ?_
      refine OpsE.val (x_add (z := ((P.length + 1 : Nat) : Int)) rfl rfl (by rw [i64n (by omega) (by omega)]; omega)) ?_
      have e5 : (P ++ x' :: Q).map Leaf.val ++ tl = P.map Leaf.val ++ [x'.val] ++ Q.map Leaf.val ++ tl := by simp
      rw [show pt L (arrO (P ++ x' :: Q) tl) = pt L (.cells (P.map Leaf.val ++ [x'.val] ++ Q.map Leaf.val ++ tl).toArray IL.TE (0, 0)) by unfold arrO; rw [e5]] at H
      refine OpsE.call (x_call (vl := [.slice _ _ _, .int .i64 _, .int .i64 _]) rfl Try.call70) (IL.Delete_spec (i := P.length) (k := Q.length) H (by omega) (by simp) rfl (by simp) (by omega) (by omega) (vals_one _)) ?_
      rintro _ w ⟨tl2, rfl, hl2', H⟩
      refine OpsE.val (x_nilCheck rfl) ?_
      refine OpsE.val (x_fieldAddr0 rfl Try.runUnderlying80 rfl rfl Try.sizeOf78) ?_
      refine OpsE.store (v := .slice _ _ _) rfl rfl rfl rfl Try.sizeOf78 H (by rw [← hcs1, List.length_set]; omega) ?_
      intro w H
      refine OpsE.nil ?_
      refine Then.normal ?_
      refine WP.seq ?_
      refine WP.region ?_
      refine OpsE.val (x_assign (v := .bool _) rfl) ?_
      refine OpsE.nil ?_
      refine Then.normal ?_
      refine WP.ret ?_
      refine Then.ret ?_
      refine Leave0.ret (v := .bool _) rfl ?_
      have hx0 : x'.its = [] := List.length_eq_zero_iff.1 (by omega)
      have hA4 : all (P ++ Q) = dropL (all (P ++ x :: Q)) key := by rw [← hA3, all_mid, hx0]; simp [all]
      have e6 : P.map Leaf.val ++ Q.map Leaf.val ++ tl2 = (P ++ Q).map Leaf.val ++ tl2 := by simp
      rw [e6] at H
      refine ⟨true, ⟨P ++ Q, some (L, cap, tl2)⟩, rfl, ⟨ok_of ?_ ?_ ?_, fun h => (by cases h), fun L' c' tl' h => ?_⟩, hA4, ?_⟩
      · intro z hz
        exact ok.ok.leaf z (by rcases List.mem_append.1 hz with hz | hz <;> simp [hz])
      · dsimp only; rw [hA4]; exact hs2
      · dsimp only; rw [hA4]; exact hl2
      · cases h; dsimp only; rw [List.length_append]; omega
      · have e2 : cs1.set ho (.slice (some ⟨L, 0, none⟩) (P.length + Q.length) cap) = hset cs ho ⟨P ++ Q, some (L, cap, tl2)⟩ := by
          unfold hset
          have e3 : Tr.hv ⟨P ++ Q, some (L, cap, tl2)⟩ = .slice (some ⟨L, 0, none⟩) (P.length + Q.length) cap := by show Value.slice _ _ _ = _; rw [List.length_append]
          rw [e3, ← hcs1, List.set_comm _ _ (by omega)]
          dsimp only; rw [hA4, hA2, hm]
        rw [e2] at H
        exact Sat.take3 (l := hd hb (hset cs ho ⟨P ++ Q, some (L, cap, tl2)⟩) TH :: pt L (arrO (P ++ Q) tl2) :: x'.at :: Lvs (P ++ Q) :: r) H (hd hb (hset cs ho ⟨P ++ Q, some (L, cap, tl2)⟩) TH) (pt L (arrO (P ++ Q) tl2)) (Lvs (P ++ Q)) |>.drop4
    · rw [decide_eq_false h0]
      refine OpsE.nil ?_
      refine Then.normal ?_
      refine WP.cond_f rfl rfl ?_
      refine WP.skip ?_
      refine Then.normal ?_
      refine WP.seq ?_
      refine WP.region ?_
      refine OpsE.val (x_move (v := .pointer _) rfl) ?_
      refine OpsE.val (x_move (v := .int .i64 _) rfl) ?_
      refine OpsE.val (x_sub rfl rfl (i64n (by omega) (by omega))) ?_
      refine OpsE.val (x_max (z := ((P.length - 1 : Nat) : Int)) rfl rfl (by split <;> omega)) ?_
      have H2 : Sat w (hd hb cs1 TH :: Tr.ap ⟨P ++ x' :: Q, some (L, cap, tl)⟩ :: Lvs (P ++ x' :: Q) :: r) := by
        have h1 : Sat w (x'.at :: Lvs (P ++ Q) :: pt L (arrO (P ++ x' :: Q) tl) :: hd hb cs1 TH :: r) := Sat.take2 H _ _
        exact Sat.take2 (lvIn h1) (hd hb cs1 TH) (pt L (arrO (P ++ x' :: Q) tl)) |> fun h => Sat.take3 h (hd hb cs1 TH) (pt L (arrO (P ++ x' :: Q) tl)) (Lvs (P ++ x' :: Q))
      have hxO : x'.Ok := ⟨fun h => h0 (by rw [h]; rfl), hx'l, by omega⟩
      have ok1 : Tr.Ok ⟨P ++ x' :: Q, some (L, cap, tl)⟩ := by
        refine ⟨ok_of (fun z hz => ?_) ?_ ?_, fun h => (by cases h), fun L' c' tl' h => ?_⟩
        · rcases List.mem_append.1 hz with hz | hz
          · exact ok.ok.leaf z (by simp [hz])
          · rcases List.mem_cons.1 hz with rfl | hz
            · exact hxO
            · exact ok.ok.leaf z (by simp [hz])
        · dsimp only; rw [hA3]; exact hs2
        · dsimp only; rw [hA3]; exact hl2
        · cases h; dsimp only; rw [lv_len] at hcap ⊢; exact hcap
      have hc1 : Hd cs1 ho ⟨P ++ x' :: Q, some (L, cap, tl)⟩ := by
        refine ⟨by rw [hch1]; congr 2; show _ = (P ++ x' :: Q).length; rw [lv_len, lv_len], ?_⟩
        dsimp only; rw [hA3, hA2, hm, ← hcs1, List.getElem?_set_self (by omega)]
      refine OpsE.call (x_call (vl := [.pointer _, .int .i64 _]) rfl Try.call71) (join_spec H2 hc1 ok1 (by omega) (by dsimp only; rw [hA3]; exact hl2)) ?_
      rintro _ w ⟨t', hok', hall', H⟩
      refine OpsE.nil ?_
      refine Then.normal ?_
      refine WP.seq ?_
      refine WP.region ?_
      refine OpsE.val (x_assign (v := .bool _) rfl) ?_
      refine OpsE.nil ?_
      refine Then.normal ?_
      refine WP.ret ?_
      refine Leave0.ret (v := .bool _) rfl ?_
      refine ⟨true, t', rfl, hok', hall'.trans hA3, ?_⟩
      have e2 : cs1.set ho t'.hv = hset cs ho t' := by
        unfold hset
        rw [← hcs1, List.set_comm _ _ (by omega), hall']
        dsimp only; rw [hA3, hA2, hm]
      rw [e2] at H
      exact H
end Go.Proofs.Ytbhbdpbhhfemhaa.TC

/-
  Ranges over functions: what an iterator does for whoever hands it a yield, and the rule for the statement. Nothing of the program.
-/
namespace Go.Proofs.Ytbhbdpbhhfemhaa
open Go
set_option linter.unusedVariables false

/-- a call of a yield's value, with these arguments -/
def YieldK (P : Program) (yv : Value) (args : List Value) (w : World) (R : Value → World → Prop) : Prop :=
  ∀ (E : Env) (x : Operand) (al : List Operand) (ats : Array TypeId) (ty : TypeId), evE E x = yv → al.map (evE E) = args → StepK P R ((xop E (.call { callee := .value x, args := al.toArray, argTypes := ats }) ty).run P w)

/-- an iterator over xs: it reads what l says -/
def Seq (P : Program) (g : Value) (l : List HP) (xs : List (List Value)) : Prop :=
  ∃ (f : FuncId) (caps : List Value), g = .func (.func f) #[] caps.toArray ∧ (∀ args w, (callFunc f args).run P w = .ok (.enter f args) w) ∧ ∀ (yv : Value) (K D : Nat → HP), yv.cells = #[yv] →
    (∀ Fr i args w, xs[i]? = some args → Sat w (Fr :: K i :: l) → YieldK P yv args w (fun v w' => ∃ b : Bool, v = .bool b ∧ Sat w' (Fr :: cond b (K (i + 1)) (D i) :: l))) →
    ∀ w, Sat w (K 0 :: l) → Calls P f ([yv] ++ caps).toArray w (Ret fun _ w' => Sat w' (K xs.length :: l) ∨ ∃ i, i < xs.length ∧ Sat w' (D i :: l))

theorem OpsE.yield {P : Program} {N : Nat} {ops : Array Oper} {Q : Post} {rest : List Oper} {E : Env} {ds : List Deferred} {w : World} {d : Nat} {ty : TypeId} {pos : String} {af : Array Edge} {x : Operand} {al : List Operand} {ats : Array TypeId} {yv : Value} {args : List Value} {R : Value → World → Prop}
    (hx : evE E x = yv) (ha : al.map (evE E) = args) (hy : YieldK P yv args w R) (k : ∀ v w', R v w' → OpsE P N ops Q rest (upd N E d v) ds w') :
    OpsE P N ops Q (⟨some d, .call { callee := .value x, args := al.toArray, argTypes := ats }, ty, pos, af, none⟩ :: rest) E ds w := by
  unfold OpsE
  rw [if_pos (by rfl)]
  exact (hy E x al ats ty hx ha).mono k

theorem x_yield {P : Program} {E : Env} {w : World} {x : Operand} {al : List Operand} {ats : Array TypeId} {ty : TypeId} {l : Nat} {r : Loop} {args : List Value} (hx : evE E x = .func (.yield l) #[] #[]) (ha : al.map (evE E) = args) (h : w.heap[l]? = some (.loop r)) (hs : args.length = r.params.size) :
    (xop E (.call { callee := .value x, args := al.toArray, argTypes := ats }) ty).run P w = .ok (.round l r.fn ((r.params.zip args.toArray).foldl (fun tmps (t, a) => tmps.setIfInBounds t a) r.tmps) r.assign r.body) w := by
  subst ha
  have := run_yield (P := P) h (args := (al.map (evE E)).toArray) (by simpa using hs)
  simp [xop, execOp, resolve, hx, Deferred.ofValue, invoke] at this ⊢
  rw [this]

def updAll (N : Nat) (E : Env) : List (Nat × Value) → Env
  | [] => E
  | (t, v) :: r => updAll N (upd N E t v) r
theorem rep_fold {N : Nat} (l : List (Nat × Value)) : ∀ (E : Env) (tmps : Array Value), Rep N E [] { tmps := tmps, defers := [] } → Rep N (updAll N E l) [] { tmps := l.foldl (fun tmps (t, a) => tmps.setIfInBounds t a) tmps, defers := [] } := by
  induction l with
  | nil => exact fun _ _ h => h
  | cons p l ih =>
    intro E tmps h
    exact ih _ _ (h.put (some p.1) p.2)

def jumpOf : Exit → Option Code
  | .ret => some .ret
  | .exit id => some (.exit id)
  | _ => none

/-- behind a round's body -/
def BodyPost (Fr : HP) (l : List HP) (C : Nat → HP) (D : Nat → Exit → HP) (i : Nat) : Post
  | .normal, _, _, w => Sat w (Fr :: C (i + 1) :: l)
  | .ret, _, _, w => Sat w (Fr :: D i .ret :: l)
  | .exit id, _, _, w => Sat w (Fr :: D i (.exit id) :: l)
  | _, _, _, _ => False
/-- behind the assignments to the left sides -/
def AsgPost (K : Env → Prop) (w : World) : Post := fun e E ds w' => e = .normal ∧ ds = [] ∧ w' = w ∧ K E

theorem end_loop {P : Program} {w : World} {l : Nat} {r : Loop} {p : Option Code} (h : w.heap[l]? = some (.loop r)) (hb : r.state ≠ .busy) (hp : r.pending = p) : (Instr.endLoop l).run P w = .ok p (w.putObj l (.loop { r with state := .exhausted })) := by
  subst hp; exact run_endLoop h hb

theorem putObj_sat {w : World} {b : Nat} {o o' : Obj} {l : List HP} (H : Sat w (pt b o :: l)) : Sat (w.putObj b o') (pt b o' :: l) :=
  H.set (World.putObj_heap_same (Sat.lt H.pt_get)) fun _ hk => World.putObj_heap_other hk

section
variable {P : Program} {N : Nat} {Q : Post} {E : Env} {ds : List Deferred} {w : World}

theorem WP.rangeFunc {g : Operand} {ps : Array Tmp} {assign body : Code} {gv : Value} {l : List HP} {xs : List (List Value)} (C : Nat → HP) (D : Nat → Exit → HP)
    (hx : evE E g = gv) (hs : Seq P gv l xs) (hps : ∀ args ∈ xs, args.length = ps.size) (H : Sat w (C 0 :: l))
    (hround : ∀ i args lp w, xs[i]? = some args → WP P (some lp) N assign (AsgPost (fun E1 => ∀ w Fr, Sat w (Fr :: C i :: l) → WP P (some lp) N body (BodyPost Fr l C D i) E1 [] w) w) (updAll N E (ps.toList.zip args)) [] w)
    (hn : ∀ b w, Sat w (pt b (.deferred (some [])) :: C xs.length :: l) → Q .normal E (mark b :: ds) w)
    (hd : ∀ b i e c w, i < xs.length → jumpOf e = some c → Sat w (pt b (.deferred (some [])) :: D i e :: l) → Q e E (mark b :: ds) w) :
    WP P none N (.rangeFunc g ps assign body) Q E ds w := by
  intro a hr
  obtain ⟨f, caps, rfl, hc, hseq⟩ := hs
  refine wpIn_rangeFunc fun fn _ => ?_
  have he := run_enterLoop_outer (P := P) (w := w) fn a.tmps ps assign body
  obtain ⟨b, hb⟩ : ∃ b, w.heap.size = b := ⟨_, rfl⟩
  obtain ⟨rec, hrec⟩ : ∃ rec : LoopState → Option Code → Loop, rec = fun s p => { state := s, pending := p, fn := fn, tmps := a.tmps, params := ps, assign := assign, body := body, defers := b } := ⟨_, rfl⟩
  have H1 : Sat ((w.alloc (.deferred (some []))).alloc (.loop (rec .ready none))) (pt (b + 1) (.loop (rec .ready none)) :: pt b (.deferred (some [])) :: C 0 :: l) := by
    have h1 : Sat (w.alloc (.deferred (some []))) (pt b (.deferred (some [])) :: C 0 :: l) := by rw [← hb]; exact H.new rfl
    have h2 := h1.new (w' := (w.alloc (.deferred (some []))).alloc (.loop (rec .ready none))) (o := .loop (rec .ready none)) rfl
    rwa [World.size_alloc, hb] at h2
  have hr0 : rec .ready none = { state := .ready, pending := none, fn := fn, tmps := a.tmps, params := ps, assign := assign, body := body, defers := b } := by rw [hrec]
  rw [hb, ← hr0] at he
  obtain ⟨W1, hW1⟩ : ∃ W1, (w.alloc (.deferred (some []))).alloc (.loop (rec .ready none)) = W1 := ⟨_, rfl⟩
  rw [hW1] at he H1
  have hev : a.eval = evE E := hr.eval
  refine ⟨_, _, W1, { target := .fn (.func f) caps.toArray, args := #[.func (.yield (b + 1)) #[] #[]] }, W1, f, ([Value.func (.yield (b + 1)) #[] #[]] ++ caps).toArray, W1, he, ?_, fun _ _ => trivial, by simp [invoke, hc], fun h => by simp [Fence.wide] at h, ?_⟩
  · rw [hev]
    have hcv : ∀ v, evE E (.const v) = v := fun _ => rfl
    simp [resolve, hx, Deferred.ofValue, hcv]
  refine calls_wd.2 ?_
  let K : Nat → HP := fun i => HP.sep (pt (b + 1) (.loop (rec .ready none))) (HP.sep (pt b (.deferred (some []))) (C i))
  let D' : Nat → HP := fun i => ex fun p : Exit × Code => HP.sep (pt (b + 1) (.loop (rec .done (some p.2)))) (HP.sep (pt b (.deferred (some []))) (HP.sep (lift (jumpOf p.1 = some p.2)) (D i p.1)))
  have hK : ∀ i w, Sat w (K i :: l) ↔ Sat w (pt (b + 1) (.loop (rec .ready none)) :: pt b (.deferred (some [])) :: C i :: l) := fun i w => by
    show Sat w (HP.sep _ (HP.sep _ _) :: l) ↔ _
    rw [sat_sep]
    unfold Sat
    simp only [stars_cons, HP.sep_assoc]
  have hD : ∀ i w, Sat w (D' i :: l) ↔ ∃ p : Exit × Code, jumpOf p.1 = some p.2 ∧ Sat w (pt (b + 1) (.loop (rec .done (some p.2))) :: pt b (.deferred (some [])) :: D i p.1 :: l) := fun i w => by
    show Sat w (ex _ :: l) ↔ _
    rw [sat_ex]
    refine exists_congr fun p => ?_
    rw [← sat_lift]
    unfold Sat
    simp only [stars_cons, HP.sep_assoc]
    rw [HP.sep_left (pt b _) (lift _), HP.sep_left (pt (b + 1) _) (lift _)]
  have hcall := hseq (.func (.yield (b + 1)) #[] #[]) K D' rfl (fun Fo i args w hxi HK => ?_) _ ((hK 0 _).2 H1)
  · refine hcall.mono ?_
    rintro e w' ⟨v, rfl, h⟩
    show ∃ jump w4, _ ∧ _
    rcases h with h | ⟨i, hi, h⟩
    · have h' := (hK _ _).1 h
      have hp : (rec .ready none).pending = none := by rw [hrec]
      refine ⟨none, _, end_loop (r := rec .ready none) h'.pt_get (by rw [hrec]; simp) hp, ?_⟩
      have h2 := (putObj_sat (o' := .loop { rec .ready none with state := .exhausted }) h').tail
      exact ⟨E, _, ⟨hr.size, hr.env, by show _ ++ a.defers = _; rw [hr.ds]; rfl⟩, hn b _ h2⟩
    · obtain ⟨⟨e, c⟩, hj, h'⟩ := (hD _ _).1 h
      have hp : (rec .done (some c)).pending = some c := by rw [hrec]
      refine ⟨some c, _, end_loop (r := rec .done (some c)) h'.pt_get (by rw [hrec]; simp) hp, ?_⟩
      have h2 := (putObj_sat (o' := .loop { rec .done (some c) with state := .exhausted }) h').tail
      have hq := hd b i e c _ hi hj h2
      have hr' : Rep N E (mark b :: ds) { a with defers := [{ target := .collected b, args := #[] }] ++ a.defers } := ⟨hr.size, hr.env, by show _ ++ a.defers = _; rw [hr.ds]; rfl⟩
      dsimp only at hj
      cases e with
      | ret => cases hj; exact WP.ret (r := none) hq _ hr'
      | exit id => cases hj; exact WP.exit (r := none) hq _ hr'
      | _ => cases hj
  · -- a round
    intro E' x al ats ty hx' ha
    have hKo : ∀ i w, Sat w (Fo :: K i :: l) ↔ Sat w (pt (b + 1) (.loop (rec .ready none)) :: HP.sep (pt b (.deferred (some []))) Fo :: C i :: l) := fun i w => by
      show Sat w (Fo :: HP.sep _ (HP.sep _ _) :: l) ↔ _
      unfold Sat
      simp only [stars_cons, HP.sep_assoc]
      rw [HP.sep_left Fo, HP.sep_left Fo]
    have hDo : ∀ i w, Sat w (Fo :: D' i :: l) ↔ ∃ p : Exit × Code, jumpOf p.1 = some p.2 ∧ Sat w (pt (b + 1) (.loop (rec .done (some p.2))) :: HP.sep (pt b (.deferred (some []))) Fo :: D i p.1 :: l) := fun i w => by
      have h0 : Sat w (Fo :: D' i :: l) ↔ Sat w (D' i :: Fo :: l) := ⟨fun h => h.swap, fun h => h.swap⟩
      rw [h0]
      show Sat w (ex _ :: Fo :: l) ↔ _
      rw [sat_ex]
      refine exists_congr fun p => ?_
      rw [← sat_lift]
      unfold Sat
      simp only [stars_cons, HP.sep_assoc]
      rw [HP.sep_left (pt b _) (lift _), HP.sep_left (pt (b + 1) _) (lift _), HP.sep_left Fo]
    have h' := (hKo i w).1 HK
    have hpar : (rec .ready none).params = ps := by rw [hrec]
    rw [x_yield hx' ha h'.pt_get (by rw [hpar]; exact hps _ (List.mem_of_getElem? hxi))]
    have hfn : (rec .ready none).fn = fn := by rw [hrec]
    have htm : (rec .ready none).tmps = a.tmps := by rw [hrec]
    have has : (rec .ready none).assign = assign := by rw [hrec]
    have hbo : (rec .ready none).body = body := by rw [hrec]
    show Rnd P _ _ _ _ _ _ _
    rw [hfn, htm, has, hbo, hpar]
    refine roundIn_of_wpIn trivial ?_
    have hrep : Rep N (updAll N E (ps.toList.zip args)) [] { tmps := (ps.zip args.toArray).foldl (fun tmps (t, a) => tmps.setIfInBounds t a) a.tmps, defers := [] } := by
      have h0 := rep_fold (N := N) (ps.toList.zip args) E a.tmps ⟨hr.size, hr.env, rfl⟩
      have e1 : (ps.zip args.toArray).toList = ps.toList.zip args := by simp
      rw [← Array.foldl_toList, e1]
      exact h0
    refine wpIn_mono (hround i args (b + 1) w hxi _ hrep) ?_
    rintro e a1 w1 ⟨E1, ds1, hr1, rfl, rfl, rfl, hb1⟩
    refine ⟨_, run_beginRound (r := rec .ready none) h'.pt_get (by rw [hrec]), ?_⟩
    have h2 : Sat (w1.putObj (b + 1) (.loop { rec .ready none with state := .busy })) (pt (b + 1) (.loop { rec .ready none with state := .busy }) :: HP.sep (pt b (.deferred (some []))) Fo :: C i :: l) := putObj_sat h'
    have h3 : Sat (w1.putObj (b + 1) (.loop { rec .ready none with state := .busy })) (HP.sep (pt (b + 1) (.loop { rec .ready none with state := .busy })) (HP.sep (pt b (.deferred (some []))) Fo) :: C i :: l) := sat_sep.2 h2
    refine wpIn_mono (hb1 _ _ h3 a1 hr1) ?_
    rintro e a2 w2 ⟨E2, ds2, hr2, hq⟩
    have hready : ({ rec .ready none with state := .busy } : Loop) = rec .busy none := by rw [hrec]
    cases e with
    | normal =>
      have h4 := sat_sep.1 hq
      rw [hready] at h4
      refine ⟨_, _, run_endRound none h4.pt_get, _, rfl, true, rfl, (hKo _ _).2 ?_⟩
      have h5 := putObj_sat (o' := .loop (rec .ready none)) h4
      have e5 : ({ rec .busy none with state := if (none : Option Code).isNone = true then LoopState.ready else LoopState.done, pending := none } : Loop) = rec .ready none := by rw [hrec]; rfl
      rw [e5]; exact h5
    | ret =>
      have h4 := sat_sep.1 hq
      rw [hready] at h4
      refine ⟨_, _, run_endRound (some .ret) h4.pt_get, _, rfl, false, rfl, (hDo _ _).2 ⟨(.ret, .ret), rfl, ?_⟩⟩
      have h5 := putObj_sat (o' := .loop (rec .done (some .ret))) h4
      have e5 : ({ rec .busy none with state := if (some Code.ret : Option Code).isNone = true then LoopState.ready else LoopState.done, pending := some .ret } : Loop) = rec .done (some .ret) := by rw [hrec]; rfl
      rw [e5]; exact h5
    | exit id =>
      have h4 := sat_sep.1 hq
      rw [hready] at h4
      refine ⟨_, _, run_endRound (some (.exit id)) h4.pt_get, _, rfl, false, rfl, (hDo _ _).2 ⟨(.exit id, .exit id), rfl, ?_⟩⟩
      have h5 := putObj_sat (o' := .loop (rec .done (some (.exit id)))) h4
      have e5 : ({ rec .busy none with state := if (some (Code.exit id) : Option Code).isNone = true then LoopState.ready else LoopState.done, pending := some (.exit id) } : Loop) = rec .done (some (.exit id)) := by rw [hrec]; rfl
      rw [e5]; exact h5
    | _ => exact hq.elim

def NoGoto (Q : Post) : Post
  | .goto _, _, _, _ => False
  | e, E, ds, w => Q e E ds w
theorem NoGoto.normal (h : Q .normal E ds w) : NoGoto Q .normal E ds w := h
theorem NoGoto.ret (h : Q .ret E ds w) : NoGoto Q .ret E ds w := h
theorem NoGoto.exit {id : Nat} (h : Q (.exit id) E ds w) : NoGoto Q (.exit id) E ds w := h
theorem WP.scope {c : Code} (h : WP P none N c (NoGoto Q) E ds w) : WP P none N (.scope c) Q E ds w := by
  intro a hr
  have h1 := wpIn_wide.1 (h a hr)
  refine wpIn_wide.2 (wp_scope_straight (wp_mono h1 ?_))
  rintro e a' w' ⟨E', ds', hr', q⟩
  cases e with
  | goto l => exact q.elim
  | _ => exact ⟨E', ds', hr', q⟩
end

theorem Leave.ret {res : Array ResultVar} {K : Value → World → Prop} {E : Env} {ds : List Deferred} {w : World} {v : Value} (h : resE res E = some v)
    (k : ∃ bs : List Nat, ds = bs.map mark ∧ ∃ l, Sat w (bs.map (fun b => pt b (.deferred (some []))) ++ l) ∧ ∀ w', Sat w' l → K v w') : Leave res K .ret E ds w := by
  obtain ⟨bs, h1, h2⟩ := k
  exact ⟨v, bs, h, h1, h2⟩
theorem Leave.normal {res : Array ResultVar} {K : Value → World → Prop} {E : Env} {ds : List Deferred} {w : World} {v : Value} (h : resE res E = some v)
    (k : ∃ bs : List Nat, ds = bs.map mark ∧ ∃ l, Sat w (bs.map (fun b => pt b (.deferred (some []))) ++ l) ∧ ∀ w', Sat w' l → K v w') : Leave res K .normal E ds w := by
  obtain ⟨bs, h1, h2⟩ := k
  exact ⟨v, bs, h, h1, h2⟩
end Go.Proofs.Ytbhbdpbhhfemhaa

/-
  The tree of keys: From, Range as iterators.
-/
namespace Go.Proofs.Ytbhbdpbhhfemhaa.TC
open Go Go.Proofs
set_option maxRecDepth 100000
set_option maxHeartbeats 4000000
set_option linter.unusedVariables false

/-- the items from a key on -/
def geL (key : ByteArray) (l : List It) : List It := l.filter fun y => !slt y.key key
def ya (y : It) : List Value := [.string y.key, tvv y.val]
def rem (lv : List Leaf) (i k : Nat) : List It := ((lv[i]?.map Leaf.its).getD []).drop k ++ all (lv.drop (i + 1))

theorem rem_end {lv : List Leaf} {i : Nat} (h : lv.length ≤ i) : rem lv i 0 = [] := by
  unfold rem; rw [List.getElem?_eq_none h, show lv.drop (i + 1) = [] from List.drop_of_length_le (by omega)]; rfl
theorem rem_next {lv : List Leaf} {i k : Nat} {x : Leaf} (h : lv[i]? = some x) (hk : x.its.length ≤ k) : rem lv i k = rem lv (i + 1) 0 := by
  have hi := (List.getElem?_eq_some_iff.1 h).1
  unfold rem; rw [h]
  show List.drop k x.its ++ _ = _
  rw [List.drop_of_length_le hk, List.nil_append, List.drop_zero]
  rcases Nat.lt_or_ge (i + 1) lv.length with h1 | h1
  · rw [List.drop_eq_getElem_cons h1, List.getElem?_eq_getElem h1]; rfl
  · rw [List.drop_of_length_le h1, List.getElem?_eq_none h1, List.drop_of_length_le (by omega)]; rfl
theorem rem_cons {lv : List Leaf} {i k : Nat} {x : Leaf} {y : It} (h : lv[i]? = some x) (hy : x.its[k]? = some y) : rem lv i k = y :: rem lv i (k + 1) := by
  obtain ⟨hk, e⟩ := List.getElem?_eq_some_iff.1 hy
  unfold rem; rw [h]
  show List.drop k x.its ++ _ = _ :: (List.drop (k + 1) x.its ++ _)
  rw [List.drop_eq_getElem_cons hk, e]; rfl
theorem Fnd.rem {lv : List Leaf} (ok : Ok lv) {key : ByteArray} {i k : Nat} {th : Bool} (F : Fnd lv key i k th) : rem lv i k = geL key (all lv) := by
  by_cases hne : lv = []
  · subst hne
    rcases F with ⟨_, rfl, rfl, _⟩ | ⟨x, hx, _⟩
    · rfl
    · simp at hx
  · obtain ⟨P, x, Q, X, Y, rfl, rfl, hi, rfl, h1, h2, h3, h4⟩ := F.split ok hne
    have e1 : TC.rem (P ++ x :: Q) P.length X.length = Y ++ all Q := by
      unfold TC.rem
      rw [show (P ++ x :: Q)[P.length]? = some x by simp, show (P ++ x :: Q).drop (P.length + 1) = Q by rw [← List.drop_drop]; simp]
      show List.drop X.length x.its ++ _ = _
      rw [hi]; simp
    have hY : ∀ y ∈ Y, slt y.key key = false := by
      intro y hy
      cases th with
      | true =>
        obtain ⟨y0, Y', rfl, hk, h5⟩ := h3 rfl
        rcases List.mem_cons.1 hy with rfl | hy
        · rw [hk]; exact slt_irrefl _
        · exact slt_asymm (h5 y hy)
      | false => exact slt_asymm (h4 rfl y hy)
    rw [e1, all_mid, hi]
    unfold geL
    rw [show all P ++ (X ++ Y) ++ all Q = (all P ++ X) ++ (Y ++ all Q) by simp, List.filter_append, List.filter_eq_nil_iff.2 (fun y hy => by rw [h1 y hy]; simp), List.filter_eq_self.2 (fun y hy => ?_)]
    · rfl
    · rcases List.mem_append.1 hy with h | h
      · rw [hY y h]; rfl
      · rw [slt_asymm (h2 y h)]; rfl

theorem From1_seq {r : List HP} {cs : List Value} {t : Tr} {hb ho TH b2 b3 : Nat} {key : ByteArray} (hc : Hd cs ho t) (ok : t.Ok) :
    Seq Try.prog (.func (.func 67) #[] #[.pointer (some ⟨b2, 0, none⟩), .pointer (some ⟨b3, 0, none⟩)])
      (pt b2 (.cells [.pointer (some ⟨hb, ho, none⟩)].toArray 109 (0, 0)) :: pt b3 (.cells [.string key].toArray 9 (0, 0)) :: hd hb cs TH :: t.ap :: Lvs t.lv :: r) ((geL key (all t.lv)).map ya) := by
  refine ⟨_, [.pointer (some ⟨b2, 0, none⟩), .pointer (some ⟨b3, 0, none⟩)], rfl, Try.call67, fun yv K D hyc hy w H => ?_⟩
  obtain ⟨lv, arr⟩ := t
  obtain ⟨a0, c0, hf⟩ := ok.form
  have hch := hc.hv
  rw [hf] at hch
  have hlN : lv.length ≤ 1000000 := ok.ok.le
  dsimp only at hch
  obtain ⟨xs, hxs⟩ : ∃ xs, (geL key (all lv)).map ya = xs := ⟨_, rfl⟩
  dsimp only at hy
  rw [hxs] at hy
  show Calls _ _ #[yv, .pointer (some ⟨b2, 0, none⟩), .pointer (some ⟨b3, 0, none⟩)] _ _
  dsimp only
  rw [hxs]
  refine Calls.of_wp Try.func67 rfl Try.ntmps67 Try.results67 (Nat.le_of_ble_eq_true rfl) ?_
  refine WP.scope ?_
  refine WP.seq ?_
  refine WP.region ?_
  refine OpsE.val (x_load (v := .pointer (some ⟨hb, ho, none⟩)) rfl Try.isAgg109 (H.look _) rfl) ?_
  refine OpsE.val (x_load (v := .string key) rfl Try.isAgg9 (H.look _) rfl) ?_
  have H0 := H.take3 (hd hb cs TH) (Tr.ap ⟨lv, arr⟩) (Lvs lv)
  refine OpsE.call (x_call (vl := [.pointer _, .string _]) rfl Try.call63) (find_spec H0 hc.hv ok) ?_
  rintro _ w ⟨i0, k0, th, rfl, F, H1⟩
  have H := H1.take3 (K 0) (pt b2 (.cells [.pointer (some ⟨hb, ho, none⟩)].toArray 109 (0, 0))) (pt b3 (.cells [.string key].toArray 9 (0, 0)))
  refine OpsE.val (x_move (v := .tuple _) rfl) ?_
  refine OpsE.val (x_extract (v := .int .i64 _) rfl rfl) ?_
  refine OpsE.val (x_extract (v := .int .i64 _) rfl rfl) ?_
  refine OpsE.val (x_extract (v := .bool _) rfl rfl) ?_
  refine OpsE.val (x_assign (v := .int .i64 _) rfl) ?_
  refine OpsE.val (x_assign (v := .int .i64 _) rfl) ?_
  refine OpsE.val (x_assign (v := .bool _) rfl) ?_
  refine OpsE.nil ?_
  refine Then.normal ?_
  refine WP.seq ?_
  refine WP.label ?_
  refine Then.normal ?_
  refine WP.block ?_
  have hstart : (rem lv i0 k0).map ya = xs.drop 0 := by rw [F.rem ok.ok, hxs]; rfl
  have hk0 : i0 ≤ lv.length ∧ ∀ x, lv[i0]? = some x → k0 ≤ x.its.length := by
    rcases F with ⟨h, rfl, rfl, _⟩ | ⟨x, hx, hk, _⟩
    · exact ⟨Nat.zero_le _, fun _ _ => Nat.zero_le _⟩
    · exact ⟨Nat.le_of_lt (List.getElem?_eq_some_iff.1 hx).1, fun x' h => by rw [hx] at h; cases h; exact hk⟩
  refine WP.loopS [4, 5, 8, 16, 17, 18, 19, 20, 21, 22, 23, 24, 25, 26, 27, 28, 29, 30, 31, 32, 33, 34, 35, 36, 37, 38, 39, 40, 41, 42, 43, 44, 45, 46, 47, 48, 49, 50] (fun (s : Nat × Nat × Nat) E w => E 4 = .int .i64 (s.1 : Int) ∧ E 5 = .int .i64 (s.2.1 : Int) ∧ s.1 ≤ lv.length ∧ (∀ x, lv[s.1]? = some x → s.2.1 ≤ x.its.length) ∧ (rem lv s.1 s.2.1).map ya = xs.drop s.2.2 ∧ s.2.2 ≤ xs.length ∧ Sat w (K s.2.2 :: pt b2 (.cells [.pointer (some ⟨hb, ho, none⟩)].toArray 109 (0, 0)) :: pt b3 (.cells [.string key].toArray 9 (0, 0)) :: hd hb cs TH :: Tr.ap ⟨lv, arr⟩ :: Lvs lv :: r)) (fun s => lv.length - s.1) (i0, k0, 0) ⟨rfl, rfl, hk0.1, hk0.2, hstart, Nat.zero_le _, H⟩ ?_
  rintro ⟨i, k, p⟩ E1 w hs ⟨e4, e5, hil, hkl, hrem, hpl, H⟩
  dsimp only at e4 e5 hil hkl hrem hpl H
  refine WP.seq ?_
  refine WP.seq ?_
  refine WP.region ?_
  refine OpsE.val (x_load (v := .pointer (some ⟨hb, ho, none⟩)) (hs 1 rfl) Try.isAgg109 (H.look _) rfl) ?_
  refine OpsE.val (x_nePs rfl rfl Try.runUnderlying109) ?_
  refine OpsE.val (x_move (v := .bool _) rfl) ?_
  refine OpsE.yes rfl ?_
  refine OpsE.val (x_move (v := .int .i64 _) e4) ?_
  refine OpsE.yes rfl ?_
  refine OpsE.val (x_load (v := .pointer (some ⟨hb, ho, none⟩)) (hs 1 rfl) Try.isAgg109 (H.look _) rfl) ?_
  refine OpsE.yes rfl ?_
  refine OpsE.val (x_nilCheck rfl) ?_
  refine OpsE.yes rfl ?_
  refine OpsE.val (x_fieldAddr0 rfl Try.runUnderlying80 rfl rfl Try.sizeOf78) ?_
  refine OpsE.yes rfl ?_
  refine OpsE.val (x_load (v := .slice a0 lv.length c0) rfl Try.isAgg78 (H.look _) (by simpa using hch)) ?_
  refine OpsE.yes rfl ?_
  refine OpsE.val (x_lenL rfl rfl Try.runUnderlying78) ?_
  refine OpsE.yes rfl ?_
  refine OpsE.val (x_lt rfl rfl) ?_
  by_cases hi : (i : Int) < (lv.length : Int)
  · rw [decide_eq_true hi]
    refine OpsE.val (x_pickT rfl rfl) ?_
    refine OpsE.nil ?_
    refine Then.normal ?_
    refine WP.cond_t rfl rfl ?_
    refine WP.skip ?_
    refine Then.normal ?_
    refine WP.seq ?_
    refine WP.block ?_
    refine WP.seq ?_
    refine WP.region ?_
    have hne : lv ≠ [] := by rintro rfl; simp at hi; omega
    obtain ⟨L, cap, tl, rfl, hcap⟩ := Tr.Ok.some ok hne
    have hch2 := hc.slice
    obtain ⟨x, hx⟩ : ∃ x, lv[i]? = some x := ⟨_, List.getElem?_eq_getElem (by omega)⟩
    have hxO := ok.ok.leaf x (List.mem_of_getElem? hx)
    have hx9 := hxO.le
    have hxl := hxO.len
    unfold Leaf.cells at hxl
    rw [List.length_append, flat_len itc_len] at hxl
    have hkx := hkl x hx
    have hXw : ∀ A w, Sat w (A :: pt b2 (.cells [.pointer (some ⟨hb, ho, none⟩)].toArray 109 (0, 0)) :: pt b3 (.cells [.string key].toArray 9 (0, 0)) :: hd hb cs TH :: Tr.ap ⟨lv, some (L, cap, tl)⟩ :: Lvs lv :: r) → w.heap[x.blk]? = some (.cells x.cells.toArray 113 (0, 0)) := fun A w H => (H.take (Lvs lv)).star_pt hx rfl
    have hL : w.heap[L]? = some (arrO lv tl) := Sat.look (l := K p :: pt b2 (.cells [.pointer (some ⟨hb, ho, none⟩)].toArray 109 (0, 0)) :: pt b3 (.cells [.string key].toArray 9 (0, 0)) :: hd hb cs TH :: pt L (arrO lv tl) :: Lvs lv :: r) H L
    refine OpsE.val (x_load (v := .pointer (some ⟨hb, ho, none⟩)) ((hs 1 rfl)) Try.isAgg109 (H.look _) rfl) ?_
    refine OpsE.val (x_nilCheck rfl) ?_
    refine OpsE.val (x_fieldAddr0 rfl Try.runUnderlying80 rfl rfl Try.sizeOf78) ?_
    refine OpsE.val (x_load (v := .slice (some ⟨L, 0, none⟩) lv.length cap) rfl Try.isAgg78 (H.look _) (by simpa using hch2)) ?_
    refine OpsE.val (x_move (v := .int .i64 _) e4) ?_
    refine OpsE.val (x_indexAddr1 (i := i) rfl rfl Try.runUnderlying78 Try.sizeOf114 rfl (by omega)) ?_
    refine OpsE.val (x_load (v := .slice _ _ _) rfl Try.isAgg114 hL (lv_get hx)) ?_
    refine OpsE.val (x_move (v := .int .i64 _) e5) ?_
    refine OpsE.val (x_slLo (l := k) (off' := (if x.cap = k then 0 else 0 + k * 2)) rfl rfl Try.runUnderlying114 Try.sizeOf113 rfl hkx rfl) ?_
    refine OpsE.val (x_lenL rfl rfl Try.runUnderlying114) ?_
    refine OpsE.val (x_move (v := .int .i64 _) rfl) ?_
    refine OpsE.nil ?_
    refine Then.normal ?_
    refine WP.block ?_
    refine WP.loopS [8, 39, 40, 41, 42, 43, 44, 45, 46, 47, 48, 49, 50] (fun (j : Nat) E w => E 39 = .int .i64 (j : Int) ∧ j ≤ x.its.length - k ∧ (rem lv i (k + j)).map ya = xs.drop (p + j) ∧ p + j ≤ xs.length ∧ Sat w (K (p + j) :: pt b2 (.cells [.pointer (some ⟨hb, ho, none⟩)].toArray 109 (0, 0)) :: pt b3 (.cells [.string key].toArray 9 (0, 0)) :: hd hb cs TH :: Tr.ap ⟨lv, some (L, cap, tl)⟩ :: Lvs lv :: r)) (fun j => x.its.length - k - j) 0 ⟨rfl, Nat.zero_le _, hrem, hpl, H⟩ ?_
    rintro j E2 w hs2 ⟨e39, hjl, hrem2, hpl2, H⟩
    refine WP.seq ?_
    refine WP.region ?_
    refine OpsE.val (x_lt e39 (hs2 38 rfl)) ?_
    by_cases hj : (j : Int) < ((x.its.length - k : Nat) : Int)
    · rw [decide_eq_true hj]
      refine OpsE.nil ?_
      refine Then.normal ?_
      refine WP.seq ?_
      refine WP.cond_t rfl rfl ?_
      refine WP.skip ?_
      refine Then.normal ?_
      refine WP.seq ?_
      refine WP.block ?_
      refine WP.seq ?_
      refine WP.region ?_
      refine OpsE.val (x_indexAddro (i := j) (hs2 37 rfl) e39 Try.runUnderlying114 Try.sizeOf113 rfl (by omega)) ?_
      obtain ⟨y, hyx⟩ : ∃ y, x.its[k + j]? = some y := ⟨_, List.getElem?_eq_getElem (by omega)⟩
      have hoff : (if x.cap = k then 0 else 0 + k * 2) + j * 2 = (k + j) * 2 := by rw [if_neg (by omega)]; omega
      rw [hoff]
      refine OpsE.val (x_loadA (vs := itc y) rfl Try.isAgg113 Try.sizeOf113 (hXw _ w H) (it_all hyx) rfl) ?_
      refine OpsE.allocA Try.zeroValue113 H ?_
      intro b8 w H
      refine OpsE.storeA (vs := itc y) rfl rfl Try.sizeOf113 H (fun z hz => its_one [y] z (by simpa using hz)) (Nat.le_refl _) ?_
      intro w H
      refine OpsE.nil ?_
      refine Then.normal ?_
      refine WP.seq ?_
      refine WP.region ?_
      refine OpsE.val (x_move (v := yv) ((hs2 0 rfl).trans (hs 0 rfl))) ?_
      refine OpsE.val (x_fieldAddr0 rfl Try.runUnderlying113 rfl rfl Try.sizeOf9) ?_
      refine OpsE.val (x_load (v := .string _) rfl Try.isAgg9 (H.look _) rfl) ?_
      refine OpsE.val (x_fieldAddr (o := 1) rfl Try.runUnderlying113 rfl rfl Try.sizeOf84) ?_
      refine OpsE.val (x_load (v := tvv y.val) rfl Try.isAgg84 (H.look _) rfl) ?_
      have hxi : xs[p + j]? = some (ya y) := by
        have h1 : (rem lv i (k + j)).map ya = ya y :: (rem lv i (k + j + 1)).map ya := by rw [rem_cons hx hyx]; rfl
        rw [hrem2] at h1
        have h2 : (xs.drop (p + j))[0]? = some (ya y) := by rw [h1]; rfl
        rw [List.getElem?_drop] at h2; exact h2
      refine OpsE.yield (yv := yv) (args := ya y) rfl rfl (hy _ (p + j) _ w hxi H) ?_
      rintro _ w ⟨b, rfl, H⟩
      replace H := H.tail
      refine OpsE.val (x_not rfl) ?_
      refine OpsE.nil ?_
      refine Then.normal ?_
      refine WP.cond rfl (fun hb2 => ?_) (fun hb2 => ?_)
      · skip
        refine WP.exit ?_
        refine InBlock.miss rfl ?_
        refine Then.exit ?_
        refine Then.exit ?_
        refine InBlock.miss rfl ?_
        refine InBlock.miss rfl ?_
        refine Then.exit ?_
        refine Then.exit ?_
        refine InBlock.hit ?_
        refine NoGoto.normal ?_
        refine Leave0.normal (v := .tuple #[]) rfl ?_
        have hbf : b = false := by simpa using hb2
        subst hbf
        exact .inr ⟨p + j, (List.getElem?_eq_some_iff.1 hxi).1, H⟩
      · skip
        refine WP.skip ?_
        refine InBlock.normal ?_
        refine Then.normal ?_
        refine WP.region ?_
        refine OpsE.val (x_add (z := ((j + 1 : Nat) : Int)) e39 rfl (by rw [i64n (by omega) (by omega)]; omega)) ?_
        refine OpsE.val (x_move (v := .int .i64 _) rfl) ?_
        refine OpsE.nil ?_
        refine Then.normal ?_
        have hbt : b = true := by simpa using hb2
        subst hbt
        have hpj := (List.getElem?_eq_some_iff.1 hxi).1
        refine ⟨rfl, (by repeat (first | exact hs2 | refine Same.upd ?_ rfl)), j + 1, by omega, rfl, by omega, ?_, by omega, H⟩
        have h1 : (rem lv i (k + j)).map ya = ya y :: (rem lv i (k + j + 1)).map ya := by rw [rem_cons hx hyx]; rfl
        rw [hrem2] at h1
        have h2 := congrArg List.tail h1
        rw [List.tail_drop] at h2
        exact h2.symm
    · rw [decide_eq_false hj]
      refine OpsE.nil ?_
      refine Then.normal ?_
      refine WP.seq ?_
      refine WP.cond_f rfl rfl ?_
      refine WP.exit ?_
      refine Then.exit ?_
      refine Then.exit ?_
      refine InBlock.hit ?_
      refine InBlock.normal ?_
      refine Then.normal ?_
      refine WP.region ?_
      refine OpsE.val (x_move (v := .int .i64 _) ((hs2 4 rfl).trans e4)) ?_
      refine OpsE.val (x_add (z := ((i + 1 : Nat) : Int)) rfl rfl (by rw [i64n (by omega) (by omega)]; omega)) ?_
      refine OpsE.val (x_assign (v := .int .i64 _) rfl) ?_
      refine OpsE.val (x_assign (v := .int .i64 _) rfl) ?_
      refine OpsE.nil ?_
      refine Then.normal ?_
      refine ⟨rfl, (by repeat (first | exact hs | refine Same.upd ?_ rfl  | refine Same.sub hs2 ?_ rfl)), (i + 1, 0, p + j), (by dsimp only; omega), rfl, rfl, (by dsimp only; omega), (fun _ _ => Nat.zero_le _), ?_, hpl2, H⟩
      dsimp only
      rw [← hrem2, rem_next hx (by omega)]
  · rw [decide_eq_false hi]
    refine OpsE.val (x_pickT rfl rfl) ?_
    refine OpsE.nil ?_
    refine Then.normal ?_
    refine WP.cond_f rfl rfl ?_
    refine WP.exit ?_
    refine Then.exit ?_
    refine Then.exit ?_
    refine InBlock.hit ?_
    refine NoGoto.normal ?_
    refine Leave0.normal (v := .tuple #[]) rfl ?_
    have hie : i = lv.length := by omega
    subst hie
    have hk0' : p = xs.length := by
      have h1 : (rem lv lv.length k).map ya = [] := by
        unfold rem; rw [List.getElem?_eq_none (Nat.le_refl _), show lv.drop (lv.length + 1) = [] from List.drop_of_length_le (by omega)]; simp [all]
      rw [hrem] at h1
      have := List.drop_eq_nil_iff.1 h1
      omega
    subst hk0'
    exact .inl H
end Go.Proofs.Ytbhbdpbhhfemhaa.TC

/-
  The tree of keys: From and Range, and Range's iterator.
-/
namespace Go.Proofs.Ytbhbdpbhhfemhaa.TC
open Go Go.Proofs
set_option maxRecDepth 100000
set_option maxHeartbeats 4000000
set_option linter.unusedVariables false

abbrev bP (b hb ho : Nat) : HP := pt b (.cells [Value.pointer (some ⟨hb, ho, none⟩)].toArray 109 (0, 0))
abbrev bS (b : Nat) (s : ByteArray) : HP := pt b (.cells [Value.string s].toArray 9 (0, 0))

theorem From_seq {cs : List Value} {t : Tr} {hb ho TH b2 b3 : Nat} {key : ByteArray} (r : List HP) (hc : Hd cs ho t) (ok : t.Ok) :
    Seq Try.prog (.func (.func 67) #[] #[.pointer (some ⟨b2, 0, none⟩), .pointer (some ⟨b3, 0, none⟩)]) (bP b2 hb ho :: bS b3 key :: hd hb cs TH :: t.ap :: Lvs t.lv :: r) ((geL key (all t.lv)).map ya) := From1_seq hc ok

theorem From_spec {w : World} {l : List HP} {hb ho : Nat} {key : ByteArray} (H : Sat w l) :
    Calls Try.prog 48 #[.pointer (some ⟨hb, ho, none⟩), .string key] w (Ret fun v w' => ∃ b2 b3, v = .func (.func 67) #[] #[.pointer (some ⟨b2, 0, none⟩), .pointer (some ⟨b3, 0, none⟩)] ∧
      Sat w' (bS b3 key :: bP b2 hb ho :: l)) := by
  refine Calls.of_wp Try.func48 rfl Try.ntmps48 Try.results48 (Nat.le_of_ble_eq_true rfl) ?_
  refine WP.seq ?_
  refine WP.region ?_
  refine OpsE.box1 (v := .pointer _) rfl rfl H ?_
  intro b2 w H
  refine OpsE.box1 (v := .string _) rfl rfl H ?_
  intro b3 w H
  refine OpsE.val (x_assign (v := .nilFunc) rfl) ?_
  refine OpsE.nil ?_
  refine Then.normal ?_
  refine WP.seq ?_
  refine WP.region ?_
  refine OpsE.val (x_makeFunc (vl := [.pointer _, .pointer _]) rfl) ?_
  refine OpsE.val (x_assign (v := .func _ _ _) rfl) ?_
  refine OpsE.nil ?_
  refine Then.normal ?_
  refine WP.ret ?_
  refine Leave0.ret (v := .func _ _ _) rfl ?_
  exact ⟨b2, b3, rfl, H⟩

/-- the items from a key on, ahead of another one; an empty one: no end -/
def rgL (a b : ByteArray) (l : List It) : List It := (geL a l).takeWhile fun y => decide (b = ByteArray.empty) || slt y.key b

theorem Range_spec {w : World} {l : List HP} {hb ho : Nat} {a b : ByteArray} (H : Sat w l) :
    Calls Try.prog 55 #[.pointer (some ⟨hb, ho, none⟩), .string a, .string b] w (Ret fun v w' => ∃ b2 b3 b4, v = .func (.func 72) #[] #[.pointer (some ⟨b2, 0, none⟩), .pointer (some ⟨b3, 0, none⟩), .pointer (some ⟨b4, 0, none⟩)] ∧
      Sat w' (bS b4 b :: bS b3 a :: bP b2 hb ho :: l)) := by
  refine Calls.of_wp Try.func55 rfl Try.ntmps55 Try.results55 (Nat.le_of_ble_eq_true rfl) ?_
  refine WP.seq ?_
  refine WP.region ?_
  refine OpsE.box1 (v := .pointer _) rfl rfl H ?_
  intro b3 w H
  refine OpsE.box1 (v := .string _) rfl rfl H ?_
  intro b4 w H
  refine OpsE.box1 (v := .string _) rfl rfl H ?_
  intro b5 w H
  refine OpsE.val (x_assign (v := .nilFunc) rfl) ?_
  refine OpsE.nil ?_
  refine Then.normal ?_
  refine WP.seq ?_
  refine WP.region ?_
  refine OpsE.val (x_makeFunc (vl := [.pointer _, .pointer _, .pointer _]) rfl) ?_
  refine OpsE.val (x_assign (v := .func _ _ _) rfl) ?_
  refine OpsE.nil ?_
  refine Then.normal ?_
  refine WP.ret ?_
  refine Leave0.ret (v := .func _ _ _) rfl ?_
  exact ⟨b3, b4, b5, rfl, H⟩

theorem tw_lt {α : Type} {p : α → Bool} {l : List α} {i : Nat} {y : α} (h : l[i]? = some y) (hi : i ≤ (l.takeWhile p).length) : (p y = true ↔ i < (l.takeWhile p).length) := by
  induction l generalizing i with
  | nil => simp at h
  | cons x l ih =>
    by_cases hp : p x = true
    · cases i with
      | zero =>
        simp only [List.getElem?_cons_zero, Option.some.injEq] at h
        subst h; simp [List.takeWhile_cons, hp]
      | succ i =>
        simp only [List.getElem?_cons_succ] at h
        simp only [List.takeWhile_cons, hp, if_true, List.length_cons] at hi ⊢
        rw [ih h (by omega)]; omega
    · simp only [List.takeWhile_cons, hp, List.length_nil] at hi ⊢
      have : i = 0 := by simpa using hi
      subst this
      simp only [List.getElem?_cons_zero, Option.some.injEq] at h
      subst h; simp [hp]
theorem tw_get {α : Type} {p : α → Bool} {l : List α} {i : Nat} {y : α} (h : l[i]? = some y) (hi : i < (l.takeWhile p).length) : (l.takeWhile p)[i]? = some y := by
  have hpre : l.takeWhile p <+: l := List.takeWhile_prefix p
  obtain ⟨t, ht⟩ := hpre
  rw [← ht, List.getElem?_append_left hi] at h
  exact h

theorem Range1_seq {r : List HP} {cs : List Value} {t : Tr} {hb ho TH b2 b3 b4 : Nat} {a b : ByteArray} (hc : Hd cs ho t) (ok : t.Ok) :
    Seq Try.prog (.func (.func 72) #[] #[.pointer (some ⟨b2, 0, none⟩), .pointer (some ⟨b3, 0, none⟩), .pointer (some ⟨b4, 0, none⟩)])
      (bP b2 hb ho :: bS b3 a :: bS b4 b :: hd hb cs TH :: t.ap :: Lvs t.lv :: r) ((rgL a b (all t.lv)).map ya) := by
  refine ⟨_, [.pointer (some ⟨b2, 0, none⟩), .pointer (some ⟨b3, 0, none⟩), .pointer (some ⟨b4, 0, none⟩)], rfl, Try.call72, fun yv K D hyc hy w H => ?_⟩
  obtain ⟨ys, hys⟩ : ∃ ys, geL a (all t.lv) = ys := ⟨_, rfl⟩
  obtain ⟨zs, hzs⟩ : ∃ zs, rgL a b (all t.lv) = zs := ⟨_, rfl⟩
  have hz : zs = ys.takeWhile fun y => decide (b = ByteArray.empty) || slt y.key b := by rw [← hzs, ← hys]; rfl
  rw [hzs] at hy ⊢
  show Calls _ _ #[yv, .pointer (some ⟨b2, 0, none⟩), .pointer (some ⟨b3, 0, none⟩), .pointer (some ⟨b4, 0, none⟩)] _ _
  refine Calls.of_wp_marks Try.func72 rfl Try.ntmps72 Try.results72 (Nat.le_of_ble_eq_true rfl) ?_
  refine WP.seq ?_
  refine WP.region ?_
  refine OpsE.box1 (v := yv) rfl hyc H ?_
  intro b4' w H
  refine OpsE.nil ?_
  refine Then.normal ?_
  refine WP.seq ?_
  refine WP.region ?_
  refine OpsE.val (x_load (v := .pointer (some ⟨hb, ho, none⟩)) rfl Try.isAgg109 (H.look _) rfl) ?_
  refine OpsE.val (x_load (v := .string a) rfl Try.isAgg9 (H.look _) rfl) ?_
  refine OpsE.call (x_call (vl := [.pointer _, .string _]) rfl Try.call48) (From_spec H) ?_
  rintro _ w ⟨c2, c3, rfl, H⟩
  refine OpsE.nil ?_
  refine Then.normal ?_
  refine WP.block ?_
  refine WP.rangeFunc (fun i => HP.sep (lift (i ≤ zs.length)) (HP.sep (pt b4' (.cells [yv].toArray 91 (0, 0))) (K i))) (fun i e => HP.sep (lift (e = .ret ∧ i ≤ zs.length)) (HP.sep (pt b4' (.cells [yv].toArray 91 (0, 0))) (if i = zs.length then K zs.length else D i))) rfl (From_seq (b2 := c2) (b3 := c3) (key := a) (hb := hb) (TH := TH) (bP b2 hb ho :: bS b3 a :: bS b4 b :: r) hc ok) (fun _ h => by obtain ⟨_, _, rfl⟩ := List.mem_map.1 h; rfl) (sat_sep.2 (sat_lift.2 ⟨Nat.zero_le _, sat_sep.2 (H.perm (by simp only [stars_cons]; ac_rfl))⟩)) ?_ ?_ ?_
  · intro i args lp w hxi
    rw [hys] at hxi
    obtain ⟨y, hy0, rfl⟩ : ∃ y, ys[i]? = some y ∧ ya y = args := by simpa using hxi
    refine WP.seq ?_
    refine WP.region ?_
    refine OpsE.val (x_assign (v := .string _) rfl) ?_
    refine OpsE.nil ?_
    refine Then.normal ?_
    refine WP.region ?_
    refine OpsE.val (x_assign (v := .slice _ _ _) rfl) ?_
    refine OpsE.nil ?_
    refine ⟨rfl, rfl, rfl, fun w Fr H => ?_⟩
    have H1 := sat_sep.1 H.swap
    obtain ⟨hile, H2⟩ := sat_lift.1 H1
    replace H := sat_sep.1 H2
    clear H1 H2
    have hpy := tw_lt (p := fun y => decide (b = ByteArray.empty) || slt y.key b) hy0 (by rw [← hz]; exact hile)
    rw [← hz] at hpy
    refine WP.block ?_
    refine WP.seq ?_
    refine WP.region ?_
    refine OpsE.val (x_load (v := .string b) rfl Try.isAgg9 (H.look _) rfl) ?_
    refine OpsE.val (x_neS rfl rfl) ?_
    by_cases hb0 : b ≠ ⟨#[]⟩
    · rw [decide_eq_true hb0]
      refine OpsE.val (x_move (v := .bool _) rfl) ?_
      refine OpsE.yes rfl ?_
      refine OpsE.val (x_move (v := .string _) rfl) ?_
      refine OpsE.yes rfl ?_
      refine OpsE.val (x_load (v := .string b) rfl Try.isAgg9 (H.look _) rfl) ?_
      refine OpsE.yes rfl ?_
      refine OpsE.val (x_geS rfl rfl) ?_
      cases hs : (!slt y.key b)
      case false =>
        refine OpsE.val (x_pickT rfl rfl) ?_
        refine OpsE.val (x_move (v := .bool _) rfl) ?_
        refine OpsE.yes rfl ?_
        refine OpsE.val (x_load (v := yv) rfl Try.isAgg91 (H.look _) rfl) ?_
        refine OpsE.yes rfl ?_
        refine OpsE.val (x_move (v := .string _) rfl) ?_
        refine OpsE.yes rfl ?_
        refine OpsE.val (x_move (v := .slice _ _ _) rfl) ?_
        refine OpsE.yes rfl ?_
        have hzi : (zs.map ya)[i]? = some (ya y) := by
          have : i < zs.length := hpy.1 (by rw [show slt y.key b = true by simpa using hs]; simp)
          rw [List.getElem?_map, hz, tw_get hy0 (by rw [← hz]; exact this)]; rfl
        have hil : i < zs.length := by simpa using (List.getElem?_eq_some_iff.1 hzi).1
        have H3 : Sat w (HP.sep (pt b4' (.cells [yv].toArray 91 (0, 0))) (HP.sep Fr (HP.sep (bP c2 hb ho) (bS c3 a))) :: K i :: bP b2 hb ho :: bS b3 a :: bS b4 b :: hd hb cs TH :: t.ap :: Lvs t.lv :: r) := H.perm (by simp only [stars_cons]; ac_rfl)
        refine OpsE.yield (yv := yv) (args := ya y) rfl rfl (hy _ i _ w hzi H3) ?_
        rintro _ w ⟨bb, rfl, H⟩
        refine OpsE.yes rfl ?_
        refine OpsE.val (x_not rfl) ?_
        refine OpsE.val (x_pickF rfl rfl) ?_
        refine OpsE.nil ?_
        refine Then.normal ?_
        refine WP.cond rfl (fun hb1 => ?_) (fun hb1 => ?_)
        · skip
          refine WP.ret ?_
          refine InBlock.ret ?_
          have hbf : bb = false := by simpa using hb1
          subst hbf
          show Sat w (Fr :: HP.sep _ _ :: _)
          refine Sat.swap (sat_sep.2 (sat_lift.2 ⟨⟨rfl, hile⟩, sat_sep.2 ?_⟩))
          rw [if_neg (by omega)]
          exact H.perm (by simp only [stars_cons, cond]; ac_rfl)
        · skip
          refine WP.skip ?_
          refine InBlock.normal ?_
          have hbt : bb = true := by simpa using hb1
          subst hbt
          show Sat w (Fr :: HP.sep _ _ :: _)
          refine Sat.swap (sat_sep.2 (sat_lift.2 ⟨hil, sat_sep.2 ?_⟩))
          exact H.perm (by simp only [stars_cons, cond]; ac_rfl)
      case true =>
        refine OpsE.val (x_pickT rfl rfl) ?_
        refine OpsE.val (x_move (v := .bool _) rfl) ?_
        refine OpsE.no rfl ?_
        refine OpsE.no rfl ?_
        refine OpsE.no rfl ?_
        refine OpsE.no rfl ?_
        refine OpsE.no rfl ?_
        refine OpsE.val (x_pickT rfl rfl) ?_
        refine OpsE.nil ?_
        refine Then.normal ?_
        refine WP.cond_t rfl rfl ?_
        refine WP.ret ?_
        refine InBlock.ret ?_
        have hpf : ¬ (decide (b = ByteArray.empty) || slt y.key b) = true := by
          rw [decide_eq_false (show ¬ b = ByteArray.empty from hb0)]
          simpa using hs
        have hie : i = zs.length := by
          have := mt hpy.2 hpf; omega
        show Sat w (Fr :: HP.sep _ _ :: _)
        refine Sat.swap (sat_sep.2 (sat_lift.2 ⟨⟨rfl, hile⟩, sat_sep.2 ?_⟩))
        rw [if_pos hie, ← hie]
        exact H
    · rw [decide_eq_false hb0]
      refine OpsE.val (x_move (v := .bool _) rfl) ?_
      refine OpsE.no rfl ?_
      refine OpsE.no rfl ?_
      refine OpsE.no rfl ?_
      refine OpsE.val (x_pickF rfl rfl) ?_
      refine OpsE.val (x_move (v := .bool _) rfl) ?_
      refine OpsE.yes rfl ?_
      refine OpsE.val (x_load (v := yv) rfl Try.isAgg91 (H.look _) rfl) ?_
      refine OpsE.yes rfl ?_
      refine OpsE.val (x_move (v := .string _) rfl) ?_
      refine OpsE.yes rfl ?_
      refine OpsE.val (x_move (v := .slice _ _ _) rfl) ?_
      refine OpsE.yes rfl ?_
      have hzi : (zs.map ya)[i]? = some (ya y) := by
        have : i < zs.length := hpy.1 (by rw [decide_eq_true (show b = ByteArray.empty from Classical.not_not.1 hb0)]; rfl)
        rw [List.getElem?_map, hz, tw_get hy0 (by rw [← hz]; exact this)]; rfl
      have hil : i < zs.length := by simpa using (List.getElem?_eq_some_iff.1 hzi).1
      have H3 : Sat w (HP.sep (pt b4' (.cells [yv].toArray 91 (0, 0))) (HP.sep Fr (HP.sep (bP c2 hb ho) (bS c3 a))) :: K i :: bP b2 hb ho :: bS b3 a :: bS b4 b :: hd hb cs TH :: t.ap :: Lvs t.lv :: r) := H.perm (by simp only [stars_cons]; ac_rfl)
      refine OpsE.yield (yv := yv) (args := ya y) rfl rfl (hy _ i _ w hzi H3) ?_
      rintro _ w ⟨bb, rfl, H⟩
      refine OpsE.yes rfl ?_
      refine OpsE.val (x_not rfl) ?_
      refine OpsE.val (x_pickF rfl rfl) ?_
      refine OpsE.nil ?_
      refine Then.normal ?_
      refine WP.cond rfl (fun hb1 => ?_) (fun hb1 => ?_)
      · skip
        refine WP.ret ?_
        refine InBlock.ret ?_
        have hbf : bb = false := by simpa using hb1
        subst hbf
        show Sat w (Fr :: HP.sep _ _ :: _)
        refine Sat.swap (sat_sep.2 (sat_lift.2 ⟨⟨rfl, hile⟩, sat_sep.2 ?_⟩))
        rw [if_neg (by omega)]
        exact H.perm (by simp only [stars_cons, cond]; ac_rfl)
      · skip
        refine WP.skip ?_
        refine InBlock.normal ?_
        have hbt : bb = true := by simpa using hb1
        subst hbt
        show Sat w (Fr :: HP.sep _ _ :: _)
        refine Sat.swap (sat_sep.2 (sat_lift.2 ⟨hil, sat_sep.2 ?_⟩))
        exact H.perm (by simp only [stars_cons, cond]; ac_rfl)
  · intro bm w H
    refine InBlock.normal ?_
    refine Leave.normal (v := .tuple #[]) rfl ?_
    have H1 := sat_sep.1 H.swap
    obtain ⟨hle, H2⟩ := sat_lift.1 H1
    have hln : zs.length = ys.length := by
      rw [hys, List.length_map] at hle
      have := (List.takeWhile_prefix (fun y => decide (b = ByteArray.empty) || slt y.key b) (l := ys)).length_le
      rw [← hz] at this; omega
    replace H := sat_sep.1 H2
    rw [List.length_map, hys, ← hln] at H
    refine ⟨[bm], rfl, (pt b4' (.cells [yv].toArray 91 (0, 0)) :: bP c2 hb ho :: bS c3 a :: K zs.length :: bP b2 hb ho :: bS b3 a :: bS b4 b :: hd hb cs TH :: t.ap :: Lvs t.lv :: r), H.perm (by simp only [List.map, List.cons_append, List.nil_append, stars_cons]; ac_rfl), fun w' H' => .inl ?_⟩
    rw [List.length_map]
    exact H'.tail.tail.tail
  · intro bm i e c w hi hj H
    cases e with
    | ret =>
      have H1 := sat_sep.1 H.swap
      have hile := (sat_lift.1 H1).1.2
      replace H := sat_sep.1 (sat_lift.1 H1).2
      refine InBlock.ret ?_
      refine Leave.ret (v := .tuple #[]) rfl ?_
      refine ⟨[bm], rfl, (pt b4' (.cells [yv].toArray 91 (0, 0)) :: bP c2 hb ho :: bS c3 a :: (if i = zs.length then K zs.length else D i) :: bP b2 hb ho :: bS b3 a :: bS b4 b :: hd hb cs TH :: t.ap :: Lvs t.lv :: r), H.perm (by simp only [List.map, List.cons_append, List.nil_append, stars_cons]; ac_rfl), fun w' H' => ?_⟩
      have H4 := H'.tail.tail.tail
      by_cases hiz : i = zs.length
      · rw [if_pos hiz] at H4
        refine .inl ?_
        rw [List.length_map]; exact H4
      · rw [if_neg hiz] at H4
        refine .inr ⟨i, ?_, H4⟩
        rw [List.length_map]; omega
    | exit id =>
      exact absurd (sat_lift.1 (sat_sep.1 H.swap)).1.1 (by simp)
    | _ => cases hj
end Go.Proofs.Ytbhbdpbhhfemhaa.TC

/-
  The versions of a key: what a chain's cells are, and contracts of its functions.
-/
namespace Go.Proofs.Ytbhbdpbhhfemhaa
open Go Go.Proofs
set_option maxRecDepth 100000
set_option maxHeartbeats 4000000
set_option linter.unusedVariables false

structure Ver where
  seq : Int
  val : ByteArray
  gone : Bool
def verc (v : Ver) : List Value := [.int .i64 v.seq, .string v.val, .bool v.gone]
theorem verc_len (v : Ver) : (verc v).length = 3 := rfl
theorem verc_one (l : List Ver) : ∀ u ∈ l.flatMap verc, u.oneCell' = true := by
  intro u hu
  obtain ⟨y, _, hy⟩ := List.mem_flatMap.1 hu
  simp only [verc, List.mem_cons, List.not_mem_nil, or_false] at hy
  rcases hy with rfl | rfl | rfl <;> rfl
/-- versions of a chain: their commits rise, and are numbers of commits -/
structure VOk (vs : List Ver) : Prop where
  srt : vs.Pairwise (fun a b => a.seq < b.seq)
  bd : ∀ v ∈ vs, 0 ≤ v.seq ∧ v.seq ≤ 1099511627776
  len : vs.length ≤ 1000000
abbrev VO (b : Nat) (vs : List Ver) (tl : List Value) : Obj := .cells (vs.flatMap verc ++ tl).toArray 90 (0, 0)
/-- a chain's row, for whoever holds the list of assertions -/
def ChAt (l : List HP) (b : Nat) (vs : List Ver) : Prop := ∃ tl, ∀ w, Sat w l → w.heap[b]? = some (.cells (vs.flatMap verc ++ tl).toArray 90 (0, 0))

theorem KV : ElemOk Try.prog 84 90 3 32 (.agg #[.int .i64 0, .string ByteArray.empty, .bool false]) := ⟨Try.underlying84, ⟨Try.t90, Try.type90, rfl, rfl, rfl⟩, rfl⟩

theorem cmpI_lt (a b : Int) : cmpI a b < 0 ↔ a < b := by
  unfold cmpI; split
  · omega
  · split <;> omega
theorem cmpI_eq (a b : Int) : cmpI a b = 0 ↔ a = b := by
  unfold cmpI; split
  · omega
  · split <;> omega

theorem behind1_spec {w : World} {l : List HP} {y : Ver} {q : Int} (H : Sat w l) :
    Calls Try.prog 95 #[.agg (verc y).toArray, .int .i64 q] w (Ret fun v w' => v = .int .i64 (cmpI y.seq q) ∧ Sat w' l) := by
  refine Calls.of_wp Try.func95 rfl Try.ntmps95 Try.results95 (Nat.le_of_ble_eq_true rfl) ?_
  refine WP.seq ?_
  refine WP.region ?_
  refine OpsE.boxA (cs := verc y) rfl H ?_
  intro b2 w H
  refine OpsE.val (x_assign (v := .int .i64 _) rfl) ?_
  refine OpsE.nil ?_
  refine Then.normal ?_
  refine WP.seq ?_
  refine WP.region ?_
  refine OpsE.val (x_fieldAddr0 rfl Try.runUnderlying90 rfl rfl Try.sizeOf3) ?_
  refine OpsE.val (x_load (v := .int .i64 _) rfl Try.isAgg3 (H.look _) rfl) ?_
  refine OpsE.val (x_move (v := .int .i64 _) rfl) ?_
  refine OpsE.call (x_call (vl := [.int .i64 _, .int .i64 _]) rfl Try.call96) (cmpI_spec _ _ H) ?_
  rintro _ w ⟨rfl, H⟩
  refine OpsE.val (x_assign (v := .int .i64 _) rfl) ?_
  refine OpsE.nil ?_
  refine Then.normal ?_
  refine WP.ret ?_
  refine Leave0.ret (v := .int .i64 _) rfl ?_
  exact ⟨rfl, H.tail⟩

theorem ver_all {vs : List Ver} {tl : List Value} {k : Nat} {y : Ver} (h : vs[k]? = some y) : ((vs.flatMap verc ++ tl).toArray.toList.drop (k * 3)).take 3 = verc y := flat_take (f := verc) verc_len tl h

theorem BSV_spec {w : World} {l : List HP} {vs : List Ver} {b c : Nat} {q : Int} (H : Sat w l) (hx : ChAt l b vs) (hl : vs.length ≤ 1000000) :
    Calls Try.prog 94 #[.slice (some ⟨b, 0, none⟩) vs.length c, .int .i64 q, .func (.func 95) #[] #[]] w
      (Ret fun v w' => ∃ (k : Nat) (th : Bool), v = .tuple #[.int .i64 k, .bool th] ∧ k ≤ vs.length ∧ (∀ j y, k = j + 1 → vs[j]? = some y → y.seq < q) ∧ (∀ y, vs[k]? = some y → q ≤ y.seq) ∧ (th = true ↔ ∃ y, vs[k]? = some y ∧ y.seq = q) ∧ Sat w' l) := by
  obtain ⟨tl, hx⟩ := hx
  obtain ⟨n, hn⟩ : ∃ n, vs.length = n := ⟨_, rfl⟩
  rw [hn] at hl ⊢
  refine Calls.of_wp Try.func94 rfl Try.ntmps94 Try.results94 (Nat.le_of_ble_eq_true rfl) ?_
  refine WP.seq ?_
  refine WP.region ?_
  refine OpsE.val (x_assign (v := .int .i64 _) rfl) ?_
  refine OpsE.val (x_assign (v := .bool _) rfl) ?_
  refine OpsE.nil ?_
  refine Then.normal ?_
  refine WP.seq ?_
  refine WP.region ?_
  refine OpsE.val (x_move (v := .slice _ _ _) rfl) ?_
  refine OpsE.val (x_lenL rfl rfl Try.runUnderlying84) ?_
  refine OpsE.val (x_assign (v := .int .i64 _) rfl) ?_
  refine OpsE.nil ?_
  refine Then.normal ?_
  refine WP.seq ?_
  refine WP.region ?_
  refine OpsE.val (x_move (v := .int .i64 _) rfl) ?_
  refine OpsE.val (x_assign (v := .int .i64 _) rfl) ?_
  refine OpsE.val (x_assign (v := .int .i64 _) rfl) ?_
  refine OpsE.nil ?_
  refine Then.normal ?_
  refine WP.seq ?_
  refine WP.block ?_
  refine WP.loopS [9, 10, 11, 15, 16, 17, 18, 19, 20, 21, 22, 23, 24, 25, 26, 27, 28, 29, 30, 31, 32, 33, 34] (fun (s : Nat × Nat) E w => E 9 = .int .i64 (s.1 : Int) ∧ E 10 = .int .i64 (s.2 : Int) ∧ s.1 ≤ s.2 ∧ s.2 ≤ n ∧ (∀ j y, s.1 = j + 1 → vs[j]? = some y → y.seq < q) ∧ (∀ y, vs[s.2]? = some y → q ≤ y.seq) ∧ Sat w l) (fun s => s.2 - s.1) (0, n) ⟨rfl, rfl, Nat.zero_le _, Nat.le_refl _, (fun _ _ h => by cases h), (fun y h => by have := (List.getElem?_eq_some_iff.1 h).1; dsimp only at this; omega), H⟩ ?_
  rintro ⟨i, j⟩ E1 w hs ⟨e9, e10, hij, hjn, hp, hq, H⟩
  dsimp only at e9 e10 hij hjn hp hq
  refine WP.seq ?_
  refine WP.seq ?_
  refine WP.region ?_
  refine OpsE.val (x_move (v := .int .i64 _) e9) ?_
  refine OpsE.val (x_move (v := .int .i64 _) e10) ?_
  refine OpsE.val (x_lt rfl rfl) ?_
  by_cases hlt : (i : Int) < (j : Int)
  · rw [decide_eq_true hlt]
    refine OpsE.nil ?_
    refine Then.normal ?_
    refine WP.cond_t rfl rfl ?_
    refine WP.skip ?_
    refine Then.normal ?_
    refine WP.block ?_
    refine WP.seq ?_
    refine WP.region ?_
    refine OpsE.val (x_move (v := .int .i64 _) e9) ?_
    refine OpsE.val (x_move (v := .int .i64 _) e10) ?_
    refine OpsE.val (x_add (z := ((i + j : Nat) : Int)) rfl rfl (by rw [i64n (by omega) (by omega)]; omega)) ?_
    refine OpsE.val (x_convI (z := ((i + j : Nat) : Int)) rfl Try.runUnderlying3 Try.runUnderlying108 (u64n (by omega) (by omega))) ?_
    refine OpsE.val (x_mid rfl) ?_
    refine OpsE.val (x_convI (z := (((i + j) / 2 : Nat) : Int)) rfl Try.runUnderlying108 Try.runUnderlying3 (i64n (by omega) (by omega))) ?_
    refine OpsE.val (x_assign (v := .int .i64 _) rfl) ?_
    refine OpsE.nil ?_
    refine Then.normal ?_
    refine WP.seq ?_
    refine WP.region ?_
    refine OpsE.val (x_move (v := .func _ _ _) (hs 2 rfl)) ?_
    refine OpsE.val (x_move (v := .slice _ _ _) (hs 0 rfl)) ?_
    refine OpsE.val (x_move (v := .int .i64 _) rfl) ?_
    refine OpsE.val (x_indexAddr (i := (i + j) / 2) rfl rfl Try.runUnderlying84 Try.sizeOf90 rfl (by omega)) ?_
    obtain ⟨y, hy⟩ : ∃ y, vs[(i + j) / 2]? = some y := ⟨_, List.getElem?_eq_getElem (by omega)⟩
    refine OpsE.val (x_loadA (vs := verc y) rfl Try.isAgg90 Try.sizeOf90 (hx _ H) (ver_all hy) rfl) ?_
    refine OpsE.val (x_move (v := .int .i64 _) (hs 1 rfl)) ?_
    refine OpsE.call (x_callV (cl := []) (vl := [.agg _, .int .i64 _]) rfl rfl Try.call95) (behind1_spec (y := y) H) ?_
    rintro _ w ⟨rfl, H⟩
    refine OpsE.val (x_lt rfl rfl) ?_
    by_cases hm : cmpI y.seq q < 0
    · rw [decide_eq_true hm]
      refine OpsE.nil ?_
      refine Then.normal ?_
      refine WP.cond_t rfl rfl ?_
      refine WP.region ?_
      refine OpsE.val (x_move (v := .int .i64 _) rfl) ?_
      refine OpsE.val (x_add (z := (((i + j) / 2 + 1 : Nat) : Int)) rfl rfl (by rw [i64n (by omega) (by omega)]; omega)) ?_
      refine OpsE.val (x_assign (v := .int .i64 _) rfl) ?_
      refine OpsE.nil ?_
      refine InBlock.normal ?_
      refine Then.normal ?_
      refine ⟨rfl, (by repeat (first | exact hs | refine Same.upd ?_ rfl)), ((i + j) / 2 + 1, j), (by dsimp only; omega), rfl, e10, (by dsimp only; omega), hjn, (fun k z hk hz => ?_), hq, H⟩
      have : k = (i + j) / 2 := by dsimp only at hk; omega
      subst this; rw [hy] at hz; cases hz; exact (cmpI_lt _ _).1 hm
    · rw [decide_eq_false hm]
      refine OpsE.nil ?_
      refine Then.normal ?_
      refine WP.cond_f rfl rfl ?_
      refine WP.region ?_
      refine OpsE.val (x_move (v := .int .i64 _) rfl) ?_
      refine OpsE.val (x_assign (v := .int .i64 _) rfl) ?_
      refine OpsE.nil ?_
      refine InBlock.normal ?_
      refine Then.normal ?_
      refine ⟨rfl, (by repeat (first | exact hs | refine Same.upd ?_ rfl)), (i, (i + j) / 2), (by dsimp only; omega), e9, rfl, (by dsimp only; omega), (by dsimp only; omega), hp, (fun z hz => ?_), H⟩
      dsimp only at hz; rw [hy] at hz; cases hz
      exact Int.not_lt.1 (fun e => hm ((cmpI_lt _ _).2 e))
  · rw [decide_eq_false hlt]
    refine OpsE.nil ?_
    refine Then.normal ?_
    refine WP.cond_f rfl rfl ?_
    refine WP.exit ?_
    refine Then.exit ?_
    refine Then.exit ?_
    refine InBlock.hit ?_
    refine Then.normal ?_
    refine WP.seq ?_
    refine WP.region ?_
    refine OpsE.val (x_move (v := .int .i64 _) e9) ?_
    refine OpsE.val (x_move (v := .int .i64 _) e9) ?_
    refine OpsE.val (x_move (v := .int .i64 _) (hs 8 rfl)) ?_
    refine OpsE.val (x_lt rfl rfl) ?_
    by_cases hin : (i : Int) < (n : Int)
    · rw [decide_eq_true hin]
      refine OpsE.val (x_move (v := .bool _) rfl) ?_
      refine OpsE.yes rfl ?_
      refine OpsE.val (x_move (v := .func _ _ _) (hs 2 rfl)) ?_
      refine OpsE.yes rfl ?_
      refine OpsE.val (x_move (v := .slice _ _ _) (hs 0 rfl)) ?_
      refine OpsE.yes rfl ?_
      refine OpsE.val (x_move (v := .int .i64 _) e9) ?_
      refine OpsE.yes rfl ?_
      refine OpsE.val (x_indexAddr (i := i) rfl rfl Try.runUnderlying84 Try.sizeOf90 rfl (by omega)) ?_
      refine OpsE.yes rfl ?_
      obtain ⟨y, hy⟩ : ∃ y, vs[i]? = some y := ⟨_, List.getElem?_eq_getElem (by omega)⟩
      refine OpsE.val (x_loadA (vs := verc y) rfl Try.isAgg90 Try.sizeOf90 (hx _ H) (ver_all hy) rfl) ?_
      refine OpsE.yes rfl ?_
      refine OpsE.val (x_move (v := .int .i64 _) (hs 1 rfl)) ?_
      refine OpsE.yes rfl ?_
      refine OpsE.call (x_callV (cl := []) (vl := [.agg _, .int .i64 _]) rfl rfl Try.call95) (behind1_spec (y := y) H) ?_
      rintro _ w ⟨rfl, H⟩
      refine OpsE.yes rfl ?_
      refine OpsE.val (x_eqI rfl rfl) ?_
      refine OpsE.val (x_pickT rfl rfl) ?_
      refine OpsE.val (x_assign (v := .int .i64 _) rfl) ?_
      refine OpsE.val (x_assign (v := .bool _) rfl) ?_
      refine OpsE.nil ?_
      refine Then.normal ?_
      refine WP.ret ?_
      refine Leave0.ret (v := .tuple #[.int .i64 _, .bool _]) rfl ?_
      have hij' : i = j := by omega
      subst hij'
      refine ⟨i, _, rfl, hjn, hp, hq, ?_, H⟩
      rw [decide_eq_true_eq, cmpI_eq]
      exact ⟨fun h => ⟨y, hy, h⟩, fun ⟨z, hz, h⟩ => by rw [hy] at hz; cases hz; exact h⟩
    · rw [decide_eq_false hin]
      refine OpsE.val (x_move (v := .bool _) rfl) ?_
      refine OpsE.no rfl ?_
      refine OpsE.no rfl ?_
      refine OpsE.no rfl ?_
      refine OpsE.no rfl ?_
      refine OpsE.no rfl ?_
      refine OpsE.no rfl ?_
      refine OpsE.no rfl ?_
      refine OpsE.no rfl ?_
      refine OpsE.val (x_pickF rfl rfl) ?_
      refine OpsE.val (x_assign (v := .int .i64 _) rfl) ?_
      refine OpsE.val (x_assign (v := .bool _) rfl) ?_
      refine OpsE.nil ?_
      refine Then.normal ?_
      refine WP.ret ?_
      refine Leave0.ret (v := .tuple #[.int .i64 _, .bool _]) rfl ?_
      have hij' : i = j := by omega
      subst hij'
      refine ⟨i, _, rfl, hjn, hp, hq, ?_, H⟩
      exact ⟨fun h => (by cases h), fun ⟨z, hz, h⟩ => by have := (List.getElem?_eq_some_iff.1 hz).1; omega⟩

theorem BSVnil_spec {w : World} {l : List HP} {q : Int} (H : Sat w l) :
    Calls Try.prog 94 #[.slice none 0 0, .int .i64 q, .func (.func 95) #[] #[]] w
      (Ret fun v w' => v = .tuple #[.int .i64 0, .bool false] ∧ Sat w' l) := by
  refine Calls.of_wp Try.func94 rfl Try.ntmps94 Try.results94 (Nat.le_of_ble_eq_true rfl) ?_
  refine WP.seq ?_
  refine WP.region ?_
  refine OpsE.val (x_assign (v := .int .i64 _) rfl) ?_
  refine OpsE.val (x_assign (v := .bool _) rfl) ?_
  refine OpsE.nil ?_
  refine Then.normal ?_
  refine WP.seq ?_
  refine WP.region ?_
  refine OpsE.val (x_move (v := .slice _ _ _) rfl) ?_
  refine OpsE.val (x_lenL rfl rfl Try.runUnderlying84) ?_
  refine OpsE.val (x_assign (v := .int .i64 _) rfl) ?_
  refine OpsE.nil ?_
  refine Then.normal ?_
  refine WP.seq ?_
  refine WP.region ?_
  refine OpsE.val (x_move (v := .int .i64 _) rfl) ?_
  refine OpsE.val (x_assign (v := .int .i64 _) rfl) ?_
  refine OpsE.val (x_assign (v := .int .i64 _) rfl) ?_
  refine OpsE.nil ?_
  refine Then.normal ?_
  refine WP.seq ?_
  refine WP.block ?_
  refine WP.loopS [9, 10, 11, 15, 16, 17, 18, 19, 20, 21, 22, 23, 24, 25, 26, 27, 28, 29, 30, 31, 32, 33, 34] (fun (s : Nat) E w => E 9 = .int .i64 0 ∧ E 10 = .int .i64 0 ∧ Sat w l) (fun s => s) 0 ⟨rfl, rfl, H⟩ ?_
  rintro s E1 w hs ⟨e9, e10, H⟩
  refine WP.seq ?_
  refine WP.seq ?_
  refine WP.region ?_
  refine OpsE.val (x_move (v := .int .i64 _) e9) ?_
  refine OpsE.val (x_move (v := .int .i64 _) e10) ?_
  refine OpsE.val (x_lt rfl rfl) ?_
  rw [decide_eq_false (by decide)]
  refine OpsE.nil ?_
  refine Then.normal ?_
  refine WP.cond_f rfl rfl ?_
  refine WP.exit ?_
  refine Then.exit ?_
  refine Then.exit ?_
  refine InBlock.hit ?_
  refine Then.normal ?_
  refine WP.seq ?_
  refine WP.region ?_
  refine OpsE.val (x_move (v := .int .i64 _) e9) ?_
  refine OpsE.val (x_move (v := .int .i64 _) e9) ?_
  refine OpsE.val (x_move (v := .int .i64 _) (hs 8 rfl)) ?_
  refine OpsE.val (x_lt rfl rfl) ?_
  rw [decide_eq_false (by decide)]
  refine OpsE.val (x_move (v := .bool _) rfl) ?_
  refine OpsE.no rfl ?_
  refine OpsE.no rfl ?_
  refine OpsE.no rfl ?_
  refine OpsE.no rfl ?_
  refine OpsE.no rfl ?_
  refine OpsE.no rfl ?_
  refine OpsE.no rfl ?_
  refine OpsE.no rfl ?_
  refine OpsE.val (x_pickF rfl rfl) ?_
  refine OpsE.val (x_assign (v := .int .i64 _) rfl) ?_
  refine OpsE.val (x_assign (v := .bool _) rfl) ?_
  refine OpsE.nil ?_
  refine Then.normal ?_
  refine WP.ret ?_
  refine Leave0.ret (v := .tuple #[.int .i64 _, .bool _]) rfl ?_
  exact ⟨rfl, H⟩
end Go.Proofs.Ytbhbdpbhhfemhaa

/-
  The versions of a key: behind, Last, At, Put, Cut.
-/
namespace Go.Proofs.Ytbhbdpbhhfemhaa
open Go Go.Proofs
set_option maxRecDepth 100000
set_option maxHeartbeats 4000000
set_option linter.unusedVariables false

def upto (vs : List Ver) (q : Int) : List Ver := vs.filter fun v => decide (v.seq ≤ q)
def bh (vs : List Ver) (q : Int) : Nat := (upto vs q).length
theorem upto_app (a b : List Ver) (q : Int) : upto (a ++ b) q = upto a q ++ upto b q := List.filter_append ..
theorem upto_of {vs : List Ver} {k : Nat} {q : Int} (h1 : ∀ y ∈ vs.take k, y.seq ≤ q) (h2 : ∀ y ∈ vs.drop k, q < y.seq) : upto vs q = vs.take k := by
  have : upto vs q = upto (vs.take k) q ++ upto (vs.drop k) q := by rw [← upto_app, List.take_append_drop]
  rw [this]
  have e1 : upto (vs.take k) q = vs.take k := List.filter_eq_self.2 fun y hy => by simpa using h1 y hy
  have e2 : upto (vs.drop k) q = [] := List.filter_eq_nil_iff.2 fun y hy => by have := h2 y hy; simp; omega
  rw [e1, e2, List.append_nil]

theorem bs_behind {vs : List Ver} (hs : vs.Pairwise (fun a b => a.seq < b.seq)) {k : Nat} {th : Bool} {q : Int} (hk : k ≤ vs.length) (h1 : ∀ j y, k = j + 1 → vs[j]? = some y → y.seq < q) (h2 : ∀ y, vs[k]? = some y → q ≤ y.seq) (h3 : th = true ↔ ∃ y, vs[k]? = some y ∧ y.seq = q) :
    upto vs q = vs.take (k + th.toNat) ∧ k + th.toNat ≤ vs.length := by
  have hp := List.pairwise_iff_getElem.1 hs
  have hlow : ∀ j (hj : j < vs.length), j < k → (vs[j]).seq < q := by
    intro j hj hjk
    obtain ⟨m, rfl⟩ : ∃ m, k = m + 1 := ⟨k - 1, by omega⟩
    have hm := h1 m (vs[m]'(by omega)) rfl (by simp)
    rcases Nat.lt_or_ge j m with h | h
    · have := hp j m hj (by omega) h; omega
    · have : j = m := by omega
      subst this; exact hm
  cases th with
  | true =>
    obtain ⟨y, hy, hq⟩ := h3.1 rfl
    obtain ⟨hkl, ey⟩ := List.getElem?_eq_some_iff.1 hy
    refine ⟨upto_of (fun z hz => ?_) (fun z hz => ?_), hkl⟩
    · obtain ⟨j, hj, e⟩ := List.mem_take_iff_getElem.1 hz
      simp only [Bool.toNat_true] at hj
      subst e
      rcases Nat.lt_or_ge j k with h | h
      · exact Int.le_of_lt (hlow j (by omega) h)
      · have : j = k := by omega
        subst this; rw [ey]; omega
    · obtain ⟨j, hj, e⟩ := List.mem_iff_getElem.1 hz
      simp only [Bool.toNat_true, List.length_drop] at hj
      have := hp k (k + 1 + j) hkl (by omega) (by omega)
      rw [ey] at this
      have e' : z = vs[k + 1 + j]'(by omega) := by rw [← e]; simp
      rw [e']; omega
  | false =>
    have hno : ∀ y, vs[k]? = some y → y.seq ≠ q := fun y hy hq => by have := h3.2 ⟨y, hy, hq⟩; cases this
    refine ⟨upto_of (fun z hz => ?_) (fun z hz => ?_), hk⟩
    · obtain ⟨j, hj, e⟩ := List.mem_take_iff_getElem.1 hz
      simp only [Bool.toNat_false] at hj
      subst e
      exact Int.le_of_lt (hlow j (by omega) (by omega))
    · obtain ⟨j, hj, e⟩ := List.mem_iff_getElem.1 hz
      simp only [Bool.toNat_false, List.length_drop, Nat.add_zero] at hj
      have hkl : k < vs.length := by omega
      have a := h2 (vs[k]) (by simp [hkl])
      have b := hno (vs[k]) (by simp [hkl])
      have e' : z = vs[k + j]'(by omega) := by rw [← e]; simp
      cases j with
      | zero => rw [e']; simp only [Nat.add_zero]; omega
      | succ j => have := hp k (k + (j + 1)) hkl (by omega) (by omega); rw [e']; omega

/-- a chain as a value: nil, or a row -/
structure CVal (l : List HP) (v : TC.TV) (vs : List Ver) : Prop where
  ok : VOk vs
  mem : (vs = [] ∧ v = (none, 0, 0)) ∨ ∃ b c, vs.length ≤ c ∧ v = (some ⟨b, 0, none⟩, vs.length, c) ∧ ChAt l b vs

theorem CVal.more {A : HP} {l : List HP} {v : TC.TV} {vs : List Ver} (h : CVal l v vs) : CVal (A :: l) v vs := by
  refine ⟨h.ok, h.mem.imp id ?_⟩
  rintro ⟨b, c, h1, h2, tl, hb⟩
  exact ⟨b, c, h1, h2, tl, fun w H => hb w H.tail⟩

theorem behind_spec {w : World} {l : List HP} {vs : List Ver} {v : TC.TV} {q : Int} (H : Sat w l) (hx : CVal l v vs) :
    Calls Try.prog 68 #[TC.tvv v, .int .i64 q] w (Ret fun u w' => u = .int .i64 (bh vs q : Int) ∧ Sat w' l) := by
  have hlen := hx.ok.len
  rcases hx.mem with ⟨rfl, rfl⟩ | ⟨b, c, hcl, rfl, hb⟩
  · skip
    refine Calls.of_wp Try.func68 rfl Try.ntmps68 Try.results68 (Nat.le_of_ble_eq_true rfl) ?_
    refine WP.seq ?_
    refine WP.region ?_
    refine OpsE.val (x_assign (v := .int .i64 _) rfl) ?_
    refine OpsE.nil ?_
    refine Then.normal ?_
    refine WP.seq ?_
    refine WP.region ?_
    refine OpsE.val (x_move (v := .slice _ _ _) rfl) ?_
    refine OpsE.val (x_move (v := .int .i64 _) rfl) ?_
    refine OpsE.call (x_call (vl := [.slice _ _ _, .int .i64 _, .func _ _ _]) rfl Try.call94) (BSVnil_spec H) ?_
    rintro _ w ⟨rfl, H⟩
    refine OpsE.val (x_move (v := .tuple _) rfl) ?_
    refine OpsE.val (x_extract (v := .int .i64 _) rfl rfl) ?_
    refine OpsE.val (x_extract (v := .bool _) rfl rfl) ?_
    refine OpsE.val (x_assign (v := .int .i64 _) rfl) ?_
    refine OpsE.val (x_assign (v := .bool _) rfl) ?_
    refine OpsE.nil ?_
    refine Then.normal ?_
    refine WP.seq ?_
    refine WP.seq ?_
    refine WP.region ?_
    refine OpsE.val (x_move (v := .bool _) rfl) ?_
    refine OpsE.nil ?_
    refine Then.normal ?_
    refine WP.cond_f rfl rfl ?_
    refine WP.skip ?_
    refine Then.normal ?_
    refine WP.seq ?_
    refine WP.region ?_
    refine OpsE.val (x_move (v := .int .i64 _) rfl) ?_
    refine OpsE.val (x_assign (v := .int .i64 _) rfl) ?_
    refine OpsE.nil ?_
    refine Then.normal ?_
    refine WP.ret ?_
    refine Leave0.ret (v := .int .i64 _) rfl ?_
    exact ⟨rfl, H⟩
  · skip
    refine Calls.of_wp Try.func68 rfl Try.ntmps68 Try.results68 (Nat.le_of_ble_eq_true rfl) ?_
    refine WP.seq ?_
    refine WP.region ?_
    refine OpsE.val (x_assign (v := .int .i64 _) rfl) ?_
    refine OpsE.nil ?_
    refine Then.normal ?_
    refine WP.seq ?_
    refine WP.region ?_
    refine OpsE.val (x_move (v := .slice _ _ _) rfl) ?_
    refine OpsE.val (x_move (v := .int .i64 _) rfl) ?_
    refine OpsE.call (x_call (vl := [.slice _ _ _, .int .i64 _, .func _ _ _]) rfl Try.call94) (BSV_spec (c := c) H hb hlen) ?_
    rintro _ w ⟨k, th, rfl, h0, h1, h2, h3, H⟩
    refine OpsE.val (x_move (v := .tuple _) rfl) ?_
    refine OpsE.val (x_extract (v := .int .i64 _) rfl rfl) ?_
    refine OpsE.val (x_extract (v := .bool _) rfl rfl) ?_
    refine OpsE.val (x_assign (v := .int .i64 _) rfl) ?_
    refine OpsE.val (x_assign (v := .bool _) rfl) ?_
    refine OpsE.nil ?_
    refine Then.normal ?_
    refine WP.seq ?_
    refine WP.seq ?_
    refine WP.region ?_
    refine OpsE.val (x_move (v := .bool _) rfl) ?_
    refine OpsE.nil ?_
    refine Then.normal ?_
    refine WP.cond rfl (fun ht => ?_) (fun ht => ?_)
    · skip
      refine WP.region ?_
      refine OpsE.val (x_move (v := .int .i64 _) rfl) ?_
      refine OpsE.val (x_add (z := ((k + 1 : Nat) : Int)) rfl rfl (by rw [i64n (by omega) (by omega)]; omega)) ?_
      refine OpsE.val (x_assign (v := .int .i64 _) rfl) ?_
      refine OpsE.nil ?_
      refine Then.normal ?_
      refine WP.seq ?_
      refine WP.region ?_
      refine OpsE.val (x_move (v := .int .i64 _) rfl) ?_
      refine OpsE.val (x_assign (v := .int .i64 _) rfl) ?_
      refine OpsE.nil ?_
      refine Then.normal ?_
      refine WP.ret ?_
      refine Leave0.ret (v := .int .i64 _) rfl ?_
      subst ht
      obtain ⟨e, hn⟩ := bs_behind hx.ok.srt h0 h1 h2 h3
      refine ⟨?_, H⟩
      unfold bh; rw [e, List.length_take, Nat.min_eq_left hn]; rfl
    · skip
      refine WP.skip ?_
      refine Then.normal ?_
      refine WP.seq ?_
      refine WP.region ?_
      refine OpsE.val (x_move (v := .int .i64 _) rfl) ?_
      refine OpsE.val (x_assign (v := .int .i64 _) rfl) ?_
      refine OpsE.nil ?_
      refine Then.normal ?_
      refine WP.ret ?_
      refine Leave0.ret (v := .int .i64 _) rfl ?_
      subst ht
      obtain ⟨e, hn⟩ := bs_behind hx.ok.srt h0 h1 h2 h3
      refine ⟨?_, H⟩
      unfold bh; rw [e, List.length_take, Nat.min_eq_left hn]; rfl

theorem bh_le (vs : List Ver) (q : Int) : bh vs q ≤ vs.length := List.length_filter_le ..
theorem upto_take {vs : List Ver} (hs : vs.Pairwise (fun a b => a.seq < b.seq)) (q : Int) : upto vs q = vs.take (bh vs q) := by
  induction vs with
  | nil => rfl
  | cons v vs ih =>
    obtain ⟨h1, h2⟩ := List.pairwise_cons.1 hs
    unfold bh upto at *
    by_cases h : v.seq ≤ q
    · simp only [List.filter_cons, h, decide_true, if_true, List.length_cons, List.take_succ_cons]; rw [← ih h2]
    · have : vs.filter (fun v => decide (v.seq ≤ q)) = [] := List.filter_eq_nil_iff.2 fun y hy => by have := h1 y hy; simp; omega
      simp [List.filter_cons, h, this]

/-- what belonged to the key behind a commit -/
def atv (vs : List Ver) (q : Int) : Option ByteArray := match (upto vs q).getLast? with
  | some v => if v.gone then none else some v.val
  | none => none
def atT (o : Option ByteArray) : Value := match o with
  | some s => .tuple #[.string s, .bool true]
  | none => .tuple #[.string ByteArray.empty, .bool false]

theorem last_take {vs : List Ver} {n : Nat} (h0 : n ≠ 0) (hn : n ≤ vs.length) : (vs.take n).getLast? = vs[n - 1]? := by
  rw [List.getLast?_eq_getElem?, List.length_take, Nat.min_eq_left hn, List.getElem?_take, if_pos (by omega)]

theorem At_spec {w : World} {l : List HP} {vs : List Ver} {v : TC.TV} {q : Int} (H : Sat w l) (hx : CVal l v vs) :
    Calls Try.prog 53 #[TC.tvv v, .int .i64 q] w (Ret fun u w' => u = atT (atv vs q) ∧ Sat w' l) := by
  have hlen := hx.ok.len
  have hbl := bh_le vs q
  have hut := upto_take hx.ok.srt q
  refine Calls.of_wp Try.func53 rfl Try.ntmps53 Try.results53 (Nat.le_of_ble_eq_true rfl) ?_
  refine WP.seq ?_
  refine WP.region ?_
  refine OpsE.val (x_assign (v := .string _) rfl) ?_
  refine OpsE.val (x_assign (v := .bool _) rfl) ?_
  refine OpsE.nil ?_
  refine Then.normal ?_
  refine WP.seq ?_
  refine WP.region ?_
  refine OpsE.val (x_move (v := .slice _ _ _) rfl) ?_
  refine OpsE.val (x_move (v := .int .i64 _) rfl) ?_
  refine OpsE.call (x_call (vl := [.slice _ _ _, .int .i64 _]) rfl Try.call68) (behind_spec H hx) ?_
  rintro _ w ⟨rfl, H⟩
  refine OpsE.val (x_assign (v := .int .i64 _) rfl) ?_
  refine OpsE.nil ?_
  refine Then.normal ?_
  refine WP.seq ?_
  refine WP.seq ?_
  refine WP.region ?_
  refine OpsE.val (x_move (v := .int .i64 _) rfl) ?_
  refine OpsE.val (x_eqI rfl rfl) ?_
  by_cases h0 : (bh vs q : Int) = 0
  · rw [decide_eq_true h0]
    refine OpsE.val (x_move (v := .bool _) rfl) ?_
    refine OpsE.no rfl ?_
    refine OpsE.no rfl ?_
    refine OpsE.no rfl ?_
    refine OpsE.no rfl ?_
    refine OpsE.no rfl ?_
    refine OpsE.no rfl ?_
    refine OpsE.val (x_pickT rfl rfl) ?_
    refine OpsE.nil ?_
    refine Then.normal ?_
    refine WP.cond_t rfl rfl ?_
    refine WP.seq ?_
    refine WP.region ?_
    refine OpsE.val (x_assign (v := .string _) rfl) ?_
    refine OpsE.val (x_assign (v := .bool _) rfl) ?_
    refine OpsE.nil ?_
    refine Then.normal ?_
    refine WP.ret ?_
    refine Then.ret ?_
    refine Leave0.ret (v := .tuple #[.string _, .bool _]) rfl ?_
    have h0' : bh vs q = 0 := by omega
    have : atv vs q = none := by unfold atv; rw [hut, h0']; rfl
    rw [this]; exact ⟨rfl, H⟩
  · rw [decide_eq_false h0]
    refine OpsE.val (x_move (v := .bool _) rfl) ?_
    refine OpsE.yes rfl ?_
    rcases hx.mem with ⟨rfl, _⟩ | ⟨b, c, hcl, rfl, tl, hb⟩
    · exact absurd rfl h0
    obtain ⟨y, hy⟩ : ∃ y, vs[bh vs q - 1]? = some y := ⟨_, List.getElem?_eq_getElem (by omega)⟩
    have hat : atv vs q = if y.gone then none else some y.val := by unfold atv; rw [hut, last_take (by omega) hbl, hy]
    refine OpsE.val (x_move (v := .slice _ _ _) rfl) ?_
    refine OpsE.yes rfl ?_
    refine OpsE.val (x_move (v := .int .i64 _) rfl) ?_
    refine OpsE.yes rfl ?_
    refine OpsE.val (x_sub (z := ((bh vs q - 1 : Nat) : Int)) rfl rfl (by rw [i64n (by omega) (by omega)]; omega)) ?_
    refine OpsE.yes rfl ?_
    refine OpsE.val (x_indexAddr (i := bh vs q - 1) rfl rfl Try.runUnderlying84 Try.sizeOf90 rfl (by dsimp only; omega)) ?_
    refine OpsE.yes rfl ?_
    refine OpsE.val (x_fieldAddr (o := 2) rfl Try.runUnderlying90 rfl rfl Try.sizeOf4) ?_
    refine OpsE.yes rfl ?_
    refine OpsE.val (x_load (v := .bool _) rfl Try.isAgg4 (hb w H) (by simpa using flat_get (f := verc) verc_len tl (j := 2) hy rfl)) ?_
    cases hg : y.gone
    case false =>
      refine OpsE.val (x_pickF rfl rfl) ?_
      refine OpsE.nil ?_
      refine Then.normal ?_
      refine WP.cond_f rfl rfl ?_
      refine WP.skip ?_
      refine Then.normal ?_
      refine WP.seq ?_
      refine WP.region ?_
      refine OpsE.val (x_move (v := .slice _ _ _) rfl) ?_
      refine OpsE.val (x_move (v := .int .i64 _) rfl) ?_
      refine OpsE.val (x_sub (z := ((bh vs q - 1 : Nat) : Int)) rfl rfl (by rw [i64n (by omega) (by omega)]; omega)) ?_
      refine OpsE.val (x_indexAddr (i := bh vs q - 1) rfl rfl Try.runUnderlying84 Try.sizeOf90 rfl (by dsimp only; omega)) ?_
      refine OpsE.val (x_fieldAddr (o := 1) rfl Try.runUnderlying90 rfl rfl Try.sizeOf9) ?_
      refine OpsE.val (x_load (v := .string _) rfl Try.isAgg9 (hb w H) (by simpa using flat_get (f := verc) verc_len tl (j := 1) hy rfl)) ?_
      refine OpsE.val (x_assign (v := .string _) rfl) ?_
      refine OpsE.val (x_assign (v := .bool _) rfl) ?_
      refine OpsE.nil ?_
      refine Then.normal ?_
      refine WP.ret ?_
      refine Leave0.ret (v := .tuple #[.string _, .bool _]) rfl ?_
      rw [hat, hg]; exact ⟨rfl, H⟩
    case true =>
      refine OpsE.val (x_pickF rfl rfl) ?_
      refine OpsE.nil ?_
      refine Then.normal ?_
      refine WP.cond_t rfl rfl ?_
      refine WP.seq ?_
      refine WP.region ?_
      refine OpsE.val (x_assign (v := .string _) rfl) ?_
      refine OpsE.val (x_assign (v := .bool _) rfl) ?_
      refine OpsE.nil ?_
      refine Then.normal ?_
      refine WP.ret ?_
      refine Then.ret ?_
      refine Leave0.ret (v := .tuple #[.string _, .bool _]) rfl ?_
      rw [hat, hg]; exact ⟨rfl, H⟩

def lastI (vs : List Ver) : Int := match vs.getLast? with
  | some v => v.seq
  | none => -1
theorem Last_spec {w : World} {l : List HP} {vs : List Ver} {v : TC.TV} (H : Sat w l) (hx : CVal l v vs) :
    Calls Try.prog 59 #[TC.tvv v] w (Ret fun u w' => u = .int .i64 (lastI vs) ∧ Sat w' l) := by
  have hlen := hx.ok.len
  rcases hx.mem with ⟨rfl, rfl⟩ | ⟨b, c, hcl, rfl, tl, hb⟩
  · skip
    refine Calls.of_wp Try.func59 rfl Try.ntmps59 Try.results59 (Nat.le_of_ble_eq_true rfl) ?_
    refine WP.seq ?_
    refine WP.region ?_
    refine OpsE.val (x_assign (v := .int .i64 _) rfl) ?_
    refine OpsE.nil ?_
    refine Then.normal ?_
    refine WP.seq ?_
    refine WP.seq ?_
    refine WP.region ?_
    refine OpsE.val (x_move (v := .slice _ _ _) rfl) ?_
    refine OpsE.val (x_lenL rfl rfl Try.runUnderlying84) ?_
    refine OpsE.val (x_eqI rfl rfl) ?_
    rw [decide_eq_true (by decide)]
    refine OpsE.nil ?_
    refine Then.normal ?_
    refine WP.cond_t rfl rfl ?_
    refine WP.seq ?_
    refine WP.region ?_
    refine OpsE.val (x_assign (v := .int .i64 _) rfl) ?_
    refine OpsE.nil ?_
    refine Then.normal ?_
    refine WP.ret ?_
    refine Then.ret ?_
    refine Leave0.ret (v := .int .i64 _) rfl ?_
    exact ⟨rfl, H⟩
  · show Calls _ _ #[.slice (some ⟨b, 0, none⟩) vs.length c] w _
    refine Calls.of_wp Try.func59 rfl Try.ntmps59 Try.results59 (Nat.le_of_ble_eq_true rfl) ?_
    refine WP.seq ?_
    refine WP.region ?_
    refine OpsE.val (x_assign (v := .int .i64 _) rfl) ?_
    refine OpsE.nil ?_
    refine Then.normal ?_
    refine WP.seq ?_
    refine WP.seq ?_
    refine WP.region ?_
    refine OpsE.val (x_move (v := .slice _ _ _) rfl) ?_
    refine OpsE.val (x_lenL rfl rfl Try.runUnderlying84) ?_
    refine OpsE.val (x_eqI rfl rfl) ?_
    by_cases h0 : (vs.length : Int) = 0
    · rw [decide_eq_true h0]
      refine OpsE.nil ?_
      refine Then.normal ?_
      refine WP.cond_t rfl rfl ?_
      refine WP.seq ?_
      refine WP.region ?_
      refine OpsE.val (x_assign (v := .int .i64 _) rfl) ?_
      refine OpsE.nil ?_
      refine Then.normal ?_
      refine WP.ret ?_
      refine Then.ret ?_
      refine Leave0.ret (v := .int .i64 _) rfl ?_
      have h0' : vs = [] := List.length_eq_zero_iff.1 (by omega)
      subst h0'; exact ⟨rfl, H⟩
    · rw [decide_eq_false h0]
      refine OpsE.nil ?_
      refine Then.normal ?_
      refine WP.cond_f rfl rfl ?_
      refine WP.skip ?_
      refine Then.normal ?_
      refine WP.seq ?_
      refine WP.region ?_
      refine OpsE.val (x_move (v := .slice _ _ _) rfl) ?_
      refine OpsE.val (x_move (v := .slice _ _ _) rfl) ?_
      refine OpsE.val (x_lenL rfl rfl Try.runUnderlying84) ?_
      refine OpsE.val (x_sub (z := ((vs.length - 1 : Nat) : Int)) rfl rfl (by rw [i64n (by omega) (by omega)]; omega)) ?_
      refine OpsE.val (x_indexAddr (i := vs.length - 1) rfl rfl Try.runUnderlying84 Try.sizeOf90 rfl (by omega)) ?_
      refine OpsE.val (x_fieldAddr0 rfl Try.runUnderlying90 rfl rfl Try.sizeOf3) ?_
      obtain ⟨y, hy⟩ : ∃ y, vs[vs.length - 1]? = some y := ⟨_, List.getElem?_eq_getElem (by omega)⟩
      refine OpsE.val (x_load (v := .int .i64 y.seq) rfl Try.isAgg3 (hb w H) (by simpa using flat_get (f := verc) verc_len tl (j := 0) hy rfl)) ?_
      refine OpsE.val (x_assign (v := .int .i64 _) rfl) ?_
      refine OpsE.nil ?_
      refine Then.normal ?_
      refine WP.ret ?_
      refine Leave0.ret (v := .int .i64 _) rfl ?_
      have : lastI vs = y.seq := by unfold lastI; rw [List.getLast?_eq_getElem?, hy]
      rw [this]; exact ⟨rfl, H⟩

/-- a version may stand behind a chain -/
structure VNext (vs : List Ver) (y : Ver) : Prop where
  lt : lastI vs < y.seq
  lo : 0 ≤ y.seq
  hi : y.seq ≤ 1099511627776
  gone : y.gone = true → y.val = ByteArray.empty

theorem VOk.snoc {vs : List Ver} {y : Ver} (h : VOk vs) (n : VNext vs y) (hl : vs.length < 1000000) : VOk (vs ++ [y]) := by
  refine ⟨List.pairwise_append.2 ⟨h.srt, List.pairwise_singleton _ _, fun a ha b hb => ?_⟩, fun v hv => ?_, by simp; omega⟩
  · rcases List.mem_singleton.1 hb with rfl
    have h1 := n.lt
    unfold lastI at h1
    obtain ⟨i, hi, e⟩ := List.mem_iff_getElem.1 ha
    rw [List.getLast?_eq_getElem?, List.getElem?_eq_getElem (by omega)] at h1
    dsimp only at h1
    rcases Nat.lt_or_ge i (vs.length - 1) with h2 | h2
    · have := List.pairwise_iff_getElem.1 h.srt i (vs.length - 1) hi (by omega) h2
      rw [e] at this; omega
    · have : i = vs.length - 1 := by omega
      subst this; rw [e] at h1; exact h1
  · rcases List.mem_append.1 hv with hv | hv
    · exact h.bd v hv
    · rcases List.mem_singleton.1 hv with rfl
      exact ⟨n.lo, n.hi⟩

theorem Put_spec {w : World} {l : List HP} {vs : List Ver} {v : TC.TV} {y : Ver} (H : Sat w l) (hx : CVal l v vs) (hy : VNext vs y) :
    Calls Try.prog 46 #[TC.tvv v, .agg (verc y).toArray] w (Ret fun u w' => ∃ g c' tl', u = .tuple #[.slice (some ⟨g, 0, none⟩) (vs.length + 1) c', .int .i64 0] ∧ vs.length + 1 ≤ c' ∧
      Sat w' (ro g (.cells ((vs ++ [y]).flatMap verc ++ tl').toArray 90 (0, 0)) :: l)) := by
  have hlen := hx.ok.len
  have h1 := hy.lt
  have h2 := hy.lo
  have h3 := hy.hi
  obtain ⟨a, c, rfl, hcl, hA⟩ : ∃ a c, v = (a, vs.length, c) ∧ vs.length ≤ c ∧ ∀ w, Sat w l → (a = none ∧ vs.length = 0 ∧ vs.flatMap verc = []) ∨ ∃ b off A tA fA, a = some ⟨b, off, none⟩ ∧ w.heap[b]? = some (.cells A tA fA) ∧ (A.toList.drop off).take (vs.flatMap verc).length = vs.flatMap verc ∧ (vs.flatMap verc).length = vs.length * 3 := by
    rcases hx.mem with ⟨rfl, rfl⟩ | ⟨b, c, hcl, rfl, tl, hb⟩
    · exact ⟨none, 0, rfl, Nat.le_refl _, fun w H => .inl ⟨rfl, rfl, rfl⟩⟩
    · exact ⟨_, _, rfl, hcl, fun w H => .inr ⟨b, 0, _, _, _, rfl, hb w H, by simp, flat_len verc_len _⟩⟩
  show Calls _ _ #[.slice a vs.length c, .agg (verc y).toArray] w _
  refine Calls.of_wp Try.func46 rfl Try.ntmps46 Try.results46 (Nat.le_of_ble_eq_true rfl) ?_
  refine WP.seq ?_
  refine WP.region ?_
  refine OpsE.boxA (cs := verc y) rfl H ?_
  intro b3 w H
  refine OpsE.val (x_assign (v := .slice _ _ _) rfl) ?_
  refine OpsE.val (x_assign (v := .int .i64 _) rfl) ?_
  refine OpsE.nil ?_
  refine Then.normal ?_
  refine WP.seq ?_
  refine WP.seq ?_
  refine WP.draw (fun w => Sat w _) (by kernel_rfl) (by kernel_rfl) (H.heap rfl) ?_
  refine QuietE.val (fun w H => x_fieldAddr0 rfl Try.runUnderlying90 rfl rfl Try.sizeOf3) ?_
  refine QuietE.val (fun w H => x_load (v := .int .i64 _) rfl Try.isAgg3 (H.look _) rfl) ?_
  refine QuietE.val (fun w H => x_move (v := .slice _ _ _) rfl) ?_
  refine QuietE.call (fun w H => x_call (vl := [.slice _ _ _]) rfl Try.call59) (fun w H => Last_spec (v := (a, vs.length, c)) H hx.more) ?_
  refine QuietE.val (fun w H => x_le rfl rfl) ?_
  rw [decide_eq_false (by omega)]
  refine QuietE.val (fun w H => x_move (v := .bool _) rfl) ?_
  refine QuietE.yes rfl ?_
  refine QuietE.val (fun w H => x_fieldAddr0 rfl Try.runUnderlying90 rfl rfl Try.sizeOf3) ?_
  refine QuietE.yes rfl ?_
  refine QuietE.val (fun w H => x_load (v := .int .i64 _) rfl Try.isAgg3 (H.look _) rfl) ?_
  refine QuietE.yes rfl ?_
  refine QuietE.val (fun w H => x_lt rfl rfl) ?_
  rw [decide_eq_false (by omega)]
  refine QuietE.val (fun w H => x_pickF rfl rfl) ?_
  refine QuietE.val (fun w H => x_move (v := .bool _) rfl) ?_
  refine QuietE.yes rfl ?_
  refine QuietE.val (fun w H => x_fieldAddr0 rfl Try.runUnderlying90 rfl rfl Try.sizeOf3) ?_
  refine QuietE.yes rfl ?_
  refine QuietE.val (fun w H => x_load (v := .int .i64 _) rfl Try.isAgg3 (H.look _) rfl) ?_
  refine QuietE.yes rfl ?_
  refine QuietE.val (fun w H => x_gt rfl rfl) ?_
  rw [decide_eq_false (by omega)]
  refine QuietE.val (fun w H => x_pickF rfl rfl) ?_
  refine QuietE.val (fun w H => x_move (v := .bool _) rfl) ?_
  refine QuietE.yes rfl ?_
  refine QuietE.val (fun w H => x_fieldAddr (o := 2) rfl Try.runUnderlying90 rfl rfl Try.sizeOf4) ?_
  refine QuietE.yes rfl ?_
  refine QuietE.val (fun w H => x_load (v := .bool _) rfl Try.isAgg4 (H.look _) rfl) ?_
  cases hg : y.gone
  case false =>
    refine QuietE.yes rfl ?_
    refine QuietE.val (fun w H => x_move (v := .bool _) rfl) ?_
    refine QuietE.no rfl ?_
    refine QuietE.no rfl ?_
    refine QuietE.no rfl ?_
    refine QuietE.yes rfl ?_
    refine QuietE.val (fun w H => x_pickF rfl rfl) ?_
    refine QuietE.val (fun w H => x_pickF rfl rfl) ?_
    refine QuietE.nil ?_
    intro w H
    refine Then.normal ?_
    refine WP.cond_f rfl rfl ?_
    refine WP.skip ?_
    refine Then.normal ?_
    refine WP.seq ?_
    refine WP.mix (kdOf [0, 0, 0, 0, 0, 0, 0, 1]) (fun w => Sat w _) (by kernel_rfl) (by kernel_rfl) (fun w hw => Sat.heap (H) hw) ?_
    intro w hw; replace H := H.heap hw; clear hw
    refine MixE.q rfl (fun w H => x_move (v := .slice _ _ _) rfl) ?_
    refine MixE.q rfl (fun w H => x_move (v := .slice _ _ _) rfl) ?_
    refine MixE.q rfl (fun w H => x_lenL rfl rfl Try.runUnderlying84) ?_
    refine MixE.q rfl (fun w H => x_move (v := .slice _ _ _) rfl) ?_
    refine MixE.q rfl (fun w H => x_lenL rfl rfl Try.runUnderlying84) ?_
    refine MixE.q rfl (fun w H => x_slMax (h := vs.length) (m := vs.length) rfl rfl rfl Try.runUnderlying84 Try.sizeOf90 rfl rfl (Nat.le_refl _) hcl) ?_
    refine MixE.q rfl (fun w H => x_loadA (vs := verc y) rfl Try.isAgg90 Try.sizeOf90 (H.look _) rfl rfl) ?_
    refine MixE.one rfl ?_
    refine OpsE.buildSlice1 (vs := verc y) KV (by decide) rfl rfl rfl (by decide) H ?_
    intro bv w H1
    refine OpsE.nil ⟨rfl, rfl, H1.tail, ?_⟩
    refine MixE.two _ (fun k _ => kdOf_ge (Nat.le_add_right _ _)) ?_
    refine OpsE.append_full (olds := vs.flatMap verc) (news := verc y) rfl KV rfl rfl H1 (hA _ H1.tail.tail) (H1.look bv) rfl rfl (by omega) (by omega) (by omega) ?_
    intro g c' tl' w hg1 hg2 H
    refine OpsE.val (x_assign (v := .slice _ _ _) rfl) ?_
    refine OpsE.val (x_assign (v := .int .i64 _) rfl) ?_
    refine OpsE.nil ?_
    refine Then.normal ?_
    refine WP.ret ?_
    refine Leave0.ret (v := .tuple #[.slice _ _ _, .int .i64 _]) rfl ?_
    exact ⟨g, c', tl', rfl, hg1, by simpa [List.flatMap_append] using H.freeze.second.second⟩
  case true =>
    refine QuietE.yes rfl ?_
    refine QuietE.val (fun w H => x_move (v := .bool _) rfl) ?_
    refine QuietE.yes rfl ?_
    refine QuietE.val (fun w H => x_fieldAddr (o := 1) rfl Try.runUnderlying90 rfl rfl Try.sizeOf9) ?_
    refine QuietE.yes rfl ?_
    refine QuietE.val (fun w H => x_load (v := .string _) rfl Try.isAgg9 (H.look _) rfl) ?_
    refine QuietE.yes rfl ?_
    refine QuietE.val (fun w H => x_neS rfl rfl) ?_
    rw [decide_eq_false (by rw [hy.gone hg]; exact fun h => h rfl)]
    refine QuietE.yes rfl ?_
    refine QuietE.val (fun w H => x_pickT rfl rfl) ?_
    refine QuietE.val (fun w H => x_pickF rfl rfl) ?_
    refine QuietE.nil ?_
    intro w H
    refine Then.normal ?_
    refine WP.cond_f rfl rfl ?_
    refine WP.skip ?_
    refine Then.normal ?_
    refine WP.seq ?_
    refine WP.mix (kdOf [0, 0, 0, 0, 0, 0, 0, 1]) (fun w => Sat w _) (by kernel_rfl) (by kernel_rfl) (fun w hw => Sat.heap (H) hw) ?_
    intro w hw; replace H := H.heap hw; clear hw
    refine MixE.q rfl (fun w H => x_move (v := .slice _ _ _) rfl) ?_
    refine MixE.q rfl (fun w H => x_move (v := .slice _ _ _) rfl) ?_
    refine MixE.q rfl (fun w H => x_lenL rfl rfl Try.runUnderlying84) ?_
    refine MixE.q rfl (fun w H => x_move (v := .slice _ _ _) rfl) ?_
    refine MixE.q rfl (fun w H => x_lenL rfl rfl Try.runUnderlying84) ?_
    refine MixE.q rfl (fun w H => x_slMax (h := vs.length) (m := vs.length) rfl rfl rfl Try.runUnderlying84 Try.sizeOf90 rfl rfl (Nat.le_refl _) hcl) ?_
    refine MixE.q rfl (fun w H => x_loadA (vs := verc y) rfl Try.isAgg90 Try.sizeOf90 (H.look _) rfl rfl) ?_
    refine MixE.one rfl ?_
    refine OpsE.buildSlice1 (vs := verc y) KV (by decide) rfl rfl rfl (by decide) H ?_
    intro bv w H1
    refine OpsE.nil ⟨rfl, rfl, H1.tail, ?_⟩
    refine MixE.two _ (fun k _ => kdOf_ge (Nat.le_add_right _ _)) ?_
    refine OpsE.append_full (olds := vs.flatMap verc) (news := verc y) rfl KV rfl rfl H1 (hA _ H1.tail.tail) (H1.look bv) rfl rfl (by omega) (by omega) (by omega) ?_
    intro g c' tl' w hg1 hg2 H
    refine OpsE.val (x_assign (v := .slice _ _ _) rfl) ?_
    refine OpsE.val (x_assign (v := .int .i64 _) rfl) ?_
    refine OpsE.nil ?_
    refine Then.normal ?_
    refine WP.ret ?_
    refine Leave0.ret (v := .tuple #[.slice _ _ _, .int .i64 _]) rfl ?_
    exact ⟨g, c', tl', rfl, hg1, by simpa [List.flatMap_append] using H.freeze.second.second⟩

/-- how many versions go -/
def cutN (vs : List Ver) (q : Int) : Nat := match (upto vs q).getLast? with
  | some v => if v.gone then bh vs q else bh vs q - 1
  | none => 0
def cutv (vs : List Ver) (q : Int) : List Ver := vs.drop (cutN vs q)

theorem Cut_spec {w : World} {l : List HP} {vs : List Ver} {b c : Nat} {q : Int} (H : Sat w l) (hcl : vs.length ≤ c) (ok : VOk vs) (hb : ChAt l b vs) :
    Calls Try.prog 49 #[.slice (some ⟨b, 0, none⟩) vs.length c, .int .i64 q] w (Ret fun u w' => ∃ g tl', u = .slice (some ⟨g, 0, none⟩) (cutv vs q).length (cutv vs q).length ∧
      Sat w' (ro g (.cells ((cutv vs q).flatMap verc ++ tl').toArray 90 (0, 0)) :: l)) := by
  have hx : CVal l (some ⟨b, 0, none⟩, vs.length, c) vs := ⟨ok, .inr ⟨b, c, hcl, rfl, hb⟩⟩
  have hlen := ok.len
  have hbl := bh_le vs q
  have hut := upto_take ok.srt q
  obtain ⟨tl, hb⟩ := hb
  refine Calls.of_wp Try.func49 rfl Try.ntmps49 Try.results49 (Nat.le_of_ble_eq_true rfl) ?_
  refine WP.seq ?_
  refine WP.region ?_
  refine OpsE.val (x_assign (v := .slice _ _ _) rfl) ?_
  refine OpsE.nil ?_
  refine Then.normal ?_
  refine WP.seq ?_
  refine WP.region ?_
  refine OpsE.val (x_move (v := .slice _ _ _) rfl) ?_
  refine OpsE.val (x_move (v := .int .i64 _) rfl) ?_
  refine OpsE.call (x_call (vl := [.slice _ _ _, .int .i64 _]) rfl Try.call68) (behind_spec (v := (some ⟨b, 0, none⟩, vs.length, c)) H hx) ?_
  rintro _ w ⟨rfl, H⟩
  refine OpsE.val (x_assign (v := .int .i64 _) rfl) ?_
  refine OpsE.nil ?_
  refine Then.normal ?_
  refine WP.seq ?_
  refine WP.seq ?_
  refine WP.region ?_
  refine OpsE.val (x_move (v := .int .i64 _) rfl) ?_
  refine OpsE.val (x_gt rfl rfl) ?_
  by_cases h0 : (bh vs q : Int) > 0
  · rw [decide_eq_true h0]
    refine OpsE.val (x_move (v := .bool _) rfl) ?_
    refine OpsE.yes rfl ?_
    obtain ⟨y, hy⟩ : ∃ y, vs[bh vs q - 1]? = some y := ⟨_, List.getElem?_eq_getElem (by omega)⟩
    have hcut : cutN vs q = if y.gone then bh vs q else bh vs q - 1 := by unfold cutN; rw [hut, last_take (by omega) hbl, hy]
    refine OpsE.val (x_move (v := .slice _ _ _) rfl) ?_
    refine OpsE.yes rfl ?_
    refine OpsE.val (x_move (v := .int .i64 _) rfl) ?_
    refine OpsE.yes rfl ?_
    refine OpsE.val (x_sub (z := ((bh vs q - 1 : Nat) : Int)) rfl rfl (by rw [i64n (by omega) (by omega)]; omega)) ?_
    refine OpsE.yes rfl ?_
    refine OpsE.val (x_indexAddr (i := bh vs q - 1) rfl rfl Try.runUnderlying84 Try.sizeOf90 rfl (by omega)) ?_
    refine OpsE.yes rfl ?_
    refine OpsE.val (x_fieldAddr (o := 2) rfl Try.runUnderlying90 rfl rfl Try.sizeOf4) ?_
    refine OpsE.yes rfl ?_
    refine OpsE.val (x_load (v := .bool _) rfl Try.isAgg4 (hb w H) (by simpa using flat_get (f := verc) verc_len tl (j := 2) hy rfl)) ?_
    cases hg : y.gone
    case false =>
      refine OpsE.yes rfl ?_
      refine OpsE.val (x_not rfl) ?_
      refine OpsE.val (x_pickT rfl rfl) ?_
      refine OpsE.nil ?_
      refine Then.normal ?_
      refine WP.cond_t rfl rfl ?_
      refine WP.region ?_
      refine OpsE.val (x_move (v := .int .i64 _) rfl) ?_
      refine OpsE.val (x_sub (z := ((bh vs q - 1 : Nat) : Int)) rfl rfl (by rw [i64n (by omega) (by omega)]; omega)) ?_
      refine OpsE.val (x_assign (v := .int .i64 _) rfl) ?_
      refine OpsE.nil ?_
      refine Then.normal ?_
      refine WP.seq ?_
      refine WP.region ?_
      have hcl2 : bh vs q - 1 = cutN vs q := by rw [hcut, hg]; rfl
      replace hbl : bh vs q - 1 ≤ vs.length := by omega
      rw [hcl2] at hbl ⊢
      refine OpsE.val (x_move (v := .slice _ _ _) rfl) ?_
      refine OpsE.val (x_lenL rfl rfl Try.runUnderlying84) ?_
      refine OpsE.val (x_move (v := .int .i64 _) rfl) ?_
      refine OpsE.val (x_sub (z := (((cutv vs q).length : Nat) : Int)) rfl rfl (by unfold cutv; rw [List.length_drop, i64n (by omega) (by omega)]; omega)) ?_
      have hcv : (cutv vs q).length = vs.length - cutN vs q := by unfold cutv; rw [List.length_drop]
      refine OpsE.make (n := (cutv vs q).length) (c := (cutv vs q).length) KV rfl rfl rfl rfl (Nat.le_refl _) (by omega) (by omega) H ?_
      intro g tl0 w htl H
      refine OpsE.val (x_assign (v := .slice _ _ _) rfl) ?_
      refine OpsE.nil ?_
      refine Then.normal ?_
      refine WP.seq ?_
      refine WP.region ?_
      refine OpsE.val (x_move (v := .slice _ _ _) rfl) ?_
      refine OpsE.val (x_move (v := .slice _ _ _) rfl) ?_
      refine OpsE.val (x_move (v := .int .i64 _) rfl) ?_
      refine OpsE.val (x_slLo (l := cutN vs q) (off' := (if c = cutN vs q then 0 else 0 + cutN vs q * 3)) rfl rfl Try.runUnderlying84 Try.sizeOf90 rfl (by omega) rfl) ?_
      have h2 : ((vs.flatMap verc ++ tl).toArray.toList.drop (if c = cutN vs q then 0 else 0 + cutN vs q * 3)).take ((cutv vs q).flatMap verc).length = (cutv vs q).flatMap verc := by
        by_cases h0 : c = cutN vs q
        · have : cutv vs q = [] := List.length_eq_zero_iff.1 (by omega)
          rw [this]; rfl
        · rw [if_neg h0, Nat.zero_add]
          show List.take _ (List.drop (cutN vs q * 3) (vs.flatMap verc ++ tl)) = _
          rw [flat_drop verc_len tl vs _ hbl]; unfold cutv; simp
      refine OpsE.copy (m := (cutv vs q).length) (news := (cutv vs q).flatMap verc) rfl KV rfl rfl H (hb w H.tail) (by omega) h2 (flat_len verc_len _) (verc_one _) (by rw [flat_len verc_len, htl]; omega) ?_
      intro w H
      rw [List.drop_of_length_le (by rw [flat_len verc_len, htl]; omega), List.take_zero, List.nil_append] at H
      refine OpsE.nil ?_
      refine Then.normal ?_
      refine WP.seq ?_
      refine WP.region ?_
      refine OpsE.val (x_move (v := .slice _ _ _) rfl) ?_
      refine OpsE.val (x_assign (v := .slice _ _ _) rfl) ?_
      refine OpsE.nil ?_
      refine Then.normal ?_
      refine WP.ret ?_
      refine Leave0.ret (v := .slice _ _ _) rfl ?_
      exact ⟨g, [], rfl, H.freeze⟩
    case true =>
      refine OpsE.yes rfl ?_
      refine OpsE.val (x_not rfl) ?_
      refine OpsE.val (x_pickT rfl rfl) ?_
      refine OpsE.nil ?_
      refine Then.normal ?_
      refine WP.cond_f rfl rfl ?_
      refine WP.skip ?_
      refine Then.normal ?_
      refine WP.seq ?_
      refine WP.region ?_
      have hcl2 : bh vs q = cutN vs q := by rw [hcut, hg]; rfl
      rw [hcl2] at hbl ⊢
      refine OpsE.val (x_move (v := .slice _ _ _) rfl) ?_
      refine OpsE.val (x_lenL rfl rfl Try.runUnderlying84) ?_
      refine OpsE.val (x_move (v := .int .i64 _) rfl) ?_
      refine OpsE.val (x_sub (z := (((cutv vs q).length : Nat) : Int)) rfl rfl (by unfold cutv; rw [List.length_drop, i64n (by omega) (by omega)]; omega)) ?_
      have hcv : (cutv vs q).length = vs.length - cutN vs q := by unfold cutv; rw [List.length_drop]
      refine OpsE.make (n := (cutv vs q).length) (c := (cutv vs q).length) KV rfl rfl rfl rfl (Nat.le_refl _) (by omega) (by omega) H ?_
      intro g tl0 w htl H
      refine OpsE.val (x_assign (v := .slice _ _ _) rfl) ?_
      refine OpsE.nil ?_
      refine Then.normal ?_
      refine WP.seq ?_
      refine WP.region ?_
      refine OpsE.val (x_move (v := .slice _ _ _) rfl) ?_
      refine OpsE.val (x_move (v := .slice _ _ _) rfl) ?_
      refine OpsE.val (x_move (v := .int .i64 _) rfl) ?_
      refine OpsE.val (x_slLo (l := cutN vs q) (off' := (if c = cutN vs q then 0 else 0 + cutN vs q * 3)) rfl rfl Try.runUnderlying84 Try.sizeOf90 rfl (by omega) rfl) ?_
      have h2 : ((vs.flatMap verc ++ tl).toArray.toList.drop (if c = cutN vs q then 0 else 0 + cutN vs q * 3)).take ((cutv vs q).flatMap verc).length = (cutv vs q).flatMap verc := by
        by_cases h0 : c = cutN vs q
        · have : cutv vs q = [] := List.length_eq_zero_iff.1 (by omega)
          rw [this]; rfl
        · rw [if_neg h0, Nat.zero_add]
          show List.take _ (List.drop (cutN vs q * 3) (vs.flatMap verc ++ tl)) = _
          rw [flat_drop verc_len tl vs _ hbl]; unfold cutv; simp
      refine OpsE.copy (m := (cutv vs q).length) (news := (cutv vs q).flatMap verc) rfl KV rfl rfl H (hb w H.tail) (by omega) h2 (flat_len verc_len _) (verc_one _) (by rw [flat_len verc_len, htl]; omega) ?_
      intro w H
      rw [List.drop_of_length_le (by rw [flat_len verc_len, htl]; omega), List.take_zero, List.nil_append] at H
      refine OpsE.nil ?_
      refine Then.normal ?_
      refine WP.seq ?_
      refine WP.region ?_
      refine OpsE.val (x_move (v := .slice _ _ _) rfl) ?_
      refine OpsE.val (x_assign (v := .slice _ _ _) rfl) ?_
      refine OpsE.nil ?_
      refine Then.normal ?_
      refine WP.ret ?_
      refine Leave0.ret (v := .slice _ _ _) rfl ?_
      exact ⟨g, [], rfl, H.freeze⟩
  · rw [decide_eq_false h0]
    refine OpsE.val (x_move (v := .bool _) rfl) ?_
    refine OpsE.no rfl ?_
    refine OpsE.no rfl ?_
    refine OpsE.no rfl ?_
    refine OpsE.no rfl ?_
    refine OpsE.no rfl ?_
    refine OpsE.no rfl ?_
    refine OpsE.no rfl ?_
    refine OpsE.val (x_pickF rfl rfl) ?_
    refine OpsE.nil ?_
    refine Then.normal ?_
    refine WP.cond_f rfl rfl ?_
    refine WP.skip ?_
    refine Then.normal ?_
    refine WP.seq ?_
    refine WP.region ?_
    have hcl2 : bh vs q = cutN vs q := by
      have h0' : bh vs q = 0 := by omega
      have : cutN vs q = 0 := by unfold cutN; rw [hut, h0']; rfl
      omega
    rw [hcl2] at hbl ⊢
    refine OpsE.val (x_move (v := .slice _ _ _) rfl) ?_
    refine OpsE.val (x_lenL rfl rfl Try.runUnderlying84) ?_
    refine OpsE.val (x_move (v := .int .i64 _) rfl) ?_
    refine OpsE.val (x_sub (z := (((cutv vs q).length : Nat) : Int)) rfl rfl (by unfold cutv; rw [List.length_drop, i64n (by omega) (by omega)]; omega)) ?_
    have hcv : (cutv vs q).length = vs.length - cutN vs q := by unfold cutv; rw [List.length_drop]
    refine OpsE.make (n := (cutv vs q).length) (c := (cutv vs q).length) KV rfl rfl rfl rfl (Nat.le_refl _) (by omega) (by omega) H ?_
    intro g tl0 w htl H
    refine OpsE.val (x_assign (v := .slice _ _ _) rfl) ?_
    refine OpsE.nil ?_
    refine Then.normal ?_
    refine WP.seq ?_
    refine WP.region ?_
    refine OpsE.val (x_move (v := .slice _ _ _) rfl) ?_
    refine OpsE.val (x_move (v := .slice _ _ _) rfl) ?_
    refine OpsE.val (x_move (v := .int .i64 _) rfl) ?_
    refine OpsE.val (x_slLo (l := cutN vs q) (off' := (if c = cutN vs q then 0 else 0 + cutN vs q * 3)) rfl rfl Try.runUnderlying84 Try.sizeOf90 rfl (by omega) rfl) ?_
    have h2 : ((vs.flatMap verc ++ tl).toArray.toList.drop (if c = cutN vs q then 0 else 0 + cutN vs q * 3)).take ((cutv vs q).flatMap verc).length = (cutv vs q).flatMap verc := by
      by_cases h0 : c = cutN vs q
      · have : cutv vs q = [] := List.length_eq_zero_iff.1 (by omega)
        rw [this]; rfl
      · rw [if_neg h0, Nat.zero_add]
        show List.take _ (List.drop (cutN vs q * 3) (vs.flatMap verc ++ tl)) = _
        rw [flat_drop verc_len tl vs _ hbl]; unfold cutv; simp
    refine OpsE.copy (m := (cutv vs q).length) (news := (cutv vs q).flatMap verc) rfl KV rfl rfl H (hb w H.tail) (by omega) h2 (flat_len verc_len _) (verc_one _) (by rw [flat_len verc_len, htl]; omega) ?_
    intro w H
    rw [List.drop_of_length_le (by rw [flat_len verc_len, htl]; omega), List.take_zero, List.nil_append] at H
    refine OpsE.nil ?_
    refine Then.normal ?_
    refine WP.seq ?_
    refine WP.region ?_
    refine OpsE.val (x_move (v := .slice _ _ _) rfl) ?_
    refine OpsE.val (x_assign (v := .slice _ _ _) rfl) ?_
    refine OpsE.nil ?_
    refine Then.normal ?_
    refine WP.ret ?_
    refine Leave0.ret (v := .slice _ _ _) rfl ?_
    exact ⟨g, [], rfl, H.freeze⟩
end Go.Proofs.Ytbhbdpbhhfemhaa
