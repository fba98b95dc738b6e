/-
  For every lists of writes, every prefix and every numbers the law WatchAll returns true, and its arguments read as they did. No condition.
-/
import Derived.Test.YtbhbdpbhhfemhaaQ7
import Derived.Test.YtbhbdpbhhfemhaaQ6
namespace Go.Proofs.Ytbhbdpbhhfemhaa
open Go Go.Proofs
open Go.ChangeShapes Go.WideShapes Go.ChangeAt Go.RowKit
set_option maxRecDepth 100000
set_option maxHeartbeats 4000000
set_option linter.unusedVariables false

namespace WatchAll
theorem lifted (os : Os) (started : os.Started) (H : Type) (enc : TypeId × Value → H) :
    ReturnsInHanded {} Try.checked os 9 .any (Rows.watchAllSpec.pre6 enc Try.prog Try.f9 Rows.watchAllRow.domain false) (Rows.watchAllSpec.post enc Try.prog Try.f9 false true false false) := by
  refine returnsInHanded_of_change_sized (C := Try.checked) ownK started (by kernel_rfl) Try.func9
    (ChangeSpec.witness6 (enc := enc) (C := Try.checked) false ⟨#[], #[.slice none 0 0, .slice none 0 0, .string ⟨#[]⟩, .slice none 0 0], []⟩ 8 (by kernel_rfl) (by kernel_rfl) (by kernel_rfl) (by kernel_rfl)) ?_
  intro W base args ds gs before hval0 hW hcnd hsz _
  have hval : ∀ (j : Nat) t v, Try.f9.params[j]? = some t → args[j]? = some v → Value.okWide Try.prog W .any base t v := hval0
  have hW' := hW
  obtain ⟨p, q, hA0, hV, rfl, hfz, hnd⟩ := hW
  have hA : DataW.TrodAll enc Try.prog W 0 (fun _ => true) true Try.f9.params.toList args.toList ds p := hA0
  rw [Try.params9] at hA hval
  obtain ⟨v0, vs0, d0, ds0, p0, q0, hargs, rfl, rfl, h0, r0⟩ := trodAll_cons hA
  obtain ⟨v1, vs1, d1, ds1, p1, q1, rfl, rfl, rfl, h1, r1⟩ := trodAll_cons r0
  obtain ⟨v2, vs2, d2, ds2, p2, q2, rfl, rfl, rfl, h2, r2⟩ := trodAll_cons r1
  obtain ⟨v3, vs3, d3, ds3, p3, q3, rfl, rfl, rfl, h3, r3⟩ := trodAll_cons r2
  obtain ⟨rfl, rfl, rfl⟩ := trodAll_nil r3
  obtain rfl : args = #[v0, v1, v2, v3] := by cases args; simp_all
  obtain ⟨rfl, rfl⟩ := trodVars_none hV
  have k0 := h0
  have k1 := h1
  have k2 := h2
  have k3 := h3
  have w0 := okL_at hsz (j := 0) (d := d0) rfl rfl
  have w1 := okL_at hsz (j := 1) (d := d1) rfl rfl
  have w2 := okL_at hsz (j := 2) (d := d2) rfl rfl
  have w3 := okL_at hsz (j := 3) (d := d3) rfl rfl
  obtain ⟨a0, n0, c0, rfl⟩ := okWide_slice Try.underlying36 (hval 0 _ v0 rfl rfl)
  obtain ⟨xs0, hs0, hn0⟩ : ∃ xs, SlIn [init W] a0 n0 c0 xs ∧ n0 ≤ reachBytes := by
    obtain ⟨fuel, hf⟩ := h0
    obtain ⟨a, m, c, xs, e, hok⟩ := open_wss hf
    simp [Value.cells] at e
    obtain ⟨rfl, rfl, rfl⟩ := e
    exact ⟨xs, hok w0⟩
  obtain ⟨a1, n1, c1, rfl⟩ := okWide_slice Try.underlying36 (hval 1 _ v1 rfl rfl)
  obtain ⟨xs1, hs1, hn1⟩ : ∃ xs, SlIn [init W] a1 n1 c1 xs ∧ n1 ≤ reachBytes := by
    obtain ⟨fuel, hf⟩ := h1
    obtain ⟨a, m, c, xs, e, hok⟩ := open_wss hf
    simp [Value.cells] at e
    obtain ⟨rfl, rfl, rfl⟩ := e
    exact ⟨xs, hok w1⟩
  obtain ⟨z2, rfl⟩ := okWide_string Try.underlying9 (hval 2 _ v2 rfl rfl)
  have hz2 : z2.size ≤ reachBytes := by
    obtain ⟨fuel, hf⟩ := h2
    obtain ⟨s, e, r, _⟩ := DataW.trod_string Try.underlying9 hf
    simp [Value.cells] at e
    subst e
    have r' : d2 = _ := (Prod.mk.inj r).1
    exact w2 z2.size (by rw [r']; simp [DataW.weights])
  obtain ⟨a3, n3, c3, rfl⟩ := okWide_slice Try.underlying64 (hval 3 _ v3 rfl rfl)
  obtain ⟨zs3, hs3⟩ : ∃ zs, IntsOk a3 n3 c3 zs W := by
    obtain ⟨fuel, hf⟩ := h3
    obtain ⟨a, m, c, zs, e, hok⟩ := open_is hf
    simp [Value.cells] at e
    obtain ⟨rfl, rfl, rfl⟩ := e
    exact ⟨zs, hok w3⟩
  refine (WatchAll_walk (Sat.start W) hs0 hs1 hs3.row).mono ?_
  rintro e W' ⟨v, rfl, rfl, hS⟩
  have bel := below_of hS
  exact ⟨_, rfl, _, _, _, [], _, [], hW', trodAll_mk1 (shut_bool Try.underlying4 _), (trodAll_cons_mk (Below.trod laidOut (by kernel_rfl) (of_decide_eq_true (by kernel_rfl)) k0 bel (lt_of_trod k0)) (trodAll_cons_mk (Below.trod laidOut (by kernel_rfl) (of_decide_eq_true (by kernel_rfl)) k1 bel (lt_of_trod k1)) (trodAll_cons_mk (Below.trod laidOut (by kernel_rfl) (of_decide_eq_true (by kernel_rfl)) k2 bel (lt_of_trod k2)) (trodAll_cons_mk (Below.trod laidOut (by kernel_rfl) (of_decide_eq_true (by kernel_rfl)) k3 bel (lt_of_trod k3)) trodAll_mk0)))), rfl, bel.frame _, fun h => by cases h⟩

theorem proved : Rows.WatchAllSaid :=
  OpenClaim.holds_of_wide 9 Try.f9 rfl rfl rfl rfl rfl rfl rfl ⟨rfl, rfl, rfl, rfl, rfl⟩ rfl rfl rfl rfl rfl (by kernel_rfl) Try.func9 (by kernel_rfl)
    (of_decide_eq_true (by kernel_rfl)) (by unfold Func.isWrapper; first | (rw [if_pos (by decide +kernel)]; kernel_rfl) | (rw [if_neg (by decide +kernel)]; exact ⟨rfl, rfl⟩))
    (fun os started H enc _ => lifted os started H enc)
end WatchAll
end Go.Proofs.Ytbhbdpbhhfemhaa
