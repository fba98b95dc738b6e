/-
  For every number, every lists of writes, every key and every two bounds the law StoreSees returns true, and its arguments read as they did. No condition.
-/
import Derived.Test.YtbhbdpbhhfemhaaQ5
namespace Go.Proofs.Ytbhbdpbhhfemhaa
open Go Go.Proofs
open Go.ChangeShapes Go.WideShapes Go.ChangeAt Go.RowKit
set_option maxRecDepth 100000
set_option maxHeartbeats 4000000
set_option linter.unusedVariables false

namespace StoreSees
theorem lifted (os : Os) (started : os.Started) (H : Type) (enc : TypeId × Value → H) :
    ReturnsInHanded {} Try.checked os 6 .any (Rows.storeSeesSpec.pre6 enc Try.prog Try.f6 Rows.storeSeesRow.domain false) (Rows.storeSeesSpec.post enc Try.prog Try.f6 false true false false) := by
  refine returnsInHanded_of_change_sized (C := Try.checked) ownK started (by kernel_rfl) Try.func6
    (ChangeSpec.witness6 (enc := enc) (C := Try.checked) false ⟨#[], #[.int .i64 0, .slice none 0 0, .slice none 0 0, .string ⟨#[]⟩, .string ⟨#[]⟩, .string ⟨#[]⟩], []⟩ 8 (by kernel_rfl) (by kernel_rfl) (by kernel_rfl) (by kernel_rfl)) ?_
  intro W base args ds gs before hval0 hW hcnd hsz _
  have hval : ∀ (j : Nat) t v, Try.f6.params[j]? = some t → args[j]? = some v → Value.okWide Try.prog W .any base t v := hval0
  have hW' := hW
  obtain ⟨p, q, hA0, hV, rfl, hfz, hnd⟩ := hW
  have hA : DataW.TrodAll enc Try.prog W 0 (fun _ => true) true Try.f6.params.toList args.toList ds p := hA0
  rw [Try.params6] at hA hval
  obtain ⟨v0, vs0, d0, ds0, p0, q0, hargs, rfl, rfl, h0, r0⟩ := trodAll_cons hA
  obtain ⟨v1, vs1, d1, ds1, p1, q1, rfl, rfl, rfl, h1, r1⟩ := trodAll_cons r0
  obtain ⟨v2, vs2, d2, ds2, p2, q2, rfl, rfl, rfl, h2, r2⟩ := trodAll_cons r1
  obtain ⟨v3, vs3, d3, ds3, p3, q3, rfl, rfl, rfl, h3, r3⟩ := trodAll_cons r2
  obtain ⟨v4, vs4, d4, ds4, p4, q4, rfl, rfl, rfl, h4, r4⟩ := trodAll_cons r3
  obtain ⟨v5, vs5, d5, ds5, p5, q5, rfl, rfl, rfl, h5, r5⟩ := trodAll_cons r4
  obtain ⟨rfl, rfl, rfl⟩ := trodAll_nil r5
  obtain rfl : args = #[v0, v1, v2, v3, v4, v5] := by cases args; simp_all
  obtain ⟨rfl, rfl⟩ := trodVars_none hV
  have k0 := h0
  have k1 := h1
  have k2 := h2
  have k3 := h3
  have k4 := h4
  have k5 := h5
  have w1 := okL_at hsz (j := 1) (d := d1) rfl rfl
  have w2 := okL_at hsz (j := 2) (d := d2) rfl rfl
  have w3 := okL_at hsz (j := 3) (d := d3) rfl rfl
  have w4 := okL_at hsz (j := 4) (d := d4) rfl rfl
  have w5 := okL_at hsz (j := 5) (d := d5) rfl rfl
  obtain ⟨z0, rfl, rfl, rfl, w0⟩ := open_int Try.underlying3 (hval 0 _ v0 rfl rfl) h0
  have hb0 : -9223372036854775808 ≤ z0 ∧ z0 ≤ 9223372036854775807 := by simpa [Lit.wf, IntKind.min, IntKind.max, IntKind.signed, IntKind.bits] using w0
  obtain ⟨a1, n1, c1, rfl⟩ := okWide_slice Try.underlying22 (hval 1 _ v1 rfl rfl)
  obtain ⟨ws1, hs1⟩ : ∃ ws, WsOk a1 n1 c1 ws W := by
    obtain ⟨fuel, hf⟩ := h1
    obtain ⟨s, e, hok⟩ := open_ws hf
    simp [Value.cells, slc] at e
    obtain ⟨rfl, rfl, rfl⟩ := e
    exact ⟨s.ws, hok w1⟩
  obtain ⟨a2, n2, c2, rfl⟩ := okWide_slice Try.underlying36 (hval 2 _ v2 rfl rfl)
  obtain ⟨xs2, hs2, hn2⟩ : ∃ xs, SlIn [init W] a2 n2 c2 xs ∧ n2 ≤ reachBytes := by
    obtain ⟨fuel, hf⟩ := h2
    obtain ⟨a, m, c, xs, e, hok⟩ := open_wss hf
    simp [Value.cells] at e
    obtain ⟨rfl, rfl, rfl⟩ := e
    exact ⟨xs, hok w2⟩
  obtain ⟨z3, rfl⟩ := okWide_string Try.underlying9 (hval 3 _ v3 rfl rfl)
  have hz3 : z3.size ≤ reachBytes := by
    obtain ⟨fuel, hf⟩ := h3
    obtain ⟨s, e, r, _⟩ := DataW.trod_string Try.underlying9 hf
    simp [Value.cells] at e
    subst e
    have r' : d3 = _ := (Prod.mk.inj r).1
    exact w3 z3.size (by rw [r']; simp [DataW.weights])
  obtain ⟨z4, rfl⟩ := okWide_string Try.underlying9 (hval 4 _ v4 rfl rfl)
  have hz4 : z4.size ≤ reachBytes := by
    obtain ⟨fuel, hf⟩ := h4
    obtain ⟨s, e, r, _⟩ := DataW.trod_string Try.underlying9 hf
    simp [Value.cells] at e
    subst e
    have r' : d4 = _ := (Prod.mk.inj r).1
    exact w4 z4.size (by rw [r']; simp [DataW.weights])
  obtain ⟨z5, rfl⟩ := okWide_string Try.underlying9 (hval 5 _ v5 rfl rfl)
  have hz5 : z5.size ≤ reachBytes := by
    obtain ⟨fuel, hf⟩ := h5
    obtain ⟨s, e, r, _⟩ := DataW.trod_string Try.underlying9 hf
    simp [Value.cells] at e
    subst e
    have r' : d5 = _ := (Prod.mk.inj r).1
    exact w5 z5.size (by rw [r']; simp [DataW.weights])
  refine (StoreSees_walk (Sat.start W) hs2 hs1.row (fun x hx => Nat.le_trans (hs1.sz x hx).1 reach62) (Nat.le_trans hs1.n reach62) hb0).mono ?_
  rintro e W' ⟨v, rfl, rfl, hS⟩
  have bel := below_of hS
  exact ⟨_, rfl, _, _, _, [], _, [], hW', trodAll_mk1 (shut_bool Try.underlying4 _), (trodAll_cons_mk (Below.trod laidOut (by kernel_rfl) (of_decide_eq_true (by kernel_rfl)) k0 bel (lt_of_trod k0)) (trodAll_cons_mk (Below.trod laidOut (by kernel_rfl) (of_decide_eq_true (by kernel_rfl)) k1 bel (lt_of_trod k1)) (trodAll_cons_mk (Below.trod laidOut (by kernel_rfl) (of_decide_eq_true (by kernel_rfl)) k2 bel (lt_of_trod k2)) (trodAll_cons_mk (Below.trod laidOut (by kernel_rfl) (of_decide_eq_true (by kernel_rfl)) k3 bel (lt_of_trod k3)) (trodAll_cons_mk (Below.trod laidOut (by kernel_rfl) (of_decide_eq_true (by kernel_rfl)) k4 bel (lt_of_trod k4)) (trodAll_cons_mk (Below.trod laidOut (by kernel_rfl) (of_decide_eq_true (by kernel_rfl)) k5 bel (lt_of_trod k5)) trodAll_mk0)))))), rfl, bel.frame _, fun h => by cases h⟩

theorem proved : Rows.StoreSeesSaid :=
  OpenClaim.holds_of_wide 6 Try.f6 rfl rfl rfl rfl rfl rfl rfl ⟨rfl, rfl, rfl, rfl, rfl⟩ rfl rfl rfl rfl rfl (by kernel_rfl) Try.func6 (by kernel_rfl)
    (of_decide_eq_true (by kernel_rfl)) (by unfold Func.isWrapper; first | (rw [if_pos (by decide +kernel)]; kernel_rfl) | (rw [if_neg (by decide +kernel)]; exact ⟨rfl, rfl⟩))
    (fun os started H enc _ => lifted os started H enc)
end StoreSees
end Go.Proofs.Ytbhbdpbhhfemhaa
