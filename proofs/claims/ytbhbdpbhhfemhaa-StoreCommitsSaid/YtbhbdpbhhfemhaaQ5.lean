/-
  Parts of the proof, joined in one file: WCommits, Open1, Open2.
-/
import Derived.Test.YtbhbdpbhhfemhaaQ4
import Derived.Test.YtbhbdpbhhfemhaaRows
import Derived.SizedLaws
import Derived.ProofKit
import Derived.OpenShut
import Derived.ShutString
import Derived.ChangeOld
import Derived.Below
import Derived.Carry
/-
  StoreCommits: the walk.
-/
namespace Go.Proofs.Ytbhbdpbhhfemhaa
open Go Go.Proofs
set_option maxRecDepth 100000
set_option maxHeartbeats 16000000
set_option linter.unusedVariables false

theorem rw_len {α β : Type} {r : Rw α} {f : α → β} {l : List β} (h : r.xs.map f = l) : r.xs.length = l.length := by rw [← h, List.length_map]
theorem slIn_len {l : List HP} {a : Option Addr} {n c : Nat} {xs : List Sl} (h : SlIn l a n c xs) : (xs.map Sl.ws).length = n := by rw [List.length_map]; exact h.row.len.symm
/-- the same row, of commits that lie anywhere -/
def rwV (r : Rw Cm) : Rw CmV := ⟨r.xs.map Cm.v, r.arr⟩
theorem rwV_own (r : Rw Cm) : (rwV r).own cvc TCm = r.own cmc TCm := by
  obtain ⟨xs, arr⟩ := r
  cases arr with
  | none => rfl
  | some p => show pt p.1 (.cells ((xs.map Cm.v).flatMap cvc ++ p.2.2).toArray TCm (0, 0)) = pt p.1 (.cells (xs.flatMap cmc ++ p.2.2).toArray TCm (0, 0)); rw [cvc_flat]
theorem rwV_val (r : Rw Cm) : (rwV r).val = r.val := by show Value.slice _ (r.xs.map Cm.v).length _ = _; rw [List.length_map]; rfl
theorem rwV_ok {r : Rw Cm} (ok : r.Ok 3) : (rwV r).Ok 3 := ⟨fun h => by show r.xs.map Cm.v = []; rw [ok.nil h]; rfl, fun p hp => by
  obtain ⟨h1, h2⟩ := ok.fit p hp
  show (r.xs.map Cm.v).length ≤ p.2.1 ∧ (r.xs.map Cm.v).length * 3 + p.2.2.length = p.2.1 * 3
  rw [List.length_map]; exact ⟨h1, h2⟩⟩

theorem Sat.two {w : World} {A B : HP} {l : List HP} (H : Sat w (A :: B :: l)) : Sat w [A, B] := Sat.left (l := [A, B]) (m := l) H
theorem lastC {S : SC} {cms : List Cmt} {n : Nat} {c : Cm} (hh : S.hist.xs.map cma = cms) (hn : cms.length = n) (hc : S.hist.xs.getLast? = some c) : (cms[n - 1]?).map (fun c => c.2.1) = some c.time := by
  have hl : S.hist.xs.length = n := by rw [← hn, ← hh, List.length_map]
  rw [List.getLast?_eq_getElem?, hl] at hc
  rw [← hh, List.getElem?_map, hc]; rfl
theorem hci_n {r : Rw Cm} {f : Int} {cms : List Cmt} (htk : Takes f cms) (hcms : r.xs.map cma = cms) {x : CmV} (hx : x ∈ r.xs.map Cm.v) : x.n ≤ 4611686018427387904 := by
  obtain ⟨c, hc, rfl⟩ := List.mem_map.1 hx
  have h1 := right_len (htk.right (cma c) (by rw [← hcms]; exact List.mem_map.2 ⟨c, hc, rfl⟩))
  have h2 : c.w.xs.length ≤ 200 := h1
  show c.w.xs.length ≤ _
  omega

theorem StoreCommits_walk {w : World} {l : List HP} {a a3 : Option Addr} {n c n3 c3 : Nat} {xs : List Sl} {sq tm : Int} {ws : List Wr} (H : Sat w l) (hr : SlIn l a n c xs) (h3 : RIn wrc TWr l a3 n3 c3 ws) (hk : ∀ x ∈ ws, x.key.size ≤ 9223372036854775807 ∧ x.val.size ≤ 9223372036854775807) :
    Calls Try.prog 4 #[.slice a n c, .agg #[.int .i64 sq, .int .i64 tm, .slice a3 n3 c3]] w (Ret fun v w' => v = .bool true ∧ Sat w' l) := by
  have hln := slIn_len hr
  have hl3 := h3.len
  refine Calls.of_wp Try.func4 rfl Try.ntmps4 Try.results4 (Nat.le_of_ble_eq_true rfl) ?_
  refine WP.seq ?_
  refine WP.region ?_
  refine OpsE.boxA (cs := [.int .i64 sq, .int .i64 tm, .slice a3 n3 c3]) rfl H ?_
  intro b3 w H
  refine OpsE.val (x_assign (v := .bool _) rfl) ?_
  refine OpsE.nil ?_
  refine Then.normal ?_
  refine WP.seq ?_
  refine WP.seq ?_
  refine WP.region ?_
  refine OpsE.call (x_call (vl := []) rfl Try.call14) (head_spec H) ?_
  rintro _ w ⟨rfl, H⟩
  refine OpsE.val (x_not rfl) ?_
  refine OpsE.nil ?_
  refine Then.normal ?_
  refine WP.cond_f rfl rfl ?_
  refine WP.skip ?_
  refine Then.normal ?_
  refine WP.seq ?_
  refine WP.seq ?_
  refine WP.region ?_
  refine OpsE.val (x_move (v := .slice _ _ _) rfl) ?_
  refine OpsE.call (x_call (vl := [.slice _ _ _]) rfl Try.call21) (few_spec H) ?_
  rintro _ w ⟨rfl, H⟩
  by_cases c0 : (n : Int) ≤ 30
  · rw [decide_eq_true c0]
    refine OpsE.val (x_not rfl) ?_
    refine OpsE.val (x_move (v := .bool _) rfl) ?_
    refine OpsE.yes rfl ?_
    refine OpsE.val (x_fieldAddr (o := 2) rfl Try.runUnderlying33 rfl rfl Try.sizeOf22) ?_
    refine OpsE.yes rfl ?_
    refine OpsE.val (x_load (v := .slice a3 n3 c3) rfl Try.isAgg22 (H.look _) rfl) ?_
    refine OpsE.yes rfl ?_
    refine OpsE.val (x_lenL rfl rfl Try.runUnderlying22) ?_
    refine OpsE.yes rfl ?_
    refine OpsE.val (x_gt rfl rfl) ?_
    by_cases c00 : (n3 : Int) > 300
    · rw [decide_eq_true c00]
      refine OpsE.val (x_pickF rfl rfl) ?_
      refine OpsE.nil ?_
      refine Then.normal ?_
      refine WP.cond_t rfl rfl ?_
      refine WP.seq ?_
      refine WP.region ?_
      refine OpsE.val (x_assign (v := .bool _) rfl) ?_
      refine OpsE.nil ?_
      refine Then.normal ?_
      refine WP.ret ?_
      refine Then.ret ?_
      refine Leave0.ret (v := .bool _) rfl ?_
      exact ⟨rfl, H.tail⟩
    · rw [decide_eq_false c00]
      refine OpsE.val (x_pickF rfl rfl) ?_
      refine OpsE.nil ?_
      refine Then.normal ?_
      refine WP.cond_f rfl rfl ?_
      refine WP.skip ?_
      refine Then.normal ?_
      refine WP.seq ?_
      refine WP.region ?_
      refine OpsE.val (x_move (v := .slice _ _ _) rfl) ?_
      refine OpsE.call (x_call (vl := [.int .i64 _, .slice _ _ _]) rfl Try.call22) (List_spec (first := 1) H hr.more (by omega) (by decide)) ?_
      rintro _ w ⟨r, rfl, hlo, hro, hrw, H⟩
      refine OpsE.val (x_assign (v := .slice _ _ _) rfl) ?_
      refine OpsE.nil ?_
      refine Then.normal ?_
      refine WP.seq ?_
      refine WP.region ?_
      refine OpsE.val (x_move (v := .slice _ _ _) rfl) ?_
      have hlo' : ListOf (0 + 1) (xs.map Sl.ws) (r.xs.map cma) := hlo
      have htk := takes_list hlo' (by omega) (by decide)
      have hrl : r.xs.length = n := by rw [← hln, ← hlo.1, List.length_map]
      refine OpsE.call (x_call (vl := [.int .i64 _, .slice _ _ _, .slice _ _ _]) rfl Try.call23) (made_spec (first := 0) (bs := []) H RIn.nil (by decide) (goodN_nil (by decide)) (CIn.of_rw hro hrw) (by omega) (by rw [cm_ab]; exact htk) (fun _ h => by cases h)) ?_
      rintro _ w ⟨b, S, rfl, ok, hlow, hhist, hek, H⟩
      rw [cm_ab] at hhist hek
      obtain ⟨cms, hcms⟩ : ∃ cms, r.xs.map cma = cms := ⟨_, rfl⟩
      rw [hcms] at hhist hek htk hlo
      have hcl : cms.length = n := by rw [hlo.1, hln]
      have hlast : S.last = (n : Int) := by unfold SC.last; rw [hlow, rw_len hhist, hcl]; omega
      have H0 : Sat w (pt b3 (.cells [.int .i64 sq, .int .i64 tm, .slice a3 n3 c3].toArray TCm (0, 0)) :: StP b S :: r.own cmc TCm :: stars (r.xs.map cmH) :: l) := H.perm (by simp only [stars_cons]; ac_rfl)
      replace H := H0
      have h3' : RIn wrc TWr (pt b3 (.cells [.int .i64 sq, .int .i64 tm, .slice a3 n3 c3].toArray TCm (0, 0)) :: StP b S :: r.own cmc TCm :: stars (r.xs.map cmH) :: l) a3 n3 c3 ws := h3.more.more.more.more
      have hci : CIn [r.own cmc TCm, stars (r.xs.map cmH)] r.ad r.xs.length r.cp (r.xs.map Cm.v) := CIn.of_rw hro hrw
      refine OpsE.val (x_move (v := .tuple _) rfl) ?_
      refine OpsE.val (x_extract (v := .pointer (some ⟨b, 0, none⟩)) rfl rfl) ?_
      refine OpsE.val (x_extract (v := .bool true) rfl rfl) ?_
      refine OpsE.val (x_assign (v := .pointer _) rfl) ?_
      refine OpsE.val (x_assign (v := .bool _) rfl) ?_
      refine OpsE.nil ?_
      refine Then.normal ?_
      refine WP.seq ?_
      refine WP.seq ?_
      refine WP.region ?_
      refine OpsE.val (x_move (v := .bool _) rfl) ?_
      refine OpsE.val (x_not rfl) ?_
      refine OpsE.nil ?_
      refine Then.normal ?_
      refine WP.cond_f rfl rfl ?_
      refine WP.skip ?_
      refine Then.normal ?_
      refine WP.cutS [8, 31, 32, 33, 34, 35, 36, 37, 38, 39, 40, 41, 42, 43, 44, 45, 46, 47, 48, 49, 50, 51, 52, 53, 54, 55, 56, 57, 58, 59, 60, 61, 62, 63, 64, 65, 66, 67, 68] (fun E w => ∃ g : Bool, E 8 = .bool g ∧ (g = true ↔ goodC S sq tm ws) ∧ Sat w (pt b3 (.cells [.int .i64 sq, .int .i64 tm, .slice a3 n3 c3].toArray TCm (0, 0)) :: StP b S :: r.own cmc TCm :: stars (r.xs.map cmH) :: l)) ?_ ?_
      · skip
        refine WP.draw (fun w => Sat w _) (by kernel_rfl) (by kernel_rfl) (H.heap rfl) ?_
        refine QuietE.val (fun w H => x_fieldAddr0 rfl Try.runUnderlying33 rfl rfl Try.sizeOf3) ?_
        refine QuietE.val (fun w H => x_load (v := .int .i64 sq) rfl Try.isAgg3 (H.look _) rfl) ?_
        refine QuietE.val (fun w H => x_move (v := .slice r.ad r.xs.length r.cp) rfl) ?_
        refine QuietE.val (fun w H => x_lenL rfl rfl Try.runUnderlying38) ?_
        refine QuietE.val (fun w H => x_add (z := ((n : Nat) : Int) + 1) rfl rfl (by rw [i64n (by omega) (by omega), hrl])) ?_
        refine QuietE.val (fun w H => x_eqI rfl rfl) ?_
        by_cases g1 : sq = (n : Int) + 1
        · rw [decide_eq_true g1]
          refine QuietE.val (fun w H => x_move (v := .bool _) rfl) ?_
          refine QuietE.yes rfl ?_
          refine QuietE.val (fun w H => x_fieldAddr (o := 1) rfl Try.runUnderlying33 rfl rfl Try.sizeOf3) ?_
          refine QuietE.yes rfl ?_
          refine QuietE.val (fun w H => x_load (v := .int .i64 tm) rfl Try.isAgg3 (H.look _) rfl) ?_
          refine QuietE.yes rfl ?_
          refine QuietE.val (fun w H => x_ge rfl rfl) ?_
          by_cases g2 : tm ≥ 0
          · rw [decide_eq_true g2]
            refine QuietE.val (fun w H => x_pickT rfl rfl) ?_
            refine QuietE.val (fun w H => x_move (v := .bool _) rfl) ?_
            refine QuietE.yes rfl ?_
            refine QuietE.val (fun w H => x_fieldAddr (o := 1) rfl Try.runUnderlying33 rfl rfl Try.sizeOf3) ?_
            refine QuietE.yes rfl ?_
            refine QuietE.val (fun w H => x_load (v := .int .i64 tm) rfl Try.isAgg3 (H.look _) rfl) ?_
            refine QuietE.yes rfl ?_
            refine QuietE.val (fun w H => x_le rfl rfl) ?_
            by_cases g3 : tm ≤ 1099511627776
            · rw [decide_eq_true g3]
              refine QuietE.val (fun w H => x_pickT rfl rfl) ?_
              refine QuietE.val (fun w H => x_move (v := .bool _) rfl) ?_
              refine QuietE.yes rfl ?_
              refine QuietE.val (fun w H => x_fieldAddr (o := 2) rfl Try.runUnderlying33 rfl rfl Try.sizeOf22) ?_
              refine QuietE.yes rfl ?_
              refine QuietE.val (fun w H => x_load (v := .slice a3 n3 c3) rfl Try.isAgg22 (H.look _) rfl) ?_
              refine QuietE.yes rfl ?_
              refine QuietE.call (fun w H => x_call (vl := [.slice _ _ _]) rfl Try.call24) (fun w H => LRight_spec H h3' (by omega) hk) ?_
              cases g4 : rightBo ws
              case false =>
                refine QuietE.val (fun w H => x_pickT rfl rfl) ?_
                refine QuietE.val (fun w H => x_move (v := .bool _) rfl) ?_
                refine QuietE.no rfl ?_
                refine QuietE.no rfl ?_
                refine QuietE.no rfl ?_
                refine QuietE.no rfl ?_
                refine QuietE.no rfl ?_
                refine QuietE.no rfl ?_
                refine QuietE.no rfl ?_
                refine QuietE.no rfl ?_
                refine QuietE.no rfl ?_
                refine QuietE.no rfl ?_
                refine QuietE.no rfl ?_
                refine QuietE.no rfl ?_
                refine QuietE.no rfl ?_
                refine QuietE.no rfl ?_
                refine QuietE.no rfl ?_
                refine QuietE.val (fun w H => x_pickF rfl rfl) ?_
                refine QuietE.val (fun w H => x_assign (v := .bool _) rfl) ?_
                refine QuietE.nil ?_
                intro w H
                refine Then.normal ?_
                refine ⟨rfl, (by repeat (first | exact Same.refl _ _ | refine Same.upd ?_ rfl)), false, rfl, ⟨fun h => (by cases h), fun h => absurd ((rightBo_iff ws).2 h.2.2.2.2.1) (by rw [g4]; simp)⟩, H⟩
              case true =>
                refine QuietE.val (fun w H => x_pickT rfl rfl) ?_
                refine QuietE.val (fun w H => x_move (v := .bool _) rfl) ?_
                refine QuietE.yes rfl ?_
                refine QuietE.val (fun w H => x_move (v := .slice r.ad r.xs.length r.cp) rfl) ?_
                refine QuietE.yes rfl ?_
                refine QuietE.val (fun w H => x_lenL rfl rfl Try.runUnderlying38) ?_
                refine QuietE.yes rfl ?_
                refine QuietE.val (fun w H => x_eqI rfl rfl) ?_
                by_cases g5 : ((r.xs.length : Nat) : Int) = 0
                · rw [decide_eq_true g5]
                  refine QuietE.yes rfl ?_
                  refine QuietE.val (fun w H => x_move (v := .bool _) rfl) ?_
                  refine QuietE.no rfl ?_
                  refine QuietE.no rfl ?_
                  refine QuietE.no rfl ?_
                  refine QuietE.no rfl ?_
                  refine QuietE.no rfl ?_
                  refine QuietE.no rfl ?_
                  refine QuietE.no rfl ?_
                  refine QuietE.no rfl ?_
                  refine QuietE.no rfl ?_
                  refine QuietE.no rfl ?_
                  refine QuietE.yes rfl ?_
                  refine QuietE.val (fun w H => x_pickT rfl rfl) ?_
                  refine QuietE.val (fun w H => x_pickT rfl rfl) ?_
                  refine QuietE.val (fun w H => x_assign (v := .bool _) rfl) ?_
                  refine QuietE.nil ?_
                  intro w H
                  refine Then.normal ?_
                  refine ⟨rfl, (by repeat (first | exact Same.refl _ _ | refine Same.upd ?_ rfl)), true, rfl, ⟨fun _ => ⟨by rw [hlast]; exact g1, by omega, by omega, by omega, (rightBo_iff ws).1 g4, fun c hc => ?_⟩, fun _ => rfl⟩, H⟩
                  have h1 : (S.hist.xs.map cma).length = 0 := by rw [hhist, hcl]; omega
                  rw [List.length_map] at h1
                  rw [List.length_eq_zero_iff.1 h1] at hc; cases hc
                · rw [decide_eq_false g5]
                  refine QuietE.yes rfl ?_
                  refine QuietE.val (fun w H => x_move (v := .bool _) rfl) ?_
                  refine QuietE.yes rfl ?_
                  refine QuietE.val (fun w H => x_fieldAddr (o := 1) rfl Try.runUnderlying33 rfl rfl Try.sizeOf3) ?_
                  refine QuietE.yes rfl ?_
                  obtain ⟨bb, off, B, fz, pre, post, had, hB, hBl, hpo⟩ := hci.row.some (by omega)
                  obtain ⟨cl, hcl2⟩ : ∃ cl, (r.xs.map Cm.v)[r.xs.length - 1]? = some cl := ⟨_, List.getElem?_eq_getElem (by rw [List.length_map]; omega)⟩
                  have hct : (cms[n - 1]?).map (fun c => c.2.1) = some cl.time := by rw [← hcms, ← cm_ab, List.getElem?_map, ← hrl, hcl2]; rfl
                  refine QuietE.val (fun w H => x_load (v := .int .i64 tm) rfl Try.isAgg3 (H.look _) rfl) ?_
                  refine QuietE.yes rfl ?_
                  refine QuietE.val (fun w H => x_move (v := .slice (some ⟨bb, off, none⟩) r.xs.length r.cp) (show r.val = _ by rw [← had]; rfl)) ?_
                  refine QuietE.yes rfl ?_
                  refine QuietE.val (fun w H => x_move (v := .slice r.ad r.xs.length r.cp) rfl) ?_
                  refine QuietE.yes rfl ?_
                  refine QuietE.val (fun w H => x_lenL rfl rfl Try.runUnderlying38) ?_
                  refine QuietE.yes rfl ?_
                  refine QuietE.val (fun w H => x_sub (z := ((r.xs.length - 1 : Nat) : Int)) rfl rfl (by rw [i64n (by omega) (by omega)]; omega)) ?_
                  refine QuietE.yes rfl ?_
                  refine QuietE.val (fun w H => x_indexAddro (i := r.xs.length - 1) rfl rfl Try.runUnderlying38 Try.sizeOf33 rfl (by omega)) ?_
                  refine QuietE.yes rfl ?_
                  refine QuietE.val (fun w H => x_fieldAddr (o := 1) rfl Try.runUnderlying33 rfl rfl Try.sizeOf3) ?_
                  refine QuietE.yes rfl ?_
                  refine QuietE.val (fun w H => x_load (v := .int .i64 cl.time) rfl Try.isAgg3 (hB w (H.take2 (r.own cmc TCm) (stars (r.xs.map cmH))).two) (row_cell cvc_len hBl hpo (j := 1) hcl2 rfl)) ?_
                  refine QuietE.yes rfl ?_
                  refine QuietE.val (fun w H => x_ge rfl rfl) ?_
                  by_cases g6 : tm ≥ cl.time
                  · rw [decide_eq_true g6]
                    refine QuietE.yes rfl ?_
                    refine QuietE.val (fun w H => x_pickF rfl rfl) ?_
                    refine QuietE.val (fun w H => x_pickT rfl rfl) ?_
                    refine QuietE.val (fun w H => x_assign (v := .bool _) rfl) ?_
                    refine QuietE.nil ?_
                    intro w H
                    refine Then.normal ?_
                    refine ⟨rfl, (by repeat (first | exact Same.refl _ _ | refine Same.upd ?_ rfl)), true, rfl, ⟨fun _ => ⟨by rw [hlast]; exact g1, by omega, by omega, by omega, (rightBo_iff ws).1 g4, fun c hc => ?_⟩, fun _ => rfl⟩, H⟩
                    have h1 := lastC hhist hcl hc
                    rw [h1] at hct
                    have := Option.some.inj hct
                    omega
                  · rw [decide_eq_false g6]
                    refine QuietE.yes rfl ?_
                    refine QuietE.val (fun w H => x_pickF rfl rfl) ?_
                    refine QuietE.val (fun w H => x_pickT rfl rfl) ?_
                    refine QuietE.val (fun w H => x_assign (v := .bool _) rfl) ?_
                    refine QuietE.nil ?_
                    intro w H
                    refine Then.normal ?_
                    refine ⟨rfl, (by repeat (first | exact Same.refl _ _ | refine Same.upd ?_ rfl)), false, rfl, ⟨fun h => (by cases h), fun h => ?_⟩, H⟩
                    obtain ⟨ch, hch⟩ : ∃ ch, S.hist.xs.getLast? = some ch := by
                      cases hcc : S.hist.xs.getLast? with
                      | some c => exact ⟨c, rfl⟩
                      | none => rw [List.getLast?_eq_none_iff] at hcc; have h1 := rw_len hhist; rw [hcc, hcl] at h1; simp at h1; omega
                    have h2 := h.2.2.2.2.2 ch hch
                    have h1 := lastC hhist hcl hch
                    rw [h1] at hct
                    have := Option.some.inj hct
                    omega
            · rw [decide_eq_false g3]
              refine QuietE.val (fun w H => x_pickT rfl rfl) ?_
              refine QuietE.val (fun w H => x_move (v := .bool _) rfl) ?_
              refine QuietE.no rfl ?_
              refine QuietE.no rfl ?_
              refine QuietE.no rfl ?_
              refine QuietE.val (fun w H => x_pickF rfl rfl) ?_
              refine QuietE.val (fun w H => x_move (v := .bool _) rfl) ?_
              refine QuietE.no rfl ?_
              refine QuietE.no rfl ?_
              refine QuietE.no rfl ?_
              refine QuietE.no rfl ?_
              refine QuietE.no rfl ?_
              refine QuietE.no rfl ?_
              refine QuietE.no rfl ?_
              refine QuietE.no rfl ?_
              refine QuietE.no rfl ?_
              refine QuietE.no rfl ?_
              refine QuietE.no rfl ?_
              refine QuietE.no rfl ?_
              refine QuietE.no rfl ?_
              refine QuietE.no rfl ?_
              refine QuietE.no rfl ?_
              refine QuietE.val (fun w H => x_pickF rfl rfl) ?_
              refine QuietE.val (fun w H => x_assign (v := .bool _) rfl) ?_
              refine QuietE.nil ?_
              intro w H
              refine Then.normal ?_
              refine ⟨rfl, (by repeat (first | exact Same.refl _ _ | refine Same.upd ?_ rfl)), false, rfl, ⟨fun h => (by cases h), fun h => absurd h.2.2.2.1 (by omega)⟩, H⟩
          · rw [decide_eq_false g2]
            refine QuietE.val (fun w H => x_pickT rfl rfl) ?_
            refine QuietE.val (fun w H => x_move (v := .bool _) rfl) ?_
            refine QuietE.no rfl ?_
            refine QuietE.no rfl ?_
            refine QuietE.no rfl ?_
            refine QuietE.val (fun w H => x_pickF rfl rfl) ?_
            refine QuietE.val (fun w H => x_move (v := .bool _) rfl) ?_
            refine QuietE.no rfl ?_
            refine QuietE.no rfl ?_
            refine QuietE.no rfl ?_
            refine QuietE.val (fun w H => x_pickF rfl rfl) ?_
            refine QuietE.val (fun w H => x_move (v := .bool _) rfl) ?_
            refine QuietE.no rfl ?_
            refine QuietE.no rfl ?_
            refine QuietE.no rfl ?_
            refine QuietE.no rfl ?_
            refine QuietE.no rfl ?_
            refine QuietE.no rfl ?_
            refine QuietE.no rfl ?_
            refine QuietE.no rfl ?_
            refine QuietE.no rfl ?_
            refine QuietE.no rfl ?_
            refine QuietE.no rfl ?_
            refine QuietE.no rfl ?_
            refine QuietE.no rfl ?_
            refine QuietE.no rfl ?_
            refine QuietE.no rfl ?_
            refine QuietE.val (fun w H => x_pickF rfl rfl) ?_
            refine QuietE.val (fun w H => x_assign (v := .bool _) rfl) ?_
            refine QuietE.nil ?_
            intro w H
            refine Then.normal ?_
            refine ⟨rfl, (by repeat (first | exact Same.refl _ _ | refine Same.upd ?_ rfl)), false, rfl, ⟨fun h => (by cases h), fun h => absurd h.2.2.1 (by omega)⟩, H⟩
        · rw [decide_eq_false g1]
          refine QuietE.val (fun w H => x_move (v := .bool _) rfl) ?_
          refine QuietE.no rfl ?_
          refine QuietE.no rfl ?_
          refine QuietE.no rfl ?_
          refine QuietE.val (fun w H => x_pickF rfl rfl) ?_
          refine QuietE.val (fun w H => x_move (v := .bool _) rfl) ?_
          refine QuietE.no rfl ?_
          refine QuietE.no rfl ?_
          refine QuietE.no rfl ?_
          refine QuietE.val (fun w H => x_pickF rfl rfl) ?_
          refine QuietE.val (fun w H => x_move (v := .bool _) rfl) ?_
          refine QuietE.no rfl ?_
          refine QuietE.no rfl ?_
          refine QuietE.no rfl ?_
          refine QuietE.val (fun w H => x_pickF rfl rfl) ?_
          refine QuietE.val (fun w H => x_move (v := .bool _) rfl) ?_
          refine QuietE.no rfl ?_
          refine QuietE.no rfl ?_
          refine QuietE.no rfl ?_
          refine QuietE.no rfl ?_
          refine QuietE.no rfl ?_
          refine QuietE.no rfl ?_
          refine QuietE.no rfl ?_
          refine QuietE.no rfl ?_
          refine QuietE.no rfl ?_
          refine QuietE.no rfl ?_
          refine QuietE.no rfl ?_
          refine QuietE.no rfl ?_
          refine QuietE.no rfl ?_
          refine QuietE.no rfl ?_
          refine QuietE.no rfl ?_
          refine QuietE.val (fun w H => x_pickF rfl rfl) ?_
          refine QuietE.val (fun w H => x_assign (v := .bool _) rfl) ?_
          refine QuietE.nil ?_
          intro w H
          refine Then.normal ?_
          refine ⟨rfl, (by repeat (first | exact Same.refl _ _ | refine Same.upd ?_ rfl)), false, rfl, ⟨fun h => (by cases h), fun h => absurd h.1 (by rw [hlast]; omega)⟩, H⟩
      · skip
        rintro E1 w hs ⟨g, e8, hgood, H⟩
        refine WP.seq ?_
        refine WP.region ?_
        refine OpsE.val (x_move (v := .pointer (some ⟨b, 0, none⟩)) (hs 6 rfl)) ?_
        cases hg : g
        case false =>
          refine OpsE.val (x_loadA (vs := [.int .i64 sq, .int .i64 tm, .slice a3 n3 c3]) (hs 3 rfl) Try.isAgg33 Try.sizeOf33 (H.look _) rfl rfl) ?_
          subst hg
          have hr3 : RIn wrc TWr (pt b3 (.cells [.int .i64 sq, .int .i64 tm, .slice a3 n3 c3].toArray TCm (0, 0)) :: r.own cmc TCm :: stars (r.xs.map cmH) :: l) a3 n3 c3 ws := h3.more.more.more
          refine OpsE.call (x_call (vl := [.pointer _, .agg _]) rfl Try.call18) (Commit_spec (seq := sq) (time := tm) H.swap ok (by omega) hr3 (by omega) hk) ?_
          rintro _ w (⟨_, rfl, H⟩ | ⟨hg1, _⟩)
          rotate_left
          · exact absurd (hgood.2 hg1) (by simp)
          have H1 := H.swap
          replace H := H1
          clear H1
          refine OpsE.val (x_assign (v := .int .i64 _) rfl) ?_
          refine OpsE.nil ?_
          refine Then.normal ?_
          refine WP.seq ?_
          refine WP.seq ?_
          refine WP.draw (fun w => Sat w _) (by kernel_rfl) (by kernel_rfl) (H.heap rfl) ?_
          refine QuietE.val (fun w H => x_fieldAddr (o := 2) (hs 3 rfl) Try.runUnderlying33 rfl rfl Try.sizeOf22) ?_
          refine QuietE.val (fun w H => x_load (v := .slice a3 n3 c3) rfl Try.isAgg22 (H.look _) rfl) ?_
          refine QuietE.call (fun w H => x_call (vl := [.slice _ _ _]) rfl Try.call25) (fun w H => Right_spec H h3.more.more.more.more (by omega) hk) ?_
          refine QuietE.val (fun w H => x_fieldAddr (o := 2) (hs 3 rfl) Try.runUnderlying33 rfl rfl Try.sizeOf22) ?_
          refine QuietE.val (fun w H => x_load (v := .slice a3 n3 c3) rfl Try.isAgg22 (H.look _) rfl) ?_
          refine QuietE.call (fun w H => x_call (vl := [.slice _ _ _]) rfl Try.call24) (fun w H => LRight_spec H h3.more.more.more.more (by omega) hk) ?_
          refine QuietE.val (fun w H => x_neB rfl rfl Try.runUnderlying4) ?_
          rw [(show (!(rightBo ws == rightBo ws)) = false by simp)]
          refine QuietE.val (fun w H => x_move (v := .bool _) rfl) ?_
          refine QuietE.yes rfl ?_
          refine QuietE.val (fun w H => x_move (v := .int .i64 1) rfl) ?_
          refine QuietE.yes rfl ?_
          refine QuietE.val (fun w H => x_eqI rfl rfl) ?_
          rw [decide_eq_false (by decide)]
          refine QuietE.yes rfl ?_
          refine QuietE.val (fun w H => x_move (v := .bool false) e8) ?_
          refine QuietE.yes rfl ?_
          refine QuietE.val (fun w H => x_neB rfl rfl Try.runUnderlying4) ?_
          rw [(show (!(false == false)) = false from rfl)]
          refine QuietE.val (fun w H => x_pickF rfl rfl) ?_
          refine QuietE.val (fun w H => x_move (v := .bool _) rfl) ?_
          refine QuietE.yes rfl ?_
          refine QuietE.val (fun w H => x_move (v := .bool false) e8) ?_
          refine QuietE.yes rfl ?_
          refine QuietE.val (fun w H => x_not rfl) ?_
          refine QuietE.yes rfl ?_
          refine QuietE.val (fun w H => x_move (v := .bool _) rfl) ?_
          refine QuietE.yes rfl ?_
          refine QuietE.val (fun w H => x_move (v := .int .i64 _) rfl) ?_
          refine QuietE.yes rfl ?_
          refine QuietE.val (fun w H => x_neI rfl rfl) ?_
          rw [decide_eq_false (by decide)]
          refine QuietE.yes rfl ?_
          refine QuietE.val (fun w H => x_pickT rfl rfl) ?_
          refine QuietE.val (fun w H => x_pickF rfl rfl) ?_
          refine QuietE.nil ?_
          intro w H
          refine Then.normal ?_
          refine WP.cond_f rfl rfl ?_
          refine WP.skip ?_
          refine Then.normal ?_
          refine WP.seq ?_
          refine WP.seq ?_
          refine WP.region ?_
          refine OpsE.val (x_move (v := .bool false) e8) ?_
          refine OpsE.val (x_not rfl) ?_
          refine OpsE.nil ?_
          refine Then.normal ?_
          refine WP.cond_t rfl rfl ?_
          refine WP.seq ?_
          replace H := H.take (StP b S)
          refine WP.region ?_
          refine OpsE.val (x_move (v := .pointer (some ⟨b, 0, none⟩)) (hs 6 rfl)) ?_
          replace H := StP.open.1 H
          refine OpsE.call (x_call (vl := [.pointer _]) rfl Try.call16) (SLast_spec H (fun w H => H.look b) ok) ?_
          rintro _ w ⟨rfl, H⟩
          replace H := StP.open.2 H
          refine OpsE.val (x_move (v := .slice r.ad r.xs.length r.cp) (hs 5 rfl)) ?_
          refine OpsE.val (x_lenL rfl rfl Try.runUnderlying38) ?_
          refine OpsE.val (x_eqI rfl rfl) ?_
          rw [decide_eq_true (by rw [hlast, hrl])]
          refine OpsE.val (x_move (v := .bool _) rfl) ?_
          refine OpsE.yes rfl ?_
          refine OpsE.val (x_move (v := .pointer (some ⟨b, 0, none⟩)) (hs 6 rfl)) ?_
          refine OpsE.yes rfl ?_
          refine OpsE.val (x_move (v := .slice r.ad r.xs.length r.cp) (hs 5 rfl)) ?_
          refine OpsE.yes rfl ?_
          refine OpsE.val (x_move (v := .slice r.ad r.xs.length r.cp) (hs 5 rfl)) ?_
          refine OpsE.yes rfl ?_
          refine OpsE.val (x_lenL rfl rfl Try.runUnderlying38) ?_
          refine OpsE.yes rfl ?_
          have hci2 : CIn (StP b S :: pt b3 (.cells [.int .i64 sq, .int .i64 tm, .slice a3 n3 c3].toArray TCm (0, 0)) :: r.own cmc TCm :: stars (r.xs.map cmH) :: l) r.ad r.xs.length r.cp (r.xs.map Cm.v) := CIn.of_rw hro hrw
          refine OpsE.call (x_call (vl := [.slice _ _ _, .slice _ _ _, .int .i64 _]) rfl Try.call27) (At_map (q := ((r.xs.length : Nat) : Int)) H RIn.nil (by decide) hci2 (by omega) (fun x hx => hci_n htk hcms hx)) ?_
          rintro _ w ⟨m, es, ck, rfl, hm, H⟩
          refine OpsE.yes rfl ?_
          refine OpsE.val (x_move (v := .slice r.ad r.xs.length r.cp) (hs 5 rfl)) ?_
          refine OpsE.yes rfl ?_
          refine OpsE.val (x_lenL rfl rfl Try.runUnderlying38) ?_
          refine OpsE.yes rfl ?_
          have hm2 : MapIs es ck (fun k => atv (vsOf S.es k) ((r.xs.length : Nat) : Int)) := hm.cong fun k => by rw [cm_ab, hcms]; exact atv_st hek (takes_rise htk) (by omega) k
          refine OpsE.call (x_call (vl := [.pointer _, .map _, .int .i64 _]) rfl Try.call26) (shows_spec H.swap ok hm2) ?_
          rintro _ w ⟨rfl, H⟩
          refine OpsE.val (x_pickT rfl rfl) ?_
          refine OpsE.val (x_assign (v := .bool _) rfl) ?_
          refine OpsE.nil ?_
          refine Then.normal ?_
          refine WP.ret ?_
          refine Then.ret ?_
          refine Leave0.ret (v := .bool _) rfl ?_
          exact ⟨rfl, H.tail.tail.tail.tail.tail⟩
        case true =>
          refine OpsE.val (x_loadA (vs := [.int .i64 sq, .int .i64 tm, .slice a3 n3 c3]) (hs 3 rfl) Try.isAgg33 Try.sizeOf33 (H.look _) rfl rfl) ?_
          subst hg
          have hr3 : RIn wrc TWr (pt b3 (.cells [.int .i64 sq, .int .i64 tm, .slice a3 n3 c3].toArray TCm (0, 0)) :: r.own cmc TCm :: stars (r.xs.map cmH) :: l) a3 n3 c3 ws := h3.more.more.more
          refine OpsE.call (x_call (vl := [.pointer _, .agg _]) rfl Try.call18) (Commit_spec (seq := sq) (time := tm) H.swap ok (by omega) hr3 (by omega) hk) ?_
          rintro _ w (⟨hg1, _⟩ | ⟨hgc, rfl, S1, ok1, hl1, hh1, hk1, H⟩)
          · exact absurd (hgood.1 rfl) hg1
          have H1 := H.swap
          replace H := H1
          clear H1
          refine OpsE.val (x_assign (v := .int .i64 _) rfl) ?_
          refine OpsE.nil ?_
          refine Then.normal ?_
          refine WP.seq ?_
          refine WP.seq ?_
          refine WP.draw (fun w => Sat w _) (by kernel_rfl) (by kernel_rfl) (H.heap rfl) ?_
          refine QuietE.val (fun w H => x_fieldAddr (o := 2) (hs 3 rfl) Try.runUnderlying33 rfl rfl Try.sizeOf22) ?_
          refine QuietE.val (fun w H => x_load (v := .slice a3 n3 c3) rfl Try.isAgg22 (H.look _) rfl) ?_
          refine QuietE.call (fun w H => x_call (vl := [.slice _ _ _]) rfl Try.call25) (fun w H => Right_spec H h3.more.more.more.more (by omega) hk) ?_
          refine QuietE.val (fun w H => x_fieldAddr (o := 2) (hs 3 rfl) Try.runUnderlying33 rfl rfl Try.sizeOf22) ?_
          refine QuietE.val (fun w H => x_load (v := .slice a3 n3 c3) rfl Try.isAgg22 (H.look _) rfl) ?_
          refine QuietE.call (fun w H => x_call (vl := [.slice _ _ _]) rfl Try.call24) (fun w H => LRight_spec H h3.more.more.more.more (by omega) hk) ?_
          refine QuietE.val (fun w H => x_neB rfl rfl Try.runUnderlying4) ?_
          rw [(show (!(rightBo ws == rightBo ws)) = false by simp)]
          refine QuietE.val (fun w H => x_move (v := .bool _) rfl) ?_
          refine QuietE.yes rfl ?_
          refine QuietE.val (fun w H => x_move (v := .int .i64 0) rfl) ?_
          refine QuietE.yes rfl ?_
          refine QuietE.val (fun w H => x_eqI rfl rfl) ?_
          rw [decide_eq_true (by decide)]
          refine QuietE.yes rfl ?_
          refine QuietE.val (fun w H => x_move (v := .bool true) e8) ?_
          refine QuietE.yes rfl ?_
          refine QuietE.val (fun w H => x_neB rfl rfl Try.runUnderlying4) ?_
          rw [(show (!(true == true)) = false from rfl)]
          refine QuietE.val (fun w H => x_pickF rfl rfl) ?_
          refine QuietE.val (fun w H => x_move (v := .bool _) rfl) ?_
          refine QuietE.yes rfl ?_
          refine QuietE.val (fun w H => x_move (v := .bool true) e8) ?_
          refine QuietE.yes rfl ?_
          refine QuietE.val (fun w H => x_not rfl) ?_
          refine QuietE.yes rfl ?_
          refine QuietE.val (fun w H => x_move (v := .bool _) rfl) ?_
          refine QuietE.no rfl ?_
          refine QuietE.no rfl ?_
          refine QuietE.yes rfl ?_
          refine QuietE.val (fun w H => x_pickF rfl rfl) ?_
          refine QuietE.val (fun w H => x_pickF rfl rfl) ?_
          refine QuietE.nil ?_
          intro w H
          refine Then.normal ?_
          refine WP.cond_f rfl rfl ?_
          refine WP.skip ?_
          refine Then.normal ?_
          refine WP.seq ?_
          refine WP.seq ?_
          refine WP.region ?_
          refine OpsE.val (x_move (v := .bool true) e8) ?_
          refine OpsE.val (x_not rfl) ?_
          refine OpsE.nil ?_
          refine Then.normal ?_
          refine WP.cond_f rfl rfl ?_
          refine WP.skip ?_
          refine Then.normal ?_
          refine WP.seq ?_
          obtain ⟨cv, hcv⟩ : ∃ cv : CmV, cv = ⟨sq, tm, a3, n3, c3, ws⟩ := ⟨_, rfl⟩
          have H0 : Sat w ((rwV r).own cvc TCm :: pt b3 (.cells (cvc cv).toArray TCm (0, 0)) :: StP b S1 :: stars (r.xs.map cmH) :: l) := by
            rw [rwV_own, hcv]
            exact H.perm (by show _ = stars (r.own cmc TCm :: pt b3 (.cells [.int .i64 sq, .int .i64 tm, .slice a3 n3 c3].toArray TCm (0, 0)) :: StP b S1 :: stars (r.xs.map cmH) :: l); simp only [stars_cons]; ac_rfl)
          replace H := H0
          refine WP.region ?_
          refine OpsE.val (x_move (v := (rwV r).val) (by rw [rwV_val]; exact hs 5 rfl)) ?_
          refine OpsE.val (x_loadA (vs := cvc cv) (hs 3 rfl) Try.isAgg33 Try.sizeOf33 (H.look _) rfl rfl) ?_
          refine OpsE.buildSlice1 (vs := cvc cv) CM.K (by decide) rfl rfl rfl (by decide) H ?_
          intro sg w H
          refine OpsE.append_rw (f := cvc) (r := rwV r) (ys := [cv]) rfl CM.K cvc_len cvc_one rfl rfl H (rwV_ok hro) (H.look sg) (by simp) rfl (by decide) (by show ((r.xs.map Cm.v).length + 1) * 40 ≤ _; rw [List.length_map]; omega) (by show (r.xs.map Cm.v).length + 1 ≤ _; rw [List.length_map]; omega) ?_
          intro r2 w hh4 hh5 hh6 H
          refine OpsE.val (x_assign (v := .slice _ _ _) rfl) ?_
          refine OpsE.nil ?_
          refine Then.normal ?_
          refine WP.seq ?_
          have hl2 : r2.xs.length = n + 1 := by rw [hh4]; show (r.xs.map Cm.v ++ [cv]).length = _; rw [List.length_append, List.length_map, hrl]; rfl
          have hab2 : r2.xs.map CmV.ab = cms ++ [(sq, tm, ws)] := by rw [hh4]; show (r.xs.map Cm.v ++ [cv]).map CmV.ab = _; rw [List.map_append, cm_ab, hcms, hcv]; rfl
          have H0 : Sat w (StP b S1 :: r2.own cvc TCm :: pt sg (.cells (cvc cv).toArray TCm (0, 0)) :: pt b3 (.cells (cvc cv).toArray TCm (0, 0)) :: stars (r.xs.map cmH) :: l) := H.perm (by simp only [stars_cons]; ac_rfl)
          replace H := H0
          clear H0
          have hci2 : CIn (StP b S1 :: r2.own cvc TCm :: pt sg (.cells (cvc cv).toArray TCm (0, 0)) :: pt b3 (.cells (cvc cv).toArray TCm (0, 0)) :: stars (r.xs.map cmH) :: l) r2.ad r2.xs.length r2.cp r2.xs := by
            refine ⟨Rw.rin_own r2 hh5, fun x hx => ?_⟩
            rw [hh4] at hx
            rcases List.mem_append.1 hx with h | h
            · obtain ⟨c, hc, rfl⟩ := List.mem_map.1 h
              exact rin_cm hc (hrw c hc)
            · rcases List.mem_singleton.1 h with rfl
              rw [hcv]; exact h3.more.more.more.more.more
          have hn2 : ∀ x ∈ r2.xs, x.n ≤ 4611686018427387904 := fun x hx => by
            rw [hh4] at hx
            rcases List.mem_append.1 hx with h | h
            · exact hci_n htk hcms h
            · rcases List.mem_singleton.1 h with rfl
              rw [hcv]; show n3 ≤ _; omega
          have hlast1 : S1.last = (n : Int) + 1 := by unfold SC.last; rw [hl1, hlow, rw_len hh1, List.length_append, List.length_map, rw_len hhist, hcl]; simp only [List.length_cons, List.length_nil]; omega
          have hek1 : ek S1.es = stK 0 [] (cms ++ [(sq, tm, ws)]) := by rw [hk1, hek, stK_snoc]
          have hrise1 : (cms ++ [(sq, tm, ws)]).Pairwise (fun a b => a.1 < b.1) := seq_rise (first := 0) fun i c hc => by
            rcases Nat.lt_or_ge i cms.length with h | h
            · rw [List.getElem?_append_left h] at hc; exact (htk.seq i c hc).1
            · rw [List.getElem?_append_right h] at hc
              have h5 := (List.getElem?_eq_some_iff.1 hc).1
              simp only [List.length_cons, List.length_nil] at h5
              have h6 : i - cms.length = 0 := by omega
              rw [h6] at hc; simp at hc; subst hc
              have h7 := hgc.1
              rw [hlast] at h7
              show sq = _; omega
          refine WP.region ?_
          refine OpsE.val (x_move (v := .pointer (some ⟨b, 0, none⟩)) (hs 6 rfl)) ?_
          replace H := StP.open.1 H
          refine OpsE.call (x_call (vl := [.pointer _]) rfl Try.call16) (SLast_spec H (fun w H => H.look b) ok1) ?_
          rintro _ w ⟨rfl, H⟩
          replace H := StP.open.2 H
          refine OpsE.val (x_move (v := .slice r2.ad r2.xs.length r2.cp) rfl) ?_
          refine OpsE.val (x_lenL rfl rfl Try.runUnderlying38) ?_
          refine OpsE.val (x_eqI rfl rfl) ?_
          rw [decide_eq_true (by rw [hlast1, hl2]; rfl)]
          refine OpsE.val (x_move (v := .bool _) rfl) ?_
          refine OpsE.yes rfl ?_
          refine OpsE.val (x_move (v := .pointer (some ⟨b, 0, none⟩)) (hs 6 rfl)) ?_
          refine OpsE.yes rfl ?_
          refine OpsE.val (x_move (v := .slice r2.ad r2.xs.length r2.cp) rfl) ?_
          refine OpsE.yes rfl ?_
          refine OpsE.val (x_move (v := .slice r2.ad r2.xs.length r2.cp) rfl) ?_
          refine OpsE.yes rfl ?_
          refine OpsE.val (x_lenL rfl rfl Try.runUnderlying38) ?_
          refine OpsE.yes rfl ?_
          refine OpsE.call (x_call (vl := [.slice _ _ _, .slice _ _ _, .int .i64 _]) rfl Try.call27) (At_map (q := ((r2.xs.length : Nat) : Int)) H RIn.nil (by decide) hci2 (by omega) hn2) ?_
          rintro _ w ⟨m, es, ck, rfl, hm, H⟩
          refine OpsE.yes rfl ?_
          refine OpsE.val (x_move (v := .slice r2.ad r2.xs.length r2.cp) rfl) ?_
          refine OpsE.yes rfl ?_
          refine OpsE.val (x_lenL rfl rfl Try.runUnderlying38) ?_
          refine OpsE.yes rfl ?_
          have hm2 : MapIs es ck (fun k => atv (vsOf S1.es k) ((r2.xs.length : Nat) : Int)) := hm.cong fun k => by rw [hab2]; exact atv_st hek1 hrise1 (by omega) k
          refine OpsE.call (x_call (vl := [.pointer _, .map _, .int .i64 _]) rfl Try.call26) (shows_spec H.swap ok1 hm2) ?_
          rintro _ w ⟨rfl, H⟩
          refine OpsE.val (x_pickT rfl rfl) ?_
          refine OpsE.val (x_move (v := .bool _) rfl) ?_
          refine OpsE.yes rfl ?_
          refine OpsE.val (x_move (v := .pointer (some ⟨b, 0, none⟩)) (hs 6 rfl)) ?_
          refine OpsE.yes rfl ?_
          refine OpsE.val (x_move (v := .slice r2.ad r2.xs.length r2.cp) rfl) ?_
          refine OpsE.yes rfl ?_
          refine OpsE.val (x_move (v := .slice r2.ad r2.xs.length r2.cp) rfl) ?_
          refine OpsE.yes rfl ?_
          refine OpsE.val (x_lenL rfl rfl Try.runUnderlying38) ?_
          refine OpsE.yes rfl ?_
          refine OpsE.val (x_sub (z := (n : Int)) rfl rfl (by rw [i64n (by omega) (by omega)]; omega)) ?_
          refine OpsE.yes rfl ?_
          refine OpsE.call (x_call (vl := [.slice _ _ _, .slice _ _ _, .int .i64 _]) rfl Try.call27) (At_map (q := (n : Int)) H RIn.nil (by decide) (hci2.sub fun w H => H.swap.tail) (by omega) hn2) ?_
          rintro _ w ⟨m2, es2, ck2, rfl, hm3, H⟩
          refine OpsE.yes rfl ?_
          refine OpsE.val (x_move (v := .slice r2.ad r2.xs.length r2.cp) rfl) ?_
          refine OpsE.yes rfl ?_
          refine OpsE.val (x_lenL rfl rfl Try.runUnderlying38) ?_
          refine OpsE.yes rfl ?_
          refine OpsE.val (x_sub (z := (n : Int)) rfl rfl (by rw [i64n (by omega) (by omega)]; omega)) ?_
          refine OpsE.yes rfl ?_
          have hm4 : MapIs es2 ck2 (fun k => atv (vsOf S1.es k) (n : Int)) := hm3.cong fun k => by rw [hab2]; exact atv_st hek1 hrise1 (by omega) k
          refine OpsE.call (x_call (vl := [.pointer _, .map _, .int .i64 _]) rfl Try.call26) (shows_spec H.swap ok1 hm4) ?_
          rintro _ w ⟨rfl, H⟩
          refine OpsE.val (x_pickT rfl rfl) ?_
          refine OpsE.val (x_assign (v := .bool _) rfl) ?_
          refine OpsE.nil ?_
          refine Then.normal ?_
          refine WP.ret ?_
          refine Leave0.ret (v := .bool _) rfl ?_
          exact ⟨rfl, H.tail.tail.tail.tail.tail.tail.tail⟩
  · rw [decide_eq_false c0]
    refine OpsE.val (x_not rfl) ?_
    refine OpsE.val (x_move (v := .bool _) rfl) ?_
    refine OpsE.no rfl ?_
    refine OpsE.no rfl ?_
    refine OpsE.no rfl ?_
    refine OpsE.no rfl ?_
    refine OpsE.val (x_pickT rfl rfl) ?_
    refine OpsE.nil ?_
    refine Then.normal ?_
    refine WP.cond_t rfl rfl ?_
    refine WP.seq ?_
    refine WP.region ?_
    refine OpsE.val (x_assign (v := .bool _) rfl) ?_
    refine OpsE.nil ?_
    refine Then.normal ?_
    refine WP.ret ?_
    refine Then.ret ?_
    refine Leave0.ret (v := .bool _) rfl ?_
    exact ⟨rfl, H.tail⟩
end Go.Proofs.Ytbhbdpbhhfemhaa

/-
  The arguments of a law, opened: rows of writes in the memory at the call. And the last step of a law's proof.
-/
namespace Go.Proofs.Ytbhbdpbhhfemhaa
open Go Go.Proofs
open Go.ChangeShapes Go.WideShapes Go.ChangeAt Go.RowKit
set_option maxRecDepth 100000
set_option maxHeartbeats 4000000
set_option linter.unusedVariables false

theorem take_pre {α : Type} : ∀ {l L : List α}, (∀ (j : Nat) (v : α), l[j]? = some v → L[j]? = some v) → L.take l.length = l
  | [], _, _ => by simp
  | a :: l, [], h => by have := h 0 a rfl; simp at this
  | a :: l, b :: L, h => by
    have h0 := h 0 a rfl
    simp at h0; subst h0
    rw [List.length_cons, List.take_succ_cons, take_pre fun j v hv => by have := h (j + 1) v (by simpa using hv); simpa using this]
theorem flat_of {α : Type} {f : α → List Value} {S : Nat} (hf : ∀ x, (f x).length = S) : ∀ {xs : List α} {L : List Value}, (∀ (i : Nat) (x : α), xs[i]? = some x → ∀ (j : Nat) (v : Value), (f x)[j]? = some v → L[i * S + j]? = some v) → L.take (xs.length * S) = xs.flatMap f
  | [], _, _ => by simp
  | x :: xs, L, h => by
    have h1 : L.take S = f x := by
      have := take_pre (l := f x) (L := L) fun j v hv => by have := h 0 x rfl j v hv; simpa using this
      rwa [hf] at this
    have h2 := flat_of hf (xs := xs) (L := L.drop S) fun i y hy j v hv => by
      have := h (i + 1) y (by simpa using hy) j v hv
      rw [List.getElem?_drop]
      rw [show S + (i * S + j) = (i + 1) * S + j by rw [Nat.add_mul]; omega]; exact this
    rw [List.length_cons, Nat.add_mul, Nat.one_mul, Nat.add_comm, List.take_add, h1, h2, List.flatMap_cons]

section
variable {H : Type} {enc : TypeId × Value → H} {P : Program} {W : World}

theorem add_none (b off n : Nat) : (⟨b, off, none⟩ : Addr).add n = ⟨b, off + n, none⟩ := by unfold Addr.add; split <;> simp_all
theorem cells_cell {a : Addr} {n base : Nat} {l : List Value} (h : W.cells? base a n = some l) : l.length = n ∧ ∀ (j : Nat) (v : Value), l[j]? = some v → W.cell? (a.add j) = some v := by
  unfold World.cells? at h
  split at h
  · have hl := mapM_some_length h
    rw [List.length_range] at hl
    refine ⟨hl, fun j v hv => ?_⟩
    have hj : j < n := by rw [← hl]; exact (List.getElem?_eq_some_iff.1 hv).1
    have := mapM_some_get h j j (by simp [hj])
    rw [this]; exact hv
  · cases h
/-- a row of elements that are read one by one -/
theorem row_of {α : Type} {f : α → List Value} {S : Nat} (hf : ∀ x, (f x).length = S) (hS : 0 < S) {a : Addr} {xs : List α} (h0 : 0 < xs.length) (h : ∀ (i : Nat) (x : α), xs[i]? = some x → W.cells? 0 (a.add (i * S)) S = some (f x)) :
    ∃ (b off : Nat) (B : Array Value) (fz : TypeId × Nat × Nat) (pre post : List Value), a = ⟨b, off, none⟩ ∧ W.heap[b]? = some (.cells B fz.1 fz.2) ∧ B.toList = pre ++ xs.flatMap f ++ post ∧ pre.length = off := by
  obtain ⟨x0, hx0⟩ : ∃ x, xs[0]? = some x := ⟨_, List.getElem?_eq_getElem h0⟩
  have hc0 : ∀ j v, (f x0)[j]? = some v → W.cell? (a.add j) = some v := by
    have h1 := (cells_cell (h 0 x0 hx0)).2
    intro j v hv
    have := h1 j v hv
    rwa [Nat.zero_mul, show a.add 0 = a by unfold Addr.add; rfl] at this
  obtain ⟨v0, hv0⟩ : ∃ v, (f x0)[0]? = some v := ⟨_, List.getElem?_eq_getElem (by rw [hf]; exact hS)⟩
  have h1 := hc0 0 v0 hv0
  rw [show a.add 0 = a by unfold Addr.add; rfl] at h1
  obtain ⟨b, off, spot⟩ := a
  have hspot : spot = none := World.cell?_spot h1
  subst hspot
  have hB : ∃ B t fz, W.heap[b]? = some (.cells B t fz) := by
    unfold World.cell? at h1
    split at h1
    · rename_i c t fz hc; exact ⟨c, t, fz, hc⟩
    · cases h1
  obtain ⟨B, t, fz, hB⟩ := hB
  have hcell : ∀ (k : Nat) (v : Value), W.cell? ⟨b, k, none⟩ = some v → B[k]? = some v := by
    intro k v hv
    unfold World.cell? at hv
    rw [hB] at hv
    simpa using hv
  have hrow : (B.toList.drop off).take (xs.length * S) = xs.flatMap f := flat_of hf fun i x hx j v hv => by
    have h2 := (cells_cell (h i x hx)).2 j v hv
    rw [add_none, add_none] at h2
    have h3 := hcell _ v h2
    rw [List.getElem?_drop, Array.getElem?_toList, ← Nat.add_assoc]; exact h3
  have hoff : off ≤ B.toList.length := by
    have h4 := hcell off v0 h1
    have := (Array.getElem?_eq_some_iff.1 h4).1
    simp; omega
  refine ⟨b, off, B, (t, fz), B.toList.take off, (B.toList.drop off).drop (xs.length * S), rfl, hB, ?_, by rw [List.length_take]; omega⟩
  rw [← hrow, List.append_assoc, List.take_append_drop, List.take_append_drop]

theorem wAll_mem {P : Program} {e : TypeId} {d : DataW H} : ∀ {ds : List (DataW H)}, d ∈ ds → ∀ m ∈ d.weights P e, m ∈ DataW.weightsAll P e ds
  | x :: ds, h, m, hm => by
    simp only [DataW.weightsAll, List.mem_append]
    rcases List.mem_cons.1 h with rfl | h
    · exact .inl hm
    · exact .inr (wAll_mem h m hm)

/-- a slice, opened -/
theorem open_slice {α : Type} {f : α → List Value} {S : Nat} {T t e : TypeId} {Good : DataW H → α → Prop} (hf : ∀ x, (f x).length = S) (hS : 0 < S) (hu : P.underlying t = some (.slice e)) (hc : P.cellsOf e = S)
    (hel : ∀ n cs x, DataW.trod enc P W 0 (fun _ => true) true n e cs = some x → ∃ y, cs = f y ∧ Good x.1 y) {n : Nat} {cs : List Value} {x : DataW H × List MemPlace} (h : DataW.trod enc P W 0 (fun _ => true) true n t cs = some x) :
    ∃ (a : Option Addr) (m c : Nat) (xs : List α) (ds sp : List (DataW H)), cs = [.slice a m c] ∧ RIn f T [init W] a m c xs ∧ ds.length = m ∧ (∀ y ∈ xs, ∃ d ∈ ds, Good d y) ∧ ((x.1 = .nil ∧ ds = []) ∨ x.1 = .slice ds sp) := by
  rcases DataW.trod_slice hu h with ⟨rfl, rfl⟩ | ⟨a, len, cap, elems, rest, n', rfl, rfl, rfl, _, hlc, _, hel1, hel2, _, _⟩
  · exact ⟨none, 0, 0, [], [], [], rfl, RIn.nil, rfl, (fun _ h => by cases h), .inl ⟨rfl, rfl⟩⟩
  · rw [hc] at hel2
    have hi : ∀ i, i < len → ∃ (y : α) (e' : DataW H × List MemPlace), elems[i]? = some e' ∧ W.cells? 0 (a.add (i * S)) S = some (f y) ∧ Good e'.1 y := by
      intro i hi
      obtain ⟨e', he'⟩ : ∃ e', elems[i]? = some e' := ⟨_, List.getElem?_eq_getElem (by omega)⟩
      have h1 := hel2 i hi
      rw [he', Option.bind_eq_some_iff] at h1
      obtain ⟨cs', h2, h3⟩ := h1
      obtain ⟨y, rfl, hy⟩ := hel _ _ _ h3
      exact ⟨y, e', he', h2, hy⟩
    obtain ⟨xs, hxl, hxs⟩ : ∃ xs : List α, xs.length = len ∧ ∀ i y, xs[i]? = some y → ∃ e' : DataW H × List MemPlace, elems[i]? = some e' ∧ W.cells? 0 (a.add (i * S)) S = some (f y) ∧ Good e'.1 y := by
      have key : ∀ k, k ≤ len → ∃ xs : List α, xs.length = k ∧ ∀ i y, xs[i]? = some y → ∃ e' : DataW H × List MemPlace, elems[i]? = some e' ∧ W.cells? 0 (a.add (i * S)) S = some (f y) ∧ Good e'.1 y := by
        intro k
        induction k with
        | zero => exact fun _ => ⟨[], rfl, fun i y h => by simp at h⟩
        | succ k ih =>
          intro hk
          obtain ⟨xs, h1, h2⟩ := ih (by omega)
          obtain ⟨y, e', h3, h4, h5⟩ := hi k (by omega)
          refine ⟨xs ++ [y], by simp [h1], fun i z hz => ?_⟩
          rcases Nat.lt_or_ge i xs.length with hlt | hge
          · rw [List.getElem?_append_left hlt] at hz; exact h2 i z hz
          · rw [List.getElem?_append_right hge] at hz
            have h6 : i - xs.length = 0 := by have := (List.getElem?_eq_some_iff.1 hz).1; simp at this; omega
            rw [h6] at hz; simp at hz; subst hz
            obtain rfl : i = k := by omega
            exact ⟨e', h3, h4, h5⟩
      exact key len (Nat.le_refl _)
    refine ⟨some a, len, cap, xs, elems.map (·.1), rest.map (·.1), rfl, ⟨hxl.symm, hlc, ?_⟩, by rw [List.length_map, hel1], fun y hy => ?_, .inr rfl⟩
    · rcases Nat.eq_zero_or_pos len with h0 | h0
      · exact .inl ⟨List.length_eq_zero_iff.1 (by omega), fun h => by cases h⟩
      · obtain ⟨b, off, B, fz, pre, post, rfl, hB, hBl, hpo⟩ := row_of (W := W) hf hS (a := a) (xs := xs) (by omega) fun i x hx => by
          obtain ⟨_, _, h2, _⟩ := hxs i x hx; exact h2
        exact .inr ⟨b, off, B, fz, pre, post, rfl, fun w H => H.init_get hB, hBl, hpo⟩
    · obtain ⟨i, hi', rfl⟩ := List.mem_iff_getElem.1 hy
      obtain ⟨e', h1, _, h3⟩ := hxs i xs[i] (by simp)
      exact ⟨e'.1, List.mem_map.2 ⟨e', List.mem_of_getElem? h1, rfl⟩, h3⟩
end

section
variable {H : Type} {enc : TypeId × Value → H} {W : World}
abbrev okL (l : List Nat) : Prop := ∀ m ∈ l, m ≤ reachBytes
def goodW (d : DataW H) (y : Wr) : Prop := okL (d.weights Try.prog TWr) → y.key.size ≤ reachBytes ∧ y.val.size ≤ reachBytes
theorem open_w {n : Nat} {cs : List Value} {x : DataW H × List MemPlace} (h : DataW.trod enc Try.prog W 0 (fun _ => true) true n TWr cs = some x) : ∃ y, cs = wrc y ∧ goodW x.1 y := by
  obtain ⟨xs, m, rfl, rfl, hl, hxl, hf⟩ := DataW.trod_struct Try.underlying26 h
  have hl3 : cs.length = 3 := hl.trans (by kernel_rfl)
  have hx3 : xs.length = 3 := hxl
  obtain ⟨c0, c1, c2, rfl⟩ : ∃ c0 c1 c2, cs = [c0, c1, c2] := by
    match cs, hl3 with
    | [c0, c1, c2], _ => exact ⟨c0, c1, c2, rfl⟩
  obtain ⟨x0, x1, x2, rfl⟩ : ∃ x0 x1 x2, xs = [x0, x1, x2] := by
    match xs, hx3 with
    | [x0, x1, x2], _ => exact ⟨x0, x1, x2, rfl⟩
  have hs : Try.prog.cellsOf 9 = 1 := by kernel_rfl
  have hb : Try.prog.cellsOf 4 = 1 := by kernel_rfl
  have h0 := hf 0 _ rfl
  have h1 := hf 1 _ rfl
  have h2 := hf 2 _ rfl
  change DataW.trod _ _ _ _ _ _ _ 9 (([c0, c1, c2].drop 0).take (Try.prog.cellsOf 9)) = some x0 at h0
  change DataW.trod _ _ _ _ _ _ _ 9 (([c0, c1, c2].drop 1).take (Try.prog.cellsOf 9)) = some x1 at h1
  change DataW.trod _ _ _ _ _ _ _ 4 (([c0, c1, c2].drop 2).take (Try.prog.cellsOf 4)) = some x2 at h2
  rw [hs] at h0 h1
  rw [hb] at h2
  obtain ⟨s0, e0, r0, _⟩ := DataW.trod_string Try.underlying9 h0
  obtain ⟨s1, e1, r1, _⟩ := DataW.trod_string Try.underlying9 h1
  obtain ⟨b2, e2, r2⟩ := DataW.trod_bool Try.underlying4 h2
  simp at e0 e1 e2
  subst e0; subst e1; subst e2
  refine ⟨⟨s0, s1, b2⟩, rfl, fun hw => ?_⟩
  have r0' := (Prod.mk.inj r0).1
  have r1' := (Prod.mk.inj r1).1
  have hw' : okL (DataW.weightsEach Try.prog [9, 9, 4] [x0.1, x1.1, x2.1]) := by
    intro m hm
    refine hw m ?_
    simp only [DataW.weights, Try.underlying26]
    exact hm
  constructor
  · refine hw' s0.size (by rw [r0']; simp [DataW.weightsEach, DataW.weights])
  · refine hw' s1.size (by rw [r1']; simp [DataW.weightsEach, DataW.weights])
structure WsOk (a : Option Addr) (n c : Nat) (ws : List Wr) (W : World) : Prop where
  row : RIn wrc TWr [init W] a n c ws
  n : n ≤ reachBytes
  sz : ∀ y ∈ ws, y.key.size ≤ reachBytes ∧ y.val.size ≤ reachBytes
theorem weights_elem {t e : TypeId} (hu : Try.prog.underlying t = some (.slice e)) {ds sp : List (DataW H)} {x : DataW H} (hx : (x = .nil ∧ ds = []) ∨ x = .slice ds sp) (hw : okL (x.weights Try.prog t)) : (∀ d ∈ ds, okL (d.weights Try.prog e)) ∧ (ds = [] ∨ ds.length * Try.prog.bytesOf e ≤ reachBytes) := by
  rcases hx with ⟨rfl, rfl⟩ | rfl
  · exact ⟨fun d h => (by cases h), .inl rfl⟩
  · have h2 : (DataW.slice ds sp).weights Try.prog t = (ds.length + sp.length) * Try.prog.bytesOf e :: (DataW.weightsAll Try.prog e ds ++ DataW.weightsAll Try.prog e sp) := by simp only [DataW.weights, hu]
    rw [h2] at hw
    refine ⟨fun d hd m hm => hw m (List.mem_cons_of_mem _ (List.mem_append_left _ (wAll_mem hd m hm))), .inr ?_⟩
    have h3 := hw _ (List.mem_cons_self ..)
    exact Nat.le_trans (Nat.mul_le_mul_right _ (Nat.le_add_right _ _)) h3
theorem open_ws {n : Nat} {cs : List Value} {x : DataW H × List MemPlace} (h : DataW.trod enc Try.prog W 0 (fun _ => true) true n TSl cs = some x) : ∃ s : Sl, cs = slc s ∧ (okL (x.1.weights Try.prog TSl) → WsOk s.a s.n s.c s.ws W) := by
  obtain ⟨a, m, c, xs, ds, sp, rfl, hr, hdl, hg, hx⟩ := open_slice (T := TWr) (Good := goodW) wrc_len (by decide) Try.underlying22 (by kernel_rfl) (fun n cs x h => open_w h) h
  refine ⟨⟨a, m, c, xs⟩, rfl, fun hw => ?_⟩
  obtain ⟨h1, h2⟩ := weights_elem Try.underlying22 hx hw
  have hb : Try.prog.bytesOf 26 = 40 := by kernel_rfl
  rw [hb] at h2
  refine ⟨hr, ?_, fun y hy => ?_⟩
  · rcases h2 with h2 | h2
    · rw [← hdl, h2]; exact Nat.zero_le _
    · show m ≤ _; omega
  · obtain ⟨d, hd, hgd⟩ := hg y hy
    exact hgd (h1 d hd)
theorem reach62 : reachBytes ≤ 4611686018427387904 := by decide
theorem open_wss {n : Nat} {cs : List Value} {x : DataW H × List MemPlace} (h : DataW.trod enc Try.prog W 0 (fun _ => true) true n 36 cs = some x) : ∃ (a : Option Addr) (m c : Nat) (xs : List Sl), cs = [.slice a m c] ∧ (okL (x.1.weights Try.prog 36) → SlIn [init W] a m c xs ∧ m ≤ reachBytes) := by
  obtain ⟨a, m, c, xs, ds, sp, rfl, hr, hdl, hg, hx⟩ := open_slice (T := TSl) (Good := fun (d : DataW H) (s : Sl) => okL (d.weights Try.prog TSl) → WsOk s.a s.n s.c s.ws W) slc_len (by decide) Try.underlying36 (by kernel_rfl) (fun n cs x h => open_ws h) h
  refine ⟨a, m, c, xs, rfl, fun hw => ?_⟩
  obtain ⟨h1, h2⟩ := weights_elem Try.underlying36 hx hw
  have hb : Try.prog.bytesOf 22 = 24 := by kernel_rfl
  rw [hb] at h2
  have hr62 := reach62
  have hall : ∀ s ∈ xs, WsOk s.a s.n s.c s.ws W := fun s hs => by
    obtain ⟨d, hd, hgd⟩ := hg s hs
    exact hgd (h1 d hd)
  refine ⟨⟨hr, fun s hs => (hall s hs).row, fun s hs => ⟨Nat.le_trans (hall s hs).n hr62, fun y hy => Nat.le_trans ((hall s hs).sz y hy).1 hr62⟩⟩, ?_⟩
  rcases h2 with h2 | h2
  · rw [← hdl, h2]; exact Nat.zero_le _
  · omega
end

/-! ### the last step -/
theorem below_of {w w0 : World} {l : List HP} (H : Sat w (init w0 :: l)) : Below w0.heap.size w0 w := by
  have he := H.init_env
  refine ⟨(Prod.mk.inj he).1, (Prod.mk.inj (Prod.mk.inj he).2).2, (Prod.mk.inj (Prod.mk.inj he).2).1, H.size, fun k hk => ?_⟩
  have h1 : w0.heap[k]? = some w0.heap[k] := by simp [hk]
  rw [h1]; exact H.init_get h1
theorem laidOut : laidOutB Try.prog = true := by kernel_rfl
theorem ownK : ownKnob Try.prog.godebug = none := by kernel_rfl
theorem lt_of_trod {H : Type} {enc : TypeId × Value → H} {W : World} {t : TypeId} {v : Value} {d : DataW H} {p : List MemPlace} (h : DataW.Trod enc Try.prog W 0 (fun _ => true) true t v d p) : ∀ x ∈ p, x.block < W.heap.size := by
  obtain ⟨m, hm⟩ := h
  exact DataW.trod_lt m _ _ _ hm
end Go.Proofs.Ytbhbdpbhhfemhaa

/-
  The arguments of a law, opened: a commit; what the form's own reach says of the sizes.
-/
namespace Go.Proofs.Ytbhbdpbhhfemhaa
open Go Go.Proofs
open Go.ChangeShapes Go.WideShapes Go.ChangeAt Go.RowKit
set_option maxRecDepth 100000
set_option maxHeartbeats 4000000
set_option linter.unusedVariables false

/-- a commit, opened -/
theorem open_c {H : Type} {enc : TypeId × Value → H} {W : World} {n : Nat} {cs : List Value} {x : DataW H × List MemPlace} (h : DataW.trod enc Try.prog W 0 (fun _ => true) true n TCm cs = some x) : ∃ (sq tm : Int) (s : Sl), cs = [.int .i64 sq, .int .i64 tm, .slice s.a s.n s.c] ∧ (okL (x.1.weights Try.prog TCm) → WsOk s.a s.n s.c s.ws W) := by
  obtain ⟨xs, m, rfl, rfl, hl, hxl, hf⟩ := DataW.trod_struct Try.underlying33 h
  have hl3 : cs.length = 3 := hl.trans (by kernel_rfl)
  have hx3 : xs.length = 3 := hxl
  obtain ⟨c0, c1, c2, rfl⟩ : ∃ c0 c1 c2, cs = [c0, c1, c2] := by
    match cs, hl3 with
    | [c0, c1, c2], _ => exact ⟨c0, c1, c2, rfl⟩
  obtain ⟨x0, x1, x2, rfl⟩ : ∃ x0 x1 x2, xs = [x0, x1, x2] := by
    match xs, hx3 with
    | [x0, x1, x2], _ => exact ⟨x0, x1, x2, rfl⟩
  have hs : Try.prog.cellsOf 3 = 1 := by kernel_rfl
  have hb : Try.prog.cellsOf TSl = 1 := by kernel_rfl
  have h0 := hf 0 _ rfl
  have h1 := hf 1 _ rfl
  have h2 := hf 2 _ rfl
  change DataW.trod _ _ _ _ _ _ _ 3 (([c0, c1, c2].drop 0).take (Try.prog.cellsOf 3)) = some x0 at h0
  change DataW.trod _ _ _ _ _ _ _ 3 (([c0, c1, c2].drop 1).take (Try.prog.cellsOf 3)) = some x1 at h1
  change DataW.trod _ _ _ _ _ _ _ TSl (([c0, c1, c2].drop 2).take (Try.prog.cellsOf TSl)) = some x2 at h2
  rw [hs] at h0 h1
  rw [hb] at h2
  obtain ⟨s0, e0, r0, _⟩ := DataW.trod_int Try.underlying3 h0
  obtain ⟨s1, e1, r1, _⟩ := DataW.trod_int Try.underlying3 h1
  obtain ⟨s2, e2, hok⟩ := open_ws h2
  simp [slc] at e0 e1 e2
  subst e0; subst e1; subst e2
  refine ⟨s0, s1, s2, rfl, fun hw => hok fun m hm => hw m ?_⟩
  simp only [DataW.weights, Try.underlying33]
  show m ∈ DataW.weightsEach Try.prog [3, 3, TSl] [x0.1, x1.1, x2.1]
  simp only [DataW.weightsEach, List.mem_append]
  exact .inr (.inr (.inl hm))
theorem okL_at {H : Type} {ts : List TypeId} {ds : List (DataW H)} (h : (DataW.weightsEach Try.prog ts ds).all (· ≤ reachBytes) = true) {j : Nat} {t : TypeId} {d : DataW H} (ht : ts[j]? = some t) (hd : ds[j]? = some d) : okL (d.weights Try.prog t) := fun m hm => by
  have := List.all_eq_true.1 h m (DataW.weights_mem_each ht hd m hm)
  simpa using this
theorem reach63 : reachBytes ≤ 9223372036854775807 := by decide
theorem WsOk.big {a : Option Addr} {n c : Nat} {ws : List Wr} {W : World} (h : WsOk a n c ws W) : ∀ x ∈ ws, x.key.size ≤ 9223372036854775807 ∧ x.val.size ≤ 9223372036854775807 := fun x hx => ⟨Nat.le_trans (h.sz x hx).1 reach63, Nat.le_trans (h.sz x hx).2 reach63⟩

end Go.Proofs.Ytbhbdpbhhfemhaa
