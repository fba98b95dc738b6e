/-
  Parts of the proof, joined in one file: WCommits, EqW, WFrees, Open1, Open2, WKeys, Count, WAgain, WSees, Vac3.
-/
import Derived.Test.YtbhbdpbhhfemhaaQ4
import Derived.Laws.StructEq
import Derived.Test.YtbhbdpbhhfemhaaRows
import Derived.SizedLaws
import Derived.ProofKit
import Derived.OpenShut
import Derived.ShutString
import Derived.ChangeOld
import Derived.Below
import Derived.Carry
set_option linter.unusedSimpArgs false
set_option linter.unusedVariables false
/-
  StoreCommits: the walk.
-/
namespace Go.Proofs.Ytbhbdpbhhfemhaa
open Go Go.Proofs
set_option maxRecDepth 100000
set_option maxHeartbeats 16000000
set_option linter.unusedVariables false

theorem rw_len {α β : Type} {r : Rw α} {f : α → β} {l : List β} (h : r.xs.map f = l) : r.xs.length = l.length := by rw [← h, List.length_map]
theorem slIn_len {l : List HP} {a : Option Addr} {n c : Nat} {xs : List Sl} (h : SlIn l a n c xs) : (xs.map Sl.ws).length = n := by rw [List.length_map]; exact h.row.len.symm
/-- the same row, of commits that lie anywhere -/
def rwV (r : Rw Cm) : Rw CmV := ⟨r.xs.map Cm.v, r.arr⟩
theorem rwV_own (r : Rw Cm) : (rwV r).own cvc TCm = r.own cmc TCm := by
  obtain ⟨xs, arr⟩ := r
  cases arr with
  | none => rfl
  | some p => show pt p.1 (.cells ((xs.map Cm.v).flatMap cvc ++ p.2.2).toArray TCm (0, 0)) = pt p.1 (.cells (xs.flatMap cmc ++ p.2.2).toArray TCm (0, 0)); rw [cvc_flat]
theorem rwV_val (r : Rw Cm) : (rwV r).val = r.val := by show Value.slice _ (r.xs.map Cm.v).length _ = _; rw [List.length_map]; rfl
theorem rwV_ok {r : Rw Cm} (ok : r.Ok 3) : (rwV r).Ok 3 := ⟨fun h => by show r.xs.map Cm.v = []; rw [ok.nil h]; rfl, fun p hp => by
  obtain ⟨h1, h2⟩ := ok.fit p hp
  show (r.xs.map Cm.v).length ≤ p.2.1 ∧ (r.xs.map Cm.v).length * 3 + p.2.2.length = p.2.1 * 3
  rw [List.length_map]; exact ⟨h1, h2⟩⟩

theorem Sat.two {w : World} {A B : HP} {l : List HP} (H : Sat w (A :: B :: l)) : Sat w [A, B] := Sat.left (l := [A, B]) (m := l) H
theorem lastC {S : SC} {cms : List Cmt} {n : Nat} {c : Cm} (hh : S.hist.xs.map cma = cms) (hn : cms.length = n) (hc : S.hist.xs.getLast? = some c) : (cms[n - 1]?).map (fun c => c.2.1) = some c.time := by
  have hl : S.hist.xs.length = n := by rw [← hn, ← hh, List.length_map]
  rw [List.getLast?_eq_getElem?, hl] at hc
  rw [← hh, List.getElem?_map, hc]; rfl
theorem hci_n {r : Rw Cm} {f : Int} {cms : List Cmt} (htk : Takes f cms) (hcms : r.xs.map cma = cms) {x : CmV} (hx : x ∈ r.xs.map Cm.v) : x.n ≤ 4611686018427387904 := by
  obtain ⟨c, hc, rfl⟩ := List.mem_map.1 hx
  have h1 := right_len (htk.right (cma c) (by rw [← hcms]; exact List.mem_map.2 ⟨c, hc, rfl⟩))
  have h2 : c.w.xs.length ≤ 200 := h1
  show c.w.xs.length ≤ _
  omega

theorem StoreCommits_walk {w : World} {l : List HP} {a a3 : Option Addr} {n c n3 c3 : Nat} {xs : List Sl} {sq tm : Int} {ws : List Wr} (H : Sat w l) (hr : SlIn l a n c xs) (h3 : RIn wrc TWr l a3 n3 c3 ws) (hk : ∀ x ∈ ws, x.key.size ≤ 9223372036854775807 ∧ x.val.size ≤ 9223372036854775807) :
    Calls Try.prog 4 #[.slice a n c, .agg #[.int .i64 sq, .int .i64 tm, .slice a3 n3 c3]] w (Ret fun v w' => v = .bool true ∧ Sat w' l) := by
  have hln := slIn_len hr
  have hl3 := h3.len
  refine Calls.of_wp Try.func4 rfl Try.ntmps4 Try.results4 (Nat.le_of_ble_eq_true rfl) ?_
  refine WP.seq ?_
  refine WP.region ?_
  refine OpsE.boxA (cs := [.int .i64 sq, .int .i64 tm, .slice a3 n3 c3]) rfl H ?_
  intro b3 w H
  refine OpsE.val (x_assign (v := .bool _) rfl) ?_
  refine OpsE.nil ?_
  refine Then.normal ?_
  refine WP.seq ?_
  refine WP.seq ?_
  refine WP.region ?_
  refine OpsE.call (x_call (vl := []) rfl Try.call14) (head_spec H) ?_
  rintro _ w ⟨rfl, H⟩
  refine OpsE.val (x_not rfl) ?_
  refine OpsE.nil ?_
  refine Then.normal ?_
  refine WP.cond_f rfl rfl ?_
  refine WP.skip ?_
  refine Then.normal ?_
  refine WP.seq ?_
  refine WP.seq ?_
  refine WP.region ?_
  refine OpsE.val (x_move (v := .slice _ _ _) rfl) ?_
  refine OpsE.call (x_call (vl := [.slice _ _ _]) rfl Try.call21) (few_spec H) ?_
  rintro _ w ⟨rfl, H⟩
  by_cases c0 : (n : Int) ≤ 30
  · rw [decide_eq_true c0]
    refine OpsE.val (x_not rfl) ?_
    refine OpsE.val (x_move (v := .bool _) rfl) ?_
    refine OpsE.yes rfl ?_
    refine OpsE.val (x_fieldAddr (o := 2) rfl Try.runUnderlying33 rfl rfl Try.sizeOf22) ?_
    refine OpsE.yes rfl ?_
    refine OpsE.val (x_load (v := .slice a3 n3 c3) rfl Try.isAgg22 (H.look _) rfl) ?_
    refine OpsE.yes rfl ?_
    refine OpsE.val (x_lenL rfl rfl Try.runUnderlying22) ?_
    refine OpsE.yes rfl ?_
    refine OpsE.val (x_gt rfl rfl) ?_
    by_cases c00 : (n3 : Int) > 300
    · rw [decide_eq_true c00]
      refine OpsE.val (x_pickF rfl rfl) ?_
      refine OpsE.nil ?_
      refine Then.normal ?_
      refine WP.cond_t rfl rfl ?_
      refine WP.seq ?_
      refine WP.region ?_
      refine OpsE.val (x_assign (v := .bool _) rfl) ?_
      refine OpsE.nil ?_
      refine Then.normal ?_
      refine WP.ret ?_
      refine Then.ret ?_
      refine Leave0.ret (v := .bool _) rfl ?_
      exact ⟨rfl, H.tail⟩
    · rw [decide_eq_false c00]
      refine OpsE.val (x_pickF rfl rfl) ?_
      refine OpsE.nil ?_
      refine Then.normal ?_
      refine WP.cond_f rfl rfl ?_
      refine WP.skip ?_
      refine Then.normal ?_
      refine WP.seq ?_
      refine WP.region ?_
      refine OpsE.val (x_move (v := .slice _ _ _) rfl) ?_
      refine OpsE.call (x_call (vl := [.int .i64 _, .slice _ _ _]) rfl Try.call22) (List_spec (first := 1) H hr.more (by omega) (by decide)) ?_
      rintro _ w ⟨r, rfl, hlo, hro, hrw, H⟩
      refine OpsE.val (x_assign (v := .slice _ _ _) rfl) ?_
      refine OpsE.nil ?_
      refine Then.normal ?_
      refine WP.seq ?_
      refine WP.region ?_
      refine OpsE.val (x_move (v := .slice _ _ _) rfl) ?_
      have hlo' : ListOf (0 + 1) (xs.map Sl.ws) (r.xs.map cma) := hlo
      have htk := takes_list hlo' (by omega) (by decide)
      have hrl : r.xs.length = n := by rw [← hln, ← hlo.1, List.length_map]
      refine OpsE.call (x_call (vl := [.int .i64 _, .slice _ _ _, .slice _ _ _]) rfl Try.call23) (made_spec (first := 0) (bs := []) H RIn.nil (by decide) (goodN_nil (by decide)) (CIn.of_rw hro hrw) (by omega) (by rw [cm_ab]; exact htk) (fun _ h => by cases h)) ?_
      rintro _ w ⟨b, S, rfl, ok, hlow, hhist, hek, H⟩
      rw [cm_ab] at hhist hek
      obtain ⟨cms, hcms⟩ : ∃ cms, r.xs.map cma = cms := ⟨_, rfl⟩
      rw [hcms] at hhist hek htk hlo
      have hcl : cms.length = n := by rw [hlo.1, hln]
      have hlast : S.last = (n : Int) := by unfold SC.last; rw [hlow, rw_len hhist, hcl]; omega
      have H0 : Sat w (pt b3 (.cells [.int .i64 sq, .int .i64 tm, .slice a3 n3 c3].toArray TCm (0, 0)) :: StP b S :: r.own cmc TCm :: stars (r.xs.map cmH) :: l) := H.perm (by simp only [stars_cons]; ac_rfl)
      replace H := H0
      have h3' : RIn wrc TWr (pt b3 (.cells [.int .i64 sq, .int .i64 tm, .slice a3 n3 c3].toArray TCm (0, 0)) :: StP b S :: r.own cmc TCm :: stars (r.xs.map cmH) :: l) a3 n3 c3 ws := h3.more.more.more.more
      have hci : CIn [r.own cmc TCm, stars (r.xs.map cmH)] r.ad r.xs.length r.cp (r.xs.map Cm.v) := CIn.of_rw hro hrw
      refine OpsE.val (x_move (v := .tuple _) rfl) ?_
      refine OpsE.val (x_extract (v := .pointer (some ⟨b, 0, none⟩)) rfl rfl) ?_
      refine OpsE.val (x_extract (v := .bool true) rfl rfl) ?_
      refine OpsE.val (x_assign (v := .pointer _) rfl) ?_
      refine OpsE.val (x_assign (v := .bool _) rfl) ?_
      refine OpsE.nil ?_
      refine Then.normal ?_
      refine WP.seq ?_
      refine WP.seq ?_
      refine WP.region ?_
      refine OpsE.val (x_move (v := .bool _) rfl) ?_
      refine OpsE.val (x_not rfl) ?_
      refine OpsE.nil ?_
      refine Then.normal ?_
      refine WP.cond_f rfl rfl ?_
      refine WP.skip ?_
      refine Then.normal ?_
      refine WP.cutS [8, 31, 32, 33, 34, 35, 36, 37, 38, 39, 40, 41, 42, 43, 44, 45, 46, 47, 48, 49, 50, 51, 52, 53, 54, 55, 56, 57, 58, 59, 60, 61, 62, 63, 64, 65, 66, 67, 68] (fun E w => ∃ g : Bool, E 8 = .bool g ∧ (g = true ↔ goodC S sq tm ws) ∧ Sat w (pt b3 (.cells [.int .i64 sq, .int .i64 tm, .slice a3 n3 c3].toArray TCm (0, 0)) :: StP b S :: r.own cmc TCm :: stars (r.xs.map cmH) :: l)) ?_ ?_
      · skip
        refine WP.draw (fun w => Sat w _) (by kernel_rfl) (by kernel_rfl) (H.heap rfl) ?_
        refine QuietE.val (fun w H => x_fieldAddr0 rfl Try.runUnderlying33 rfl rfl Try.sizeOf3) ?_
        refine QuietE.val (fun w H => x_load (v := .int .i64 sq) rfl Try.isAgg3 (H.look _) rfl) ?_
        refine QuietE.val (fun w H => x_move (v := .slice r.ad r.xs.length r.cp) rfl) ?_
        refine QuietE.val (fun w H => x_lenL rfl rfl Try.runUnderlying38) ?_
        refine QuietE.val (fun w H => x_add (z := ((n : Nat) : Int) + 1) rfl rfl (by rw [i64n (by omega) (by omega), hrl])) ?_
        refine QuietE.val (fun w H => x_eqI rfl rfl) ?_
        by_cases g1 : sq = (n : Int) + 1
        · rw [decide_eq_true g1]
          refine QuietE.val (fun w H => x_move (v := .bool _) rfl) ?_
          refine QuietE.yes rfl ?_
          refine QuietE.val (fun w H => x_fieldAddr (o := 1) rfl Try.runUnderlying33 rfl rfl Try.sizeOf3) ?_
          refine QuietE.yes rfl ?_
          refine QuietE.val (fun w H => x_load (v := .int .i64 tm) rfl Try.isAgg3 (H.look _) rfl) ?_
          refine QuietE.yes rfl ?_
          refine QuietE.val (fun w H => x_ge rfl rfl) ?_
          by_cases g2 : tm ≥ 0
          · rw [decide_eq_true g2]
            refine QuietE.val (fun w H => x_pickT rfl rfl) ?_
            refine QuietE.val (fun w H => x_move (v := .bool _) rfl) ?_
            refine QuietE.yes rfl ?_
            refine QuietE.val (fun w H => x_fieldAddr (o := 1) rfl Try.runUnderlying33 rfl rfl Try.sizeOf3) ?_
            refine QuietE.yes rfl ?_
            refine QuietE.val (fun w H => x_load (v := .int .i64 tm) rfl Try.isAgg3 (H.look _) rfl) ?_
            refine QuietE.yes rfl ?_
            refine QuietE.val (fun w H => x_le rfl rfl) ?_
            by_cases g3 : tm ≤ 1099511627776
            · rw [decide_eq_true g3]
              refine QuietE.val (fun w H => x_pickT rfl rfl) ?_
              refine QuietE.val (fun w H => x_move (v := .bool _) rfl) ?_
              refine QuietE.yes rfl ?_
              refine QuietE.val (fun w H => x_fieldAddr (o := 2) rfl Try.runUnderlying33 rfl rfl Try.sizeOf22) ?_
              refine QuietE.yes rfl ?_
              refine QuietE.val (fun w H => x_load (v := .slice a3 n3 c3) rfl Try.isAgg22 (H.look _) rfl) ?_
              refine QuietE.yes rfl ?_
              refine QuietE.call (fun w H => x_call (vl := [.slice _ _ _]) rfl Try.call24) (fun w H => LRight_spec H h3' (by omega) hk) ?_
              cases g4 : rightBo ws
              case false =>
                refine QuietE.val (fun w H => x_pickT rfl rfl) ?_
                refine QuietE.val (fun w H => x_move (v := .bool _) rfl) ?_
                refine QuietE.no rfl ?_
                refine QuietE.no rfl ?_
                refine QuietE.no rfl ?_
                refine QuietE.no rfl ?_
                refine QuietE.no rfl ?_
                refine QuietE.no rfl ?_
                refine QuietE.no rfl ?_
                refine QuietE.no rfl ?_
                refine QuietE.no rfl ?_
                refine QuietE.no rfl ?_
                refine QuietE.no rfl ?_
                refine QuietE.no rfl ?_
                refine QuietE.no rfl ?_
                refine QuietE.no rfl ?_
                refine QuietE.no rfl ?_
                refine QuietE.val (fun w H => x_pickF rfl rfl) ?_
                refine QuietE.val (fun w H => x_assign (v := .bool _) rfl) ?_
                refine QuietE.nil ?_
                intro w H
                refine Then.normal ?_
                refine ⟨rfl, (by repeat (first | exact Same.refl _ _ | refine Same.upd ?_ rfl)), false, rfl, ⟨fun h => (by cases h), fun h => absurd ((rightBo_iff ws).2 h.2.2.2.2.1) (by rw [g4]; simp)⟩, H⟩
              case true =>
                refine QuietE.val (fun w H => x_pickT rfl rfl) ?_
                refine QuietE.val (fun w H => x_move (v := .bool _) rfl) ?_
                refine QuietE.yes rfl ?_
                refine QuietE.val (fun w H => x_move (v := .slice r.ad r.xs.length r.cp) rfl) ?_
                refine QuietE.yes rfl ?_
                refine QuietE.val (fun w H => x_lenL rfl rfl Try.runUnderlying38) ?_
                refine QuietE.yes rfl ?_
                refine QuietE.val (fun w H => x_eqI rfl rfl) ?_
                by_cases g5 : ((r.xs.length : Nat) : Int) = 0
                · rw [decide_eq_true g5]
                  refine QuietE.yes rfl ?_
                  refine QuietE.val (fun w H => x_move (v := .bool _) rfl) ?_
                  refine QuietE.no rfl ?_
                  refine QuietE.no rfl ?_
                  refine QuietE.no rfl ?_
                  refine QuietE.no rfl ?_
                  refine QuietE.no rfl ?_
                  refine QuietE.no rfl ?_
                  refine QuietE.no rfl ?_
                  refine QuietE.no rfl ?_
                  refine QuietE.no rfl ?_
                  refine QuietE.no rfl ?_
                  refine QuietE.yes rfl ?_
                  refine QuietE.val (fun w H => x_pickT rfl rfl) ?_
                  refine QuietE.val (fun w H => x_pickT rfl rfl) ?_
                  refine QuietE.val (fun w H => x_assign (v := .bool _) rfl) ?_
                  refine QuietE.nil ?_
                  intro w H
                  refine Then.normal ?_
                  refine ⟨rfl, (by repeat (first | exact Same.refl _ _ | refine Same.upd ?_ rfl)), true, rfl, ⟨fun _ => ⟨by rw [hlast]; exact g1, by omega, by omega, by omega, (rightBo_iff ws).1 g4, fun c hc => ?_⟩, fun _ => rfl⟩, H⟩
                  have h1 : (S.hist.xs.map cma).length = 0 := by rw [hhist, hcl]; omega
                  rw [List.length_map] at h1
                  rw [List.length_eq_zero_iff.1 h1] at hc; cases hc
                · rw [decide_eq_false g5]
                  refine QuietE.yes rfl ?_
                  refine QuietE.val (fun w H => x_move (v := .bool _) rfl) ?_
                  refine QuietE.yes rfl ?_
                  refine QuietE.val (fun w H => x_fieldAddr (o := 1) rfl Try.runUnderlying33 rfl rfl Try.sizeOf3) ?_
                  refine QuietE.yes rfl ?_
                  obtain ⟨bb, off, B, fz, pre, post, had, hB, hBl, hpo⟩ := hci.row.some (by omega)
                  obtain ⟨cl, hcl2⟩ : ∃ cl, (r.xs.map Cm.v)[r.xs.length - 1]? = some cl := ⟨_, List.getElem?_eq_getElem (by rw [List.length_map]; omega)⟩
                  have hct : (cms[n - 1]?).map (fun c => c.2.1) = some cl.time := by rw [← hcms, ← cm_ab, List.getElem?_map, ← hrl, hcl2]; rfl
                  refine QuietE.val (fun w H => x_load (v := .int .i64 tm) rfl Try.isAgg3 (H.look _) rfl) ?_
                  refine QuietE.yes rfl ?_
                  refine QuietE.val (fun w H => x_move (v := .slice (some ⟨bb, off, none⟩) r.xs.length r.cp) (show r.val = _ by rw [← had]; rfl)) ?_
                  refine QuietE.yes rfl ?_
                  refine QuietE.val (fun w H => x_move (v := .slice r.ad r.xs.length r.cp) rfl) ?_
                  refine QuietE.yes rfl ?_
                  refine QuietE.val (fun w H => x_lenL rfl rfl Try.runUnderlying38) ?_
                  refine QuietE.yes rfl ?_
                  refine QuietE.val (fun w H => x_sub (z := ((r.xs.length - 1 : Nat) : Int)) rfl rfl (by rw [i64n (by omega) (by omega)]; omega)) ?_
                  refine QuietE.yes rfl ?_
                  refine QuietE.val (fun w H => x_indexAddro (i := r.xs.length - 1) rfl rfl Try.runUnderlying38 Try.sizeOf33 rfl (by omega)) ?_
                  refine QuietE.yes rfl ?_
                  refine QuietE.val (fun w H => x_fieldAddr (o := 1) rfl Try.runUnderlying33 rfl rfl Try.sizeOf3) ?_
                  refine QuietE.yes rfl ?_
                  refine QuietE.val (fun w H => x_load (v := .int .i64 cl.time) rfl Try.isAgg3 (hB w (H.take2 (r.own cmc TCm) (stars (r.xs.map cmH))).two) (row_cell cvc_len hBl hpo (j := 1) hcl2 rfl)) ?_
                  refine QuietE.yes rfl ?_
                  refine QuietE.val (fun w H => x_ge rfl rfl) ?_
                  by_cases g6 : tm ≥ cl.time
                  · rw [decide_eq_true g6]
                    refine QuietE.yes rfl ?_
                    refine QuietE.val (fun w H => x_pickF rfl rfl) ?_
                    refine QuietE.val (fun w H => x_pickT rfl rfl) ?_
                    refine QuietE.val (fun w H => x_assign (v := .bool _) rfl) ?_
                    refine QuietE.nil ?_
                    intro w H
                    refine Then.normal ?_
                    refine ⟨rfl, (by repeat (first | exact Same.refl _ _ | refine Same.upd ?_ rfl)), true, rfl, ⟨fun _ => ⟨by rw [hlast]; exact g1, by omega, by omega, by omega, (rightBo_iff ws).1 g4, fun c hc => ?_⟩, fun _ => rfl⟩, H⟩
                    have h1 := lastC hhist hcl hc
                    rw [h1] at hct
                    have := Option.some.inj hct
                    omega
                  · rw [decide_eq_false g6]
                    refine QuietE.yes rfl ?_
                    refine QuietE.val (fun w H => x_pickF rfl rfl) ?_
                    refine QuietE.val (fun w H => x_pickT rfl rfl) ?_
                    refine QuietE.val (fun w H => x_assign (v := .bool _) rfl) ?_
                    refine QuietE.nil ?_
                    intro w H
                    refine Then.normal ?_
                    refine ⟨rfl, (by repeat (first | exact Same.refl _ _ | refine Same.upd ?_ rfl)), false, rfl, ⟨fun h => (by cases h), fun h => ?_⟩, H⟩
                    obtain ⟨ch, hch⟩ : ∃ ch, S.hist.xs.getLast? = some ch := by
                      cases hcc : S.hist.xs.getLast? with
                      | some c => exact ⟨c, rfl⟩
                      | none => rw [List.getLast?_eq_none_iff] at hcc; have h1 := rw_len hhist; rw [hcc, hcl] at h1; simp at h1; omega
                    have h2 := h.2.2.2.2.2 ch hch
                    have h1 := lastC hhist hcl hch
                    rw [h1] at hct
                    have := Option.some.inj hct
                    omega
            · rw [decide_eq_false g3]
              refine QuietE.val (fun w H => x_pickT rfl rfl) ?_
              refine QuietE.val (fun w H => x_move (v := .bool _) rfl) ?_
              refine QuietE.no rfl ?_
              refine QuietE.no rfl ?_
              refine QuietE.no rfl ?_
              refine QuietE.val (fun w H => x_pickF rfl rfl) ?_
              refine QuietE.val (fun w H => x_move (v := .bool _) rfl) ?_
              refine QuietE.no rfl ?_
              refine QuietE.no rfl ?_
              refine QuietE.no rfl ?_
              refine QuietE.no rfl ?_
              refine QuietE.no rfl ?_
              refine QuietE.no rfl ?_
              refine QuietE.no rfl ?_
              refine QuietE.no rfl ?_
              refine QuietE.no rfl ?_
              refine QuietE.no rfl ?_
              refine QuietE.no rfl ?_
              refine QuietE.no rfl ?_
              refine QuietE.no rfl ?_
              refine QuietE.no rfl ?_
              refine QuietE.no rfl ?_
              refine QuietE.val (fun w H => x_pickF rfl rfl) ?_
              refine QuietE.val (fun w H => x_assign (v := .bool _) rfl) ?_
              refine QuietE.nil ?_
              intro w H
              refine Then.normal ?_
              refine ⟨rfl, (by repeat (first | exact Same.refl _ _ | refine Same.upd ?_ rfl)), false, rfl, ⟨fun h => (by cases h), fun h => absurd h.2.2.2.1 (by omega)⟩, H⟩
          · rw [decide_eq_false g2]
            refine QuietE.val (fun w H => x_pickT rfl rfl) ?_
            refine QuietE.val (fun w H => x_move (v := .bool _) rfl) ?_
            refine QuietE.no rfl ?_
            refine QuietE.no rfl ?_
            refine QuietE.no rfl ?_
            refine QuietE.val (fun w H => x_pickF rfl rfl) ?_
            refine QuietE.val (fun w H => x_move (v := .bool _) rfl) ?_
            refine QuietE.no rfl ?_
            refine QuietE.no rfl ?_
            refine QuietE.no rfl ?_
            refine QuietE.val (fun w H => x_pickF rfl rfl) ?_
            refine QuietE.val (fun w H => x_move (v := .bool _) rfl) ?_
            refine QuietE.no rfl ?_
            refine QuietE.no rfl ?_
            refine QuietE.no rfl ?_
            refine QuietE.no rfl ?_
            refine QuietE.no rfl ?_
            refine QuietE.no rfl ?_
            refine QuietE.no rfl ?_
            refine QuietE.no rfl ?_
            refine QuietE.no rfl ?_
            refine QuietE.no rfl ?_
            refine QuietE.no rfl ?_
            refine QuietE.no rfl ?_
            refine QuietE.no rfl ?_
            refine QuietE.no rfl ?_
            refine QuietE.no rfl ?_
            refine QuietE.val (fun w H => x_pickF rfl rfl) ?_
            refine QuietE.val (fun w H => x_assign (v := .bool _) rfl) ?_
            refine QuietE.nil ?_
            intro w H
            refine Then.normal ?_
            refine ⟨rfl, (by repeat (first | exact Same.refl _ _ | refine Same.upd ?_ rfl)), false, rfl, ⟨fun h => (by cases h), fun h => absurd h.2.2.1 (by omega)⟩, H⟩
        · rw [decide_eq_false g1]
          refine QuietE.val (fun w H => x_move (v := .bool _) rfl) ?_
          refine QuietE.no rfl ?_
          refine QuietE.no rfl ?_
          refine QuietE.no rfl ?_
          refine QuietE.val (fun w H => x_pickF rfl rfl) ?_
          refine QuietE.val (fun w H => x_move (v := .bool _) rfl) ?_
          refine QuietE.no rfl ?_
          refine QuietE.no rfl ?_
          refine QuietE.no rfl ?_
          refine QuietE.val (fun w H => x_pickF rfl rfl) ?_
          refine QuietE.val (fun w H => x_move (v := .bool _) rfl) ?_
          refine QuietE.no rfl ?_
          refine QuietE.no rfl ?_
          refine QuietE.no rfl ?_
          refine QuietE.val (fun w H => x_pickF rfl rfl) ?_
          refine QuietE.val (fun w H => x_move (v := .bool _) rfl) ?_
          refine QuietE.no rfl ?_
          refine QuietE.no rfl ?_
          refine QuietE.no rfl ?_
          refine QuietE.no rfl ?_
          refine QuietE.no rfl ?_
          refine QuietE.no rfl ?_
          refine QuietE.no rfl ?_
          refine QuietE.no rfl ?_
          refine QuietE.no rfl ?_
          refine QuietE.no rfl ?_
          refine QuietE.no rfl ?_
          refine QuietE.no rfl ?_
          refine QuietE.no rfl ?_
          refine QuietE.no rfl ?_
          refine QuietE.no rfl ?_
          refine QuietE.val (fun w H => x_pickF rfl rfl) ?_
          refine QuietE.val (fun w H => x_assign (v := .bool _) rfl) ?_
          refine QuietE.nil ?_
          intro w H
          refine Then.normal ?_
          refine ⟨rfl, (by repeat (first | exact Same.refl _ _ | refine Same.upd ?_ rfl)), false, rfl, ⟨fun h => (by cases h), fun h => absurd h.1 (by rw [hlast]; omega)⟩, H⟩
      · skip
        rintro E1 w hs ⟨g, e8, hgood, H⟩
        refine WP.seq ?_
        refine WP.region ?_
        refine OpsE.val (x_move (v := .pointer (some ⟨b, 0, none⟩)) (hs 6 rfl)) ?_
        cases hg : g
        case false =>
          refine OpsE.val (x_loadA (vs := [.int .i64 sq, .int .i64 tm, .slice a3 n3 c3]) (hs 3 rfl) Try.isAgg33 Try.sizeOf33 (H.look _) rfl rfl) ?_
          subst hg
          have hr3 : RIn wrc TWr (pt b3 (.cells [.int .i64 sq, .int .i64 tm, .slice a3 n3 c3].toArray TCm (0, 0)) :: r.own cmc TCm :: stars (r.xs.map cmH) :: l) a3 n3 c3 ws := h3.more.more.more
          refine OpsE.call (x_call (vl := [.pointer _, .agg _]) rfl Try.call18) (Commit_spec (seq := sq) (time := tm) H.swap ok (by omega) hr3 (by omega) hk) ?_
          rintro _ w (⟨_, rfl, H⟩ | ⟨hg1, _⟩)
          rotate_left
          · exact absurd (hgood.2 hg1) (by simp)
          have H1 := H.swap
          replace H := H1
          clear H1
          refine OpsE.val (x_assign (v := .int .i64 _) rfl) ?_
          refine OpsE.nil ?_
          refine Then.normal ?_
          refine WP.seq ?_
          refine WP.seq ?_
          refine WP.draw (fun w => Sat w _) (by kernel_rfl) (by kernel_rfl) (H.heap rfl) ?_
          refine QuietE.val (fun w H => x_fieldAddr (o := 2) (hs 3 rfl) Try.runUnderlying33 rfl rfl Try.sizeOf22) ?_
          refine QuietE.val (fun w H => x_load (v := .slice a3 n3 c3) rfl Try.isAgg22 (H.look _) rfl) ?_
          refine QuietE.call (fun w H => x_call (vl := [.slice _ _ _]) rfl Try.call25) (fun w H => Right_spec H h3.more.more.more.more (by omega) hk) ?_
          refine QuietE.val (fun w H => x_fieldAddr (o := 2) (hs 3 rfl) Try.runUnderlying33 rfl rfl Try.sizeOf22) ?_
          refine QuietE.val (fun w H => x_load (v := .slice a3 n3 c3) rfl Try.isAgg22 (H.look _) rfl) ?_
          refine QuietE.call (fun w H => x_call (vl := [.slice _ _ _]) rfl Try.call24) (fun w H => LRight_spec H h3.more.more.more.more (by omega) hk) ?_
          refine QuietE.val (fun w H => x_neB rfl rfl Try.runUnderlying4) ?_
          rw [(show (!(rightBo ws == rightBo ws)) = false by simp)]
          refine QuietE.val (fun w H => x_move (v := .bool _) rfl) ?_
          refine QuietE.yes rfl ?_
          refine QuietE.val (fun w H => x_move (v := .int .i64 1) rfl) ?_
          refine QuietE.yes rfl ?_
          refine QuietE.val (fun w H => x_eqI rfl rfl) ?_
          rw [decide_eq_false (by decide)]
          refine QuietE.yes rfl ?_
          refine QuietE.val (fun w H => x_move (v := .bool false) e8) ?_
          refine QuietE.yes rfl ?_
          refine QuietE.val (fun w H => x_neB rfl rfl Try.runUnderlying4) ?_
          rw [(show (!(false == false)) = false from rfl)]
          refine QuietE.val (fun w H => x_pickF rfl rfl) ?_
          refine QuietE.val (fun w H => x_move (v := .bool _) rfl) ?_
          refine QuietE.yes rfl ?_
          refine QuietE.val (fun w H => x_move (v := .bool false) e8) ?_
          refine QuietE.yes rfl ?_
          refine QuietE.val (fun w H => x_not rfl) ?_
          refine QuietE.yes rfl ?_
          refine QuietE.val (fun w H => x_move (v := .bool _) rfl) ?_
          refine QuietE.yes rfl ?_
          refine QuietE.val (fun w H => x_move (v := .int .i64 _) rfl) ?_
          refine QuietE.yes rfl ?_
          refine QuietE.val (fun w H => x_neI rfl rfl) ?_
          rw [decide_eq_false (by decide)]
          refine QuietE.yes rfl ?_
          refine QuietE.val (fun w H => x_pickT rfl rfl) ?_
          refine QuietE.val (fun w H => x_pickF rfl rfl) ?_
          refine QuietE.nil ?_
          intro w H
          refine Then.normal ?_
          refine WP.cond_f rfl rfl ?_
          refine WP.skip ?_
          refine Then.normal ?_
          refine WP.seq ?_
          refine WP.seq ?_
          refine WP.region ?_
          refine OpsE.val (x_move (v := .bool false) e8) ?_
          refine OpsE.val (x_not rfl) ?_
          refine OpsE.nil ?_
          refine Then.normal ?_
          refine WP.cond_t rfl rfl ?_
          refine WP.seq ?_
          replace H := H.take (StP b S)
          refine WP.region ?_
          refine OpsE.val (x_move (v := .pointer (some ⟨b, 0, none⟩)) (hs 6 rfl)) ?_
          replace H := StP.open.1 H
          refine OpsE.call (x_call (vl := [.pointer _]) rfl Try.call16) (SLast_spec H (fun w H => H.look b) ok) ?_
          rintro _ w ⟨rfl, H⟩
          replace H := StP.open.2 H
          refine OpsE.val (x_move (v := .slice r.ad r.xs.length r.cp) (hs 5 rfl)) ?_
          refine OpsE.val (x_lenL rfl rfl Try.runUnderlying38) ?_
          refine OpsE.val (x_eqI rfl rfl) ?_
          rw [decide_eq_true (by rw [hlast, hrl])]
          refine OpsE.val (x_move (v := .bool _) rfl) ?_
          refine OpsE.yes rfl ?_
          refine OpsE.val (x_move (v := .pointer (some ⟨b, 0, none⟩)) (hs 6 rfl)) ?_
          refine OpsE.yes rfl ?_
          refine OpsE.val (x_move (v := .slice r.ad r.xs.length r.cp) (hs 5 rfl)) ?_
          refine OpsE.yes rfl ?_
          refine OpsE.val (x_move (v := .slice r.ad r.xs.length r.cp) (hs 5 rfl)) ?_
          refine OpsE.yes rfl ?_
          refine OpsE.val (x_lenL rfl rfl Try.runUnderlying38) ?_
          refine OpsE.yes rfl ?_
          have hci2 : CIn (StP b S :: pt b3 (.cells [.int .i64 sq, .int .i64 tm, .slice a3 n3 c3].toArray TCm (0, 0)) :: r.own cmc TCm :: stars (r.xs.map cmH) :: l) r.ad r.xs.length r.cp (r.xs.map Cm.v) := CIn.of_rw hro hrw
          refine OpsE.call (x_call (vl := [.slice _ _ _, .slice _ _ _, .int .i64 _]) rfl Try.call27) (At_map (q := ((r.xs.length : Nat) : Int)) H RIn.nil (by decide) hci2 (by omega) (fun x hx => hci_n htk hcms hx)) ?_
          rintro _ w ⟨m, es, ck, rfl, hm, H⟩
          refine OpsE.yes rfl ?_
          refine OpsE.val (x_move (v := .slice r.ad r.xs.length r.cp) (hs 5 rfl)) ?_
          refine OpsE.yes rfl ?_
          refine OpsE.val (x_lenL rfl rfl Try.runUnderlying38) ?_
          refine OpsE.yes rfl ?_
          have hm2 : MapIs es ck (fun k => atv (vsOf S.es k) ((r.xs.length : Nat) : Int)) := hm.cong fun k => by rw [cm_ab, hcms]; exact atv_st hek (takes_rise htk) (by omega) k
          refine OpsE.call (x_call (vl := [.pointer _, .map _, .int .i64 _]) rfl Try.call26) (shows_spec H.swap ok hm2) ?_
          rintro _ w ⟨rfl, H⟩
          refine OpsE.val (x_pickT rfl rfl) ?_
          refine OpsE.val (x_assign (v := .bool _) rfl) ?_
          refine OpsE.nil ?_
          refine Then.normal ?_
          refine WP.ret ?_
          refine Then.ret ?_
          refine Leave0.ret (v := .bool _) rfl ?_
          exact ⟨rfl, H.tail.tail.tail.tail.tail⟩
        case true =>
          refine OpsE.val (x_loadA (vs := [.int .i64 sq, .int .i64 tm, .slice a3 n3 c3]) (hs 3 rfl) Try.isAgg33 Try.sizeOf33 (H.look _) rfl rfl) ?_
          subst hg
          have hr3 : RIn wrc TWr (pt b3 (.cells [.int .i64 sq, .int .i64 tm, .slice a3 n3 c3].toArray TCm (0, 0)) :: r.own cmc TCm :: stars (r.xs.map cmH) :: l) a3 n3 c3 ws := h3.more.more.more
          refine OpsE.call (x_call (vl := [.pointer _, .agg _]) rfl Try.call18) (Commit_spec (seq := sq) (time := tm) H.swap ok (by omega) hr3 (by omega) hk) ?_
          rintro _ w (⟨hg1, _⟩ | ⟨hgc, rfl, S1, ok1, hl1, hh1, hk1, H⟩)
          · exact absurd (hgood.1 rfl) hg1
          have H1 := H.swap
          replace H := H1
          clear H1
          refine OpsE.val (x_assign (v := .int .i64 _) rfl) ?_
          refine OpsE.nil ?_
          refine Then.normal ?_
          refine WP.seq ?_
          refine WP.seq ?_
          refine WP.draw (fun w => Sat w _) (by kernel_rfl) (by kernel_rfl) (H.heap rfl) ?_
          refine QuietE.val (fun w H => x_fieldAddr (o := 2) (hs 3 rfl) Try.runUnderlying33 rfl rfl Try.sizeOf22) ?_
          refine QuietE.val (fun w H => x_load (v := .slice a3 n3 c3) rfl Try.isAgg22 (H.look _) rfl) ?_
          refine QuietE.call (fun w H => x_call (vl := [.slice _ _ _]) rfl Try.call25) (fun w H => Right_spec H h3.more.more.more.more (by omega) hk) ?_
          refine QuietE.val (fun w H => x_fieldAddr (o := 2) (hs 3 rfl) Try.runUnderlying33 rfl rfl Try.sizeOf22) ?_
          refine QuietE.val (fun w H => x_load (v := .slice a3 n3 c3) rfl Try.isAgg22 (H.look _) rfl) ?_
          refine QuietE.call (fun w H => x_call (vl := [.slice _ _ _]) rfl Try.call24) (fun w H => LRight_spec H h3.more.more.more.more (by omega) hk) ?_
          refine QuietE.val (fun w H => x_neB rfl rfl Try.runUnderlying4) ?_
          rw [(show (!(rightBo ws == rightBo ws)) = false by simp)]
          refine QuietE.val (fun w H => x_move (v := .bool _) rfl) ?_
          refine QuietE.yes rfl ?_
          refine QuietE.val (fun w H => x_move (v := .int .i64 0) rfl) ?_
          refine QuietE.yes rfl ?_
          refine QuietE.val (fun w H => x_eqI rfl rfl) ?_
          rw [decide_eq_true (by decide)]
          refine QuietE.yes rfl ?_
          refine QuietE.val (fun w H => x_move (v := .bool true) e8) ?_
          refine QuietE.yes rfl ?_
          refine QuietE.val (fun w H => x_neB rfl rfl Try.runUnderlying4) ?_
          rw [(show (!(true == true)) = false from rfl)]
          refine QuietE.val (fun w H => x_pickF rfl rfl) ?_
          refine QuietE.val (fun w H => x_move (v := .bool _) rfl) ?_
          refine QuietE.yes rfl ?_
          refine QuietE.val (fun w H => x_move (v := .bool true) e8) ?_
          refine QuietE.yes rfl ?_
          refine QuietE.val (fun w H => x_not rfl) ?_
          refine QuietE.yes rfl ?_
          refine QuietE.val (fun w H => x_move (v := .bool _) rfl) ?_
          refine QuietE.no rfl ?_
          refine QuietE.no rfl ?_
          refine QuietE.yes rfl ?_
          refine QuietE.val (fun w H => x_pickF rfl rfl) ?_
          refine QuietE.val (fun w H => x_pickF rfl rfl) ?_
          refine QuietE.nil ?_
          intro w H
          refine Then.normal ?_
          refine WP.cond_f rfl rfl ?_
          refine WP.skip ?_
          refine Then.normal ?_
          refine WP.seq ?_
          refine WP.seq ?_
          refine WP.region ?_
          refine OpsE.val (x_move (v := .bool true) e8) ?_
          refine OpsE.val (x_not rfl) ?_
          refine OpsE.nil ?_
          refine Then.normal ?_
          refine WP.cond_f rfl rfl ?_
          refine WP.skip ?_
          refine Then.normal ?_
          refine WP.seq ?_
          obtain ⟨cv, hcv⟩ : ∃ cv : CmV, cv = ⟨sq, tm, a3, n3, c3, ws⟩ := ⟨_, rfl⟩
          have H0 : Sat w ((rwV r).own cvc TCm :: pt b3 (.cells (cvc cv).toArray TCm (0, 0)) :: StP b S1 :: stars (r.xs.map cmH) :: l) := by
            rw [rwV_own, hcv]
            exact H.perm (by show _ = stars (r.own cmc TCm :: pt b3 (.cells [.int .i64 sq, .int .i64 tm, .slice a3 n3 c3].toArray TCm (0, 0)) :: StP b S1 :: stars (r.xs.map cmH) :: l); simp only [stars_cons]; ac_rfl)
          replace H := H0
          refine WP.region ?_
          refine OpsE.val (x_move (v := (rwV r).val) (by rw [rwV_val]; exact hs 5 rfl)) ?_
          refine OpsE.val (x_loadA (vs := cvc cv) (hs 3 rfl) Try.isAgg33 Try.sizeOf33 (H.look _) rfl rfl) ?_
          refine OpsE.buildSlice1 (vs := cvc cv) CM.K (by decide) rfl rfl rfl (by decide) H ?_
          intro sg w H
          refine OpsE.append_rw (f := cvc) (r := rwV r) (ys := [cv]) rfl CM.K cvc_len cvc_one rfl rfl H (rwV_ok hro) (H.look sg) (by simp) rfl (by decide) (by show ((r.xs.map Cm.v).length + 1) * 40 ≤ _; rw [List.length_map]; omega) (by show (r.xs.map Cm.v).length + 1 ≤ _; rw [List.length_map]; omega) ?_
          intro r2 w hh4 hh5 hh6 H
          refine OpsE.val (x_assign (v := .slice _ _ _) rfl) ?_
          refine OpsE.nil ?_
          refine Then.normal ?_
          refine WP.seq ?_
          have hl2 : r2.xs.length = n + 1 := by rw [hh4]; show (r.xs.map Cm.v ++ [cv]).length = _; rw [List.length_append, List.length_map, hrl]; rfl
          have hab2 : r2.xs.map CmV.ab = cms ++ [(sq, tm, ws)] := by rw [hh4]; show (r.xs.map Cm.v ++ [cv]).map CmV.ab = _; rw [List.map_append, cm_ab, hcms, hcv]; rfl
          have H0 : Sat w (StP b S1 :: r2.own cvc TCm :: pt sg (.cells (cvc cv).toArray TCm (0, 0)) :: pt b3 (.cells (cvc cv).toArray TCm (0, 0)) :: stars (r.xs.map cmH) :: l) := H.perm (by simp only [stars_cons]; ac_rfl)
          replace H := H0
          clear H0
          have hci2 : CIn (StP b S1 :: r2.own cvc TCm :: pt sg (.cells (cvc cv).toArray TCm (0, 0)) :: pt b3 (.cells (cvc cv).toArray TCm (0, 0)) :: stars (r.xs.map cmH) :: l) r2.ad r2.xs.length r2.cp r2.xs := by
            refine ⟨Rw.rin_own r2 hh5, fun x hx => ?_⟩
            rw [hh4] at hx
            rcases List.mem_append.1 hx with h | h
            · obtain ⟨c, hc, rfl⟩ := List.mem_map.1 h
              exact rin_cm hc (hrw c hc)
            · rcases List.mem_singleton.1 h with rfl
              rw [hcv]; exact h3.more.more.more.more.more
          have hn2 : ∀ x ∈ r2.xs, x.n ≤ 4611686018427387904 := fun x hx => by
            rw [hh4] at hx
            rcases List.mem_append.1 hx with h | h
            · exact hci_n htk hcms h
            · rcases List.mem_singleton.1 h with rfl
              rw [hcv]; show n3 ≤ _; omega
          have hlast1 : S1.last = (n : Int) + 1 := by unfold SC.last; rw [hl1, hlow, rw_len hh1, List.length_append, List.length_map, rw_len hhist, hcl]; simp only [List.length_cons, List.length_nil]; omega
          have hek1 : ek S1.es = stK 0 [] (cms ++ [(sq, tm, ws)]) := by rw [hk1, hek, stK_snoc]
          have hrise1 : (cms ++ [(sq, tm, ws)]).Pairwise (fun a b => a.1 < b.1) := seq_rise (first := 0) fun i c hc => by
            rcases Nat.lt_or_ge i cms.length with h | h
            · rw [List.getElem?_append_left h] at hc; exact (htk.seq i c hc).1
            · rw [List.getElem?_append_right h] at hc
              have h5 := (List.getElem?_eq_some_iff.1 hc).1
              simp only [List.length_cons, List.length_nil] at h5
              have h6 : i - cms.length = 0 := by omega
              rw [h6] at hc; simp at hc; subst hc
              have h7 := hgc.1
              rw [hlast] at h7
              show sq = _; omega
          refine WP.region ?_
          refine OpsE.val (x_move (v := .pointer (some ⟨b, 0, none⟩)) (hs 6 rfl)) ?_
          replace H := StP.open.1 H
          refine OpsE.call (x_call (vl := [.pointer _]) rfl Try.call16) (SLast_spec H (fun w H => H.look b) ok1) ?_
          rintro _ w ⟨rfl, H⟩
          replace H := StP.open.2 H
          refine OpsE.val (x_move (v := .slice r2.ad r2.xs.length r2.cp) rfl) ?_
          refine OpsE.val (x_lenL rfl rfl Try.runUnderlying38) ?_
          refine OpsE.val (x_eqI rfl rfl) ?_
          rw [decide_eq_true (by rw [hlast1, hl2]; rfl)]
          refine OpsE.val (x_move (v := .bool _) rfl) ?_
          refine OpsE.yes rfl ?_
          refine OpsE.val (x_move (v := .pointer (some ⟨b, 0, none⟩)) (hs 6 rfl)) ?_
          refine OpsE.yes rfl ?_
          refine OpsE.val (x_move (v := .slice r2.ad r2.xs.length r2.cp) rfl) ?_
          refine OpsE.yes rfl ?_
          refine OpsE.val (x_move (v := .slice r2.ad r2.xs.length r2.cp) rfl) ?_
          refine OpsE.yes rfl ?_
          refine OpsE.val (x_lenL rfl rfl Try.runUnderlying38) ?_
          refine OpsE.yes rfl ?_
          refine OpsE.call (x_call (vl := [.slice _ _ _, .slice _ _ _, .int .i64 _]) rfl Try.call27) (At_map (q := ((r2.xs.length : Nat) : Int)) H RIn.nil (by decide) hci2 (by omega) hn2) ?_
          rintro _ w ⟨m, es, ck, rfl, hm, H⟩
          refine OpsE.yes rfl ?_
          refine OpsE.val (x_move (v := .slice r2.ad r2.xs.length r2.cp) rfl) ?_
          refine OpsE.yes rfl ?_
          refine OpsE.val (x_lenL rfl rfl Try.runUnderlying38) ?_
          refine OpsE.yes rfl ?_
          have hm2 : MapIs es ck (fun k => atv (vsOf S1.es k) ((r2.xs.length : Nat) : Int)) := hm.cong fun k => by rw [hab2]; exact atv_st hek1 hrise1 (by omega) k
          refine OpsE.call (x_call (vl := [.pointer _, .map _, .int .i64 _]) rfl Try.call26) (shows_spec H.swap ok1 hm2) ?_
          rintro _ w ⟨rfl, H⟩
          refine OpsE.val (x_pickT rfl rfl) ?_
          refine OpsE.val (x_move (v := .bool _) rfl) ?_
          refine OpsE.yes rfl ?_
          refine OpsE.val (x_move (v := .pointer (some ⟨b, 0, none⟩)) (hs 6 rfl)) ?_
          refine OpsE.yes rfl ?_
          refine OpsE.val (x_move (v := .slice r2.ad r2.xs.length r2.cp) rfl) ?_
          refine OpsE.yes rfl ?_
          refine OpsE.val (x_move (v := .slice r2.ad r2.xs.length r2.cp) rfl) ?_
          refine OpsE.yes rfl ?_
          refine OpsE.val (x_lenL rfl rfl Try.runUnderlying38) ?_
          refine OpsE.yes rfl ?_
          refine OpsE.val (x_sub (z := (n : Int)) rfl rfl (by rw [i64n (by omega) (by omega)]; omega)) ?_
          refine OpsE.yes rfl ?_
          refine OpsE.call (x_call (vl := [.slice _ _ _, .slice _ _ _, .int .i64 _]) rfl Try.call27) (At_map (q := (n : Int)) H RIn.nil (by decide) (hci2.sub fun w H => H.swap.tail) (by omega) hn2) ?_
          rintro _ w ⟨m2, es2, ck2, rfl, hm3, H⟩
          refine OpsE.yes rfl ?_
          refine OpsE.val (x_move (v := .slice r2.ad r2.xs.length r2.cp) rfl) ?_
          refine OpsE.yes rfl ?_
          refine OpsE.val (x_lenL rfl rfl Try.runUnderlying38) ?_
          refine OpsE.yes rfl ?_
          refine OpsE.val (x_sub (z := (n : Int)) rfl rfl (by rw [i64n (by omega) (by omega)]; omega)) ?_
          refine OpsE.yes rfl ?_
          have hm4 : MapIs es2 ck2 (fun k => atv (vsOf S1.es k) (n : Int)) := hm3.cong fun k => by rw [hab2]; exact atv_st hek1 hrise1 (by omega) k
          refine OpsE.call (x_call (vl := [.pointer _, .map _, .int .i64 _]) rfl Try.call26) (shows_spec H.swap ok1 hm4) ?_
          rintro _ w ⟨rfl, H⟩
          refine OpsE.val (x_pickT rfl rfl) ?_
          refine OpsE.val (x_assign (v := .bool _) rfl) ?_
          refine OpsE.nil ?_
          refine Then.normal ?_
          refine WP.ret ?_
          refine Leave0.ret (v := .bool _) rfl ?_
          exact ⟨rfl, H.tail.tail.tail.tail.tail.tail.tail⟩
  · rw [decide_eq_false c0]
    refine OpsE.val (x_not rfl) ?_
    refine OpsE.val (x_move (v := .bool _) rfl) ?_
    refine OpsE.no rfl ?_
    refine OpsE.no rfl ?_
    refine OpsE.no rfl ?_
    refine OpsE.no rfl ?_
    refine OpsE.val (x_pickT rfl rfl) ?_
    refine OpsE.nil ?_
    refine Then.normal ?_
    refine WP.cond_t rfl rfl ?_
    refine WP.seq ?_
    refine WP.region ?_
    refine OpsE.val (x_assign (v := .bool _) rfl) ?_
    refine OpsE.nil ?_
    refine Then.normal ?_
    refine WP.ret ?_
    refine Then.ret ?_
    refine Leave0.ret (v := .bool _) rfl ?_
    exact ⟨rfl, H.tail⟩
end Go.Proofs.Ytbhbdpbhhfemhaa

/-
  Writes compared.
-/
namespace Go.Proofs.Ytbhbdpbhhfemhaa
open Go Go.Proofs
set_option maxRecDepth 100000
set_option maxHeartbeats 4000000
set_option linter.unusedVariables false

theorem eqS_run {T : TypeId} {P : Program} (hT : P.underlying T = some .string) (d : Nat) (s t : ByteArray) (w : World) : (Op.equalIn (d + 1) T (.string s) (.string t)).run P w = .ok (decide (s = t)) w := by
  simp [Op.equalIn, run_underlying hT, ba_beq]
theorem eqB_run {T : TypeId} {P : Program} (hT : P.underlying T = some .bool) (d : Nat) (s t : Bool) (w : World) : (Op.equalIn (d + 1) T (.bool s) (.bool t)).run P w = .ok (s == t) w := by
  simp [Op.equalIn, run_underlying hT]
theorem fieldsOf_eq {P : Program} {t : TypeId} {fs : Array Field} (h : P.underlying t = some (.struct fs)) : P.fieldsOf t = fs := by unfold Program.fieldsOf; rw [h]
theorem eqW_run (p q : Wr) (w : World) : (Op.equal TWr (agW p) (agW q)).run Try.prog w = .ok (decide (p = q)) w := by
  show (Op.equalIn (9999 + 1) TWr _ _).run Try.prog w = _
  have hfo := fieldsOf_eq Try.underlying26
  have hu : Try.prog.underlying TWr = some (.struct (Try.prog.fieldsOf TWr)) := by rw [hfo]; exact Try.underlying26
  show (Op.equalIn (9999 + 1) TWr (.agg (wrc p).toArray) (.agg (wrc q).toArray)).run Try.prog w = _
  rw [run_equalIn_struct w 9999 TWr _ _ hu (by kernel_rfl), hfo]
  show (Op.eqFields (9998 + 1) _ _ _).run _ _ = _
  generalize 9998 = d
  have h0 := eqS_run Try.underlying9 d p.key q.key w
  have h1 := eqS_run Try.underlying9 d p.val q.val w
  have h2 := eqB_run Try.underlying4 d p.gone q.gone w
  obtain ⟨k1, v1, g1⟩ := p
  obtain ⟨k2, v2, g2⟩ := q
  dsimp only at h0 h1 h2
  simp only [Op.eqFields, part, wrc, Sem.run_bind, Try.isAgg9, Try.isAgg4, Result.andThen_ok]
  by_cases e0 : k1 = k2
  · by_cases e1 : v1 = v2
    · subst e0; subst e1
      by_cases e2 : g1 = g2
      · subst e2; simp [h0, h1, h2]
      · have : (g1 == g2) = false := by simpa using e2
        simp [h0, h1, h2, this, e2]
    · subst e0; simp [h0, h1, e1]
  · simp [h0, e0]
theorem guardW (op : BinOp) (x y : Operand) (p q : Wr) (w : World) : (eqGuard op TWr x y (agW p) (agW q)).run Try.prog w = .ok () w := by
  have h : Try.prog.eqGuardType Try.prog.depth TWr = false := by kernel_rfl
  unfold eqGuard
  by_cases ho : (!(match op with | .eql => true | .neq => true | _ => false)) = true
  · cases op <;> first | rfl | (simp at ho)
  · cases op <;> simp [h] at ho ⊢
theorem x_neW {E : Env} {w : World} {ty yt : TypeId} {x y : Operand} {p q : Wr} (hx : evE E x = agW p) (hy : evE E y = agW q) : (xop E (.binOp .neq TWr x y yt) ty).run Try.prog w = .ok (.value (.bool (decide (p ≠ q)))) w := by
  have h := eqW_run p q w
  have hg := guardW .neq x y p q w
  simp [xop, execOp, hx, hy, hg, binOp, h]
end Go.Proofs.Ytbhbdpbhhfemhaa

/-
  StoreFrees: the walk.
-/
namespace Go.Proofs.Ytbhbdpbhhfemhaa
open Go Go.Proofs
set_option maxRecDepth 100000
set_option maxHeartbeats 16000000
set_option linter.unusedVariables false

theorem lastI_gt {vs : List Ver} (hs : vs.Pairwise (fun a b => a.seq < b.seq)) {q : Int} (hq : 0 ≤ q) : lastI vs > q ↔ ∃ v ∈ vs, v.seq > q := by
  unfold lastI
  cases h : vs.getLast? with
  | none =>
    rw [List.getLast?_eq_none_iff] at h
    subst h
    exact ⟨fun h => by dsimp only at h; omega, fun ⟨v, hv, _⟩ => by cases hv⟩
  | some z =>
    dsimp only
    refine ⟨fun h1 => ⟨z, List.mem_of_getLast? h, h1⟩, fun ⟨v, hv, hv2⟩ => ?_⟩
    obtain ⟨i, hi, rfl⟩ := List.mem_iff_getElem.1 hv
    rw [List.getLast?_eq_getElem?] at h
    obtain ⟨h2, h3⟩ := List.getElem?_eq_some_iff.1 h
    rcases Nat.lt_or_ge i (vs.length - 1) with h4 | h4
    · have := List.pairwise_iff_getElem.1 hs i (vs.length - 1) hi h2 h4
      rw [h3] at this; omega
    · have : i = vs.length - 1 := by omega
      subst this; rw [← h3]; exact hv2
theorem vsOf_srt {S : SC} {N : Nat} (ok : S.Ok N) (k : ByteArray) : (vsOf S.es k).Pairwise (fun a b => a.seq < b.seq) := by
  rcases vsOf_mem (es := S.es) (key := k) with h | ⟨e, he, _, h⟩
  · rw [h]; exact List.Pairwise.nil
  · rw [h]; exact (ok.es e he).1.ok.srt
/-- did nobody write these keys? -/
def freeB (cs : List Cmt) (w : List Wr) : Bool := cs.all fun c => c.2.2.all fun x => w.all fun y => decide (x.key ≠ y.key)
theorem written_iff {S : SC} {N : Nat} (ok : S.Ok N) {first q : Int} {b : List Wr} {cms : List Cmt} (h : ek S.es = stK first b cms) (hq : first ≤ q) (h0 : 0 ≤ first) (k : ByteArray) : lastI (vsOf S.es k) > q ↔ ∃ c ∈ cms, c.1 > q ∧ ∃ y ∈ c.2.2, y.key = k := by
  rw [lastI_gt (vsOf_srt ok k) (by omega), vsOf_ek, h, vsK_st]
  unfold verA
  constructor
  · rintro ⟨v, hv, hvq⟩
    rcases List.mem_append.1 hv with hv | hv
    · unfold verB at hv
      cases hb : valB b k with
      | none => rw [hb] at hv; cases hv
      | some s =>
        rw [hb] at hv
        rcases List.mem_singleton.1 hv with rfl
        dsimp only at hvq; omega
    · obtain ⟨c, hc, hv⟩ := List.mem_flatMap.1 hv
      obtain ⟨y, hy, rfl⟩ := List.mem_map.1 hv
      obtain ⟨hy1, hy2⟩ := List.mem_filter.1 hy
      exact ⟨c, hc, hvq, y, hy1, by simpa using hy2⟩
  · rintro ⟨c, hc, hcq, y, hy, rfl⟩
    exact ⟨⟨c.1, y.val, y.gone⟩, List.mem_append.2 (.inr (List.mem_flatMap.2 ⟨c, hc, List.mem_map.2 ⟨y, List.mem_filter.2 ⟨hy, by simp⟩, rfl⟩⟩)), hcq⟩
theorem free_eq {S : SC} {N : Nat} (ok : S.Ok N) {cms : List Cmt} (h : ek S.es = stK 0 [] cms) (ht : Takes 0 cms) {q : Nat} (w : List Wr) : (!(w.any fun x => decide (lastI (vsOf S.es x.key) > (q : Int)))) = freeB (cms.drop q) w := by
  rw [Bool.eq_iff_iff, Bool.not_eq_true', ← Bool.not_eq_true, List.any_eq_true]
  unfold freeB
  rw [List.all_eq_true]
  constructor
  · intro hn c hc
    rw [List.all_eq_true]
    intro x hx
    rw [List.all_eq_true]
    intro y hy
    refine decide_eq_true fun he => hn ⟨y, hy, decide_eq_true ((written_iff ok h (by omega) (by decide) y.key).2 ?_)⟩
    obtain ⟨j, hj, rfl⟩ := List.mem_drop_iff_getElem.1 hc
    have hj2 : q + j < cms.length := by omega
    have h1 := (ht.seq (q + j) _ (List.getElem?_eq_getElem hj2)).1
    exact ⟨cms[q + j], List.getElem_mem hj2, by omega, x, hx, he⟩
  · intro ha ⟨y, hy, hd⟩
    obtain ⟨c, hc, hcq, x, hx, he⟩ := (written_iff ok h (by omega) (by decide) y.key).1 (of_decide_eq_true hd)
    obtain ⟨i, hi, rfl⟩ := List.mem_iff_getElem.1 hc
    have h1 := (ht.seq i _ (List.getElem?_eq_getElem hi)).1
    have hm : cms[i] ∈ cms.drop q := List.mem_drop_iff_getElem.2 ⟨i - q, by omega, by congr 1; omega⟩
    have h2 := ha _ hm
    rw [List.all_eq_true] at h2
    have h3 := h2 x hx
    rw [List.all_eq_true] at h3
    exact of_decide_eq_true (h3 y hy) he

theorem cma_at {xs ys : List Cm} {i : Nat} {x y : Cm} (h : xs.map cma = ys.map cma) (hx : xs[i]? = some x) (hy : ys[i]? = some y) : x.seq = y.seq ∧ x.time = y.time ∧ x.w.xs = y.w.xs := by
  have h1 : (xs.map cma)[i]? = some (cma x) := by rw [List.getElem?_map, hx]; rfl
  rw [h, List.getElem?_map, hy] at h1
  have h2 : cma y = cma x := Option.some.inj h1
  exact ⟨(congrArg (·.1) h2).symm, (congrArg (·.2.1) h2).symm, (congrArg (·.2.2) h2).symm⟩

theorem Since_one {w : World} {l : List HP} {b N : Nat} {S : SC} {q : Int} (H : Sat w (StP b S :: l)) (ok : S.Ok N) (hhl : S.hist.xs.length ≤ 1000000) (hwl : ∀ c ∈ S.hist.xs, c.w.xs.length ≤ 1000) :
    Calls Try.prog 38 #[.pointer (some ⟨b, 0, none⟩), .int .i64 q] w (Ret fun v w' => ∃ (r : Rw Cm) (er : Int), v = .tuple #[r.val, .int .i64 er] ∧
      ((q < S.low ∧ er = 12 ∧ r.xs.length = 0) ∨ (S.low ≤ q ∧ S.last < q ∧ er = 13 ∧ r.xs.length = 0) ∨ (S.low ≤ q ∧ q ≤ S.last ∧ er = 0 ∧ r.xs.map cma = (S.hist.xs.map cma).drop (q - S.low).toNat ∧ r.Ok 3 ∧ (∀ c ∈ r.xs, c.w.Ok 3))) ∧
      Sat w' (r.own cmc TCm :: stars (r.xs.map cmH) :: StP b S :: l)) := by
  have hone : ∀ {w : World}, Sat w (StP b S :: l) → Sat w ((⟨[], none⟩ : Rw Cm).own cmc TCm :: stars (([] : List Cm).map cmH) :: StP b S :: l) := fun H => sat_one.2 (sat_one.2 H)
  refine Calls.ret (Since_spec H ok hhl hwl) ?_
  rintro v w' (⟨h1, rfl, H⟩ | ⟨h1, h2, rfl, H⟩ | ⟨h1, h2, r, rfl, h3, h4, h5, H⟩)
  · exact ⟨⟨[], none⟩, 12, rfl, .inl ⟨h1, rfl, rfl⟩, hone H⟩
  · exact ⟨⟨[], none⟩, 13, rfl, .inr (.inl ⟨h1, h2, rfl, rfl⟩), hone H⟩
  · exact ⟨r, 0, rfl, .inr (.inr ⟨h1, h2, rfl, h3, h4, h5⟩), H⟩

theorem StoreFrees_walk {w : World} {l : List HP} {a a3 : Option Addr} {n c n3 c3 : Nat} {xs : List Sl} {q : Int} {ws : List Wr} (H : Sat w l) (hr : SlIn l a n c xs) (h3 : RIn wrc TWr l a3 n3 c3 ws) (hk : ∀ x ∈ ws, x.key.size ≤ 4611686018427387904) (hn3 : n3 ≤ 4611686018427387904) :
    Calls Try.prog 12 #[.slice a n c, .slice a3 n3 c3, .int .i64 q] w (Ret fun v w' => v = .bool true ∧ Sat w' l) := by
  have hln := slIn_len hr
  have hl3 := h3.len
  refine Calls.of_wp Try.func12 rfl Try.ntmps12 Try.results12 (Nat.le_of_ble_eq_true rfl) ?_
  refine WP.seq ?_
  refine WP.region ?_
  refine OpsE.val (x_assign (v := .bool _) rfl) ?_
  refine OpsE.nil ?_
  refine Then.normal ?_
  refine WP.seq ?_
  refine WP.seq ?_
  refine WP.region ?_
  refine OpsE.call (x_call (vl := []) rfl Try.call14) (head_spec H) ?_
  rintro _ w ⟨rfl, H⟩
  refine OpsE.val (x_not rfl) ?_
  refine OpsE.nil ?_
  refine Then.normal ?_
  refine WP.cond_f rfl rfl ?_
  refine WP.skip ?_
  refine Then.normal ?_
  refine WP.seq ?_
  refine WP.seq ?_
  refine WP.region ?_
  refine OpsE.val (x_move (v := .slice _ _ _) rfl) ?_
  refine OpsE.call (x_call (vl := [.slice _ _ _]) rfl Try.call21) (few_spec H) ?_
  rintro _ w ⟨rfl, H⟩
  by_cases c0 : (n : Int) ≤ 30
  · rw [decide_eq_true c0]
    refine OpsE.val (x_not rfl) ?_
    refine OpsE.nil ?_
    refine Then.normal ?_
    refine WP.cond_f rfl rfl ?_
    refine WP.skip ?_
    refine Then.normal ?_
    refine WP.seq ?_
    refine WP.region ?_
    refine OpsE.val (x_move (v := .slice _ _ _) rfl) ?_
    refine OpsE.call (x_call (vl := [.int .i64 _, .slice _ _ _]) rfl Try.call22) (List_spec (first := 1) H hr (by omega) (by decide)) ?_
    rintro _ w ⟨r, rfl, hlo, hro, hrw, H⟩
    refine OpsE.val (x_assign (v := .slice _ _ _) rfl) ?_
    refine OpsE.nil ?_
    refine Then.normal ?_
    refine WP.seq ?_
    refine WP.region ?_
    refine OpsE.val (x_move (v := .slice _ _ _) rfl) ?_
    have hlo' : ListOf (0 + 1) (xs.map Sl.ws) (r.xs.map cma) := hlo
    have htk := takes_list hlo' (by omega) (by decide)
    have hrl : r.xs.length = n := by rw [← hln, ← hlo.1, List.length_map]
    refine OpsE.call (x_call (vl := [.int .i64 _, .slice _ _ _, .slice _ _ _]) rfl Try.call23) (made_spec (first := 0) (bs := []) H RIn.nil (by decide) (goodN_nil (by decide)) (CIn.of_rw hro hrw) (by omega) (by rw [cm_ab]; exact htk) (fun _ h => by cases h)) ?_
    rintro _ w ⟨b, S, rfl, ok, hlow, hhist, hek, H⟩
    rw [cm_ab] at hhist hek
    have hSl : S.hist.xs.length = n := by rw [rw_len hhist, List.length_map, hrl]
    have hlast : S.last = (n : Int) := by unfold SC.last; rw [hlow, hSl]; omega
    have hSw : ∀ c ∈ S.hist.xs, c.w.xs.length ≤ 1000 := fun c hc => by
      have h1 := right_len (htk.right (cma c) (by rw [← hhist]; exact List.mem_map.2 ⟨c, hc, rfl⟩))
      have h2 : c.w.xs.length ≤ 200 := h1
      omega
    refine OpsE.val (x_move (v := .tuple _) rfl) ?_
    refine OpsE.val (x_extract (v := .pointer (some ⟨b, 0, none⟩)) rfl rfl) ?_
    refine OpsE.val (x_extract (v := .bool true) rfl rfl) ?_
    refine OpsE.val (x_assign (v := .pointer _) rfl) ?_
    refine OpsE.val (x_assign (v := .bool _) rfl) ?_
    refine OpsE.nil ?_
    refine Then.normal ?_
    refine WP.seq ?_
    refine WP.seq ?_
    refine WP.region ?_
    refine OpsE.val (x_move (v := .bool _) rfl) ?_
    refine OpsE.val (x_not rfl) ?_
    refine OpsE.nil ?_
    refine Then.normal ?_
    refine WP.cond_f rfl rfl ?_
    refine WP.skip ?_
    refine Then.normal ?_
    refine WP.seq ?_
    refine WP.region ?_
    refine OpsE.val (x_move (v := .slice _ _ _) rfl) ?_
    refine OpsE.call (x_call (vl := [.slice _ _ _]) rfl Try.call31) (Some_spec H h3.more.more.more hk hn3) ?_
    rintro _ w ⟨rm, rfl, hso, hrmo, hrml, H⟩
    refine OpsE.val (x_assign (v := .slice _ _ _) rfl) ?_
    refine OpsE.nil ?_
    refine Then.normal ?_
    refine WP.seq ?_
    refine WP.region ?_
    refine OpsE.val (x_move (v := .pointer (some ⟨b, 0, none⟩)) rfl) ?_
    refine OpsE.val (x_move (v := .int .i64 q) rfl) ?_
    refine OpsE.call (x_call (vl := [.pointer _, .int .i64 _]) rfl Try.call38) (Since_one (H.swap) ok (by omega) hSw) ?_
    rintro _ w ⟨r2, er, rfl, hs2, H⟩
    rw [hlow, hlast] at hs2
    have H0 : Sat w (r2.own cmc TCm :: stars (r2.xs.map cmH) :: StP b S :: rm.own wrc TWr :: r.own cmc TCm :: stars (r.xs.map cmH) :: l) := H
    clear H
    replace H := H0
    clear H0
    refine OpsE.val (x_move (v := .tuple #[r2.val, .int .i64 er]) rfl) ?_
    refine OpsE.val (x_extract (v := r2.val) rfl rfl) ?_
    refine OpsE.val (x_extract (v := .int .i64 er) rfl rfl) ?_
    refine OpsE.val (x_assign (v := .slice _ _ _) rfl) ?_
    refine OpsE.val (x_assign (v := .int .i64 _) rfl) ?_
    refine OpsE.nil ?_
    refine Then.normal ?_
    refine WP.seq ?_
    refine WP.seq ?_
    refine WP.region ?_
    refine OpsE.val (x_move (v := .int .i64 q) rfl) ?_
    refine OpsE.val (x_lt rfl rfl) ?_
    by_cases c1 : q < 0
    · rw [decide_eq_true c1]
      refine OpsE.nil ?_
      refine Then.normal ?_
      refine WP.cond_t rfl rfl ?_
      refine WP.seq ?_
      refine WP.region ?_
      refine OpsE.val (x_move (v := .int .i64 er) rfl) ?_
      refine OpsE.val (x_eqI rfl rfl) ?_
      rw [decide_eq_true (by rcases hs2 with ⟨_, h, _⟩ | ⟨h, _⟩ | ⟨h, _⟩ <;> omega)]
      refine OpsE.val (x_move (v := .bool _) rfl) ?_
      refine OpsE.yes rfl ?_
      refine OpsE.val (x_move (v := r2.val) rfl) ?_
      refine OpsE.yes rfl ?_
      refine OpsE.val (x_lenL rfl rfl Try.runUnderlying38) ?_
      refine OpsE.yes rfl ?_
      refine OpsE.val (x_eqI rfl rfl) ?_
      rw [decide_eq_true (by rcases hs2 with ⟨_, _, h⟩ | ⟨h, _⟩ | ⟨h, _⟩ <;> first | (rw [h]; rfl) | omega)]
      refine OpsE.val (x_pickT rfl rfl) ?_
      refine OpsE.val (x_assign (v := .bool _) rfl) ?_
      refine OpsE.nil ?_
      refine Then.normal ?_
      refine WP.ret ?_
      refine Then.ret ?_
      refine Leave0.ret (v := .bool _) rfl ?_
      exact ⟨rfl, H.tail.tail.tail.tail.tail.tail⟩
    · rw [decide_eq_false c1]
      refine OpsE.nil ?_
      refine Then.normal ?_
      refine WP.cond_f rfl rfl ?_
      refine WP.skip ?_
      refine Then.normal ?_
      refine WP.seq ?_
      refine WP.seq ?_
      refine WP.region ?_
      refine OpsE.val (x_move (v := .int .i64 q) rfl) ?_
      refine OpsE.val (x_move (v := .slice r.ad r.xs.length r.cp) rfl) ?_
      refine OpsE.val (x_lenL rfl rfl Try.runUnderlying38) ?_
      refine OpsE.val (x_gt rfl rfl) ?_
      by_cases c2 : q > ((r.xs.length : Nat) : Int)
      · rw [decide_eq_true c2]
        refine OpsE.nil ?_
        refine Then.normal ?_
        refine WP.cond_t rfl rfl ?_
        refine WP.seq ?_
        refine WP.region ?_
        refine OpsE.val (x_move (v := .int .i64 er) rfl) ?_
        refine OpsE.val (x_eqI rfl rfl) ?_
        rw [decide_eq_true (by rcases hs2 with ⟨h, _⟩ | ⟨_, _, h, _⟩ | ⟨_, h, _⟩ <;> omega)]
        refine OpsE.val (x_move (v := .bool _) rfl) ?_
        refine OpsE.yes rfl ?_
        refine OpsE.val (x_move (v := r2.val) rfl) ?_
        refine OpsE.yes rfl ?_
        refine OpsE.val (x_lenL rfl rfl Try.runUnderlying38) ?_
        refine OpsE.yes rfl ?_
        refine OpsE.val (x_eqI rfl rfl) ?_
        rw [decide_eq_true (by rcases hs2 with ⟨h, _⟩ | ⟨_, _, _, h⟩ | ⟨_, h, _⟩ <;> first | (rw [h]; rfl) | omega)]
        refine OpsE.val (x_pickT rfl rfl) ?_
        refine OpsE.val (x_assign (v := .bool _) rfl) ?_
        refine OpsE.nil ?_
        refine Then.normal ?_
        refine WP.ret ?_
        refine Then.ret ?_
        refine Leave0.ret (v := .bool _) rfl ?_
        exact ⟨rfl, H.tail.tail.tail.tail.tail.tail⟩
      · rw [decide_eq_false c2]
        refine OpsE.nil ?_
        refine Then.normal ?_
        refine WP.cond_f rfl rfl ?_
        refine WP.skip ?_
        refine Then.normal ?_
        refine WP.seq ?_
        refine WP.seq ?_
        obtain ⟨hq0, hqn, rfl, hr2, hr2o, hr2w⟩ : 0 ≤ q ∧ q ≤ n ∧ er = 0 ∧ r2.xs.map cma = (S.hist.xs.map cma).drop (q - 0).toNat ∧ r2.Ok 3 ∧ ∀ c ∈ r2.xs, c.w.Ok 3 := by
          rcases hs2 with ⟨h, _⟩ | ⟨_, h, _⟩ | h
          · omega
          · omega
          · exact h
        obtain ⟨dn, hdn⟩ : ∃ dn : Nat, q = (dn : Int) := ⟨q.toNat, by omega⟩
        subst hdn
        rw [show ((dn : Int) - 0).toNat = dn by omega, hhist, ← List.map_drop] at hr2
        have hr2l : r2.xs.length = n - dn := by have := congrArg List.length hr2; rw [List.length_map, List.length_map, List.length_drop, hrl] at this; exact this
        refine WP.region ?_
        refine OpsE.val (x_move (v := .int .i64 0) rfl) ?_
        refine OpsE.val (x_neI rfl rfl) ?_
        rw [decide_eq_false (by decide)]
        refine OpsE.val (x_move (v := .bool _) rfl) ?_
        refine OpsE.yes rfl ?_
        refine OpsE.val (x_move (v := r2.val) rfl) ?_
        refine OpsE.yes rfl ?_
        refine OpsE.val (x_lenL rfl rfl Try.runUnderlying38) ?_
        refine OpsE.yes rfl ?_
        refine OpsE.val (x_move (v := .slice r.ad r.xs.length r.cp) rfl) ?_
        refine OpsE.yes rfl ?_
        refine OpsE.val (x_lenL rfl rfl Try.runUnderlying38) ?_
        refine OpsE.yes rfl ?_
        refine OpsE.val (x_move (v := .int .i64 (dn : Int)) rfl) ?_
        refine OpsE.yes rfl ?_
        refine OpsE.val (x_sub (z := ((n - dn : Nat) : Int)) rfl rfl (by rw [i64n (by omega) (by omega)]; omega)) ?_
        refine OpsE.yes rfl ?_
        refine OpsE.val (x_neI rfl rfl) ?_
        rw [decide_eq_false (by rw [hr2l]; simp)]
        refine OpsE.val (x_pickF rfl rfl) ?_
        refine OpsE.nil ?_
        refine Then.normal ?_
        refine WP.cond_f rfl rfl ?_
        refine WP.skip ?_
        refine Then.normal ?_
        refine WP.seq ?_
        refine WP.region ?_
        refine OpsE.val (x_assign (v := .bool _) rfl) ?_
        refine OpsE.nil ?_
        refine Then.normal ?_
        refine WP.seq ?_
        refine WP.seq ?_
        refine WP.region ?_
        refine OpsE.val (x_move (v := .slice r.ad r.xs.length r.cp) rfl) ?_
        refine OpsE.val (x_move (v := .int .i64 (dn : Int)) rfl) ?_
        obtain ⟨R, hR⟩ : ∃ R, R = (r2.own cmc TCm :: stars (r2.xs.map cmH) :: StP b S :: rm.own wrc TWr :: r.own cmc TCm :: stars (r.xs.map cmH) :: l) := ⟨_, rfl⟩
        have H0 : Sat w R := by rw [hR]; exact H
        clear H
        replace H := H0
        clear H0
        have i1 : RIn cmc TCm R r2.ad r2.xs.length r2.cp r2.xs := by rw [hR]; exact Rw.rin_own r2 hr2o
        have i2 : ∀ c ∈ r2.xs, RIn wrc TWr R c.w.ad c.w.xs.length c.w.cp c.w.xs := by rw [hR]; exact fun c hc => rin_cm hc (hr2w c hc)
        have i3 : RIn wrc TWr R rm.ad rm.xs.length rm.cp rm.xs := by rw [hR]; exact Rw.rin_own rm hrmo
        have i4 : RIn cmc TCm R r.ad r.xs.length r.cp r.xs := by rw [hR]; exact Rw.rin_own r hro
        have i5 : ∀ c ∈ r.xs, RIn wrc TWr R c.w.ad c.w.xs.length c.w.cp c.w.xs := by rw [hR]; exact fun c hc => rin_cm hc (hrw c hc)
        have i6 : ∀ c ∈ r.xs, c.w.xs.length ≤ 200 := fun c hc => right_len (htk.right (cma c) (List.mem_map.2 ⟨c, hc, rfl⟩))
        obtain ⟨ad', hsl, hrin⟩ := rin_slice (P := Try.prog) (f := cmc) (T := 38) cmc_len i4 Try.runUnderlying38 Try.sizeOf33 (k := dn) (by omega)
        rw [hrl] at hsl hrin
        refine OpsE.val (hsl _ _ _ _ .i64 w (by rw [← hrl]; rfl) rfl) ?_
        obtain ⟨ys, hys⟩ : ∃ ys, r.xs.drop dn = ys := ⟨_, rfl⟩
        rw [hys] at hrin hr2
        have hyl : ys.length = n - dn := by rw [← hys, List.length_drop, hrl]
        have hym : ∀ c ∈ ys, c ∈ r.xs := fun c hc => by rw [← hys] at hc; exact List.mem_of_mem_drop hc
        refine OpsE.val (x_lenL rfl rfl Try.runUnderlying38) ?_
        refine OpsE.val (x_move (v := .int .i64 _) rfl) ?_
        refine OpsE.nil ?_
        refine Then.normal ?_
        refine WP.block ?_
        refine WP.loopS [6, 13, 14, 15, 16, 17, 19, 77, 78, 79, 80, 81, 82, 83, 84, 85, 86, 87, 88, 89, 90, 91, 92, 93, 94, 95, 96, 97, 98, 99, 100, 101, 102, 103, 104, 105, 106, 107, 108, 109, 110, 111, 112, 113, 114, 115, 116, 117, 118, 119, 120, 121, 122, 123, 124, 125, 126, 127, 128, 129, 130, 131, 132, 133, 134, 135, 136, 137, 138, 139, 140, 141, 142, 143, 144, 145, 146] (fun (i : Nat) E w => E 77 = .int .i64 (i : Int) ∧ E 13 = .bool (freeB ((ys.take i).map cma) rm.xs) ∧ i ≤ n - dn ∧ Sat w R) (fun i => n - dn - i) 0 ⟨rfl, rfl, Nat.zero_le _, H⟩ ?_
        clear H
        rintro i E1 w hs ⟨e77, e13, hin, H⟩
        refine WP.seq ?_
        refine WP.region ?_
        refine OpsE.val (x_lt e77 (hs 76 rfl)) ?_
        by_cases hlt : (i : Int) < ((n - dn : Nat) : Int)
        · rw [decide_eq_true hlt]
          refine OpsE.nil ?_
          refine Then.normal ?_
          refine WP.seq ?_
          refine WP.cond_t rfl rfl ?_
          refine WP.skip ?_
          refine Then.normal ?_
          refine WP.seq ?_
          refine WP.block ?_
          refine WP.seq ?_
          obtain ⟨bb, off, B, fz, pre, post, rfl, hB, hBl, hpo⟩ := hrin.some (by omega)
          obtain ⟨y, hy⟩ : ∃ y, ys[i]? = some y := ⟨_, List.getElem?_eq_getElem (by omega)⟩
          obtain ⟨z, hz⟩ : ∃ z, r2.xs[i]? = some z := ⟨_, List.getElem?_eq_getElem (by omega)⟩
          obtain ⟨hzs, hzt, hzw⟩ := cma_at hr2 hz hy
          have hym2 := hym y (List.mem_of_getElem? hy)
          have hzm := List.mem_of_getElem? hz
          have hyn := i6 y hym2
          obtain ⟨bb2, off2, B2, fz2, pre2, post2, had2, hB2, hBl2, hpo2⟩ := i1.some (by omega)
          refine WP.region ?_
          refine OpsE.val (x_move (v := .int .i64 _) e77) ?_
          refine OpsE.val (x_indexAddro (i := i) (hs 75 rfl) e77 Try.runUnderlying38 Try.sizeOf33 rfl (by omega)) ?_
          refine OpsE.val (x_loadA (vs := cmc y) rfl Try.isAgg33 Try.sizeOf33 (hB w H) (row_el cmc_len hBl hpo hy) rfl) ?_
          refine OpsE.allocA Try.zeroValue33 H ?_
          intro b15 w H
          refine OpsE.val (x_assign (v := .int .i64 _) rfl) ?_
          refine OpsE.storeA (vs := cmc y) rfl rfl Try.sizeOf33 H (cmc_one y) (Nat.le_refl _) ?_
          intro w H
          refine OpsE.nil ?_
          refine Then.normal ?_
          refine WP.seq ?_
          refine WP.seq ?_
          replace H : Sat w (pt b15 (.cells (cmc y).toArray TCm (0, 0)) :: R) := H
          refine WP.draw (fun w => Sat w _) (by kernel_rfl) (by kernel_rfl) (H.heap rfl) ?_
          refine QuietE.val (fun w H => x_move (v := .slice (some ⟨bb2, off2, none⟩) r2.xs.length r2.cp) (show evE _ _ = _ from (hs 11 rfl).trans (by rw [← had2]; rfl))) ?_
          refine QuietE.val (fun w H => x_move (v := .int .i64 _) rfl) ?_
          refine QuietE.val (fun w H => x_indexAddro (i := i) rfl rfl Try.runUnderlying38 Try.sizeOf33 rfl (by omega)) ?_
          refine QuietE.val (fun w H => x_fieldAddr0 rfl Try.runUnderlying33 rfl rfl Try.sizeOf3) ?_
          refine QuietE.val (fun w H => x_load (v := .int .i64 z.seq) rfl Try.isAgg3 (hB2 w H.tail) (row_cell cmc_len hBl2 hpo2 (j := 0) hz rfl)) ?_
          refine QuietE.val (fun w H => x_fieldAddr0 rfl Try.runUnderlying33 rfl rfl Try.sizeOf3) ?_
          refine QuietE.val (fun w H => x_load (v := .int .i64 y.seq) rfl Try.isAgg3 (H.look _) rfl) ?_
          refine QuietE.val (fun w H => x_neI rfl rfl) ?_
          rw [decide_eq_false (by rw [hzs]; simp)]
          refine QuietE.val (fun w H => x_move (v := .bool _) rfl) ?_
          refine QuietE.yes rfl ?_
          refine QuietE.val (fun w H => x_move (v := .slice (some ⟨bb2, off2, none⟩) r2.xs.length r2.cp) (show evE _ _ = _ from (hs 11 rfl).trans (by rw [← had2]; rfl))) ?_
          refine QuietE.yes rfl ?_
          refine QuietE.val (fun w H => x_move (v := .int .i64 _) rfl) ?_
          refine QuietE.yes rfl ?_
          refine QuietE.val (fun w H => x_indexAddro (i := i) rfl rfl Try.runUnderlying38 Try.sizeOf33 rfl (by omega)) ?_
          refine QuietE.yes rfl ?_
          refine QuietE.val (fun w H => x_fieldAddr (o := 1) rfl Try.runUnderlying33 rfl rfl Try.sizeOf3) ?_
          refine QuietE.yes rfl ?_
          refine QuietE.val (fun w H => x_load (v := .int .i64 z.time) rfl Try.isAgg3 (hB2 w H.tail) (row_cell cmc_len hBl2 hpo2 (j := 1) hz rfl)) ?_
          refine QuietE.yes rfl ?_
          refine QuietE.val (fun w H => x_fieldAddr (o := 1) rfl Try.runUnderlying33 rfl rfl Try.sizeOf3) ?_
          refine QuietE.yes rfl ?_
          refine QuietE.val (fun w H => x_load (v := .int .i64 y.time) rfl Try.isAgg3 (H.look _) rfl) ?_
          refine QuietE.yes rfl ?_
          refine QuietE.val (fun w H => x_neI rfl rfl) ?_
          rw [decide_eq_false (by rw [hzt]; simp)]
          refine QuietE.val (fun w H => x_pickF rfl rfl) ?_
          refine QuietE.val (fun w H => x_move (v := .bool _) rfl) ?_
          refine QuietE.yes rfl ?_
          refine QuietE.val (fun w H => x_move (v := .slice (some ⟨bb2, off2, none⟩) r2.xs.length r2.cp) (show evE _ _ = _ from (hs 11 rfl).trans (by rw [← had2]; rfl))) ?_
          refine QuietE.yes rfl ?_
          refine QuietE.val (fun w H => x_move (v := .int .i64 _) rfl) ?_
          refine QuietE.yes rfl ?_
          refine QuietE.val (fun w H => x_indexAddro (i := i) rfl rfl Try.runUnderlying38 Try.sizeOf33 rfl (by omega)) ?_
          refine QuietE.yes rfl ?_
          refine QuietE.val (fun w H => x_fieldAddr (o := 2) rfl Try.runUnderlying33 rfl rfl Try.sizeOf22) ?_
          refine QuietE.yes rfl ?_
          refine QuietE.val (fun w H => x_load (v := .slice z.w.ad z.w.xs.length z.w.cp) rfl Try.isAgg22 (hB2 w H.tail) (row_cell cmc_len hBl2 hpo2 (j := 2) hz rfl)) ?_
          refine QuietE.yes rfl ?_
          refine QuietE.val (fun w H => x_lenL rfl rfl Try.runUnderlying22) ?_
          refine QuietE.yes rfl ?_
          refine QuietE.val (fun w H => x_fieldAddr (o := 2) rfl Try.runUnderlying33 rfl rfl Try.sizeOf22) ?_
          refine QuietE.yes rfl ?_
          refine QuietE.val (fun w H => x_load (v := .slice y.w.ad y.w.xs.length y.w.cp) rfl Try.isAgg22 (H.look _) rfl) ?_
          refine QuietE.yes rfl ?_
          refine QuietE.val (fun w H => x_lenL rfl rfl Try.runUnderlying22) ?_
          refine QuietE.yes rfl ?_
          refine QuietE.val (fun w H => x_neI rfl rfl) ?_
          rw [decide_eq_false (by rw [hzw]; simp)]
          refine QuietE.val (fun w H => x_pickF rfl rfl) ?_
          refine QuietE.nil ?_
          intro w H
          refine Then.normal ?_
          refine WP.cond_f rfl rfl ?_
          refine WP.skip ?_
          refine Then.normal ?_
          refine WP.seq ?_
          refine WP.region ?_
          refine OpsE.val (x_fieldAddr (o := 2) rfl Try.runUnderlying33 rfl rfl Try.sizeOf22) ?_
          refine OpsE.val (x_load (v := .slice y.w.ad y.w.xs.length y.w.cp) rfl Try.isAgg22 (H.look _) rfl) ?_
          refine OpsE.val (x_lenL rfl rfl Try.runUnderlying22) ?_
          refine OpsE.val (x_move (v := .int .i64 _) rfl) ?_
          refine OpsE.nil ?_
          refine Then.normal ?_
          refine WP.block ?_
          refine WP.loopS [6, 13, 16, 17, 19, 115, 116, 117, 118, 119, 120, 121, 122, 123, 124, 125, 126, 127, 128, 129, 130, 131, 132, 133, 134, 135, 136, 137, 138, 139, 140, 141, 142, 143, 144, 145] (fun (k : Nat) E w => E 115 = .int .i64 (k : Int) ∧ E 13 = .bool (freeB ((ys.take i).map cma) rm.xs && (y.w.xs.take k).all fun x => rm.xs.all fun u => decide (x.key ≠ u.key)) ∧ k ≤ y.w.xs.length ∧ Sat w (pt b15 (.cells (cmc y).toArray TCm (0, 0)) :: R)) (fun k => y.w.xs.length - k) 0 ⟨rfl, e13.trans (by simp), Nat.zero_le _, H⟩ ?_
          clear H
          rintro k E2 w hs2' ⟨e115, e13', hkl, H⟩
          refine WP.seq ?_
          refine WP.region ?_
          refine OpsE.val (x_lt e115 (hs2' 114 rfl)) ?_
          by_cases hlt2 : (k : Int) < ((y.w.xs.length : Nat) : Int)
          · rw [decide_eq_true hlt2]
            refine OpsE.nil ?_
            refine Then.normal ?_
            refine WP.seq ?_
            refine WP.cond_t rfl rfl ?_
            refine WP.skip ?_
            refine Then.normal ?_
            refine WP.seq ?_
            refine WP.block ?_
            refine WP.seq ?_
            obtain ⟨bb3, off3, B3, fz3, pre3, post3, had3, hB3, hBl3, hpo3⟩ := (i5 y hym2).some (by omega)
            obtain ⟨x, hx⟩ : ∃ x, y.w.xs[k]? = some x := ⟨_, List.getElem?_eq_getElem (by omega)⟩
            obtain ⟨bb4, off4, B4, fz4, pre4, post4, had4, hB4, hBl4, hpo4⟩ := (i2 z hzm).some (by rw [hzw]; omega)
            refine WP.region ?_
            refine OpsE.val (x_move (v := .int .i64 _) e115) ?_
            refine OpsE.val (x_indexAddro (i := k) (len := y.w.xs.length) (cap := y.w.cp) ((hs2' 113 rfl).trans (show Value.slice y.w.ad y.w.xs.length y.w.cp = _ by rw [had3])) e115 Try.runUnderlying22 Try.sizeOf26 rfl (by omega)) ?_
            refine OpsE.val (x_loadA (vs := wrc x) rfl Try.isAgg26 Try.sizeOf26 (hB3 w H.tail) (row_el wrc_len hBl3 hpo3 hx) rfl) ?_
            refine OpsE.allocA Try.zeroValue26 H ?_
            intro b17 w H
            refine OpsE.val (x_assign (v := .int .i64 _) rfl) ?_
            refine OpsE.storeA (vs := wrc x) rfl rfl Try.sizeOf26 H (wrc_one x) (Nat.le_refl _) ?_
            intro w H
            refine OpsE.nil ?_
            refine Then.normal ?_
            refine WP.seq ?_
            refine WP.seq ?_
            replace H : Sat w (pt b17 (.cells (wrc x).toArray TWr (0, 0)) :: pt b15 (.cells (cmc y).toArray TCm (0, 0)) :: R) := H
            refine WP.draw (fun w => Sat w _) (by kernel_rfl) (by kernel_rfl) (H.heap rfl) ?_
            refine QuietE.val (fun w H => x_move (v := .slice (some ⟨bb2, off2, none⟩) r2.xs.length r2.cp) (show evE _ _ = _ from (hs2' 11 rfl).trans ((hs 11 rfl).trans (by rw [← had2]; rfl)))) ?_
            refine QuietE.val (fun w H => x_move (v := .int .i64 _) (hs2' 14 rfl)) ?_
            refine QuietE.val (fun w H => x_indexAddro (i := i) rfl rfl Try.runUnderlying38 Try.sizeOf33 rfl (by omega)) ?_
            refine QuietE.val (fun w H => x_fieldAddr (o := 2) rfl Try.runUnderlying33 rfl rfl Try.sizeOf22) ?_
            refine QuietE.val (fun w H => x_load (v := .slice (some ⟨bb4, off4, none⟩) z.w.xs.length z.w.cp) rfl Try.isAgg22 (hB2 w H.tail.tail) (by rw [← had4]; exact row_cell cmc_len hBl2 hpo2 (j := 2) hz rfl)) ?_
            refine QuietE.val (fun w H => x_move (v := .int .i64 _) rfl) ?_
            refine QuietE.val (fun w H => x_indexAddro (i := k) rfl rfl Try.runUnderlying22 Try.sizeOf26 rfl (by rw [hzw]; omega)) ?_
            refine QuietE.val (fun w H => x_loadA (vs := wrc x) rfl Try.isAgg26 Try.sizeOf26 (hB4 w H.tail.tail) (by rw [hzw] at hBl4; exact row_el wrc_len hBl4 hpo4 hx) rfl) ?_
            refine QuietE.val (fun w H => x_loadA (vs := wrc x) rfl Try.isAgg26 Try.sizeOf26 (H.look _) rfl rfl) ?_
            refine QuietE.val (fun w H => x_neW (p := x) (q := x) rfl rfl) ?_
            refine QuietE.nil ?_
            intro w H
            refine Then.normal ?_
            refine WP.cond_f rfl (decide_eq_false fun h => h rfl) ?_
            refine WP.skip ?_
            refine Then.normal ?_
            refine WP.seq ?_
            refine WP.region ?_
            refine OpsE.val (x_move (v := .slice rm.ad rm.xs.length rm.cp) ((hs2' 10 rfl).trans (hs 10 rfl))) ?_
            refine OpsE.val (x_lenL rfl rfl Try.runUnderlying22) ?_
            refine OpsE.val (x_move (v := .int .i64 _) rfl) ?_
            refine OpsE.nil ?_
            refine Then.normal ?_
            refine WP.block ?_
            refine WP.loopS [13, 19, 132, 133, 134, 135, 136, 137, 138, 139, 140, 141, 142, 143, 144] (fun (d : Nat) E w => E 132 = .int .i64 (d : Int) ∧ E 13 = .bool ((freeB ((ys.take i).map cma) rm.xs && (y.w.xs.take k).all fun x => rm.xs.all fun u => decide (x.key ≠ u.key)) && (rm.xs.take d).all fun u => decide (x.key ≠ u.key)) ∧ d ≤ rm.xs.length ∧ Sat w (pt b17 (.cells (wrc x).toArray TWr (0, 0)) :: pt b15 (.cells (cmc y).toArray TCm (0, 0)) :: R)) (fun d => rm.xs.length - d) 0 ⟨rfl, e13'.trans (by simp), Nat.zero_le _, H⟩ ?_
            clear H
            rintro d E3 w hs3 ⟨e132, e13'', hdl, H⟩
            refine WP.seq ?_
            refine WP.region ?_
            refine OpsE.val (x_lt e132 (hs3 131 rfl)) ?_
            by_cases hlt3 : (d : Int) < ((rm.xs.length : Nat) : Int)
            · rw [decide_eq_true hlt3]
              refine OpsE.nil ?_
              refine Then.normal ?_
              refine WP.seq ?_
              refine WP.cond_t rfl rfl ?_
              refine WP.skip ?_
              refine Then.normal ?_
              refine WP.seq ?_
              refine WP.block ?_
              refine WP.seq ?_
              obtain ⟨bb5, off5, B5, fz5, pre5, post5, had5, hB5, hBl5, hpo5⟩ := i3.some (by omega)
              obtain ⟨u, hu⟩ : ∃ u, rm.xs[d]? = some u := ⟨_, List.getElem?_eq_getElem (by omega)⟩
              refine WP.region ?_
              refine OpsE.val (x_indexAddro (i := d) (len := rm.xs.length) (cap := rm.cp) ((hs3 130 rfl).trans (show Value.slice rm.ad rm.xs.length rm.cp = _ by rw [had5])) e132 Try.runUnderlying22 Try.sizeOf26 rfl (by omega)) ?_
              refine OpsE.val (x_loadA (vs := wrc u) rfl Try.isAgg26 Try.sizeOf26 (hB5 w H.tail.tail) (row_el wrc_len hBl5 hpo5 hu) rfl) ?_
              refine OpsE.allocA Try.zeroValue26 H ?_
              intro b19 w H
              refine OpsE.storeA (vs := wrc u) rfl rfl Try.sizeOf26 H (wrc_one u) (Nat.le_refl _) ?_
              intro w H
              refine OpsE.nil ?_
              refine Then.normal ?_
              obtain ⟨fb, hfb⟩ : ∃ fb, ((freeB ((ys.take i).map cma) rm.xs && (y.w.xs.take k).all fun x => rm.xs.all fun u => decide (x.key ≠ u.key)) && (rm.xs.take d).all fun u => decide (x.key ≠ u.key)) = fb := ⟨_, rfl⟩
              rw [hfb] at e13''
              refine WP.region ?_
              refine OpsE.val (x_move (v := .bool fb) e13'') ?_
              cases hf : fb
              case false =>
                refine OpsE.val (x_move (v := .bool _) rfl) ?_
                refine OpsE.no rfl ?_
                refine OpsE.no rfl ?_
                refine OpsE.no rfl ?_
                refine OpsE.no rfl ?_
                refine OpsE.no rfl ?_
                refine OpsE.val (x_pickF rfl rfl) ?_
                refine OpsE.val (x_assign (v := .bool _) rfl) ?_
                refine OpsE.nil ?_
                refine InBlock.normal ?_
                refine Then.normal ?_
                refine WP.region ?_
                refine OpsE.val (x_add (z := ((d + 1 : Nat) : Int)) e132 rfl (by rw [i64n (by omega) (by omega)]; omega)) ?_
                refine OpsE.val (x_move (v := .int .i64 _) rfl) ?_
                refine OpsE.nil ?_
                refine Then.normal ?_
                refine ⟨rfl, (by repeat (first | exact hs3 | refine Same.upd ?_ rfl)), d + 1, by omega, rfl, ?_, by omega, H.tail⟩
                show Value.bool false = Value.bool _
                rw [List.take_add_one, hu, List.all_append, ← Bool.and_assoc, hfb, hf]
                simp
              case true =>
                refine OpsE.val (x_move (v := .bool _) rfl) ?_
                refine OpsE.yes rfl ?_
                refine OpsE.val (x_fieldAddr0 (hs3 17 rfl) Try.runUnderlying26 rfl rfl Try.sizeOf9) ?_
                refine OpsE.yes rfl ?_
                refine OpsE.val (x_load (v := .string x.key) rfl Try.isAgg9 (H.look _) rfl) ?_
                refine OpsE.yes rfl ?_
                refine OpsE.val (x_fieldAddr0 rfl Try.runUnderlying26 rfl rfl Try.sizeOf9) ?_
                refine OpsE.yes rfl ?_
                refine OpsE.val (x_load (v := .string u.key) rfl Try.isAgg9 (H.look _) rfl) ?_
                refine OpsE.yes rfl ?_
                refine OpsE.val (x_neS rfl rfl) ?_
                refine OpsE.val (x_pickT rfl rfl) ?_
                refine OpsE.val (x_assign (v := .bool _) rfl) ?_
                refine OpsE.nil ?_
                refine InBlock.normal ?_
                refine Then.normal ?_
                refine WP.region ?_
                refine OpsE.val (x_add (z := ((d + 1 : Nat) : Int)) e132 rfl (by rw [i64n (by omega) (by omega)]; omega)) ?_
                refine OpsE.val (x_move (v := .int .i64 _) rfl) ?_
                refine OpsE.nil ?_
                refine Then.normal ?_
                refine ⟨rfl, (by repeat (first | exact hs3 | refine Same.upd ?_ rfl)), d + 1, by omega, rfl, ?_, by omega, H.tail⟩
                show Value.bool (decide (x.key ≠ u.key)) = Value.bool _
                rw [List.take_add_one, hu, List.all_append, ← Bool.and_assoc, hfb, hf]
                simp
            · rw [decide_eq_false hlt3]
              refine OpsE.nil ?_
              refine Then.normal ?_
              refine WP.seq ?_
              refine WP.cond_f rfl rfl ?_
              refine WP.exit ?_
              refine Then.exit ?_
              refine Then.exit ?_
              refine InBlock.hit ?_
              refine InBlock.normal ?_
              refine Then.normal ?_
              refine WP.region ?_
              refine OpsE.val (x_add (z := ((k + 1 : Nat) : Int)) ((hs3 115 rfl).trans e115) rfl (by rw [i64n (by omega) (by omega)]; omega)) ?_
              refine OpsE.val (x_move (v := .int .i64 _) rfl) ?_
              refine OpsE.nil ?_
              refine Then.normal ?_
              have hde : d = rm.xs.length := by omega
              refine ⟨rfl, (by repeat (first | exact hs2' | refine Same.upd ?_ rfl | refine Same.sub hs3 ?_ rfl)), k + 1, by omega, rfl, ?_, by omega, H.tail⟩
              rw [List.take_add_one, hx, List.all_append, ← Bool.and_assoc]
              rw [hde, List.take_length] at e13''
              refine e13''.trans ?_
              simp
          · rw [decide_eq_false hlt2]
            refine OpsE.nil ?_
            refine Then.normal ?_
            refine WP.seq ?_
            refine WP.cond_f rfl rfl ?_
            refine WP.exit ?_
            refine Then.exit ?_
            refine Then.exit ?_
            refine InBlock.hit ?_
            refine InBlock.normal ?_
            refine Then.normal ?_
            refine WP.region ?_
            refine OpsE.val (x_add (z := ((i + 1 : Nat) : Int)) ((hs2' 77 rfl).trans e77) rfl (by rw [i64n (by omega) (by omega)]; omega)) ?_
            refine OpsE.val (x_move (v := .int .i64 _) rfl) ?_
            refine OpsE.nil ?_
            refine Then.normal ?_
            have hke : k = y.w.xs.length := by omega
            refine ⟨rfl, (by repeat (first | exact hs | refine Same.upd ?_ rfl | refine Same.sub hs2' ?_ rfl)), i + 1, by omega, rfl, ?_, by omega, H.tail⟩
            rw [hke, List.take_length] at e13'
            refine e13'.trans ?_
            rw [List.take_add_one, hy, List.map_append]
            unfold freeB
            rw [List.all_append]
            simp [cma]
        · rw [decide_eq_false hlt]
          refine OpsE.nil ?_
          refine Then.normal ?_
          refine WP.seq ?_
          refine WP.cond_f rfl rfl ?_
          refine WP.exit ?_
          refine Then.exit ?_
          refine Then.exit ?_
          refine InBlock.hit ?_
          refine Then.normal ?_
          refine WP.seq ?_
          have hie : i = ys.length := by omega
          rw [hie, List.take_length, ← hys, List.map_drop] at e13
          rw [hR] at H
          replace H := H.take (StP b S)
          refine WP.region ?_
          refine OpsE.val (x_move (v := .pointer (some ⟨b, 0, none⟩)) (hs 8 rfl)) ?_
          refine OpsE.val (x_move (v := .slice rm.ad rm.xs.length rm.cp) (hs 10 rfl)) ?_
          refine OpsE.val (x_move (v := .int .i64 (dn : Int)) (hs 2 rfl)) ?_
          have i7 : RIn wrc TWr (r2.own cmc TCm :: stars (r2.xs.map cmH) :: rm.own wrc TWr :: r.own cmc TCm :: stars (r.xs.map cmH) :: l) rm.ad rm.xs.length rm.cp rm.xs := Rw.rin_own rm hrmo
          refine OpsE.call (x_call (vl := [.pointer _, .slice _ _ _, .int .i64 _]) rfl Try.call39) (Free_spec (q := (dn : Int)) H ok i7 (by omega)) ?_
          rintro _ w ⟨rfl, H⟩
          rw [free_eq ok hek htk]
          refine OpsE.val (x_move (v := .bool _) e13) ?_
          refine OpsE.val (x_eqB rfl rfl Try.runUnderlying4) ?_
          rw [(show (freeB _ _ == freeB _ _) = true by simp)]
          refine OpsE.val (x_assign (v := .bool _) rfl) ?_
          refine OpsE.nil ?_
          refine Then.normal ?_
          refine WP.ret ?_
          refine Leave0.ret (v := .bool _) rfl ?_
          exact ⟨rfl, H.tail.tail.tail.tail.tail.tail⟩
  · rw [decide_eq_false c0]
    refine OpsE.val (x_not rfl) ?_
    refine OpsE.nil ?_
    refine Then.normal ?_
    refine WP.cond_t rfl rfl ?_
    refine WP.seq ?_
    refine WP.region ?_
    refine OpsE.val (x_assign (v := .bool _) rfl) ?_
    refine OpsE.nil ?_
    refine Then.normal ?_
    refine WP.ret ?_
    refine Then.ret ?_
    refine Leave0.ret (v := .bool _) rfl ?_
    exact ⟨rfl, H⟩
end Go.Proofs.Ytbhbdpbhhfemhaa

/-
  The arguments of a law, opened: rows of writes in the memory at the call. And the last step of a law's proof.
-/
namespace Go.Proofs.Ytbhbdpbhhfemhaa
open Go Go.Proofs
open Go.ChangeShapes Go.WideShapes Go.ChangeAt Go.RowKit
set_option maxRecDepth 100000
set_option maxHeartbeats 4000000
set_option linter.unusedVariables false

theorem take_pre {α : Type} : ∀ {l L : List α}, (∀ (j : Nat) (v : α), l[j]? = some v → L[j]? = some v) → L.take l.length = l
  | [], _, _ => by simp
  | a :: l, [], h => by have := h 0 a rfl; simp at this
  | a :: l, b :: L, h => by
    have h0 := h 0 a rfl
    simp at h0; subst h0
    rw [List.length_cons, List.take_succ_cons, take_pre fun j v hv => by have := h (j + 1) v (by simpa using hv); simpa using this]
theorem flat_of {α : Type} {f : α → List Value} {S : Nat} (hf : ∀ x, (f x).length = S) : ∀ {xs : List α} {L : List Value}, (∀ (i : Nat) (x : α), xs[i]? = some x → ∀ (j : Nat) (v : Value), (f x)[j]? = some v → L[i * S + j]? = some v) → L.take (xs.length * S) = xs.flatMap f
  | [], _, _ => by simp
  | x :: xs, L, h => by
    have h1 : L.take S = f x := by
      have := take_pre (l := f x) (L := L) fun j v hv => by have := h 0 x rfl j v hv; simpa using this
      rwa [hf] at this
    have h2 := flat_of hf (xs := xs) (L := L.drop S) fun i y hy j v hv => by
      have := h (i + 1) y (by simpa using hy) j v hv
      rw [List.getElem?_drop]
      rw [show S + (i * S + j) = (i + 1) * S + j by rw [Nat.add_mul]; omega]; exact this
    rw [List.length_cons, Nat.add_mul, Nat.one_mul, Nat.add_comm, List.take_add, h1, h2, List.flatMap_cons]

section
variable {H : Type} {enc : TypeId × Value → H} {P : Program} {W : World}

theorem add_none (b off n : Nat) : (⟨b, off, none⟩ : Addr).add n = ⟨b, off + n, none⟩ := by unfold Addr.add; split <;> simp_all
theorem cells_cell {a : Addr} {n base : Nat} {l : List Value} (h : W.cells? base a n = some l) : l.length = n ∧ ∀ (j : Nat) (v : Value), l[j]? = some v → W.cell? (a.add j) = some v := by
  unfold World.cells? at h
  split at h
  · have hl := mapM_some_length h
    rw [List.length_range] at hl
    refine ⟨hl, fun j v hv => ?_⟩
    have hj : j < n := by rw [← hl]; exact (List.getElem?_eq_some_iff.1 hv).1
    have := mapM_some_get h j j (by simp [hj])
    rw [this]; exact hv
  · cases h
/-- a row of elements that are read one by one -/
theorem row_of {α : Type} {f : α → List Value} {S : Nat} (hf : ∀ x, (f x).length = S) (hS : 0 < S) {a : Addr} {xs : List α} (h0 : 0 < xs.length) (h : ∀ (i : Nat) (x : α), xs[i]? = some x → W.cells? 0 (a.add (i * S)) S = some (f x)) :
    ∃ (b off : Nat) (B : Array Value) (fz : TypeId × Nat × Nat) (pre post : List Value), a = ⟨b, off, none⟩ ∧ W.heap[b]? = some (.cells B fz.1 fz.2) ∧ B.toList = pre ++ xs.flatMap f ++ post ∧ pre.length = off := by
  obtain ⟨x0, hx0⟩ : ∃ x, xs[0]? = some x := ⟨_, List.getElem?_eq_getElem h0⟩
  have hc0 : ∀ j v, (f x0)[j]? = some v → W.cell? (a.add j) = some v := by
    have h1 := (cells_cell (h 0 x0 hx0)).2
    intro j v hv
    have := h1 j v hv
    rwa [Nat.zero_mul, show a.add 0 = a by unfold Addr.add; rfl] at this
  obtain ⟨v0, hv0⟩ : ∃ v, (f x0)[0]? = some v := ⟨_, List.getElem?_eq_getElem (by rw [hf]; exact hS)⟩
  have h1 := hc0 0 v0 hv0
  rw [show a.add 0 = a by unfold Addr.add; rfl] at h1
  obtain ⟨b, off, spot⟩ := a
  have hspot : spot = none := World.cell?_spot h1
  subst hspot
  have hB : ∃ B t fz, W.heap[b]? = some (.cells B t fz) := by
    unfold World.cell? at h1
    split at h1
    · rename_i c t fz hc; exact ⟨c, t, fz, hc⟩
    · cases h1
  obtain ⟨B, t, fz, hB⟩ := hB
  have hcell : ∀ (k : Nat) (v : Value), W.cell? ⟨b, k, none⟩ = some v → B[k]? = some v := by
    intro k v hv
    unfold World.cell? at hv
    rw [hB] at hv
    simpa using hv
  have hrow : (B.toList.drop off).take (xs.length * S) = xs.flatMap f := flat_of hf fun i x hx j v hv => by
    have h2 := (cells_cell (h i x hx)).2 j v hv
    rw [add_none, add_none] at h2
    have h3 := hcell _ v h2
    rw [List.getElem?_drop, Array.getElem?_toList, ← Nat.add_assoc]; exact h3
  have hoff : off ≤ B.toList.length := by
    have h4 := hcell off v0 h1
    have := (Array.getElem?_eq_some_iff.1 h4).1
    simp; omega
  refine ⟨b, off, B, (t, fz), B.toList.take off, (B.toList.drop off).drop (xs.length * S), rfl, hB, ?_, by rw [List.length_take]; omega⟩
  rw [← hrow, List.append_assoc, List.take_append_drop, List.take_append_drop]

theorem wAll_mem {P : Program} {e : TypeId} {d : DataW H} : ∀ {ds : List (DataW H)}, d ∈ ds → ∀ m ∈ d.weights P e, m ∈ DataW.weightsAll P e ds
  | x :: ds, h, m, hm => by
    simp only [DataW.weightsAll, List.mem_append]
    rcases List.mem_cons.1 h with rfl | h
    · exact .inl hm
    · exact .inr (wAll_mem h m hm)

/-- a slice, opened -/
theorem open_slice {α : Type} {f : α → List Value} {S : Nat} {T t e : TypeId} {Good : DataW H → α → Prop} (hf : ∀ x, (f x).length = S) (hS : 0 < S) (hu : P.underlying t = some (.slice e)) (hc : P.cellsOf e = S)
    (hel : ∀ n cs x, DataW.trod enc P W 0 (fun _ => true) true n e cs = some x → ∃ y, cs = f y ∧ Good x.1 y) {n : Nat} {cs : List Value} {x : DataW H × List MemPlace} (h : DataW.trod enc P W 0 (fun _ => true) true n t cs = some x) :
    ∃ (a : Option Addr) (m c : Nat) (xs : List α) (ds sp : List (DataW H)), cs = [.slice a m c] ∧ RIn f T [init W] a m c xs ∧ ds.length = m ∧ (∀ y ∈ xs, ∃ d ∈ ds, Good d y) ∧ ((x.1 = .nil ∧ ds = []) ∨ x.1 = .slice ds sp) := by
  rcases DataW.trod_slice hu h with ⟨rfl, rfl⟩ | ⟨a, len, cap, elems, rest, n', rfl, rfl, rfl, _, hlc, _, hel1, hel2, _, _⟩
  · exact ⟨none, 0, 0, [], [], [], rfl, RIn.nil, rfl, (fun _ h => by cases h), .inl ⟨rfl, rfl⟩⟩
  · rw [hc] at hel2
    have hi : ∀ i, i < len → ∃ (y : α) (e' : DataW H × List MemPlace), elems[i]? = some e' ∧ W.cells? 0 (a.add (i * S)) S = some (f y) ∧ Good e'.1 y := by
      intro i hi
      obtain ⟨e', he'⟩ : ∃ e', elems[i]? = some e' := ⟨_, List.getElem?_eq_getElem (by omega)⟩
      have h1 := hel2 i hi
      rw [he', Option.bind_eq_some_iff] at h1
      obtain ⟨cs', h2, h3⟩ := h1
      obtain ⟨y, rfl, hy⟩ := hel _ _ _ h3
      exact ⟨y, e', he', h2, hy⟩
    obtain ⟨xs, hxl, hxs⟩ : ∃ xs : List α, xs.length = len ∧ ∀ i y, xs[i]? = some y → ∃ e' : DataW H × List MemPlace, elems[i]? = some e' ∧ W.cells? 0 (a.add (i * S)) S = some (f y) ∧ Good e'.1 y := by
      have key : ∀ k, k ≤ len → ∃ xs : List α, xs.length = k ∧ ∀ i y, xs[i]? = some y → ∃ e' : DataW H × List MemPlace, elems[i]? = some e' ∧ W.cells? 0 (a.add (i * S)) S = some (f y) ∧ Good e'.1 y := by
        intro k
        induction k with
        | zero => exact fun _ => ⟨[], rfl, fun i y h => by simp at h⟩
        | succ k ih =>
          intro hk
          obtain ⟨xs, h1, h2⟩ := ih (by omega)
          obtain ⟨y, e', h3, h4, h5⟩ := hi k (by omega)
          refine ⟨xs ++ [y], by simp [h1], fun i z hz => ?_⟩
          rcases Nat.lt_or_ge i xs.length with hlt | hge
          · rw [List.getElem?_append_left hlt] at hz; exact h2 i z hz
          · rw [List.getElem?_append_right hge] at hz
            have h6 : i - xs.length = 0 := by have := (List.getElem?_eq_some_iff.1 hz).1; simp at this; omega
            rw [h6] at hz; simp at hz; subst hz
            obtain rfl : i = k := by omega
            exact ⟨e', h3, h4, h5⟩
      exact key len (Nat.le_refl _)
    refine ⟨some a, len, cap, xs, elems.map (·.1), rest.map (·.1), rfl, ⟨hxl.symm, hlc, ?_⟩, by rw [List.length_map, hel1], fun y hy => ?_, .inr rfl⟩
    · rcases Nat.eq_zero_or_pos len with h0 | h0
      · exact .inl ⟨List.length_eq_zero_iff.1 (by omega), fun h => by cases h⟩
      · obtain ⟨b, off, B, fz, pre, post, rfl, hB, hBl, hpo⟩ := row_of (W := W) hf hS (a := a) (xs := xs) (by omega) fun i x hx => by
          obtain ⟨_, _, h2, _⟩ := hxs i x hx; exact h2
        exact .inr ⟨b, off, B, fz, pre, post, rfl, fun w H => H.init_get hB, hBl, hpo⟩
    · obtain ⟨i, hi', rfl⟩ := List.mem_iff_getElem.1 hy
      obtain ⟨e', h1, _, h3⟩ := hxs i xs[i] (by simp)
      exact ⟨e'.1, List.mem_map.2 ⟨e', List.mem_of_getElem? h1, rfl⟩, h3⟩
end

section
variable {H : Type} {enc : TypeId × Value → H} {W : World}
abbrev okL (l : List Nat) : Prop := ∀ m ∈ l, m ≤ reachBytes
def goodW (d : DataW H) (y : Wr) : Prop := okL (d.weights Try.prog TWr) → y.key.size ≤ reachBytes ∧ y.val.size ≤ reachBytes
theorem open_w {n : Nat} {cs : List Value} {x : DataW H × List MemPlace} (h : DataW.trod enc Try.prog W 0 (fun _ => true) true n TWr cs = some x) : ∃ y, cs = wrc y ∧ goodW x.1 y := by
  obtain ⟨xs, m, rfl, rfl, hl, hxl, hf⟩ := DataW.trod_struct Try.underlying26 h
  have hl3 : cs.length = 3 := hl.trans (by kernel_rfl)
  have hx3 : xs.length = 3 := hxl
  obtain ⟨c0, c1, c2, rfl⟩ : ∃ c0 c1 c2, cs = [c0, c1, c2] := by
    match cs, hl3 with
    | [c0, c1, c2], _ => exact ⟨c0, c1, c2, rfl⟩
  obtain ⟨x0, x1, x2, rfl⟩ : ∃ x0 x1 x2, xs = [x0, x1, x2] := by
    match xs, hx3 with
    | [x0, x1, x2], _ => exact ⟨x0, x1, x2, rfl⟩
  have hs : Try.prog.cellsOf 9 = 1 := by kernel_rfl
  have hb : Try.prog.cellsOf 4 = 1 := by kernel_rfl
  have h0 := hf 0 _ rfl
  have h1 := hf 1 _ rfl
  have h2 := hf 2 _ rfl
  change DataW.trod _ _ _ _ _ _ _ 9 (([c0, c1, c2].drop 0).take (Try.prog.cellsOf 9)) = some x0 at h0
  change DataW.trod _ _ _ _ _ _ _ 9 (([c0, c1, c2].drop 1).take (Try.prog.cellsOf 9)) = some x1 at h1
  change DataW.trod _ _ _ _ _ _ _ 4 (([c0, c1, c2].drop 2).take (Try.prog.cellsOf 4)) = some x2 at h2
  rw [hs] at h0 h1
  rw [hb] at h2
  obtain ⟨s0, e0, r0, _⟩ := DataW.trod_string Try.underlying9 h0
  obtain ⟨s1, e1, r1, _⟩ := DataW.trod_string Try.underlying9 h1
  obtain ⟨b2, e2, r2⟩ := DataW.trod_bool Try.underlying4 h2
  simp at e0 e1 e2
  subst e0; subst e1; subst e2
  refine ⟨⟨s0, s1, b2⟩, rfl, fun hw => ?_⟩
  have r0' := (Prod.mk.inj r0).1
  have r1' := (Prod.mk.inj r1).1
  have hw' : okL (DataW.weightsEach Try.prog [9, 9, 4] [x0.1, x1.1, x2.1]) := by
    intro m hm
    refine hw m ?_
    simp only [DataW.weights, Try.underlying26]
    exact hm
  constructor
  · refine hw' s0.size (by rw [r0']; simp [DataW.weightsEach, DataW.weights])
  · refine hw' s1.size (by rw [r1']; simp [DataW.weightsEach, DataW.weights])
structure WsOk (a : Option Addr) (n c : Nat) (ws : List Wr) (W : World) : Prop where
  row : RIn wrc TWr [init W] a n c ws
  n : n ≤ reachBytes
  sz : ∀ y ∈ ws, y.key.size ≤ reachBytes ∧ y.val.size ≤ reachBytes
theorem weights_elem {t e : TypeId} (hu : Try.prog.underlying t = some (.slice e)) {ds sp : List (DataW H)} {x : DataW H} (hx : (x = .nil ∧ ds = []) ∨ x = .slice ds sp) (hw : okL (x.weights Try.prog t)) : (∀ d ∈ ds, okL (d.weights Try.prog e)) ∧ (ds = [] ∨ ds.length * Try.prog.bytesOf e ≤ reachBytes) := by
  rcases hx with ⟨rfl, rfl⟩ | rfl
  · exact ⟨fun d h => (by cases h), .inl rfl⟩
  · have h2 : (DataW.slice ds sp).weights Try.prog t = (ds.length + sp.length) * Try.prog.bytesOf e :: (DataW.weightsAll Try.prog e ds ++ DataW.weightsAll Try.prog e sp) := by simp only [DataW.weights, hu]
    rw [h2] at hw
    refine ⟨fun d hd m hm => hw m (List.mem_cons_of_mem _ (List.mem_append_left _ (wAll_mem hd m hm))), .inr ?_⟩
    have h3 := hw _ (List.mem_cons_self ..)
    exact Nat.le_trans (Nat.mul_le_mul_right _ (Nat.le_add_right _ _)) h3
theorem open_ws {n : Nat} {cs : List Value} {x : DataW H × List MemPlace} (h : DataW.trod enc Try.prog W 0 (fun _ => true) true n TSl cs = some x) : ∃ s : Sl, cs = slc s ∧ (okL (x.1.weights Try.prog TSl) → WsOk s.a s.n s.c s.ws W) := by
  obtain ⟨a, m, c, xs, ds, sp, rfl, hr, hdl, hg, hx⟩ := open_slice (T := TWr) (Good := goodW) wrc_len (by decide) Try.underlying22 (by kernel_rfl) (fun n cs x h => open_w h) h
  refine ⟨⟨a, m, c, xs⟩, rfl, fun hw => ?_⟩
  obtain ⟨h1, h2⟩ := weights_elem Try.underlying22 hx hw
  have hb : Try.prog.bytesOf 26 = 40 := by kernel_rfl
  rw [hb] at h2
  refine ⟨hr, ?_, fun y hy => ?_⟩
  · rcases h2 with h2 | h2
    · rw [← hdl, h2]; exact Nat.zero_le _
    · show m ≤ _; omega
  · obtain ⟨d, hd, hgd⟩ := hg y hy
    exact hgd (h1 d hd)
theorem reach62 : reachBytes ≤ 4611686018427387904 := by decide
theorem open_wss {n : Nat} {cs : List Value} {x : DataW H × List MemPlace} (h : DataW.trod enc Try.prog W 0 (fun _ => true) true n 36 cs = some x) : ∃ (a : Option Addr) (m c : Nat) (xs : List Sl), cs = [.slice a m c] ∧ (okL (x.1.weights Try.prog 36) → SlIn [init W] a m c xs ∧ m ≤ reachBytes) := by
  obtain ⟨a, m, c, xs, ds, sp, rfl, hr, hdl, hg, hx⟩ := open_slice (T := TSl) (Good := fun (d : DataW H) (s : Sl) => okL (d.weights Try.prog TSl) → WsOk s.a s.n s.c s.ws W) slc_len (by decide) Try.underlying36 (by kernel_rfl) (fun n cs x h => open_ws h) h
  refine ⟨a, m, c, xs, rfl, fun hw => ?_⟩
  obtain ⟨h1, h2⟩ := weights_elem Try.underlying36 hx hw
  have hb : Try.prog.bytesOf 22 = 24 := by kernel_rfl
  rw [hb] at h2
  have hr62 := reach62
  have hall : ∀ s ∈ xs, WsOk s.a s.n s.c s.ws W := fun s hs => by
    obtain ⟨d, hd, hgd⟩ := hg s hs
    exact hgd (h1 d hd)
  refine ⟨⟨hr, fun s hs => (hall s hs).row, fun s hs => ⟨Nat.le_trans (hall s hs).n hr62, fun y hy => Nat.le_trans ((hall s hs).sz y hy).1 hr62⟩⟩, ?_⟩
  rcases h2 with h2 | h2
  · rw [← hdl, h2]; exact Nat.zero_le _
  · omega
end

/-! ### the last step -/
theorem below_of {w w0 : World} {l : List HP} (H : Sat w (init w0 :: l)) : Below w0.heap.size w0 w := by
  have he := H.init_env
  refine ⟨(Prod.mk.inj he).1, (Prod.mk.inj (Prod.mk.inj he).2).2, (Prod.mk.inj (Prod.mk.inj he).2).1, H.size, fun k hk => ?_⟩
  have h1 : w0.heap[k]? = some w0.heap[k] := by simp [hk]
  rw [h1]; exact H.init_get h1
theorem laidOut : laidOutB Try.prog = true := by kernel_rfl
theorem ownK : ownKnob Try.prog.godebug = none := by kernel_rfl
theorem lt_of_trod {H : Type} {enc : TypeId × Value → H} {W : World} {t : TypeId} {v : Value} {d : DataW H} {p : List MemPlace} (h : DataW.Trod enc Try.prog W 0 (fun _ => true) true t v d p) : ∀ x ∈ p, x.block < W.heap.size := by
  obtain ⟨m, hm⟩ := h
  exact DataW.trod_lt m _ _ _ hm
end Go.Proofs.Ytbhbdpbhhfemhaa

/-
  The arguments of a law, opened: a commit; what the form's own reach says of the sizes.
-/
namespace Go.Proofs.Ytbhbdpbhhfemhaa
open Go Go.Proofs
open Go.ChangeShapes Go.WideShapes Go.ChangeAt Go.RowKit
set_option maxRecDepth 100000
set_option maxHeartbeats 4000000
set_option linter.unusedVariables false

/-- a commit, opened -/
theorem open_c {H : Type} {enc : TypeId × Value → H} {W : World} {n : Nat} {cs : List Value} {x : DataW H × List MemPlace} (h : DataW.trod enc Try.prog W 0 (fun _ => true) true n TCm cs = some x) : ∃ (sq tm : Int) (s : Sl), cs = [.int .i64 sq, .int .i64 tm, .slice s.a s.n s.c] ∧ (okL (x.1.weights Try.prog TCm) → WsOk s.a s.n s.c s.ws W) := by
  obtain ⟨xs, m, rfl, rfl, hl, hxl, hf⟩ := DataW.trod_struct Try.underlying33 h
  have hl3 : cs.length = 3 := hl.trans (by kernel_rfl)
  have hx3 : xs.length = 3 := hxl
  obtain ⟨c0, c1, c2, rfl⟩ : ∃ c0 c1 c2, cs = [c0, c1, c2] := by
    match cs, hl3 with
    | [c0, c1, c2], _ => exact ⟨c0, c1, c2, rfl⟩
  obtain ⟨x0, x1, x2, rfl⟩ : ∃ x0 x1 x2, xs = [x0, x1, x2] := by
    match xs, hx3 with
    | [x0, x1, x2], _ => exact ⟨x0, x1, x2, rfl⟩
  have hs : Try.prog.cellsOf 3 = 1 := by kernel_rfl
  have hb : Try.prog.cellsOf TSl = 1 := by kernel_rfl
  have h0 := hf 0 _ rfl
  have h1 := hf 1 _ rfl
  have h2 := hf 2 _ rfl
  change DataW.trod _ _ _ _ _ _ _ 3 (([c0, c1, c2].drop 0).take (Try.prog.cellsOf 3)) = some x0 at h0
  change DataW.trod _ _ _ _ _ _ _ 3 (([c0, c1, c2].drop 1).take (Try.prog.cellsOf 3)) = some x1 at h1
  change DataW.trod _ _ _ _ _ _ _ TSl (([c0, c1, c2].drop 2).take (Try.prog.cellsOf TSl)) = some x2 at h2
  rw [hs] at h0 h1
  rw [hb] at h2
  obtain ⟨s0, e0, r0, _⟩ := DataW.trod_int Try.underlying3 h0
  obtain ⟨s1, e1, r1, _⟩ := DataW.trod_int Try.underlying3 h1
  obtain ⟨s2, e2, hok⟩ := open_ws h2
  simp [slc] at e0 e1 e2
  subst e0; subst e1; subst e2
  refine ⟨s0, s1, s2, rfl, fun hw => hok fun m hm => hw m ?_⟩
  simp only [DataW.weights, Try.underlying33]
  show m ∈ DataW.weightsEach Try.prog [3, 3, TSl] [x0.1, x1.1, x2.1]
  simp only [DataW.weightsEach, List.mem_append]
  exact .inr (.inr (.inl hm))
theorem okL_at {H : Type} {ts : List TypeId} {ds : List (DataW H)} (h : (DataW.weightsEach Try.prog ts ds).all (· ≤ reachBytes) = true) {j : Nat} {t : TypeId} {d : DataW H} (ht : ts[j]? = some t) (hd : ds[j]? = some d) : okL (d.weights Try.prog t) := fun m hm => by
  have := List.all_eq_true.1 h m (DataW.weights_mem_each ht hd m hm)
  simpa using this
theorem reach63 : reachBytes ≤ 9223372036854775807 := by decide
theorem WsOk.big {a : Option Addr} {n c : Nat} {ws : List Wr} {W : World} (h : WsOk a n c ws W) : ∀ x ∈ ws, x.key.size ≤ 9223372036854775807 ∧ x.val.size ≤ 9223372036854775807 := fun x hx => ⟨Nat.le_trans (h.sz x hx).1 reach63, Nat.le_trans (h.sz x hx).2 reach63⟩

end Go.Proofs.Ytbhbdpbhhfemhaa

/-
  StoreKeys: the walk.
-/
namespace Go.Proofs.Ytbhbdpbhhfemhaa
open Go Go.Proofs
set_option maxRecDepth 100000
set_option maxHeartbeats 16000000
set_option linter.unusedVariables false

/-- a commit's writes of one key -/
def ownC (key : ByteArray) (c : Cmt) : Cmt := (c.1, c.2.1, c.2.2.filter fun x => decide (x.key = key))
theorem own_take {first : Int} {cms : List Cmt} (h : Takes first cms) (key : ByteArray) : Takes first (cms.map (ownC key)) := by
  have hg : ∀ (i : Nat) (c : Cmt), (cms.map (ownC key))[i]? = some c → ∃ d, cms[i]? = some d ∧ c = ownC key d := by
    intro i c hc
    rw [List.getElem?_map] at hc
    cases hd : cms[i]? with
    | none => rw [hd] at hc; cases hc
    | some d => rw [hd] at hc; cases hc; exact ⟨d, rfl, rfl⟩
  refine ⟨fun i c hc => ?_, fun i c hc => ?_, fun c hc => ?_, fun i c d hc hd => ?_⟩
  · obtain ⟨d, h1, rfl⟩ := hg i c hc; exact h.seq i d h1
  · obtain ⟨d, h1, rfl⟩ := hg i c hc; exact h.time i d h1
  · obtain ⟨d, h1, rfl⟩ := List.mem_map.1 hc
    have h2 := h.right d h1
    have hs : (d.2.2.filter fun x => decide (x.key = key)).Sublist d.2.2 := List.filter_sublist
    refine ⟨by have := hs.length_le; have h3 := h2.1; show ((d.2.2.filter fun x => decide (x.key = key)).length : Int) ≤ 200; omega, okTo_of (fun x hx => ?_) ((okTo_srt h2.2).sublist hs)⟩
    obtain ⟨i, hi, rfl⟩ := List.mem_iff_getElem.1 (hs.subset hx)
    obtain ⟨a1, a2, a3, a4, _⟩ := okTo_at h2.2 (i := i) (x := d.2.2[i]) (by simp)
    exact ⟨a1, a2, a3, a4⟩
  · obtain ⟨c', h1, rfl⟩ := hg i c hc
    obtain ⟨d', h2, rfl⟩ := hg (i + 1) d hd
    exact h.rise i c' d' h1 h2
theorem step_own (key k : ByteArray) : ∀ (ws : List Wr) (o : Option ByteArray), (ws.filter fun x => decide (x.key = key)).foldl (stepV k) o = if k = key then ws.foldl (stepV k) o else o
  | [], o => by simp
  | x :: ws, o => by
    by_cases hx : x.key = key
    · rw [List.filter_cons_of_pos (by simpa using hx), List.foldl_cons, List.foldl_cons, step_own key k ws]
      by_cases hk : k = key
      · rw [if_pos hk, if_pos hk]
      · rw [if_neg hk, if_neg hk]
        unfold stepV
        rw [if_neg (fun h => hk (h.symm.trans hx))]
    · rw [List.filter_cons_of_neg (by simpa using hx), step_own key k ws, List.foldl_cons]
      by_cases hk : k = key
      · rw [if_pos hk, if_pos hk]
        congr 1
        unfold stepV
        rw [if_neg (fun h => hx (h.trans hk))]
      · rw [if_neg hk, if_neg hk]
theorem own_valC (key k : ByteArray) (o : Option ByteArray) : ∀ (cms : List Cmt), valC o (cms.map (ownC key)) k = if k = key then valC o cms k else o := by
  intro cms
  unfold valC
  induction cms generalizing o with
  | nil => simp
  | cons c cms ih =>
    rw [List.map_cons, List.foldl_cons, List.foldl_cons, ih]
    show (if k = key then _ else ((c.2.2.filter fun x => decide (x.key = key)).foldl (stepV k) o)) = _
    by_cases hk : k = key
    · rw [if_pos hk, if_pos hk]
      congr 1
      show (c.2.2.filter fun x => decide (x.key = key)).foldl (stepV k) o = _
      rw [step_own, if_pos hk]
    · rw [if_neg hk, if_neg hk, step_own, if_neg hk]
theorem own_valA (key k : ByteArray) (q : Int) (cms : List Cmt) : valA [] (cms.map (ownC key)) q k = if k = key then valA [] cms q k else none := by
  unfold valA
  have h : (cms.map (ownC key)).takeWhile (fun c => decide (c.1 ≤ q)) = (cms.takeWhile fun c => decide (c.1 ≤ q)).map (ownC key) := by rw [List.takeWhile_map]; rfl
  rw [h, own_valC]; rfl
theorem base_one {S : SC} {N : Nat} (ok : S.Ok N) {q : Int} {key : ByteArray} (h : ∀ k, k ≠ key → atv (vsOf S.es k) q = none) : (baseL (ek S.es) q).length ≤ 1 := by
  have hs := base_srt ok q
  match hb : baseL (ek S.es) q with
  | [] => simp
  | [x] => simp
  | x :: y :: r =>
    exfalso
    have hk : ∀ z ∈ baseL (ek S.es) q, z.key = key := fun z hz => by
      have h1 := ((base_mem ok).1 hz).2
      exact Classical.byContradiction fun hn => by rw [h z.key hn] at h1; cases h1
    have h1 := hk x (by rw [hb]; simp)
    have h2 := hk y (by rw [hb]; simp)
    rw [hb] at hs
    have h3 := (List.pairwise_cons.1 hs).1 y (by simp)
    rw [h1, h2, slt_irrefl] at h3; cases h3

theorem StoreKeys_walk {w : World} {l : List HP} {a : Option Addr} {n c : Nat} {xs : List Sl} {key : ByteArray} (H : Sat w l) (hr : SlIn l a n c xs) (hk : key.size ≤ reachBytes) :
    Calls Try.prog 5 #[.slice a n c, .string key] w (Ret fun v w' => v = .bool true ∧ Sat w' l) := by
  have hln := slIn_len hr
  refine Calls.of_wp Try.func5 rfl Try.ntmps5 Try.results5 (Nat.le_of_ble_eq_true rfl) ?_
  refine WP.seq ?_
  refine WP.region ?_
  refine OpsE.val (x_assign (v := .bool _) rfl) ?_
  refine OpsE.nil ?_
  refine Then.normal ?_
  refine WP.seq ?_
  refine WP.seq ?_
  refine WP.region ?_
  refine OpsE.call (x_call (vl := []) rfl Try.call14) (head_spec H) ?_
  rintro _ w ⟨rfl, H⟩
  refine OpsE.val (x_not rfl) ?_
  refine OpsE.nil ?_
  refine Then.normal ?_
  refine WP.cond_f rfl rfl ?_
  refine WP.skip ?_
  refine Then.normal ?_
  refine WP.seq ?_
  refine WP.seq ?_
  refine WP.region ?_
  refine OpsE.val (x_move (v := .slice _ _ _) rfl) ?_
  refine OpsE.call (x_call (vl := [.slice _ _ _]) rfl Try.call21) (few_spec H) ?_
  rintro _ w ⟨rfl, H⟩
  by_cases c0 : (n : Int) ≤ 30
  · rw [decide_eq_true c0]
    refine OpsE.val (x_not rfl) ?_
    refine OpsE.val (x_move (v := .bool _) rfl) ?_
    refine OpsE.yes rfl ?_
    refine OpsE.val (x_move (v := .string key) rfl) ?_
    refine OpsE.yes rfl ?_
    refine OpsE.val (x_lenS rfl rfl Try.runUnderlying9) ?_
    refine OpsE.yes rfl ?_
    refine OpsE.val (x_gt rfl rfl) ?_
    by_cases c00 : (key.size : Int) > 60
    · rw [decide_eq_true c00]
      refine OpsE.val (x_pickF rfl rfl) ?_
      refine OpsE.nil ?_
      refine Then.normal ?_
      refine WP.cond_t rfl rfl ?_
      refine WP.seq ?_
      refine WP.region ?_
      refine OpsE.val (x_assign (v := .bool _) rfl) ?_
      refine OpsE.nil ?_
      refine Then.normal ?_
      refine WP.ret ?_
      refine Then.ret ?_
      refine Leave0.ret (v := .bool _) rfl ?_
      exact ⟨rfl, H⟩
    · rw [decide_eq_false c00]
      refine OpsE.val (x_pickF rfl rfl) ?_
      refine OpsE.nil ?_
      refine Then.normal ?_
      refine WP.cond_f rfl rfl ?_
      refine WP.skip ?_
      refine Then.normal ?_
      refine WP.seq ?_
      refine WP.region ?_
      refine OpsE.val (x_move (v := .slice _ _ _) rfl) ?_
      refine OpsE.call (x_call (vl := [.int .i64 _, .slice _ _ _]) rfl Try.call22) (List_spec (first := 1) H hr (by omega) (by decide)) ?_
      rintro _ w ⟨r, rfl, hlo, hro, hrw, H⟩
      refine OpsE.val (x_assign (v := .slice _ _ _) rfl) ?_
      refine OpsE.nil ?_
      refine Then.normal ?_
      refine WP.seq ?_
      refine WP.region ?_
      refine OpsE.val (x_move (v := .slice _ _ _) rfl) ?_
      have hlo' : ListOf (0 + 1) (xs.map Sl.ws) (r.xs.map cma) := hlo
      have htk := takes_list hlo' (by omega) (by decide)
      have hrl : r.xs.length = n := by rw [← hln, ← hlo.1, List.length_map]
      refine OpsE.call (x_call (vl := [.int .i64 _, .slice _ _ _, .slice _ _ _]) rfl Try.call23) (made_spec (first := 0) (bs := []) H RIn.nil (by decide) (goodN_nil (by decide)) (CIn.of_rw hro hrw) (by omega) (by rw [cm_ab]; exact htk) (fun _ h => by cases h)) ?_
      rintro _ w ⟨b, S, rfl, ok, hlow, hhist, hek, H⟩
      rw [cm_ab] at hhist hek
      obtain ⟨R, hR⟩ : ∃ R, R = (StP b S :: r.own cmc TCm :: stars (r.xs.map cmH) :: l) := ⟨_, rfl⟩
      have H0 : Sat w R := by rw [hR]; exact H
      clear H
      replace H := H0
      clear H0
      have i4 : RIn cmc TCm R r.ad r.xs.length r.cp r.xs := by rw [hR]; exact Rw.rin_own r hro
      have i5 : ∀ c ∈ r.xs, RIn wrc TWr R c.w.ad c.w.xs.length c.w.cp c.w.xs := by rw [hR]; exact fun c hc => rin_cm hc (hrw c hc)
      have i6 : ∀ c ∈ r.xs, c.w.xs.length ≤ 200 := fun c hc => right_len (htk.right (cma c) (List.mem_map.2 ⟨c, hc, rfl⟩))
      refine OpsE.val (x_move (v := .tuple _) rfl) ?_
      refine OpsE.val (x_extract (v := .pointer (some ⟨b, 0, none⟩)) rfl rfl) ?_
      refine OpsE.val (x_extract (v := .bool true) rfl rfl) ?_
      refine OpsE.val (x_assign (v := .pointer _) rfl) ?_
      refine OpsE.val (x_assign (v := .bool _) rfl) ?_
      refine OpsE.nil ?_
      refine Then.normal ?_
      refine WP.seq ?_
      refine WP.seq ?_
      refine WP.region ?_
      refine OpsE.val (x_move (v := .bool _) rfl) ?_
      refine OpsE.val (x_not rfl) ?_
      refine OpsE.nil ?_
      refine Then.normal ?_
      refine WP.cond_f rfl rfl ?_
      refine WP.skip ?_
      refine Then.normal ?_
      refine WP.seq ?_
      refine WP.region ?_
      refine OpsE.buildSlice0 CM.K H ?_
      intro g0 w H
      refine OpsE.val (x_assign (v := .slice _ _ _) rfl) ?_
      refine OpsE.nil ?_
      refine Then.normal ?_
      refine WP.seq ?_
      refine WP.seq ?_
      refine WP.region ?_
      refine OpsE.val (x_move (v := .slice r.ad r.xs.length r.cp) rfl) ?_
      refine OpsE.val (x_lenL rfl rfl Try.runUnderlying38) ?_
      refine OpsE.val (x_move (v := .int .i64 _) rfl) ?_
      refine OpsE.nil ?_
      refine Then.normal ?_
      refine WP.block ?_
      have H0 : Sat w ((⟨[], some (g0, 0, [])⟩ : Rw Cm).own cmc TCm :: stars (([] : List Cm).map cmH) :: R) := H.perm (by show _ = stars (pt g0 (.cells #[] TCm (0, 0)) :: HP.one :: R); simp only [stars_cons]; rw [HP.sep_comm HP.one, HP.sep_one])
      refine WP.loopS [8, 10, 11, 13, 43, 44, 45, 46, 47, 48, 49, 50, 51, 52, 53, 54, 55, 56, 57, 58, 59, 60, 61, 62, 63, 64, 65, 66, 67, 68, 69, 70, 71, 72, 73, 74] (fun (i : Nat) E w => ∃ o : Rw Cm, E 43 = .int .i64 (i : Int) ∧ E 8 = o.val ∧ i ≤ n ∧ o.xs.map cma = ((r.xs.take i).map cma).map (ownC key) ∧ o.Ok 3 ∧ (∀ c ∈ o.xs, c.w.Ok 3) ∧ Sat w (o.own cmc TCm :: stars (o.xs.map cmH) :: R)) (fun i => n - i) 0 ⟨⟨[], some (g0, 0, [])⟩, rfl, rfl, Nat.zero_le _, rfl, ⟨fun h => (by cases h), fun p h => by cases h; exact ⟨Nat.le_refl _, rfl⟩⟩, (fun _ h => by cases h), H0⟩ ?_
      clear H H0
      rintro i E1 w hs ⟨o, e43, e8, hin, hox, hoo, how, H⟩
      refine WP.seq ?_
      refine WP.region ?_
      refine OpsE.val (x_lt e43 (hs 42 rfl)) ?_
      by_cases hlt : (i : Int) < ((r.xs.length : Nat) : Int)
      · rw [decide_eq_true hlt]
        refine OpsE.nil ?_
        refine Then.normal ?_
        refine WP.seq ?_
        refine WP.cond_t rfl rfl ?_
        refine WP.skip ?_
        refine Then.normal ?_
        refine WP.seq ?_
        refine WP.block ?_
        refine WP.seq ?_
        obtain ⟨bb, off, B, fz, pre, post, had, hB, hBl, hpo⟩ := i4.some (by omega)
        obtain ⟨y, hy⟩ : ∃ y, r.xs[i]? = some y := ⟨_, List.getElem?_eq_getElem (by omega)⟩
        have hym := List.mem_of_getElem? hy
        have hyn := i6 y hym
        have hol : o.xs.length = i := by have := congrArg List.length hox; simp only [List.length_map, List.length_take] at this; omega
        refine WP.region ?_
        refine OpsE.val (x_indexAddro (i := i) (len := r.xs.length) (cap := r.cp) ((hs 41 rfl).trans (show Value.slice r.ad r.xs.length r.cp = _ by rw [had])) e43 Try.runUnderlying38 Try.sizeOf33 rfl (by omega)) ?_
        refine OpsE.val (x_loadA (vs := cmc y) rfl Try.isAgg33 Try.sizeOf33 (hB w H.tail.tail) (row_el cmc_len hBl hpo hy) rfl) ?_
        refine OpsE.allocA Try.zeroValue33 H ?_
        intro b10 w H
        refine OpsE.storeA (vs := cmc y) rfl rfl Try.sizeOf33 H (cmc_one y) (Nat.le_refl _) ?_
        intro w H
        refine OpsE.nil ?_
        refine Then.normal ?_
        refine WP.seq ?_
        refine WP.region ?_
        refine OpsE.val (x_fieldAddr0 rfl Try.runUnderlying33 rfl rfl Try.sizeOf3) ?_
        refine OpsE.val (x_load (v := .int .i64 y.seq) rfl Try.isAgg3 (H.look _) rfl) ?_
        refine OpsE.val (x_fieldAddr (o := 1) rfl Try.runUnderlying33 rfl rfl Try.sizeOf3) ?_
        refine OpsE.val (x_load (v := .int .i64 y.time) rfl Try.isAgg3 (H.look _) rfl) ?_
        refine OpsE.val (x_build3_2 (vl := [.int .i64 _, .int .i64 _]) rfl Try.zeroValue33 Try.runUnderlying33 Try.sizeOf3 Try.sizeOf3 Try.sizeOf22 rfl) ?_
        refine OpsE.allocA Try.zeroValue33 H ?_
        intro b11 w H
        refine OpsE.storeA (vs := cmc ⟨y.seq, y.time, ⟨[], none⟩⟩) rfl rfl Try.sizeOf33 H (cmc_one ⟨y.seq, y.time, ⟨[], none⟩⟩) (Nat.le_refl _) ?_
        intro w H
        refine OpsE.nil ?_
        refine Then.normal ?_
        refine WP.seq ?_
        refine WP.seq ?_
        refine WP.region ?_
        refine OpsE.val (x_fieldAddr (o := 2) rfl Try.runUnderlying33 rfl rfl Try.sizeOf22) ?_
        refine OpsE.val (x_load (v := .slice y.w.ad y.w.xs.length y.w.cp) rfl Try.isAgg22 (H.look _) rfl) ?_
        refine OpsE.val (x_lenL rfl rfl Try.runUnderlying22) ?_
        refine OpsE.val (x_move (v := .int .i64 _) rfl) ?_
        refine OpsE.nil ?_
        refine Then.normal ?_
        refine WP.block ?_
        have H0 : Sat w ((⟨[], none⟩ : Rw Wr).own wrc TWr :: pt b11 (.cells (cmc ⟨y.seq, y.time, ⟨[], none⟩⟩).toArray TCm (0, 0)) :: o.own cmc TCm :: stars (o.xs.map cmH) :: R) := sat_one.2 ((show Sat w (pt b11 (.cells (cmc ⟨y.seq, y.time, ⟨[], none⟩⟩).toArray TCm (0, 0)) :: pt b10 (.cells (cmc y).toArray TCm (0, 0)) :: o.own cmc TCm :: stars (o.xs.map cmH) :: R) from H).swap.tail)
        refine WP.loopS [13, 55, 56, 57, 58, 59, 60, 61, 62, 63, 64, 65, 66, 67, 68, 69] (fun (k : Nat) E w => ∃ d : Rw Wr, E 55 = .int .i64 (k : Int) ∧ k ≤ y.w.xs.length ∧ d.xs = (y.w.xs.take k).filter (fun x => decide (x.key = key)) ∧ d.Ok 3 ∧ Sat w (d.own wrc TWr :: pt b11 (.cells (cmc ⟨y.seq, y.time, d⟩).toArray TCm (0, 0)) :: o.own cmc TCm :: stars (o.xs.map cmH) :: R)) (fun k => y.w.xs.length - k) 0 ⟨⟨[], none⟩, rfl, Nat.zero_le _, rfl, Rw.empty_ok, H0⟩ ?_
        clear H H0
        rintro k E2 w hs2 ⟨d, e55, hkl, hdx, hdo, H⟩
        refine WP.seq ?_
        refine WP.region ?_
        refine OpsE.val (x_lt e55 (hs2 54 rfl)) ?_
        by_cases hlt2 : (k : Int) < ((y.w.xs.length : Nat) : Int)
        · rw [decide_eq_true hlt2]
          refine OpsE.nil ?_
          refine Then.normal ?_
          refine WP.seq ?_
          refine WP.cond_t rfl rfl ?_
          refine WP.skip ?_
          refine Then.normal ?_
          refine WP.seq ?_
          refine WP.block ?_
          refine WP.seq ?_
          obtain ⟨bb3, off3, B3, fz3, pre3, post3, had3, hB3, hBl3, hpo3⟩ := (i5 y hym).some (by omega)
          obtain ⟨x, hx⟩ : ∃ x, y.w.xs[k]? = some x := ⟨_, List.getElem?_eq_getElem (by omega)⟩
          have hdl : d.xs.length ≤ 200 := by rw [hdx]; exact Nat.le_trans (List.length_filter_le _ _) (by rw [List.length_take]; omega)
          refine WP.region ?_
          refine OpsE.val (x_indexAddro (i := k) (len := y.w.xs.length) (cap := y.w.cp) ((hs2 53 rfl).trans (show Value.slice y.w.ad y.w.xs.length y.w.cp = _ by rw [had3])) e55 Try.runUnderlying22 Try.sizeOf26 rfl (by omega)) ?_
          refine OpsE.val (x_loadA (vs := wrc x) rfl Try.isAgg26 Try.sizeOf26 (hB3 w H.tail.tail.tail.tail) (row_el wrc_len hBl3 hpo3 hx) rfl) ?_
          refine OpsE.allocA Try.zeroValue26 H ?_
          intro b13 w H
          refine OpsE.storeA (vs := wrc x) rfl rfl Try.sizeOf26 H (wrc_one x) (Nat.le_refl _) ?_
          intro w H
          refine OpsE.nil ?_
          refine Then.normal ?_
          refine WP.seq ?_
          refine WP.region ?_
          refine OpsE.val (x_fieldAddr0 rfl Try.runUnderlying26 rfl rfl Try.sizeOf9) ?_
          refine OpsE.val (x_load (v := .string x.key) rfl Try.isAgg9 (H.look _) rfl) ?_
          refine OpsE.val (x_move (v := .string key) ((hs2 1 rfl).trans (hs 1 rfl))) ?_
          refine OpsE.val (x_eqS rfl rfl) ?_
          refine OpsE.nil ?_
          refine Then.normal ?_
          refine WP.cond rfl (fun hkey => ?_) (fun hkey => ?_)
          · skip
            replace H : Sat w (pt b13 (.cells (wrc x).toArray TWr (0, 0)) :: d.own wrc TWr :: pt b11 (.cells (cmc ⟨y.seq, y.time, d⟩).toArray TCm (0, 0)) :: o.own cmc TCm :: stars (o.xs.map cmH) :: R) := H
            refine WP.region ?_
            refine OpsE.val (x_fieldAddr (o := 2) (hs2 11 rfl) Try.runUnderlying33 rfl rfl Try.sizeOf22) ?_
            refine OpsE.val (x_load (v := d.val) rfl Try.isAgg22 (H.look _) rfl) ?_
            refine OpsE.val (x_loadA (vs := wrc x) rfl Try.isAgg26 Try.sizeOf26 (H.look _) rfl rfl) ?_
            refine OpsE.buildSlice1 (vs := wrc x) KW (by decide) rfl rfl rfl (by decide) H ?_
            intro sg w H
            refine OpsE.append_rw (f := wrc) (r := d) (ys := [x]) rfl KW wrc_len wrc_one rfl rfl H hdo (H.look sg) (by simp) rfl (by decide) (by omega) (by omega) ?_
            intro d2 w hh1 hh2 hh3 H
            refine OpsE.val (x_fieldAddr (o := 2) (hs2 11 rfl) Try.runUnderlying33 rfl rfl Try.sizeOf22) ?_
            refine OpsE.store (v := .slice _ _ _) rfl rfl rfl rfl Try.sizeOf22 H (by show 2 < 3; decide) ?_
            intro w H
            refine OpsE.nil ?_
            refine InBlock.normal ?_
            refine Then.normal ?_
            refine WP.region ?_
            refine OpsE.val (x_add (z := ((k + 1 : Nat) : Int)) e55 rfl (by rw [i64n (by omega) (by omega)]; omega)) ?_
            refine OpsE.val (x_move (v := .int .i64 _) rfl) ?_
            refine OpsE.nil ?_
            refine Then.normal ?_
            refine ⟨rfl, (by repeat (first | exact hs2 | refine Same.upd ?_ rfl)), k + 1, by omega, d2, rfl, by omega, ?_, hh2, ?_⟩
            · rw [hh1, hdx, List.take_add_one, hx, List.filter_append]
              rw [Option.toList_some, List.filter_cons_of_pos (p := fun x : Wr => decide (x.key = key)) hkey]; rfl
            · have h0 : Sat w (pt b11 (.cells (cmc ⟨y.seq, y.time, d2⟩).toArray TCm (0, 0)) :: d2.own wrc TWr :: pt sg (.cells (wrc x).toArray TWr (0, 0)) :: pt b13 (.cells (wrc x).toArray TWr (0, 0)) :: o.own cmc TCm :: stars (o.xs.map cmH) :: R) := H
              have h1 := (h0.take (pt sg (.cells (wrc x).toArray TWr (0, 0)))).tail
              have h2 := (h1.take (pt b13 (.cells (wrc x).toArray TWr (0, 0)))).tail
              exact h2.swap
          · skip
            refine WP.skip ?_
            refine InBlock.normal ?_
            refine Then.normal ?_
            refine WP.region ?_
            refine OpsE.val (x_add (z := ((k + 1 : Nat) : Int)) e55 rfl (by rw [i64n (by omega) (by omega)]; omega)) ?_
            refine OpsE.val (x_move (v := .int .i64 _) rfl) ?_
            refine OpsE.nil ?_
            refine Then.normal ?_
            refine ⟨rfl, (by repeat (first | exact hs2 | refine Same.upd ?_ rfl)), k + 1, by omega, d, rfl, by omega, ?_, hdo, H.tail⟩
            rw [hdx, List.take_add_one, hx, List.filter_append]
            rw [Option.toList_some, List.filter_cons_of_neg (p := fun x : Wr => decide (x.key = key)) (by rw [hkey]; simp)]; simp
        · rw [decide_eq_false hlt2]
          refine OpsE.nil ?_
          refine Then.normal ?_
          refine WP.seq ?_
          refine WP.cond_f rfl rfl ?_
          refine WP.exit ?_
          refine Then.exit ?_
          refine Then.exit ?_
          refine InBlock.hit ?_
          refine Then.normal ?_
          have hke : k = y.w.xs.length := by omega
          rw [hke, List.take_length] at hdx
          obtain ⟨cm, hcm⟩ : ∃ cm : Cm, cm = ⟨y.seq, y.time, d⟩ := ⟨_, rfl⟩
          have H0 : Sat w (o.own cmc TCm :: pt b11 (.cells (cmc cm).toArray TCm (0, 0)) :: d.own wrc TWr :: stars (o.xs.map cmH) :: R) := by rw [hcm]; exact H.perm (by simp only [stars_cons]; ac_rfl)
          replace H := H0
          clear H0
          refine WP.region ?_
          refine OpsE.val (x_move (v := o.val) ((hs2 8 rfl).trans e8)) ?_
          refine OpsE.val (x_loadA (vs := cmc cm) (hs2 11 rfl) Try.isAgg33 Try.sizeOf33 (H.look _) rfl rfl) ?_
          refine OpsE.buildSlice1 (vs := cmc cm) CM.K (by decide) rfl rfl rfl (by decide) H ?_
          intro g w H
          refine OpsE.append_rw (f := cmc) (r := o) (ys := [cm]) rfl CM.K cmc_len cmc_one rfl rfl H hoo (H.look g) (by simp) rfl (by decide) (by omega) (by omega) ?_
          intro o2 w hh1 hh2 hh3 H
          refine OpsE.val (x_assign (v := .slice _ _ _) rfl) ?_
          refine OpsE.nil ?_
          refine InBlock.normal ?_
          refine Then.normal ?_
          refine WP.region ?_
          refine OpsE.val (x_add (z := ((i + 1 : Nat) : Int)) ((hs2 43 rfl).trans e43) rfl (by rw [i64n (by omega) (by omega)]; omega)) ?_
          refine OpsE.val (x_move (v := .int .i64 _) rfl) ?_
          refine OpsE.nil ?_
          refine Then.normal ?_
          refine ⟨rfl, (by repeat (first | exact hs | refine Same.upd ?_ rfl | refine Same.sub hs2 ?_ rfl)), i + 1, by omega, o2, rfl, rfl, by omega, ?_, hh2, fun c' hc' => ?_, ?_⟩
          · rw [hh1, List.take_add_one, hy, List.map_append, List.map_append, List.map_append, hox, hcm]
            show _ ++ [(y.seq, y.time, d.xs)] = _ ++ [ownC key (cma y)]
            rw [hdx]; rfl
          · rw [hh1] at hc'
            rcases List.mem_append.1 hc' with h | h
            · exact how c' h
            · rcases List.mem_singleton.1 h with rfl
              rw [hcm]; exact hdo
          · have h1 := (H.take (pt g (.cells (cmc cm).toArray TCm (0, 0)))).tail
            have h2 := (h1.take (pt b11 (.cells (cmc cm).toArray TCm (0, 0)))).tail
            have h3 := Rw.freeze (h2.take (d.own wrc TWr))
            exact h3.perm (by
              have e1 : stars (o2.xs.map cmH) = HP.sep (stars (o.xs.map cmH)) (d.ror wrc TWr) := by
                rw [hh1, List.map_append, stars_append, show stars ([cm].map cmH) = HP.sep (cmH cm) HP.one from rfl, HP.sep_one, hcm]; rfl
              simp only [stars_cons]
              rw [e1]
              ac_rfl)
      · rw [decide_eq_false hlt]
        refine OpsE.nil ?_
        refine Then.normal ?_
        refine WP.seq ?_
        refine WP.cond_f rfl rfl ?_
        refine WP.exit ?_
        refine Then.exit ?_
        refine Then.exit ?_
        refine InBlock.hit ?_
        refine Then.normal ?_
        refine WP.seq ?_
        have hie : i = r.xs.length := by omega
        rw [hie, List.take_length] at hox
        have hol : o.xs.length = n := by have := congrArg List.length hox; simp only [List.length_map] at this; omega
        have hto := own_take htk key
        refine WP.region ?_
        refine OpsE.val (x_move (v := o.val) e8) ?_
        refine OpsE.call (x_call (vl := [.int .i64 _, .slice _ _ _, .slice _ _ _]) rfl Try.call23) (made_spec (first := 0) (bs := []) H RIn.nil (by decide) (goodN_nil (by decide)) (CIn.of_rw hoo how) (by omega) (by rw [cm_ab, hox]; exact hto) (fun _ h => by cases h)) ?_
        rintro _ w ⟨b2, S2, rfl, ok2, hlow2, hhist2, hek2, H⟩
        rw [cm_ab, hox] at hhist2 hek2
        have H0 : Sat w (StP b S :: StP b2 S2 :: o.own cmc TCm :: stars (o.xs.map cmH) :: r.own cmc TCm :: stars (r.xs.map cmH) :: l) := by rw [hR] at H; exact H.perm (by simp only [stars_cons]; ac_rfl)
        clear H
        replace H := H0
        clear H0
        refine OpsE.val (x_move (v := .tuple _) rfl) ?_
        refine OpsE.val (x_extract (v := .pointer (some ⟨b2, 0, none⟩)) rfl rfl) ?_
        refine OpsE.val (x_extract (v := .bool true) rfl rfl) ?_
        refine OpsE.val (x_assign (v := .pointer _) rfl) ?_
        refine OpsE.val (x_assign (v := .bool _) rfl) ?_
        refine OpsE.nil ?_
        refine Then.normal ?_
        refine WP.seq ?_
        refine WP.seq ?_
        refine WP.region ?_
        refine OpsE.val (x_move (v := .bool _) rfl) ?_
        refine OpsE.val (x_not rfl) ?_
        refine OpsE.nil ?_
        refine Then.normal ?_
        refine WP.cond_f rfl rfl ?_
        refine WP.skip ?_
        refine Then.normal ?_
        refine WP.seq ?_
        refine WP.seq ?_
        refine WP.region ?_
        refine OpsE.val (x_assign (v := .int .i64 _) rfl) ?_
        refine OpsE.nil ?_
        refine Then.normal ?_
        refine WP.block ?_
        refine WP.loopS [4, 16, 17, 18, 19, 20, 82, 83, 84, 85, 86, 87, 88, 89, 90, 91, 92, 93, 94, 95, 96, 97, 98, 99, 100, 101, 102, 103, 104, 105, 106, 107, 108, 109, 110, 111, 112, 113, 114, 115, 116] (fun (j : Nat) E w => E 16 = .int .i64 (j : Int) ∧ j ≤ n + 1 ∧ Sat w (StP b S :: StP b2 S2 :: o.own cmc TCm :: stars (o.xs.map cmH) :: r.own cmc TCm :: stars (r.xs.map cmH) :: l)) (fun j => n + 1 - j) 0 ⟨rfl, Nat.zero_le _, H⟩ ?_
        clear H
        rintro j E2 w hs2 ⟨e16, hjn, H⟩
        refine WP.seq ?_
        refine WP.seq ?_
        refine WP.region ?_
        refine OpsE.val (x_move (v := .int .i64 _) e16) ?_
        refine OpsE.val (x_move (v := .slice r.ad r.xs.length r.cp) ((hs2 5 rfl).trans (hs 5 rfl))) ?_
        refine OpsE.val (x_lenL rfl rfl Try.runUnderlying38) ?_
        refine OpsE.val (x_le rfl rfl) ?_
        by_cases hle : (j : Int) ≤ ((r.xs.length : Nat) : Int)
        · rw [decide_eq_true hle]
          refine OpsE.nil ?_
          refine Then.normal ?_
          refine WP.cond_t rfl rfl ?_
          refine WP.skip ?_
          refine Then.normal ?_
          refine WP.seq ?_
          refine WP.block ?_
          refine WP.seq ?_
          have hv1 : atv (vsOf S.es key) (j : Int) = valA [] (r.xs.map cma) (j : Int) key := atv_st hek (takes_rise htk) (by omega) key
          have hv2 : ∀ k, atv (vsOf S2.es k) (j : Int) = if k = key then valA [] (r.xs.map cma) (j : Int) k else none := fun k => by rw [atv_st hek2 (takes_rise hto) (by omega) k, own_valA]
          have hv3 : atv (vsOf S2.es key) (j : Int) = valA [] (r.xs.map cma) (j : Int) key := by rw [hv2, if_pos rfl]
          obtain ⟨s1, b1, hat⟩ : ∃ s1 b1, atT (valA [] (r.xs.map cma) (j : Int) key) = .tuple #[.string s1, .bool b1] := by cases valA [] (r.xs.map cma) (j : Int) key <;> exact ⟨_, _, rfl⟩
          refine WP.region ?_
          refine OpsE.val (x_move (v := .pointer (some ⟨b, 0, none⟩)) ((hs2 6 rfl).trans (hs 6 rfl))) ?_
          refine OpsE.val (x_move (v := .string key) ((hs2 1 rfl).trans (hs 1 rfl))) ?_
          refine OpsE.val (x_move (v := .int .i64 (j : Int)) e16) ?_
          have hG := SGet_spec (key := key) (q := (j : Int)) (StP.open.1 H) ok
          rw [hv1, hat] at hG
          refine OpsE.call (x_call (vl := [.pointer _, .string _, .int .i64 _]) rfl Try.call28) hG ?_
          rintro _ w ⟨rfl, H⟩
          replace H := (StP.open.2 H).swap
          refine OpsE.val (x_move (v := .tuple _) rfl) ?_
          refine OpsE.val (x_extract (v := .string s1) rfl rfl) ?_
          refine OpsE.val (x_extract (v := .bool b1) rfl rfl) ?_
          refine OpsE.val (x_assign (v := .string _) rfl) ?_
          refine OpsE.val (x_assign (v := .bool _) rfl) ?_
          refine OpsE.nil ?_
          refine Then.normal ?_
          refine WP.seq ?_
          refine WP.region ?_
          refine OpsE.val (x_move (v := .pointer (some ⟨b2, 0, none⟩)) (hs2 14 rfl)) ?_
          refine OpsE.val (x_move (v := .string key) ((hs2 1 rfl).trans (hs 1 rfl))) ?_
          refine OpsE.val (x_move (v := .int .i64 (j : Int)) e16) ?_
          have hG := SGet_spec (key := key) (q := (j : Int)) (StP.open.1 H) ok2
          rw [hv3, hat] at hG
          refine OpsE.call (x_call (vl := [.pointer _, .string _, .int .i64 _]) rfl Try.call28) hG ?_
          rintro _ w ⟨rfl, H⟩
          replace H := StP.open.2 H
          refine OpsE.val (x_move (v := .tuple _) rfl) ?_
          refine OpsE.val (x_extract (v := .string s1) rfl rfl) ?_
          refine OpsE.val (x_extract (v := .bool b1) rfl rfl) ?_
          refine OpsE.val (x_assign (v := .string _) rfl) ?_
          refine OpsE.val (x_assign (v := .bool _) rfl) ?_
          refine OpsE.nil ?_
          refine Then.normal ?_
          refine WP.seq ?_
          refine WP.region ?_
          refine OpsE.val (x_move (v := .string s1) rfl) ?_
          refine OpsE.val (x_move (v := .string s1) rfl) ?_
          refine OpsE.val (x_neS rfl rfl) ?_
          rw [decide_eq_false (fun h => h rfl)]
          refine OpsE.val (x_move (v := .bool _) rfl) ?_
          refine OpsE.yes rfl ?_
          refine OpsE.val (x_move (v := .bool b1) rfl) ?_
          refine OpsE.yes rfl ?_
          refine OpsE.val (x_move (v := .bool b1) rfl) ?_
          refine OpsE.yes rfl ?_
          refine OpsE.val (x_neB rfl rfl Try.runUnderlying4) ?_
          rw [(show (!(b1 == b1)) = false by simp)]
          refine OpsE.val (x_pickF rfl rfl) ?_
          refine OpsE.val (x_move (v := .bool _) rfl) ?_
          refine OpsE.yes rfl ?_
          refine OpsE.val (x_move (v := .pointer (some ⟨b2, 0, none⟩)) (hs2 14 rfl)) ?_
          refine OpsE.yes rfl ?_
          refine OpsE.val (x_move (v := .int .i64 (j : Int)) e16) ?_
          refine OpsE.yes rfl ?_
          refine OpsE.call (x_call (vl := [.pointer _, .int .i64 _]) rfl Try.call29) (Base_spec H ok2) ?_
          rintro _ w ⟨g, rfl, hg1, hg2, H⟩
          refine OpsE.yes rfl ?_
          refine OpsE.val (x_lenL rfl rfl Try.runUnderlying22) ?_
          refine OpsE.yes rfl ?_
          refine OpsE.val (x_gt rfl rfl) ?_
          rw [decide_eq_false (by have := base_one (q := (j : Int)) ok2 (fun k hk => by rw [hv2, if_neg hk]); rw [hg1]; omega)]
          refine OpsE.val (x_pickF rfl rfl) ?_
          refine OpsE.nil ?_
          refine Then.normal ?_
          refine WP.cond_f rfl rfl ?_
          refine WP.skip ?_
          refine InBlock.normal ?_
          refine Then.normal ?_
          refine WP.region ?_
          refine OpsE.val (x_move (v := .int .i64 _) e16) ?_
          refine OpsE.val (x_add (z := ((j + 1 : Nat) : Int)) rfl rfl (by rw [i64n (by omega) (by omega)]; omega)) ?_
          refine OpsE.val (x_assign (v := .int .i64 _) rfl) ?_
          refine OpsE.nil ?_
          refine Then.normal ?_
          exact ⟨rfl, (by repeat (first | exact hs2 | refine Same.upd ?_ rfl)), j + 1, by omega, rfl, by omega, H.tail.swap⟩
        · rw [decide_eq_false hle]
          refine OpsE.nil ?_
          refine Then.normal ?_
          refine WP.cond_f rfl rfl ?_
          refine WP.exit ?_
          refine Then.exit ?_
          refine Then.exit ?_
          refine InBlock.hit ?_
          refine Then.normal ?_
          refine WP.seq ?_
          refine WP.region ?_
          refine OpsE.val (x_assign (v := .bool _) rfl) ?_
          refine OpsE.nil ?_
          refine Then.normal ?_
          refine WP.ret ?_
          refine Leave0.ret (v := .bool _) rfl ?_
          exact ⟨rfl, H.tail.tail.tail.tail.tail.tail⟩
  · rw [decide_eq_false c0]
    refine OpsE.val (x_not rfl) ?_
    refine OpsE.val (x_move (v := .bool _) rfl) ?_
    refine OpsE.no rfl ?_
    refine OpsE.no rfl ?_
    refine OpsE.no rfl ?_
    refine OpsE.val (x_pickT rfl rfl) ?_
    refine OpsE.nil ?_
    refine Then.normal ?_
    refine WP.cond_t rfl rfl ?_
    refine WP.seq ?_
    refine WP.region ?_
    refine OpsE.val (x_assign (v := .bool _) rfl) ?_
    refine OpsE.nil ?_
    refine Then.normal ?_
    refine WP.ret ?_
    refine Then.ret ?_
    refine Leave0.ret (v := .bool _) rfl ?_
    exact ⟨rfl, H⟩
end Go.Proofs.Ytbhbdpbhhfemhaa

/-
  How many versions a store keeps; a store begun anew of what there was behind a commit. And two operations on numbers.
-/
namespace Go.Proofs.Ytbhbdpbhhfemhaa
open Go Go.Proofs
set_option maxHeartbeats 2000000
set_option linter.unusedVariables false

section
variable {P : Program} {N : Nat} {ops : Array Oper} {Q : Post} {rest : List Oper} {E : Env} {ds : List Deferred} {w : World} {ty T yt : TypeId} {x y : Operand} {d : Nat} {pos : String} {af : Array Edge}
theorem OpsE.andM {z : Int} {m : Nat} (hx : evE E x = .int .i64 z) (hy : evE E y = .int .i64 (m : Int)) (hm : m ≤ 4611686018427387904) (k : ∀ r : Nat, r ≤ m → OpsE P N ops Q rest (upd N E d (.int .i64 (r : Int))) ds w) :
    OpsE P N ops Q (⟨some d, .binOp .and T x y yt, ty, pos, af, none⟩ :: rest) E ds w := by
  have hb : (BitVec.ofInt 64 (m : Int)).toNat = m := by
    rw [BitVec.toNat_ofInt]
    have : ((m : Int) % ((2 ^ 64 : Nat) : Int)).toNat = m := by
      rw [Int.emod_eq_of_lt (by omega) (by have : ((2 ^ 64 : Nat) : Int) = 18446744073709551616 := by decide
                                           omega)]
      omega
    exact this
  obtain ⟨r, hr, hrm⟩ : ∃ r : Nat, r = (BitVec.ofInt 64 z &&& BitVec.ofInt 64 (m : Int)).toNat ∧ r ≤ m := ⟨_, rfl, by rw [BitVec.toNat_and, hb]; exact Nat.and_le_right⟩
  refine OpsE.val (v := .int .i64 (r : Int)) ?_ (k r hrm)
  have hw : IntKind.i64.wrap (r : Int) = (r : Int) := i64n (by omega) (by omega)
  have h1 : (Op.intBits .and .i64 z (m : Int)).run P w = .ok (.int .i64 (IntKind.i64.wrap ((BitVec.ofInt 64 z &&& BitVec.ofInt 64 (m : Int)).toNat : Int))) w := rfl
  rw [← hr, hw] at h1
  simp [xop, execOp, hx, hy, eqGuard, binOp, h1]
theorem x_rem {a b : Nat} (hx : evE E x = .int .i64 (a : Int)) (hy : evE E y = .int .i64 (b : Int)) (hb : 0 < b) : (xop E (.binOp .rem T x y yt) ty).run P w = .ok (.value (.int .i64 ((a % b : Nat) : Int))) w := by
  have h0 : ¬ (b : Int) = 0 := by omega
  have h1 : (Op.intDiv .rem .i64 (a : Int) (b : Int)).run P w = .ok (.int .i64 ((a % b : Nat) : Int)) w := by
    unfold Op.intDiv
    rw [if_neg h0]; rfl
  simp [xop, execOp, hx, hy, eqGuard, binOp, h1]
end

/-- two sorted lists with the same members are one -/
theorem srt_ext {α : Type} {key : α → ByteArray} : ∀ {l m : List α}, Srt key l → Srt key m → (∀ x, x ∈ l ↔ x ∈ m) → l = m
  | [], [], _, _, _ => rfl
  | [], b :: m, _, _, h => by have := (h b).2 (by simp); cases this
  | a :: l, [], _, _, h => by have := (h a).1 (by simp); cases this
  | a :: l, b :: m, hl, hm, h => by
    obtain ⟨hl1, hl2⟩ := List.pairwise_cons.1 hl
    obtain ⟨hm1, hm2⟩ := List.pairwise_cons.1 hm
    have e : a = b := by
      rcases List.mem_cons.1 ((h a).1 (by simp)) with e | ha
      · exact e
      · rcases List.mem_cons.1 ((h b).2 (by simp)) with e | hb
        · exact e.symm
        · have h1 := hl1 b hb
          have h2 := hm1 a ha
          rw [slt_asymm h1] at h2; cases h2
    subst e
    rw [srt_ext hl2 hm2 fun x => ?_]
    constructor
    · intro hx
      rcases List.mem_cons.1 ((h x).1 (by simp [hx])) with rfl | hx'
      · have := hl1 x hx; rw [slt_irrefl] at this; cases this
      · exact hx'
    · intro hx
      rcases List.mem_cons.1 ((h x).2 (by simp [hx])) with rfl | hx'
      · have := hm1 x hx; rw [slt_irrefl] at this; cases this
      · exact hx'

abbrev SrtK (ks : List KVs) : Prop := ks.Pairwise (fun a b => slt a.1 b.1 = true)
def kl (ks : List KVs) : List (ByteArray × Nat) := ks.map fun k => (k.1, k.2.length)
theorem vcount_kl (ks : List KVs) : vcount ks = ((kl ks).map (·.2)).sum := by unfold vcount kl; rw [List.map_map]; rfl
theorem vcount_eq {ks ks' : List KVs} (h : SrtK ks) (h' : SrtK ks') (n : ∀ k ∈ ks, k.2 ≠ []) (n' : ∀ k ∈ ks', k.2 ≠ []) (hl : ∀ k, (vsK ks k).length = (vsK ks' k).length) : vcount ks = vcount ks' := by
  have key : ∀ {ks ks' : List KVs}, SrtK ks → SrtK ks' → (∀ k ∈ ks, k.2 ≠ []) → (∀ k, (vsK ks k).length = (vsK ks' k).length) → ∀ x, x ∈ kl ks → x ∈ kl ks' := by
    intro ks ks' h h' n hl x hx
    obtain ⟨kv, hkv, rfl⟩ := List.mem_map.1 hx
    have h1 := vsK_mem h hkv
    have h2 := hl kv.1
    rw [h1] at h2
    have h3 : vsK ks' kv.1 ≠ [] := fun e => by rw [e] at h2; exact n kv hkv (List.length_eq_zero_iff.1 h2)
    exact List.mem_map.2 ⟨_, vsK_some h3, by rw [h2]⟩
  have e : kl ks = kl ks' := srt_ext (key := Prod.fst) (List.pairwise_map.2 h) (List.pairwise_map.2 h') fun x => ⟨key h h' n hl x, key h' h n' (fun k => (hl k).symm) x⟩
  rw [vcount_kl, vcount_kl, e]
theorem putK_srt {ks : List KVs} (h : SrtK ks) (kv : KVs) : SrtK (putK ks kv) := by
  unfold putK
  refine List.pairwise_append.2 ⟨h.sublist List.filter_sublist, List.pairwise_cons.2 ⟨fun b hb => (List.mem_filter.1 hb).2, h.sublist List.filter_sublist⟩, fun a ha b hb => ?_⟩
  have h1 := (List.mem_filter.1 ha).2
  rcases List.mem_cons.1 hb with rfl | hb
  · exact h1
  · exact slt_trans h1 (List.mem_filter.1 hb).2
theorem vcount_put {ks : List KVs} (h : SrtK ks) (kv : KVs) : vcount (putK ks kv) + (vsK ks kv.1).length = vcount ks + kv.2.length := by
  unfold putK
  have hsum : ∀ (a b : List KVs), vcount (a ++ b) = vcount a + vcount b := fun a b => by unfold vcount; rw [List.map_append, List.sum_append]
  have hcons : ∀ (a : KVs) (b : List KVs), vcount (a :: b) = a.2.length + vcount b := fun a b => by unfold vcount; simp
  rw [hsum, hcons]
  suffices hh : vcount (ks.filter fun e => slt e.1 kv.1) + vcount (ks.filter fun e => slt kv.1 e.1) + (vsK ks kv.1).length = vcount ks by omega
  induction ks with
  | nil => rfl
  | cons x ks ih =>
    obtain ⟨h1, h2⟩ := List.pairwise_cons.1 h
    have ih := ih h2
    unfold vsK at ih ⊢
    rcases slt_tri x.1 kv.1 with e | e | e
    · rw [List.filter_cons_of_pos (by exact e), List.filter_cons_of_neg (by rw [slt_asymm e]; simp), List.find?_cons_of_neg (by simpa using slt_ne e), hcons, hcons]
      omega
    · have hgt : ∀ y ∈ ks, slt kv.1 y.1 = true := fun y hy => by rw [← e]; exact h1 y hy
      have hnone : ks.find? (fun k => decide (k.1 = kv.1)) = none := List.find?_eq_none.2 fun y hy => by simpa using (slt_ne (hgt y hy)).symm
      rw [List.filter_cons_of_neg (by rw [e, slt_irrefl]; simp), List.filter_cons_of_neg (by rw [e, slt_irrefl]; simp), List.find?_cons_of_pos (by simpa using e), hcons]
      rw [hnone] at ih
      simp only [Option.map_none, Option.getD_none, List.length_nil, Option.map_some, Option.getD_some] at ih ⊢
      omega
    · rw [List.filter_cons_of_neg (by rw [slt_asymm e]; simp), List.filter_cons_of_pos (by exact e), List.find?_cons_of_neg (by simpa using (slt_ne e).symm), hcons, hcons]
      omega
theorem adds_srt (seq : Int) : ∀ (ws : List Wr) {ks : List KVs}, SrtK ks → SrtK (ws.foldl (addK seq) ks)
  | [], _, h => h
  | x :: ws, _, h => adds_srt seq ws (putK_srt h _)
theorem news_srt (seq : Int) : ∀ (ws : List Wr) {ks : List KVs}, SrtK ks → SrtK (ws.foldl (newK seq) ks)
  | [], _, h => h
  | x :: ws, _, h => news_srt seq ws (putK_srt h _)
theorem st_srt (first : Int) (b : List Wr) (cms : List Cmt) : SrtK (stK first b cms) := by
  unfold stK
  have h := news_srt first b (ks := []) List.Pairwise.nil
  generalize b.foldl (newK first) [] = ks at h
  induction cms generalizing ks with
  | nil => exact h
  | cons c cms ih => exact ih _ (adds_srt c.1 c.2.2 h)
theorem adds_count (seq : Int) : ∀ (ws : List Wr) {ks : List KVs}, SrtK ks → vcount (ws.foldl (addK seq) ks) = vcount ks + ws.length
  | [], _, _ => rfl
  | x :: ws, ks, h => by
    have e1 := adds_count seq ws (ks := addK seq ks x) (putK_srt h _)
    rw [List.foldl_cons, e1]
    have := vcount_put h (x.key, vsK ks x.key ++ [⟨seq, x.val, x.gone⟩])
    unfold addK
    simp only [List.length_append, List.length_cons, List.length_nil] at this ⊢
    omega
theorem news_count (seq : Int) : ∀ (ws : List Wr) {ks : List KVs}, SrtK ks → ws.Pairwise (fun a b => a.key ≠ b.key) → (∀ x ∈ ws, vsK ks x.key = []) → vcount (ws.foldl (newK seq) ks) = vcount ks + ws.length
  | [], _, _, _, _ => rfl
  | x :: ws, ks, h, hp, hn => by
    obtain ⟨h1, h2⟩ := List.pairwise_cons.1 hp
    have e1 := news_count seq ws (ks := newK seq ks x) (putK_srt h _) h2 fun y hy => by
      rw [vsK_new, if_neg (h1 y hy)]; exact hn y (by simp [hy])
    rw [List.foldl_cons, e1]
    · have := vcount_put h (x.key, [⟨seq, x.val, false⟩])
      rw [show vsK ks (x.key, [(⟨seq, x.val, false⟩ : Ver)]).1 = [] from hn x (by simp)] at this
      unfold newK
      simp only [List.length_cons, List.length_nil] at this ⊢
      omega
def wcount (cms : List Cmt) : Nat := (cms.map fun c => c.2.2.length).sum
theorem st_count (first : Int) {b : List Wr} (cms : List Cmt) (hb : Srt Wr.key b) : vcount (stK first b cms) = b.length + wcount cms := by
  unfold stK
  have h := news_srt first b (ks := []) List.Pairwise.nil
  have h2 := news_count first b (ks := []) List.Pairwise.nil (hb.imp fun h => slt_ne h) (fun _ _ => rfl)
  rw [show vcount ([] : List KVs) = 0 from rfl, Nat.zero_add] at h2
  rw [← h2]
  generalize b.foldl (newK first) [] = ks at h
  clear h2
  induction cms generalizing ks with
  | nil => rfl
  | cons c cms ih =>
    rw [List.foldl_cons, ih _ (adds_srt c.1 c.2.2 h), adds_count c.1 c.2.2 h]
    unfold wcount
    simp only [List.map_cons, List.sum_cons]
    omega

/-! ### begun anew -/
theorem valC_app (o : Option ByteArray) (a b : List Cmt) (k : ByteArray) : valC o (a ++ b) k = valC (valC o a k) b k := by unfold valC; rw [List.foldl_append]
theorem takeWhile_drop {cms : List Cmt} {at_ : Nat} {q : Int} (h : ∀ c ∈ cms.take at_, c.1 ≤ q) : cms.takeWhile (fun c => decide (c.1 ≤ q)) = cms.take at_ ++ (cms.drop at_).takeWhile fun c => decide (c.1 ≤ q) := by
  conv => lhs; rw [← List.take_append_drop at_ cms]
  rw [List.takeWhile_append_of_pos fun c hc => decide_eq_true (h c hc)]
theorem valA_split {b : List Wr} {cms : List Cmt} {at_ : Nat} {q : Int} {k : ByteArray} (h : ∀ (i : Nat) (c : Cmt), cms[i]? = some c → c.1 = 0 + 1 + i) (hq : (at_ : Int) ≤ q) : valA b cms q k = valC (valA b cms at_ k) ((cms.drop at_).takeWhile fun c => decide (c.1 ≤ q)) k := by
  have ht : ∀ c ∈ cms.take at_, c.1 ≤ (at_ : Int) := fun c hc => by
    obtain ⟨i, hi, rfl⟩ := List.mem_take_iff_getElem.1 hc
    have := h i _ (List.getElem?_eq_getElem (by omega)); omega
  have hd : ∀ c ∈ cms.drop at_, decide (c.1 ≤ (at_ : Int)) = false := fun c hc => by
    obtain ⟨i, hi, rfl⟩ := List.mem_drop_iff_getElem.1 hc
    have := h (at_ + i) cms[at_ + i] (by simp)
    exact decide_eq_false (by omega)
  unfold valA
  rw [takeWhile_drop (at_ := at_) (fun c hc => Int.le_trans (ht c hc) hq), takeWhile_drop (at_ := at_) ht]
  have e : (cms.drop at_).takeWhile (fun c => decide (c.1 ≤ (at_ : Int))) = [] := by
    cases hh : cms.drop at_ with
    | nil => rfl
    | cons c r => rw [List.takeWhile_cons, hd c (by rw [hh]; simp)]; rfl
  rw [e, List.append_nil, valC_app]
/-- what there was behind a commit, as the base of a store -/
structure IsBase (b' : List Wr) (f : ByteArray → Option ByteArray) : Prop where
  srt : Srt Wr.key b'
  mem : ∀ x, x ∈ b' ↔ x.gone = false ∧ f x.key = some x.val
theorem valB_base {b' : List Wr} {f : ByteArray → Option ByteArray} (h : IsBase b' f) (k : ByteArray) : valB b' k = f k := by
  have key : ∀ (l : List Wr) (o : Option ByteArray), l.Pairwise (fun a b => a.key ≠ b.key) → l.foldl (fun o x => if x.key = k then some x.val else o) o = match l.find? (fun x => decide (x.key = k)) with | some x => some x.val | none => o := by
    intro l
    induction l with
    | nil => exact fun _ _ => rfl
    | cons x l ih =>
      intro o hp
      obtain ⟨h1, h2⟩ := List.pairwise_cons.1 hp
      rw [List.foldl_cons, ih _ h2]
      by_cases hx : x.key = k
      · rw [if_pos hx, List.find?_cons_of_pos (by simpa using hx), List.find?_eq_none.2 fun y hy => by simpa using fun e => h1 y hy (hx.trans e.symm)]
      · rw [if_neg hx, List.find?_cons_of_neg (by simpa using hx)]
  unfold valB
  rw [key b' none (h.srt.imp fun h => slt_ne h)]
  cases hf : b'.find? fun x => decide (x.key = k) with
  | none =>
    cases hk : f k with
    | none => rfl
    | some v =>
      have h1 := List.find?_eq_none.1 hf ⟨k, v, false⟩ ((h.mem ⟨k, v, false⟩).2 ⟨rfl, hk⟩)
      simp at h1
  | some x =>
    have h1 := List.mem_of_find?_eq_some hf
    have h2 : x.key = k := by simpa using List.find?_some hf
    have h3 := ((h.mem x).1 h1).2
    rw [h2] at h3; rw [h3]
theorem valA_anew {b b' : List Wr} {cms : List Cmt} {at_ : Nat} {q : Int} (h : ∀ (i : Nat) (c : Cmt), cms[i]? = some c → c.1 = 0 + 1 + i) (hq : (at_ : Int) ≤ q) (hb : IsBase b' (valA b cms at_)) (k : ByteArray) : valA b' (cms.drop at_) q k = valA b cms q k := by
  rw [valA_split (at_ := at_) h hq]
  show valC (valB b' k) _ k = _
  rw [valB_base hb]
/-- where a value comes from -/
theorem valA_from {b : List Wr} {cms : List Cmt} {q : Int} {k v : ByteArray} (h : valA b cms q k = some v) : ∃ x, x.key = k ∧ x.val = v ∧ (x ∈ b ∨ ∃ c ∈ cms, x ∈ c.2.2) := by
  have h1 : ∀ (ws : List Wr) (o : Option ByteArray), ws.foldl (stepV k) o = some v → o = some v ∨ ∃ x ∈ ws, x.key = k ∧ x.val = v := by
    intro ws
    induction ws with
    | nil => exact fun o h => .inl h
    | cons x ws ih =>
      intro o h
      rcases ih _ h with h2 | ⟨y, hy, h2⟩
      · unfold stepV at h2
        by_cases hx : x.key = k
        · rw [if_pos hx] at h2
          by_cases hg : x.gone = true
          · rw [if_pos hg] at h2; cases h2
          · rw [if_neg hg] at h2; cases h2; exact .inr ⟨x, by simp, hx, rfl⟩
        · rw [if_neg hx] at h2; exact .inl h2
      · exact .inr ⟨y, by simp [hy], h2⟩
  have h2 : ∀ (l : List Cmt) (o : Option ByteArray), valC o l k = some v → o = some v ∨ ∃ c ∈ l, ∃ x ∈ c.2.2, x.key = k ∧ x.val = v := by
    intro l
    induction l with
    | nil => exact fun o h => .inl h
    | cons c l ih =>
      intro o h
      rcases ih (c.2.2.foldl (stepV k) o) h with h3 | ⟨c', hc', h3⟩
      · rcases h1 _ _ h3 with h4 | ⟨x, hx, h4⟩
        · exact .inl h4
        · exact .inr ⟨c, by simp, x, hx, h4⟩
      · exact .inr ⟨c', by simp [hc'], h3⟩
  have h3 : ∀ (l : List Wr) (o : Option ByteArray), l.foldl (fun o x => if x.key = k then some x.val else o) o = some v → o = some v ∨ ∃ x ∈ l, x.key = k ∧ x.val = v := by
    intro l
    induction l with
    | nil => exact fun o h => .inl h
    | cons x l ih =>
      intro o h
      rcases ih _ h with h4 | ⟨y, hy, h4⟩
      · dsimp only at h4
        by_cases hx : x.key = k
        · rw [if_pos hx] at h4; cases h4; exact .inr ⟨x, by simp, hx, rfl⟩
        · rw [if_neg hx] at h4; exact .inl h4
      · exact .inr ⟨y, by simp [hy], h4⟩
  unfold valA at h
  rcases h2 _ _ h with h4 | ⟨c, hc, x, hx, hk, hv⟩
  · rcases h3 b none h4 with h5 | ⟨x, hx, hk, hv⟩
    · cases h5
    · exact ⟨x, hk, hv, .inl hx⟩
  · exact ⟨x, hk, hv, .inr ⟨c, (List.takeWhile_sublist _).subset hc, hx⟩⟩
theorem base_is {S : SC} {N : Nat} (ok : S.Ok N) {q : Int} {f : ByteArray → Option ByteArray} (h : ∀ k, atv (vsOf S.es k) q = f k) : IsBase (baseL (ek S.es) q) f :=
  ⟨base_srt ok q, fun x => by rw [← h]; exact base_mem ok⟩
theorem base_good {b b' : List Wr} {cms : List Cmt} {q : Int} (hb : IsBase b' (valA b cms q)) (h0 : 0 ≤ q ∧ q ≤ 1099511627776) (hok : ∀ x ∈ b, x.key ≠ ⟨#[]⟩ ∧ x.key.size ≤ 400 ∧ x.val.size ≤ 4096) (hc : ∀ c ∈ cms, rightB c.2.2) : goodN q b' := by
  refine ⟨h0.1, h0.2, okTo_of (fun x hx => ?_) hb.srt, fun x hx => ((hb.mem x).1 hx).1⟩
  obtain ⟨hg, hv⟩ := (hb.mem x).1 hx
  obtain ⟨y, hy1, hy2, hy3⟩ := valA_from hv
  have hyok : y.key ≠ ⟨#[]⟩ ∧ y.key.size ≤ 400 ∧ y.val.size ≤ 4096 := by
    rcases hy3 with h | ⟨c, hcm, h⟩
    · exact hok y h
    · obtain ⟨i, hi, rfl⟩ := List.mem_iff_getElem.1 h
      obtain ⟨a1, a2, a3, _⟩ := okTo_at (hc c hcm).2 (i := i) (x := c.2.2[i]) (by simp)
      exact ⟨a1, a2, a3⟩
  rw [hy1, hy2] at hyok
  exact ⟨hyok.1, hyok.2.1, hyok.2.2, fun h => by rw [hg] at h; cases h⟩
theorem base_len {b b' : List Wr} {cms : List Cmt} {q : Int} (hb : IsBase b' (valA b cms q)) : b'.length ≤ b.length + wcount cms := by
  have h := nodup_le (l := b'.map Wr.key) (m := b.map Wr.key ++ cms.flatMap fun c => c.2.2.map Wr.key) (List.pairwise_map.2 (hb.srt.imp fun h => slt_ne h)) fun k hk => by
    obtain ⟨x, hx, rfl⟩ := List.mem_map.1 hk
    obtain ⟨y, hy1, _, hy3⟩ := valA_from ((hb.mem x).1 hx).2
    rw [← hy1]
    rcases hy3 with h | ⟨c, hc, h⟩
    · exact List.mem_append.2 (.inl (List.mem_map.2 ⟨y, h, rfl⟩))
    · exact List.mem_append.2 (.inr (List.mem_flatMap.2 ⟨c, hc, List.mem_map.2 ⟨y, h, rfl⟩⟩))
  rw [List.length_map, List.length_append, List.length_map, List.length_flatMap] at h
  unfold wcount
  simpa using h
theorem wcount_le {cms : List Cmt} (h : ∀ c ∈ cms, rightB c.2.2) : wcount cms ≤ cms.length * 200 := by
  unfold wcount
  induction cms with
  | nil => simp
  | cons c cms ih =>
    have := ih fun c hc => h c (by simp [hc])
    have h2 := right_len (h c (by simp))
    simp only [List.map_cons, List.sum_cons, List.length_cons]
    omega

/-! ### what a vacuum leaves -/
theorem cutN_le (vs : List Ver) (q : Int) : cutN vs q ≤ bh vs q := by
  unfold cutN
  cases (upto vs q).getLast? with
  | none => exact Nat.zero_le _
  | some v => dsimp only; split <;> omega
theorem atv_cut {vs : List Ver} (hs : vs.Pairwise (fun a b => a.seq < b.seq)) {q0 q : Int} (hq : q0 ≤ q) : atv (cutv vs q0) q = atv vs q := by
  obtain ⟨n, hn⟩ : ∃ n, cutN vs q0 = n := ⟨_, rfl⟩
  have hnl := cutN_le vs q0
  have hut := upto_take hs q0
  have hbl := bh_le vs q0
  have hA : ∀ v ∈ vs.take n, v.seq ≤ q0 := fun v hv => by
    have h1 : v ∈ vs.take (bh vs q0) := by
      have h2 : vs.take n = (vs.take (bh vs q0)).take n := by rw [List.take_take, Nat.min_eq_left (by omega)]
      rw [h2] at hv; exact List.mem_of_mem_take hv
    rw [← hut] at h1
    simpa using (List.mem_filter.1 h1).2
  have e1 : upto vs q = vs.take n ++ upto (cutv vs q0) q := by
    unfold cutv
    rw [hn]
    conv => lhs; rw [← List.take_append_drop n vs]
    rw [upto_app]
    congr 1
    exact List.filter_eq_self.2 fun v hv => by have := hA v hv; simp; omega
  rw [atv_last, atv_last, e1, lastV_app]
  cases hB : upto (cutv vs q0) q with
  | cons v r =>
    unfold lastV
    have : (v :: r).getLast? ≠ none := by simp
    cases h : (v :: r).getLast? with
    | none => exact absurd h this
    | some z => rfl
  | nil =>
    rw [lastV_nil, lastV_nil]
    symm
    unfold cutN at hn
    cases hl : (upto vs q0).getLast? with
    | none =>
      rw [hl] at hn; dsimp only at hn; subst hn; rfl
    | some z =>
      rw [hl] at hn
      dsimp only at hn
      by_cases hg : z.gone = true
      · rw [if_pos hg] at hn
        subst hn
        rw [← hut]
        unfold lastV
        rw [hl]; dsimp only; rw [if_pos hg]
      · rw [if_neg hg] at hn
        exfalso
        have hb0 : bh vs q0 ≠ 0 := fun h0 => by
          rw [hut, h0] at hl; simp at hl
        rw [hut, last_take hb0 hbl] at hl
        have hzm : z ∈ cutv vs q0 := by
          unfold cutv
          rw [show cutN vs q0 = n by unfold cutN; rw [hut, last_take hb0 hbl, hl]; dsimp only; rw [if_neg hg]; exact hn]
          exact List.mem_of_getElem? (i := 0) (by rw [List.getElem?_drop, Nat.add_zero, ← hn]; exact hl)
        have hzq : z.seq ≤ q := by
          have h1 : z ∈ upto vs q0 := by rw [hut]; exact List.mem_of_getElem? (i := bh vs q0 - 1) (by rw [List.getElem?_take, if_pos (by omega)]; exact hl)
          have := (List.mem_filter.1 h1).2
          simp at this; omega
        have : z ∈ upto (cutv vs q0) q := List.mem_filter.2 ⟨hzm, by simpa using hzq⟩
        rw [hB] at this; cases this
theorem cutv_nil (q : Int) : cutv [] q = [] := rfl
theorem vac_vs {S S' : SC} {N N' : Nat} (ok : S.Ok N) (ok' : S'.Ok N') {q : Int} (h : ∀ k vs, (k, vs) ∈ ek S'.es ↔ vs ≠ [] ∧ ∃ vs0, (k, vs0) ∈ ek S.es ∧ vs = cutv vs0 q) (k : ByteArray) : vsK (ek S'.es) k = cutv (vsK (ek S.es) k) q := by
  by_cases h0 : cutv (vsK (ek S.es) k) q = []
  · rw [h0]
    cases hh : vsK (ek S'.es) k with
    | nil => rfl
    | cons v r =>
      have h1 := vsK_some (ks := ek S'.es) (k := k) (by rw [hh]; simp)
      obtain ⟨h2, vs0, h3, h4⟩ := (h _ _).1 h1
      have h5 := vsK_mem (ek_srt ok) h3
      dsimp only at h5
      rw [h5, ← h4] at h0
      exact absurd h0 h2
  · have h1 : vsK (ek S.es) k ≠ [] := fun e => h0 (by rw [e]; rfl)
    have h2 := (h k (cutv (vsK (ek S.es) k) q)).2 ⟨h0, _, vsK_some h1, rfl⟩
    exact vsK_mem (ek_srt ok') h2
theorem ek_ne {S : SC} {N : Nat} (ok : S.Ok N) : ∀ k ∈ ek S.es, k.2 ≠ [] := fun k hk => by
  obtain ⟨e, he, rfl⟩ := List.mem_map.1 hk
  exact (ok.es e he).1.ne
/-- so many versions are left of a key as a store begun anew has -/
theorem cut_len {b b' : List Wr} {cms : List Cmt} {at_ : Nat} (h : ∀ (i : Nat) (c : Cmt), cms[i]? = some c → c.1 = 0 + 1 + i) (hb : IsBase b' (valA b cms at_)) (k : ByteArray) : (cutv (verA 0 b cms k) at_).length = (verA at_ b' (cms.drop at_) k).length := by
  have hup : upto (verA 0 b cms k) at_ = verB 0 k b ++ (cms.take at_).flatMap fun c => verW c.1 k c.2.2 := by
    unfold verA
    rw [upto_app]
    congr 1
    · unfold verB
      cases valB b k with
      | none => rfl
      | some v => unfold upto; rw [List.filter_cons_of_pos (by simp)]; rfl
    · conv => lhs; rw [← List.take_append_drop at_ cms]
      rw [List.flatMap_append, upto_app]
      have e1 : upto ((cms.take at_).flatMap fun c => verW c.1 k c.2.2) (at_ : Int) = (cms.take at_).flatMap fun c => verW c.1 k c.2.2 := List.filter_eq_self.2 fun v hv => by
        obtain ⟨c, hc, hv⟩ := List.mem_flatMap.1 hv
        obtain ⟨x, _, rfl⟩ := List.mem_map.1 hv
        obtain ⟨i, hi, rfl⟩ := List.mem_take_iff_getElem.1 hc
        have := h i _ (List.getElem?_eq_getElem (by omega))
        simp; omega
      have e2 : upto ((cms.drop at_).flatMap fun c => verW c.1 k c.2.2) (at_ : Int) = [] := List.filter_eq_nil_iff.2 fun v hv => by
        obtain ⟨c, hc, hv⟩ := List.mem_flatMap.1 hv
        obtain ⟨x, _, rfl⟩ := List.mem_map.1 hv
        obtain ⟨i, hi, rfl⟩ := List.mem_drop_iff_getElem.1 hc
        have := h (at_ + i) cms[at_ + i] (by simp)
        simp; omega
      rw [e1, e2, List.append_nil]
  have hsplit : verA 0 b cms k = upto (verA 0 b cms k) at_ ++ (cms.drop at_).flatMap fun c => verW c.1 k c.2.2 := by
    rw [hup]
    unfold verA
    rw [List.append_assoc, ← List.flatMap_append, List.take_append_drop]
  have hat : lastV none (upto (verA 0 b cms k) at_) = valB b' k := by
    rw [valB_base hb, ← atv_last]
    exact atv_verA (seq_rise h) (by omega) k
  have hlen : (verA at_ b' (cms.drop at_) k).length = (verB at_ k b').length + ((cms.drop at_).flatMap fun c => verW c.1 k c.2.2).length := by unfold verA; rw [List.length_append]
  rw [hlen]
  unfold cutv
  rw [List.length_drop]
  have htot : (verA 0 b cms k).length = bh (verA 0 b cms k) at_ + ((cms.drop at_).flatMap fun c => verW c.1 k c.2.2).length := by
    conv => lhs; rw [hsplit]
    rw [List.length_append]; rfl
  rw [htot]
  unfold lastV at hat
  unfold cutN
  unfold verB
  cases hl : (upto (verA 0 b cms k) at_).getLast? with
  | none =>
    rw [hl] at hat
    dsimp only at hat ⊢
    rw [← hat]
    rw [List.getLast?_eq_none_iff] at hl
    have : bh (verA 0 b cms k) at_ = 0 := by unfold bh; rw [hl]; rfl
    rw [this]; simp
  | some z =>
    rw [hl] at hat
    dsimp only at hat ⊢
    have hpos : 0 < bh (verA 0 b cms k) at_ := by
      unfold bh
      rcases Nat.eq_zero_or_pos (upto (verA 0 b cms k) at_).length with h0 | h0
      · rw [List.length_eq_zero_iff.1 h0] at hl; cases hl
      · exact h0
    by_cases hg : z.gone = true
    · rw [if_pos hg] at hat ⊢
      rw [← hat]; simp
    · rw [if_neg hg] at hat ⊢
      rw [← hat]
      simp only [List.length_cons, List.length_nil]
      omega
end Go.Proofs.Ytbhbdpbhhfemhaa

/-
  StoreAgain: the walk.
-/
namespace Go.Proofs.Ytbhbdpbhhfemhaa
open Go Go.Proofs
set_option maxRecDepth 100000
set_option maxHeartbeats 16000000
set_option linter.unusedVariables false

/-- the base that the laws make -/
theorem there_ok {ws L : List Wr} (h : SomeOf ws L) : (∀ x ∈ L.filter (fun x => !x.gone), x.key ≠ ⟨#[]⟩ ∧ x.key.size ≤ 400 ∧ x.val.size ≤ 4096) ∧ Srt Wr.key (L.filter fun x => !x.gone) ∧ (L.filter fun x => !x.gone).length ≤ 12 := by
  refine ⟨fun x hx => ?_, h.1.sublist List.filter_sublist, Nat.le_trans (List.length_filter_le _ _) (some_len h)⟩
  obtain ⟨y, _, rfl⟩ := some_mem h (List.mem_filter.1 hx).1
  obtain ⟨h1, h2, h3, _⟩ := trimW_ok y
  exact ⟨h1, by omega, by omega⟩
theorem there_good {ws L : List Wr} (h : SomeOf ws L) {seq : Int} (h0 : 0 ≤ seq ∧ seq ≤ 1099511627776) : goodN seq (L.filter fun x => !x.gone) := by
  obtain ⟨h1, h2, _⟩ := there_ok h
  have hg : ∀ x ∈ L.filter (fun x => !x.gone), x.gone = false := fun x hx => by simpa using (List.mem_filter.1 hx).2
  exact ⟨h0.1, h0.2, okTo_of (fun x hx => ⟨(h1 x hx).1, (h1 x hx).2.1, (h1 x hx).2.2, fun hgo => by rw [hg x hx] at hgo; cases hgo⟩) h2, hg⟩
theorem there_big {ws L : List Wr} (h : SomeOf ws L) : ∀ x ∈ L.filter (fun x => !x.gone), x.key.size ≤ 9223372036854775807 ∧ x.val.size ≤ 9223372036854775807 := fun x hx => by
  have := (there_ok h).1 x hx; omega
theorem good_big {seq : Int} {b : List Wr} (h : goodN seq b) : ∀ x ∈ b, x.key.size ≤ 9223372036854775807 ∧ x.val.size ≤ 9223372036854775807 := fun x hx => by
  obtain ⟨i, hi, rfl⟩ := List.mem_iff_getElem.1 hx
  obtain ⟨_, a2, a3, _⟩ := okTo_at h.2.2.1 (i := i) (x := b[i]) (by simp)
  omega
theorem take_drop {cms : List Cmt} (h : Takes 0 cms) (at_ : Nat) : Takes at_ (cms.drop at_) := by
  have hg : ∀ (i : Nat), (cms.drop at_)[i]? = cms[at_ + i]? := fun i => List.getElem?_drop
  refine ⟨fun i c hc => ?_, fun i c hc => ?_, fun c hc => h.right c (List.mem_of_mem_drop hc), fun i c d hc hd => ?_⟩
  · rw [hg] at hc; have := h.seq _ c hc; omega
  · rw [hg] at hc; exact h.time _ c hc
  · rw [hg] at hc hd; exact h.rise _ c d hc hd
theorem CIn.drop {P : Program} {T : TypeId} {l : List HP} {a : Option Addr} {n c k : Nat} {xs : List CmV} (h : CIn l a n c xs) (hu : ∀ w, (underlying T).run P w = .ok (.slice TCm) w) (hs : ∀ w, (sizeOf TCm).run P w = .ok 3 w) (hk : k ≤ n) :
    ∃ a', (∀ (E : Env) (x lo : Operand) (ty : TypeId) (ki : IntKind) w, evE E x = .slice a n c → evE E lo = .int ki (k : Int) → (xop E (.slice T x (some lo) none none) ty).run P w = .ok (.value (.slice a' (n - k) (c - k))) w) ∧ CIn l a' (n - k) (c - k) (xs.drop k) := by
  obtain ⟨a', h1, h2⟩ := rin_slice cvc_len h.row hu hs hk
  exact ⟨a', h1, h2, fun x hx => h.ws x (List.mem_of_mem_drop hx)⟩

theorem StoreAgain_walk {w : World} {l : List HP} {a a3 : Option Addr} {n c n3 c3 : Nat} {xs : List Sl} {ws : List Wr} {z : Int} (H : Sat w l) (hr : SlIn l a n c xs) (h3 : RIn wrc TWr l a3 n3 c3 ws) (hk : ∀ x ∈ ws, x.key.size ≤ 4611686018427387904) (hn3 : n3 ≤ 4611686018427387904) (hz : -9223372036854775808 ≤ z ∧ z ≤ 9223372036854775807) :
    Calls Try.prog 7 #[.slice a3 n3 c3, .slice a n c, .int .i64 z] w (Ret fun v w' => v = .bool true ∧ Sat w' l) := by
  have hln := slIn_len hr
  refine Calls.of_wp Try.func7 rfl Try.ntmps7 Try.results7 (Nat.le_of_ble_eq_true rfl) ?_
  refine WP.seq ?_
  refine WP.region ?_
  refine OpsE.val (x_assign (v := .bool _) rfl) ?_
  refine OpsE.nil ?_
  refine Then.normal ?_
  refine WP.seq ?_
  refine WP.seq ?_
  refine WP.region ?_
  refine OpsE.call (x_call (vl := []) rfl Try.call14) (head_spec H) ?_
  rintro _ w ⟨rfl, H⟩
  refine OpsE.val (x_not rfl) ?_
  refine OpsE.nil ?_
  refine Then.normal ?_
  refine WP.cond_f rfl rfl ?_
  refine WP.skip ?_
  refine Then.normal ?_
  refine WP.seq ?_
  refine WP.seq ?_
  refine WP.region ?_
  refine OpsE.val (x_move (v := .slice _ _ _) rfl) ?_
  refine OpsE.call (x_call (vl := [.slice _ _ _]) rfl Try.call21) (few_spec H) ?_
  rintro _ w ⟨rfl, H⟩
  by_cases c0 : (n : Int) ≤ 30
  · rw [decide_eq_true c0]
    refine OpsE.val (x_not rfl) ?_
    refine OpsE.nil ?_
    refine Then.normal ?_
    refine WP.cond_f rfl rfl ?_
    refine WP.skip ?_
    refine Then.normal ?_
    refine WP.seq ?_
    refine WP.region ?_
    refine OpsE.val (x_move (v := .slice _ _ _) rfl) ?_
    refine OpsE.call (x_call (vl := [.slice _ _ _]) rfl Try.call31) (Some_spec H h3 hk hn3) ?_
    rintro _ w ⟨rs, rfl, hso, hrso, hrsl, H⟩
    refine OpsE.call (x_call (vl := [.slice _ _ _]) rfl Try.call30) (there_spec H (Rw.rin_own rs hrso) (by omega)) ?_
    rintro _ w ⟨rb, rfl, hrb, hrbo, H⟩
    refine OpsE.val (x_assign (v := .slice _ _ _) rfl) ?_
    refine OpsE.nil ?_
    refine Then.normal ?_
    refine WP.seq ?_
    refine WP.region ?_
    refine OpsE.val (x_move (v := .slice _ _ _) rfl) ?_
    refine OpsE.call (x_call (vl := [.int .i64 _, .slice _ _ _]) rfl Try.call22) (List_spec (first := 1) H hr.more.more (by omega) (by decide)) ?_
    rintro _ w ⟨r, rfl, hlo, hro, hrw, H⟩
    refine OpsE.val (x_assign (v := .slice _ _ _) rfl) ?_
    refine OpsE.nil ?_
    refine Then.normal ?_
    refine WP.seq ?_
    refine WP.region ?_
    refine OpsE.val (x_move (v := rb.val) rfl) ?_
    refine OpsE.val (x_move (v := r.val) rfl) ?_
    have hlo' : ListOf (0 + 1) (xs.map Sl.ws) (r.xs.map cma) := hlo
    have htk := takes_list hlo' (by omega) (by decide)
    have hrl : r.xs.length = n := by rw [← hln, ← hlo.1, List.length_map]
    obtain ⟨hb1, hb2, hb3⟩ := there_ok hso
    have hbg := there_good hso (seq := 0) (by decide)
    rw [← hrb] at hb1 hb2 hb3 hbg
    refine OpsE.call (x_call (vl := [.int .i64 _, .slice _ _ _, .slice _ _ _]) rfl Try.call23) (made_spec (first := 0) (bs := rb.xs) H (Rw.rin_own rb hrbo) (by omega) hbg (CIn.of_rw hro hrw) (by omega) (by rw [cm_ab]; exact htk) (good_big hbg)) ?_
    rintro _ w ⟨b, S, rfl, ok, hlow, hhist, hek, H⟩
    rw [cm_ab] at hhist hek
    obtain ⟨cms, hcms⟩ : ∃ cms, r.xs.map cma = cms := ⟨_, rfl⟩
    rw [hcms] at hhist hek htk
    have hcl : cms.length = n := by rw [← hcms, List.length_map, hrl]
    have hSl : S.hist.xs.length = n := by rw [rw_len hhist, hcl]
    have hlast : S.last = (n : Int) := by unfold SC.last; rw [hlow, hSl]; omega
    have hcs : ∀ (i : Nat) (c : Cmt), cms[i]? = some c → c.1 = 0 + 1 + i := fun i c hc => (htk.seq i c hc).1
    have hwc := wcount_le htk.right
    refine OpsE.val (x_move (v := .tuple _) rfl) ?_
    refine OpsE.val (x_extract (v := .pointer (some ⟨b, 0, none⟩)) rfl rfl) ?_
    refine OpsE.val (x_extract (v := .bool true) rfl rfl) ?_
    refine OpsE.val (x_assign (v := .pointer _) rfl) ?_
    refine OpsE.val (x_assign (v := .bool _) rfl) ?_
    refine OpsE.nil ?_
    refine Then.normal ?_
    refine WP.seq ?_
    refine WP.seq ?_
    refine WP.region ?_
    refine OpsE.val (x_move (v := .bool _) rfl) ?_
    refine OpsE.val (x_not rfl) ?_
    refine OpsE.nil ?_
    refine Then.normal ?_
    refine WP.cond_f rfl rfl ?_
    refine WP.skip ?_
    refine Then.normal ?_
    refine WP.seq ?_
    refine WP.region ?_
    refine OpsE.val (x_move (v := .int .i64 _) rfl) ?_
    refine OpsE.andM (m := 255) rfl rfl (by decide) ?_
    intro z2 hz2
    refine OpsE.val (x_move (v := .slice r.ad r.xs.length r.cp) rfl) ?_
    refine OpsE.val (x_lenL rfl rfl Try.runUnderlying38) ?_
    refine OpsE.val (x_add (z := ((n + 1 : Nat) : Int)) rfl rfl (by rw [i64n (by omega) (by omega), hrl]; omega)) ?_
    obtain ⟨at_, hat⟩ : ∃ at_, z2 % (n + 1) = at_ := ⟨_, rfl⟩
    have hatn : at_ ≤ n := by rw [← hat]; have := Nat.mod_lt z2 (show 0 < n + 1 by omega); omega
    refine OpsE.val (x_rem (a := z2) (b := n + 1) rfl rfl (by omega)) ?_
    rw [hat]
    refine OpsE.val (x_assign (v := .int .i64 _) rfl) ?_
    refine OpsE.nil ?_
    refine Then.normal ?_
    refine WP.seq ?_
    have hbase : IsBase (baseL (ek S.es) at_) (valA rb.xs cms at_) := base_is ok fun k => atv_st hek (seq_rise hcs) (by omega) k
    have hgood := base_good hbase (by omega) hb1 htk.right
    have hblen := base_len hbase
    obtain ⟨b', hb'⟩ : ∃ b', baseL (ek S.es) at_ = b' := ⟨_, rfl⟩
    rw [hb'] at hbase hgood hblen
    obtain ⟨R, hR⟩ : ∃ R, R = (r.own cmc TCm :: stars (r.xs.map cmH) :: rb.own wrc TWr :: rs.own wrc TWr :: l) := ⟨_, rfl⟩
    have H0 : Sat w (StP b S :: R) := by rw [hR]; exact H
    clear H
    replace H := H0
    clear H0
    have hci : CIn (StP b S :: R) r.ad r.xs.length r.cp (r.xs.map Cm.v) := by rw [hR]; exact CIn.of_rw hro hrw
    have hbi : RIn wrc TWr R rb.ad rb.xs.length rb.cp rb.xs := by rw [hR]; exact Rw.rin_own rb hrbo
    obtain ⟨ad', hsl, hcd⟩ := CIn.drop (P := Try.prog) (T := 38) hci Try.runUnderlying38 Try.sizeOf33 (k := at_) (by omega)
    have hdab : ((r.xs.map Cm.v).drop at_).map CmV.ab = cms.drop at_ := by rw [List.map_drop, cm_ab, hcms]
    refine WP.mix (kdOf [0, 0, 0, 1, 0, 0, 0, 1, 0, 0, 0, 0]) (fun w => Sat w _) (by kernel_rfl) (by kernel_rfl) (fun w hw => Sat.heap (H) hw) ?_
    intro w hw; replace H := H.heap hw; clear hw
    refine MixE.q rfl (fun w H => x_move (v := .int .i64 (at_ : Int)) rfl) ?_
    refine MixE.q rfl (fun w H => x_move (v := .pointer (some ⟨b, 0, none⟩)) rfl) ?_
    refine MixE.q rfl (fun w H => x_move (v := .int .i64 (at_ : Int)) rfl) ?_
    refine MixE.one rfl ?_
    refine OpsE.call (x_call (vl := [.pointer _, .int .i64 _]) rfl Try.call29) (Base_spec (q := (at_ : Int)) H ok) ?_
    rintro _ w ⟨g, rfl, hg1, hg2, H⟩
    rw [hb'] at hg1
    refine OpsE.nil ⟨rfl, rfl, H.tail, ?_⟩
    refine MixE.q rfl (fun w H => x_move (v := .slice r.ad r.xs.length r.cp) rfl) ?_
    refine MixE.q rfl (fun w H => x_move (v := .int .i64 (at_ : Int)) rfl) ?_
    refine MixE.q rfl (fun w H => hsl _ _ _ _ .i64 w rfl rfl) ?_
    refine MixE.one rfl ?_
    refine OpsE.call (x_call (vl := [.int .i64 _, .slice _ _ _, .slice _ _ _]) rfl Try.call23) (made_spec (first := (at_ : Int)) (bs := g.xs) H (Rw.rin_own g hg2) (by rw [hg1]; omega) (by rw [hg1]; exact hgood) (hcd.more) (by omega) (by rw [hdab]; exact take_drop htk at_) (by rw [hg1]; exact good_big hgood)) ?_
    rintro _ w ⟨b2, S2, rfl, ok2, hlow2, hhist2, hek2, H⟩
    rw [hdab] at hhist2 hek2
    rw [hg1] at hek2
    refine OpsE.nil ⟨rfl, rfl, H.tail.tail, ?_⟩
    refine MixE.q rfl (fun w H => x_move (v := .tuple _) rfl) ?_
    refine MixE.q rfl (fun w H => x_extract (v := .pointer (some ⟨b2, 0, none⟩)) rfl rfl) ?_
    refine MixE.q rfl (fun w H => x_extract (v := .bool true) rfl rfl) ?_
    refine MixE.q rfl (fun w H => x_assign (v := .pointer _) rfl) ?_
    refine MixE.two _ (fun k _ => kdOf_ge (Nat.le_add_right _ _)) ?_
    refine OpsE.val (x_assign (v := .bool _) rfl) ?_
    refine OpsE.nil ?_
    refine Then.normal ?_
    refine WP.seq ?_
    refine WP.seq ?_
    have H0 : Sat w (StP b2 S2 :: StP b S :: g.own wrc TWr :: R) := H.perm (by simp only [stars_cons]; ac_rfl)
    replace H := H0
    clear H0
    have hS2l : S2.hist.xs.length = n - at_ := by rw [rw_len hhist2, List.length_drop, hcl]
    have hlast2 : S2.last = (n : Int) := by unfold SC.last; rw [hlow2, hS2l]; omega
    refine WP.region ?_
    refine OpsE.val (x_move (v := .bool _) rfl) ?_
    refine OpsE.val (x_not rfl) ?_
    refine OpsE.val (x_move (v := .bool _) rfl) ?_
    refine OpsE.yes rfl ?_
    refine OpsE.val (x_move (v := .pointer (some ⟨b2, 0, none⟩)) rfl) ?_
    refine OpsE.yes rfl ?_
    replace H := StP.open.1 H
    refine OpsE.call (x_call (vl := [.pointer _]) rfl Try.call17) (SLow_spec H (fun w H => H.look b2) ok2) ?_
    rintro _ w ⟨rfl, H⟩
    replace H := StP.open.2 H
    refine OpsE.yes rfl ?_
    refine OpsE.val (x_move (v := .int .i64 (at_ : Int)) rfl) ?_
    refine OpsE.yes rfl ?_
    refine OpsE.val (x_neI rfl rfl) ?_
    rw [decide_eq_false (by rw [hlow2]; simp)]
    refine OpsE.val (x_pickF rfl rfl) ?_
    refine OpsE.val (x_move (v := .bool _) rfl) ?_
    refine OpsE.yes rfl ?_
    refine OpsE.val (x_move (v := .pointer (some ⟨b2, 0, none⟩)) rfl) ?_
    refine OpsE.yes rfl ?_
    replace H := StP.open.1 H
    refine OpsE.call (x_call (vl := [.pointer _]) rfl Try.call16) (SLast_spec H (fun w H => H.look b2) ok2) ?_
    rintro _ w ⟨rfl, H⟩
    replace H := (StP.open.2 H).swap
    refine OpsE.yes rfl ?_
    refine OpsE.val (x_move (v := .pointer (some ⟨b, 0, none⟩)) rfl) ?_
    refine OpsE.yes rfl ?_
    replace H := StP.open.1 H
    refine OpsE.call (x_call (vl := [.pointer _]) rfl Try.call16) (SLast_spec H (fun w H => H.look b) ok) ?_
    rintro _ w ⟨rfl, H⟩
    replace H := (StP.open.2 H).swap
    refine OpsE.yes rfl ?_
    refine OpsE.val (x_neI rfl rfl) ?_
    rw [decide_eq_false (by rw [hlast, hlast2]; simp)]
    refine OpsE.val (x_pickF rfl rfl) ?_
    refine OpsE.nil ?_
    refine Then.normal ?_
    refine WP.cond_f rfl rfl ?_
    refine WP.skip ?_
    refine Then.normal ?_
    refine WP.seq ?_
    refine WP.seq ?_
    refine WP.region ?_
    refine OpsE.val (x_move (v := .int .i64 (at_ : Int)) rfl) ?_
    refine OpsE.val (x_assign (v := .int .i64 _) rfl) ?_
    refine OpsE.nil ?_
    refine Then.normal ?_
    refine WP.block ?_
    have hcl2 : CIn (StP b2 S2 :: StP b S :: g.own wrc TWr :: R) r.ad r.xs.length r.cp (r.xs.map Cm.v) := hci.sub fun w H => H.tail.swap.tail
    have hbi2 : RIn wrc TWr (StP b2 S2 :: StP b S :: g.own wrc TWr :: R) rb.ad rb.xs.length rb.cp rb.xs := hbi.more.more.more
    have hcn : ∀ x ∈ r.xs.map Cm.v, x.n ≤ 4611686018427387904 := fun x hx => hci_n htk hcms hx
    refine WP.loopS [6, 13, 65, 66, 67, 68, 69, 70, 71, 72, 73, 74, 75, 76, 77, 78] (fun (j : Nat) E w => E 13 = .int .i64 ((at_ + j : Nat) : Int) ∧ at_ + j ≤ n + 1 ∧ Sat w (StP b2 S2 :: StP b S :: g.own wrc TWr :: R)) (fun j => n + 1 - (at_ + j)) 0 ⟨rfl, by omega, H⟩ ?_
    clear H
    rintro j E1 w hs ⟨e13, hjn, H⟩
    refine WP.seq ?_
    refine WP.seq ?_
    refine WP.region ?_
    refine OpsE.val (x_move (v := .int .i64 _) e13) ?_
    refine OpsE.val (x_move (v := .slice r.ad r.xs.length r.cp) (hs 8 rfl)) ?_
    refine OpsE.val (x_lenL rfl rfl Try.runUnderlying38) ?_
    refine OpsE.val (x_le rfl rfl) ?_
    by_cases hle : ((at_ + j : Nat) : Int) ≤ ((r.xs.length : Nat) : Int)
    · rw [decide_eq_true hle]
      refine OpsE.nil ?_
      refine Then.normal ?_
      refine WP.cond_t rfl rfl ?_
      refine WP.skip ?_
      refine Then.normal ?_
      refine WP.seq ?_
      refine WP.block ?_
      refine WP.seq ?_
      refine WP.region ?_
      refine OpsE.val (x_move (v := .pointer (some ⟨b2, 0, none⟩)) (hs 11 rfl)) ?_
      refine OpsE.val (x_move (v := rb.val) (hs 7 rfl)) ?_
      refine OpsE.val (x_move (v := r.val) (hs 8 rfl)) ?_
      refine OpsE.val (x_move (v := .int .i64 ((at_ + j : Nat) : Int)) e13) ?_
      refine OpsE.call (x_call (vl := [.slice _ _ _, .slice _ _ _, .int .i64 _]) rfl Try.call27) (At_map (q := ((at_ + j : Nat) : Int)) H hbi2 (by omega) hcl2 (by omega) hcn) ?_
      rintro _ w ⟨m, es, ck, rfl, hm, H⟩
      refine OpsE.val (x_move (v := .int .i64 ((at_ + j : Nat) : Int)) e13) ?_
      have hm2 : MapIs es ck (fun k => atv (vsOf S2.es k) ((at_ + j : Nat) : Int)) := hm.cong fun k => by rw [cm_ab, hcms, atv_st hek2 (takes_rise (take_drop htk at_)) (by omega) k]; exact valA_anew hcs (by omega) hbase k
      refine OpsE.call (x_call (vl := [.pointer _, .map _, .int .i64 _]) rfl Try.call26) (shows_spec H.swap ok2 hm2) ?_
      rintro _ w ⟨rfl, H⟩
      refine OpsE.val (x_not rfl) ?_
      refine OpsE.nil ?_
      refine Then.normal ?_
      refine WP.cond_f rfl rfl ?_
      refine WP.skip ?_
      refine InBlock.normal ?_
      refine Then.normal ?_
      refine WP.region ?_
      refine OpsE.val (x_move (v := .int .i64 _) e13) ?_
      refine OpsE.val (x_add (z := ((at_ + (j + 1) : Nat) : Int)) rfl rfl (by rw [i64n (by omega) (by omega)]; omega)) ?_
      refine OpsE.val (x_assign (v := .int .i64 _) rfl) ?_
      refine OpsE.nil ?_
      refine Then.normal ?_
      exact ⟨rfl, (by repeat (first | exact hs | refine Same.upd ?_ rfl)), j + 1, by omega, rfl, by omega, H.swap.tail⟩
    · rw [decide_eq_false hle]
      refine OpsE.nil ?_
      refine Then.normal ?_
      refine WP.cond_f rfl rfl ?_
      refine WP.exit ?_
      refine Then.exit ?_
      refine Then.exit ?_
      refine InBlock.hit ?_
      refine Then.normal ?_
      refine WP.seq ?_
      refine WP.region ?_
      refine OpsE.val (x_move (v := .pointer (some ⟨b, 0, none⟩)) (hs 9 rfl)) ?_
      refine OpsE.val (x_move (v := .int .i64 (at_ : Int)) (hs 2 rfl)) ?_
      refine OpsE.call (x_call (vl := [.pointer _, .int .i64 _]) rfl Try.call19) (Vacuum_spec (q := (at_ : Int)) H.swap ok (by omega)) ?_
      rintro _ w (⟨hng, _, _⟩ | ⟨_, rfl, S3, ok3, hl3, hh3, hk3, H⟩)
      · refine absurd ⟨by rw [hlow]; omega, by rw [hlast]; omega⟩ hng
      refine OpsE.val (x_eqI rfl rfl) ?_
      rw [decide_eq_true (by decide)]
      refine OpsE.val (x_move (v := .bool _) rfl) ?_
      refine OpsE.yes rfl ?_
      refine OpsE.val (x_move (v := .pointer (some ⟨b, 0, none⟩)) (hs 9 rfl)) ?_
      refine OpsE.yes rfl ?_
      refine OpsE.call (x_call (vl := [.pointer _]) rfl Try.call20) (Versions_spec H ok3) ?_
      rintro _ w ⟨rfl, H⟩
      refine OpsE.yes rfl ?_
      refine OpsE.val (x_move (v := .pointer (some ⟨b2, 0, none⟩)) (hs 11 rfl)) ?_
      refine OpsE.yes rfl ?_
      refine OpsE.call (x_call (vl := [.pointer _]) rfl Try.call20) (Versions_spec H.swap ok2) ?_
      rintro _ w ⟨rfl, H⟩
      refine OpsE.yes rfl ?_
      refine OpsE.val (x_eqI rfl rfl) ?_
      rw [decide_eq_true (by
        have h1 : vcount (ek S3.es) = vcount (ek S2.es) := vcount_eq (ek_srt ok3) (ek_srt ok2) (ek_ne ok3) (ek_ne ok2) fun k => by
          rw [vac_vs ok ok3 hk3, hek, hek2, vsK_st, vsK_st]
          exact cut_len hcs hbase k
        rw [h1])]
      refine OpsE.val (x_pickT rfl rfl) ?_
      refine OpsE.val (x_assign (v := .bool _) rfl) ?_
      refine OpsE.nil ?_
      refine Then.normal ?_
      refine WP.ret ?_
      refine Leave0.ret (v := .bool _) rfl ?_
      rw [hR] at H
      exact ⟨rfl, H.tail.tail.tail.tail.tail.tail.tail⟩
  · rw [decide_eq_false c0]
    refine OpsE.val (x_not rfl) ?_
    refine OpsE.nil ?_
    refine Then.normal ?_
    refine WP.cond_t rfl rfl ?_
    refine WP.seq ?_
    refine WP.region ?_
    refine OpsE.val (x_assign (v := .bool _) rfl) ?_
    refine OpsE.nil ?_
    refine Then.normal ?_
    refine WP.ret ?_
    refine Then.ret ?_
    refine Leave0.ret (v := .bool _) rfl ?_
    exact ⟨rfl, H⟩
end Go.Proofs.Ytbhbdpbhhfemhaa

/-
  StoreSees: the walk.
-/
namespace Go.Proofs.Ytbhbdpbhhfemhaa
open Go Go.Proofs
set_option maxRecDepth 100000
set_option maxHeartbeats 16000000
set_option linter.unusedVariables false

/-- a loop whose rounds leave blocks of deferred calls behind -/
theorem WP.loopM {P : Program} {r : Option Nat} {N : Nat} {Q : Post} {E : Env} {ds : List Deferred} {w : World} {σ : Type} {c : Code} (L : List Nat) (I : σ → List Nat → Env → World → Prop) (μ : σ → Nat) (s0 : σ) (bs0 : List Nat) (hds : ds = bs0.map mark) (h0 : I s0 bs0 E w)
    (round : ∀ s bs E' w', Same L E' E → I s bs E' w' → WP P r N c (Then (fun E'' ds'' w'' => ∃ s' bs', ds'' = bs'.map mark ∧ Same L E'' E ∧ μ s' < μ s ∧ I s' bs' E'' w'') Q) E' (bs.map mark) w') : WP P r N (.loop c) Q E ds w := by
  refine WP.loop (σ := σ × List Nat) (fun s E' ds' w' => ds' = s.2.map mark ∧ Same L E' E ∧ I s.1 s.2 E' w') (fun s => μ s.1) (s0, bs0) ⟨hds, Same.refl L E, h0⟩ ?_
  rintro ⟨s, bs⟩ E' ds' w' ⟨rfl, hs, hI⟩
  refine (round s bs E' w' hs hI).mono ?_
  intro e E'' ds'' w'' q
  cases e with
  | normal => obtain ⟨s', bs', h1, h2, h3, h4⟩ := q; exact ⟨(s', bs'), h3, h1, h2, h4⟩
  | _ => exact q
abbrev dm (b : Nat) : HP := pt b (.deferred (some []))

/-- is a key in a range? -/
def inR (x y k : ByteArray) : Bool := !slt k x && (decide (y = ⟨#[]⟩) || slt k y)
theorem takeWhile_sorted {p : Ent → Bool} : ∀ {es : List Ent}, es.Pairwise (fun a b => slt a.key b.key = true) → (∀ a b, slt a.key b.key = true → p b = true → p a = true) → es.takeWhile p = es.filter p
  | [], _, _ => rfl
  | e :: es, h, hp => by
    obtain ⟨h1, h2⟩ := List.pairwise_cons.1 h
    rw [List.takeWhile_cons]
    by_cases he : p e = true
    · rw [if_pos he, List.filter_cons_of_pos he, takeWhile_sorted h2 hp]
    · rw [if_neg he, List.filter_cons_of_neg he]
      exact (List.filter_eq_nil_iff.2 fun x hx hpx => he (hp e x (h1 x hx) hpx)).symm
theorem mem_rgE {es : List Ent} (h : es.Pairwise (fun a b => slt a.key b.key = true)) {x y : ByteArray} {e : Ent} : e ∈ rgE x y es ↔ e ∈ es ∧ inR x y e.key = true := by
  unfold rgE
  rw [takeWhile_sorted (h.sublist List.filter_sublist) fun a b hab hb => ?_, List.mem_filter, List.mem_filter, and_assoc]
  · unfold inR
    rw [Bool.and_eq_true]
    exact Iff.rfl
  · rw [Bool.or_eq_true] at hb ⊢
    exact hb.imp id fun h => slt_trans hab h
theorem range_count {S : SC} {N : Nat} (ok : S.Ok N) {q : Int} {x y : ByteArray} {es : List Me} {ck : Nat} (hm : MapIs es ck fun k => atv (vsOf S.es k) q) : ((rgE x y S.es).filterMap (shE q)).length = (es.filter fun e => inR x y e.key).length := by
  have hk : ((rgE x y S.es).filterMap (shE q)).length = ((rgE x y S.es).filter fun e => (atv e.vs q).isSome).length := by
    induction rgE x y S.es with
    | nil => rfl
    | cons e l ih =>
      rw [List.filterMap_cons]
      unfold shE at ih ⊢
      cases h : atv e.vs q with
      | none => rw [List.filter_cons_of_neg (by rw [h]; simp)]; exact ih
      | some s => rw [List.filter_cons_of_pos (by rw [h]; rfl)]; simp only [Option.map_some, List.length_cons]; rw [ih]
  rw [hk]
  have hvs : ∀ e ∈ S.es, vsOf S.es e.key = e.vs := fun e he => by
    rw [vsOf_ek]
    exact vsK_mem (ks := ek S.es) (kv := (e.key, e.vs)) (ek_srt ok) (List.mem_map.2 ⟨e, he, rfl⟩)
  have h := nodup_len (l := ((rgE x y S.es).filter fun e => (atv e.vs q).isSome).map Ent.key) (m := (es.filter fun e => inR x y e.key).map Me.key)
    (List.pairwise_map.2 (((ok.srt.sublist (List.Sublist.trans (List.takeWhile_sublist _) List.filter_sublist)).sublist List.filter_sublist).imp fun h => slt_ne h))
    (List.pairwise_map.2 (hm.ok.keys.sublist List.filter_sublist)) fun k => by
    rw [List.mem_map, List.mem_map]
    constructor
    · rintro ⟨e, he, rfl⟩
      obtain ⟨h1, h2⟩ := List.mem_filter.1 he
      obtain ⟨h3, h4⟩ := (mem_rgE ok.srt).1 h1
      have h5 := hm.get e.key
      rw [hvs e h3] at h5
      cases h6 : atv e.vs q with
      | none => rw [h6] at h2; cases h2
      | some s =>
        rw [h6] at h5
        obtain ⟨z, hz, hzk, _⟩ := getM_some h5
        exact ⟨z, List.mem_filter.2 ⟨hz, by rw [hzk]; exact h4⟩, hzk⟩
    · rintro ⟨z, hz, rfl⟩
      obtain ⟨h1, h2⟩ := List.mem_filter.1 hz
      have h3 := getM_mem hm.ok h1
      rw [hm.get] at h3
      cases h4 : atv (vsOf S.es z.key) q with
      | none => rw [h4] at h3; cases h3
      | some s =>
        rcases vsOf_mem (es := S.es) (key := z.key) with h5 | ⟨e, he, hek, h5⟩
        · rw [h5, atv_nil] at h4; cases h4
        · exact ⟨e, List.mem_filter.2 ⟨(mem_rgE ok.srt).2 ⟨he, by rw [hek]; exact h2⟩, by rw [← h5, h4]; rfl⟩, hek⟩
  rw [List.length_map, List.length_map] at h; exact h
theorem vis_count {es vis : List Me} {ck : Nat} (ok : MOk es ck) (hv : ∀ e ∈ vis, e ∈ es) (hn : vis.Pairwise (fun a b => a.born ≠ b.born)) (hd : leftM es vis = []) (p : Me → Bool) : (vis.filter p).length = (es.filter p).length := by
  refine nodup_len ((hn.imp fun h e => h (by rw [e])).sublist List.filter_sublist) ((ok.born.imp fun h e => by rw [e] at h; omega).sublist List.filter_sublist) fun x => ?_
  rw [List.mem_filter, List.mem_filter]
  exact ⟨fun ⟨h1, h2⟩ => ⟨hv x h1, h2⟩, fun ⟨h1, h2⟩ => ⟨left_done ok hv hd x h1, h2⟩⟩
theorem at_both (o : Option ByteArray) : ∃ (s : ByteArray) (b : Bool), atT o = .tuple #[.string s, .bool b] ∧ (o.map Value.string).getD (.string ⟨#[]⟩) = .string s ∧ (o.map Value.string).isSome = b := by
  cases o with
  | none => exact ⟨_, _, rfl, rfl, rfl⟩
  | some s => exact ⟨_, _, rfl, rfl, rfl⟩

theorem StoreSees_walk {w : World} {l : List HP} {a a3 : Option Addr} {n c n3 c3 : Nat} {xs : List Sl} {ws : List Wr} {z : Int} {key x y : ByteArray} (H : Sat w l) (hr : SlIn l a n c xs) (h3 : RIn wrc TWr l a3 n3 c3 ws) (hk : ∀ x ∈ ws, x.key.size ≤ 4611686018427387904) (hn3 : n3 ≤ 4611686018427387904) (hz : -9223372036854775808 ≤ z ∧ z ≤ 9223372036854775807) :
    Calls Try.prog 6 #[.int .i64 z, .slice a3 n3 c3, .slice a n c, .string key, .string x, .string y] w (Ret fun v w' => v = .bool true ∧ Sat w' l) := by
  have hln := slIn_len hr
  refine Calls.of_wp_cell (TT := 4) Try.func6 rfl Try.ntmps6 Try.results6 Try.isAgg4 (Nat.le_of_ble_eq_true rfl) ?_
  refine WP.seq ?_
  refine WP.region ?_
  refine OpsE.box1 (v := .string _) rfl rfl H ?_
  intro b10 w H
  refine OpsE.box1 (v := .string _) rfl rfl H ?_
  intro b11 w H
  refine OpsE.alloc1 Try.zeroValue4 rfl H ?_
  intro b12 w H
  refine OpsE.nil ?_
  refine Then.normal ?_
  refine WP.seq ?_
  refine WP.seq ?_
  replace H : Sat w (bB b12 false :: TC.bS b11 y :: TC.bS b10 x :: l) := H
  refine WP.region ?_
  refine OpsE.call (x_call (vl := []) rfl Try.call14) (head_spec H) ?_
  rintro _ w ⟨rfl, H⟩
  refine OpsE.val (x_not rfl) ?_
  refine OpsE.nil ?_
  refine Then.normal ?_
  refine WP.cond_f rfl rfl ?_
  refine WP.skip ?_
  refine Then.normal ?_
  refine WP.seq ?_
  refine WP.seq ?_
  refine WP.region ?_
  refine OpsE.val (x_move (v := .slice _ _ _) rfl) ?_
  refine OpsE.call (x_call (vl := [.slice _ _ _]) rfl Try.call21) (few_spec H) ?_
  rintro _ w ⟨rfl, H⟩
  by_cases c0 : (n : Int) ≤ 30
  · rw [decide_eq_true c0]
    refine OpsE.val (x_not rfl) ?_
    refine OpsE.nil ?_
    refine Then.normal ?_
    refine WP.cond_f rfl rfl ?_
    refine WP.skip ?_
    refine Then.normal ?_
    refine WP.seq ?_
    refine WP.region ?_
    refine OpsE.val (x_move (v := .int .i64 _) rfl) ?_
    refine OpsE.andM (m := 65535) rfl rfl (by decide) ?_
    intro f hf
    refine OpsE.val (x_assign (v := .int .i64 _) rfl) ?_
    refine OpsE.nil ?_
    refine Then.normal ?_
    refine WP.seq ?_
    refine WP.region ?_
    refine OpsE.val (x_move (v := .slice _ _ _) rfl) ?_
    refine OpsE.call (x_call (vl := [.slice _ _ _]) rfl Try.call31) (Some_spec H h3.more.more.more hk hn3) ?_
    rintro _ w ⟨rs, rfl, hso, hrso, hrsl, H⟩
    refine OpsE.call (x_call (vl := [.slice _ _ _]) rfl Try.call30) (there_spec H (Rw.rin_own rs hrso) (by omega)) ?_
    rintro _ w ⟨rb, rfl, hrb, hrbo, H⟩
    refine OpsE.val (x_assign (v := .slice _ _ _) rfl) ?_
    refine OpsE.nil ?_
    refine Then.normal ?_
    refine WP.seq ?_
    refine WP.region ?_
    refine OpsE.val (x_move (v := .int .i64 (f : Int)) rfl) ?_
    refine OpsE.val (x_add (z := ((f : Int) + 1)) rfl rfl (i64n (by omega) (by omega))) ?_
    refine OpsE.val (x_move (v := .slice _ _ _) rfl) ?_
    refine OpsE.call (x_call (vl := [.int .i64 _, .slice _ _ _]) rfl Try.call22) (List_spec (first := (f : Int) + 1) H hr.more.more.more.more.more (by omega) (by omega)) ?_
    rintro _ w ⟨r, rfl, hlo, hro, hrw, H⟩
    refine OpsE.val (x_assign (v := .slice _ _ _) rfl) ?_
    refine OpsE.nil ?_
    refine Then.normal ?_
    refine WP.seq ?_
    refine WP.region ?_
    refine OpsE.val (x_move (v := .int .i64 (f : Int)) rfl) ?_
    refine OpsE.val (x_move (v := rb.val) rfl) ?_
    refine OpsE.val (x_move (v := r.val) rfl) ?_
    have htk := takes_list (first := (f : Int)) hlo (by omega) (by omega)
    have hrl : r.xs.length = n := by rw [← hln, ← hlo.1, List.length_map]
    obtain ⟨hb1, hb2, hb3⟩ := there_ok hso
    have hbg := there_good hso (seq := (f : Int)) (by omega)
    rw [← hrb] at hb1 hb2 hb3 hbg
    refine OpsE.call (x_call (vl := [.int .i64 _, .slice _ _ _, .slice _ _ _]) rfl Try.call23) (made_spec (first := (f : Int)) (bs := rb.xs) H (Rw.rin_own rb hrbo) (by omega) hbg (CIn.of_rw hro hrw) (by omega) (by rw [cm_ab]; exact htk) (good_big hbg)) ?_
    rintro _ w ⟨b, S, rfl, ok, hlow, hhist, hek, H⟩
    rw [cm_ab] at hhist hek
    obtain ⟨cms, hcms⟩ : ∃ cms, r.xs.map cma = cms := ⟨_, rfl⟩
    rw [hcms] at hhist hek htk
    have hcl : cms.length = n := by rw [← hcms, List.length_map, hrl]
    have hSl : S.hist.xs.length = n := by rw [rw_len hhist, hcl]
    have hlast : S.last = (f : Int) + n := by unfold SC.last; rw [hlow, hSl]
    obtain ⟨R, hR⟩ : ∃ R, R = (r.own cmc TCm :: stars (r.xs.map cmH) :: rb.own wrc TWr :: rs.own wrc TWr :: l) := ⟨_, rfl⟩
    have H0 : Sat w (StP b S :: TC.bS b10 x :: TC.bS b11 y :: bB b12 false :: R) := by rw [hR]; exact H.perm (by simp only [stars_cons]; ac_rfl)
    clear H
    replace H := H0
    clear H0
    have hci : CIn R r.ad r.xs.length r.cp (r.xs.map Cm.v) := by rw [hR]; exact CIn.of_rw hro hrw
    have hbi : RIn wrc TWr R rb.ad rb.xs.length rb.cp rb.xs := by rw [hR]; exact Rw.rin_own rb hrbo
    have hcn : ∀ x ∈ r.xs.map Cm.v, x.n ≤ 4611686018427387904 := fun x hx => hci_n htk hcms hx
    refine OpsE.val (x_move (v := .tuple _) rfl) ?_
    refine OpsE.val (x_extract (v := .pointer (some ⟨b, 0, none⟩)) rfl rfl) ?_
    refine OpsE.val (x_extract (v := .bool true) rfl rfl) ?_
    refine OpsE.val (x_assign (v := .pointer _) rfl) ?_
    refine OpsE.val (x_assign (v := .bool _) rfl) ?_
    refine OpsE.nil ?_
    refine Then.normal ?_
    refine WP.seq ?_
    refine WP.seq ?_
    refine WP.region ?_
    refine OpsE.val (x_move (v := .bool _) rfl) ?_
    refine OpsE.val (x_not rfl) ?_
    refine OpsE.val (x_move (v := .bool _) rfl) ?_
    refine OpsE.yes rfl ?_
    refine OpsE.val (x_move (v := .pointer (some ⟨b, 0, none⟩)) rfl) ?_
    refine OpsE.yes rfl ?_
    replace H := StP.open.1 H
    refine OpsE.call (x_call (vl := [.pointer _]) rfl Try.call17) (SLow_spec H (fun w H => H.look b) ok) ?_
    rintro _ w ⟨rfl, H⟩
    replace H := StP.open.2 H
    refine OpsE.yes rfl ?_
    refine OpsE.val (x_move (v := .int .i64 (f : Int)) rfl) ?_
    refine OpsE.yes rfl ?_
    refine OpsE.val (x_neI rfl rfl) ?_
    rw [decide_eq_false (by rw [hlow]; simp)]
    refine OpsE.val (x_pickF rfl rfl) ?_
    refine OpsE.val (x_move (v := .bool _) rfl) ?_
    refine OpsE.yes rfl ?_
    refine OpsE.val (x_move (v := .pointer (some ⟨b, 0, none⟩)) rfl) ?_
    refine OpsE.yes rfl ?_
    replace H := StP.open.1 H
    refine OpsE.call (x_call (vl := [.pointer _]) rfl Try.call16) (SLast_spec H (fun w H => H.look b) ok) ?_
    rintro _ w ⟨rfl, H⟩
    replace H := StP.open.2 H
    refine OpsE.yes rfl ?_
    refine OpsE.val (x_move (v := .int .i64 (f : Int)) rfl) ?_
    refine OpsE.yes rfl ?_
    refine OpsE.val (x_move (v := .slice r.ad r.xs.length r.cp) rfl) ?_
    refine OpsE.yes rfl ?_
    refine OpsE.val (x_lenL rfl rfl Try.runUnderlying38) ?_
    refine OpsE.yes rfl ?_
    refine OpsE.val (x_add (z := ((f : Int) + n)) rfl rfl (by rw [hrl]; exact i64n (by omega) (by omega))) ?_
    refine OpsE.yes rfl ?_
    refine OpsE.val (x_neI rfl rfl) ?_
    rw [decide_eq_false (by rw [hlast]; simp)]
    refine OpsE.val (x_pickF rfl rfl) ?_
    refine OpsE.nil ?_
    refine Then.normal ?_
    refine WP.cond_f rfl rfl ?_
    refine WP.skip ?_
    refine Then.normal ?_
    refine WP.seq ?_
    refine WP.seq ?_
    refine WP.region ?_
    refine OpsE.val (x_move (v := .int .i64 (f : Int)) rfl) ?_
    refine OpsE.val (x_assign (v := .int .i64 _) rfl) ?_
    refine OpsE.nil ?_
    refine Then.normal ?_
    refine WP.block ?_
    refine WP.loopM [17, 18, 19, 20, 21, 22, 23, 27, 67, 68, 69, 70, 71, 72, 73, 74, 75, 76, 77, 78, 79, 80, 81, 82, 83, 84, 85, 86, 87, 88, 89, 90, 91, 92, 93, 94, 95, 96, 97, 98, 99, 100, 101, 102, 103, 104, 105, 106, 107, 108, 109, 136, 137, 138, 139, 140, 141, 142, 143, 144, 145, 146, 147, 148, 149, 150, 151, 152, 153, 154, 155, 156, 157] (fun (j : Nat) bs E w => E 17 = .int .i64 ((f + j : Nat) : Int) ∧ j ≤ n + 1 ∧ Sat w (stars (bs.map dm) :: StP b S :: TC.bS b10 x :: TC.bS b11 y :: bB b12 false :: R)) (fun j => n + 1 - j) 0 [] rfl ⟨rfl, Nat.zero_le _, sat_one.2 H⟩ ?_
    clear H
    rintro j bs E1 w hs ⟨e17, hjn, H⟩
    refine WP.seq ?_
    refine WP.seq ?_
    refine WP.region ?_
    refine OpsE.val (x_move (v := .int .i64 _) e17) ?_
    refine OpsE.val (x_move (v := .int .i64 (f : Int)) (hs 0 rfl)) ?_
    refine OpsE.val (x_move (v := .slice r.ad r.xs.length r.cp) (hs 14 rfl)) ?_
    refine OpsE.val (x_lenL rfl rfl Try.runUnderlying38) ?_
    refine OpsE.val (x_add (z := ((f + n : Nat) : Int)) rfl rfl (by rw [hrl, i64n (by omega) (by omega)]; omega)) ?_
    refine OpsE.val (x_le rfl rfl) ?_
    by_cases hle : ((f + j : Nat) : Int) ≤ ((f + n : Nat) : Int)
    · rw [decide_eq_true hle]
      refine OpsE.nil ?_
      refine Then.normal ?_
      refine WP.cond_t rfl rfl ?_
      refine WP.skip ?_
      refine Then.normal ?_
      refine WP.seq ?_
      refine WP.block ?_
      refine WP.seq ?_
      obtain ⟨q, hq⟩ : ∃ q : Int, q = ((f + j : Nat) : Int) := ⟨_, rfl⟩
      rw [← hq] at e17
      refine WP.region ?_
      refine OpsE.val (x_move (v := rb.val) (hs 13 rfl)) ?_
      refine OpsE.val (x_move (v := r.val) (hs 14 rfl)) ?_
      refine OpsE.val (x_move (v := .int .i64 q) e17) ?_
      refine OpsE.call (x_call (vl := [.slice _ _ _, .slice _ _ _, .int .i64 _]) rfl Try.call27) (At_map (q := q) H hbi.more.more.more.more.more (by omega) (hci.more.more.more.more.more) (by omega) hcn) ?_
      rintro _ w ⟨m, es, ck, rfl, hm, H⟩
      have hfv : ∀ k, atv (vsOf S.es k) q = valA rb.xs cms q k := fun k => atv_st hek (takes_rise htk) (by omega) k
      have hm2 : MapIs es ck (fun k => atv (vsOf S.es k) q) := hm.cong fun k => by rw [cm_ab, hcms]; exact hfv k
      refine OpsE.alloc1 Try.zeroValue43 rfl H ?_
      intro b18 w H
      refine OpsE.store (v := .map _) rfl rfl rfl rfl Try.sizeOf43 H (by simp) ?_
      intro w H
      simp only [List.set_cons_zero, List.set_cons_succ] at H
      refine OpsE.nil ?_
      refine Then.normal ?_
      refine WP.seq ?_
      refine WP.seq ?_
      replace H : Sat w (bMap b18 m :: pt m (mapO es ck) :: stars (bs.map dm) :: StP b S :: TC.bS b10 x :: TC.bS b11 y :: bB b12 false :: R) := H
      replace H := H.take2 (StP b S) (pt m (mapO es ck))
      refine WP.region ?_
      refine OpsE.val (x_move (v := .pointer (some ⟨b, 0, none⟩)) (hs 15 rfl)) ?_
      refine OpsE.val (x_load (v := .map (some m)) rfl Try.isAgg43 (H.look _) rfl) ?_
      refine OpsE.val (x_move (v := .int .i64 q) e17) ?_
      refine OpsE.call (x_call (vl := [.pointer _, .map _, .int .i64 _]) rfl Try.call26) (shows_spec H ok hm2) ?_
      rintro _ w ⟨rfl, H⟩
      refine OpsE.val (x_not rfl) ?_
      refine OpsE.nil ?_
      refine Then.normal ?_
      refine WP.cond_f rfl rfl ?_
      refine WP.skip ?_
      refine Then.normal ?_
      refine WP.seq ?_
      obtain ⟨s1, b1, ha1, ha2, ha3⟩ := at_both (atv (vsOf S.es key) q)
      refine WP.region ?_
      refine OpsE.val (x_move (v := .pointer (some ⟨b, 0, none⟩)) (hs 15 rfl)) ?_
      refine OpsE.val (x_move (v := .string key) (hs 3 rfl)) ?_
      refine OpsE.val (x_move (v := .int .i64 q) e17) ?_
      have hG := SGet_spec (key := key) (q := q) (StP.open.1 H) ok
      rw [ha1] at hG
      refine OpsE.call (x_call (vl := [.pointer _, .string _, .int .i64 _]) rfl Try.call28) hG ?_
      rintro _ w ⟨rfl, H⟩
      replace H := StP.open.2 H
      refine OpsE.val (x_move (v := .tuple _) rfl) ?_
      refine OpsE.val (x_extract (v := .string s1) rfl rfl) ?_
      refine OpsE.val (x_extract (v := .bool b1) rfl rfl) ?_
      refine OpsE.val (x_assign (v := .string _) rfl) ?_
      refine OpsE.val (x_assign (v := .bool _) rfl) ?_
      refine OpsE.nil ?_
      refine Then.normal ?_
      refine WP.seq ?_
      refine WP.region ?_
      refine OpsE.val (x_load (v := .map (some m)) rfl Try.isAgg43 (H.look _) rfl) ?_
      refine OpsE.val (x_move (v := .string key) (hs 3 rfl)) ?_
      refine OpsE.val (x_lookup2 rfl rfl Try.underlying43 Try.underlying9 Try.zeroValue9 (H.look _)) ?_
      rw [hm2.get, ha2, ha3]
      refine OpsE.val (x_move (v := .tuple _) rfl) ?_
      refine OpsE.val (x_extract (v := .string s1) rfl rfl) ?_
      refine OpsE.val (x_extract (v := .bool b1) rfl rfl) ?_
      refine OpsE.val (x_assign (v := .string _) rfl) ?_
      refine OpsE.val (x_assign (v := .bool _) rfl) ?_
      refine OpsE.nil ?_
      refine Then.normal ?_
      refine WP.seq ?_
      refine WP.seq ?_
      refine WP.region ?_
      refine OpsE.val (x_move (v := .bool b1) rfl) ?_
      refine OpsE.val (x_move (v := .bool b1) rfl) ?_
      refine OpsE.val (x_neB rfl rfl Try.runUnderlying4) ?_
      rw [(show (!(b1 == b1)) = false by simp)]
      refine OpsE.val (x_move (v := .bool _) rfl) ?_
      refine OpsE.yes rfl ?_
      refine OpsE.val (x_move (v := .string s1) rfl) ?_
      refine OpsE.yes rfl ?_
      refine OpsE.val (x_move (v := .string s1) rfl) ?_
      refine OpsE.yes rfl ?_
      refine OpsE.val (x_neS rfl rfl) ?_
      rw [decide_eq_false (fun h => h rfl)]
      refine OpsE.val (x_pickF rfl rfl) ?_
      refine OpsE.nil ?_
      refine Then.normal ?_
      refine WP.cond_f rfl rfl ?_
      refine WP.skip ?_
      refine Then.normal ?_
      refine WP.seq ?_
      refine WP.region ?_
      refine OpsE.alloc1 Try.zeroValue3 rfl H ?_
      intro b23 w H
      refine OpsE.store (v := .int .i64 _) rfl rfl rfl rfl Try.sizeOf3 H (by simp) ?_
      intro w H
      simp only [List.set_cons_zero, List.set_cons_succ] at H
      refine OpsE.nil ?_
      refine Then.normal ?_
      refine WP.seq ?_
      refine WP.seq ?_
      replace H : Sat w (bI b23 0 :: StP b S :: pt m (mapO es ck) :: bMap b18 m :: stars (bs.map dm) :: TC.bS b10 x :: TC.bS b11 y :: bB b12 false :: R) := H
      replace H := StP.open.1 H.swap
      obtain ⟨zs, hzs⟩ : ∃ zs, (rgE x y S.es).filterMap (shE q) = zs := ⟨_, rfl⟩
      have hcount : zs.length = (es.filter fun e => inR x y e.key).length := by rw [← hzs]; exact range_count ok hm2
      have hzl : zs.length ≤ 500000 := by
        rw [← hzs]
        refine Nat.le_trans (List.length_filterMap_le _ _) (Nat.le_trans (List.Sublist.length_le (List.Sublist.trans (List.takeWhile_sublist _) List.filter_sublist)) ?_)
        have := ok.num; omega
      have hzm : ∀ args ∈ zs, ∃ e s, args = [Value.string e, .string s] ∧ inR x y e = true ∧ atv (vsOf S.es e) q = some s := fun args ha => by
        rw [← hzs] at ha
        obtain ⟨e, he, h2⟩ := List.mem_filterMap.1 ha
        obtain ⟨he1, he2⟩ := (mem_rgE ok.srt).1 he
        unfold shE at h2
        cases h4 : atv e.vs q with
        | none => rw [h4] at h2; cases h2
        | some s =>
          rw [h4] at h2
          refine ⟨e.key, s, (Option.some.inj h2).symm, he2, ?_⟩
          have h5 : vsOf S.es e.key = e.vs := by rw [vsOf_ek]; exact vsK_mem (ks := ek S.es) (kv := (e.key, e.vs)) (ek_srt ok) (List.mem_map.2 ⟨e, he1, rfl⟩)
          rw [h5]; exact h4
      refine WP.region ?_
      refine OpsE.val (x_move (v := .pointer (some ⟨b, 0, none⟩)) (hs 15 rfl)) ?_
      refine OpsE.val (x_load (v := .string x) (hs 10 rfl) Try.isAgg9 (H.look _) rfl) ?_
      refine OpsE.val (x_load (v := .string y) (hs 11 rfl) Try.isAgg9 (H.look _) rfl) ?_
      refine OpsE.val (x_move (v := .int .i64 q) e17) ?_
      refine OpsE.call (x_call (vl := [.pointer _, .string _, .string _, .int .i64 _]) rfl Try.call32) (SRange_spec H) ?_
      rintro _ w ⟨c2, c3, c4, c5, rfl, H⟩
      refine OpsE.nil ?_
      refine Then.normal ?_
      refine WP.block ?_
      refine WP.rangeFunc (fun i => bI b23 (i : Int)) (fun i e => lift False) rfl ((by rw [← hzs]; exact SRange1_seq (b2 := c2) (b3 := c3) (b4 := c4) (b5 := c5) (x := x) (y := y) (q := q) (b := b) (r := S.h5 :: S.h6 :: pt m (mapO es ck) :: bMap b18 m :: stars (bs.map dm) :: TC.bS b10 x :: TC.bS b11 y :: bB b12 false :: R) ok : Seq Try.prog _ _ zs)) (fun args h => by obtain ⟨_, _, rfl, _⟩ := hzm args h; rfl) ((show Sat w (bI c5 q :: TC.bS c4 y :: TC.bS c3 x :: bQ c2 b :: S.h1 b :: S.t.ap :: TC.Lvs S.t.lv :: S.h4 :: S.h5 :: S.h6 :: bI b23 0 :: pt m (mapO es ck) :: bMap b18 m :: stars (bs.map dm) :: TC.bS b10 x :: TC.bS b11 y :: bB b12 false :: R) from H).perm (by
        show _ = stars (bI b23 0 :: bQ c2 b :: TC.bS c3 x :: TC.bS c4 y :: bI c5 q :: S.h1 b :: S.t.ap :: TC.Lvs S.t.lv :: S.h4 :: S.h5 :: S.h6 :: pt m (mapO es ck) :: bMap b18 m :: stars (bs.map dm) :: TC.bS b10 x :: TC.bS b11 y :: bB b12 false :: R)
        simp only [stars_cons]; ac_rfl)) ?_ ?_ ?_
      · intro i args lp w hxi
        obtain ⟨e, s, rfl, he1, he2⟩ := hzm args (List.mem_of_getElem? hxi)
        have hil := (List.getElem?_eq_some_iff.1 hxi).1
        have hget : getM es e = some (.string s) := by rw [hm2.get, he2]; rfl
        unfold inR at he1
        rw [Bool.and_eq_true, Bool.or_eq_true, Bool.not_eq_true', decide_eq_true_iff] at he1
        refine WP.region ?_
        refine OpsE.val (x_assign (v := .string _) rfl) ?_
        refine OpsE.nil ?_
        refine ⟨rfl, rfl, rfl, fun w Fr H => ?_⟩
        skip
        refine WP.block ?_
        refine WP.seq ?_
        refine WP.seq ?_
        refine WP.region ?_
        refine OpsE.val (x_load (v := .map (some m)) rfl Try.isAgg43 (H.look _) rfl) ?_
        refine OpsE.val (x_move (v := .string _) rfl) ?_
        refine OpsE.val (x_lookup2 rfl rfl Try.underlying43 Try.underlying9 Try.zeroValue9 (H.look _)) ?_
        rw [hget]
        refine OpsE.val (x_move (v := .tuple _) rfl) ?_
        refine OpsE.val (x_extract (v := .string s) rfl rfl) ?_
        refine OpsE.val (x_extract (v := .bool true) rfl rfl) ?_
        refine OpsE.val (x_assign (v := .string _) rfl) ?_
        refine OpsE.val (x_assign (v := .bool _) rfl) ?_
        refine OpsE.nil ?_
        refine Then.normal ?_
        refine WP.seq ?_
        refine WP.region ?_
        refine OpsE.val (x_move (v := .bool _) rfl) ?_
        refine OpsE.val (x_not rfl) ?_
        refine OpsE.val (x_move (v := .bool _) rfl) ?_
        refine OpsE.yes rfl ?_
        refine OpsE.val (x_move (v := .string _) rfl) ?_
        refine OpsE.yes rfl ?_
        refine OpsE.val (x_load (v := .string x) (hs 10 rfl) Try.isAgg9 (H.look _) rfl) ?_
        refine OpsE.yes rfl ?_
        refine OpsE.val (x_ltS rfl rfl) ?_
        rw [he1.1]
        refine OpsE.val (x_pickF rfl rfl) ?_
        refine OpsE.val (x_move (v := .bool _) rfl) ?_
        refine OpsE.yes rfl ?_
        refine OpsE.val (x_load (v := .string y) (hs 11 rfl) Try.isAgg9 (H.look _) rfl) ?_
        refine OpsE.yes rfl ?_
        refine OpsE.val (x_neS rfl rfl) ?_
        by_cases d1 : y ≠ ⟨#[]⟩
        · rw [decide_eq_true d1]
          refine OpsE.yes rfl ?_
          refine OpsE.val (x_move (v := .bool _) rfl) ?_
          refine OpsE.yes rfl ?_
          refine OpsE.val (x_move (v := .string _) rfl) ?_
          refine OpsE.yes rfl ?_
          refine OpsE.val (x_load (v := .string y) (hs 11 rfl) Try.isAgg9 (H.look _) rfl) ?_
          refine OpsE.yes rfl ?_
          refine OpsE.val (x_geS rfl rfl) ?_
          rw [(show (!slt e y) = false by rw [he1.2.resolve_left d1]; rfl)]
          refine OpsE.yes rfl ?_
          refine OpsE.val (x_pickT rfl rfl) ?_
          refine OpsE.val (x_pickF rfl rfl) ?_
          refine OpsE.nil ?_
          refine Then.normal ?_
          refine WP.cond_f rfl rfl ?_
          refine WP.skip ?_
          refine Then.normal ?_
          refine WP.region ?_
          refine OpsE.val (x_load (v := .int .i64 (i : Int)) rfl Try.isAgg3 (H.look _) rfl) ?_
          refine OpsE.val (x_add (z := ((i + 1 : Nat) : Int)) rfl rfl (by rw [i64n (by omega) (by omega)]; omega)) ?_
          refine OpsE.store (v := .int .i64 ((i + 1 : Nat) : Int)) rfl rfl rfl rfl Try.sizeOf3 H (by simp) ?_
          intro w H
          simp only [List.set_cons_zero, List.set_cons_succ] at H
          refine OpsE.nil ?_
          refine InBlock.normal ?_
          exact H.swap
        · rw [decide_eq_false d1]
          refine OpsE.yes rfl ?_
          refine OpsE.val (x_move (v := .bool _) rfl) ?_
          refine OpsE.no rfl ?_
          refine OpsE.no rfl ?_
          refine OpsE.no rfl ?_
          refine OpsE.yes rfl ?_
          refine OpsE.val (x_pickF rfl rfl) ?_
          refine OpsE.val (x_pickF rfl rfl) ?_
          refine OpsE.nil ?_
          refine Then.normal ?_
          refine WP.cond_f rfl rfl ?_
          refine WP.skip ?_
          refine Then.normal ?_
          refine WP.region ?_
          refine OpsE.val (x_load (v := .int .i64 (i : Int)) rfl Try.isAgg3 (H.look _) rfl) ?_
          refine OpsE.val (x_add (z := ((i + 1 : Nat) : Int)) rfl rfl (by rw [i64n (by omega) (by omega)]; omega)) ?_
          refine OpsE.store (v := .int .i64 ((i + 1 : Nat) : Int)) rfl rfl rfl rfl Try.sizeOf3 H (by simp) ?_
          intro w H
          simp only [List.set_cons_zero, List.set_cons_succ] at H
          refine OpsE.nil ?_
          refine InBlock.normal ?_
          exact H.swap
      · intro bm w H
        have H2 : Sat w (dm bm :: bI b23 (zs.length : Int) :: bQ c2 b :: TC.bS c3 x :: TC.bS c4 y :: bI c5 q :: S.h1 b :: S.t.ap :: TC.Lvs S.t.lv :: S.h4 :: S.h5 :: S.h6 :: pt m (mapO es ck) :: bMap b18 m :: stars (bs.map dm) :: TC.bS b10 x :: TC.bS b11 y :: bB b12 false :: R) := H
        have H3 : Sat w (bQ c2 b :: TC.bS c3 x :: TC.bS c4 y :: bI c5 q :: S.h1 b :: S.t.ap :: TC.Lvs S.t.lv :: S.h4 :: S.h5 :: S.h6 :: dm bm :: bI b23 (zs.length : Int) :: pt m (mapO es ck) :: bMap b18 m :: stars (bs.map dm) :: TC.bS b10 x :: TC.bS b11 y :: bB b12 false :: R) := H2.perm (by simp only [stars_cons]; ac_rfl)
        clear H H2
        have H := StP.open.2 H3.tail.tail.tail.tail
        clear H3
        refine InBlock.normal ?_
        refine Then.normal ?_
        refine WP.seq ?_
        refine WP.seq ?_
        refine WP.region ?_
        refine OpsE.val (x_load (v := .map (some m)) rfl Try.isAgg43 (H.look _) rfl) ?_
        refine OpsE.range (es := es) (ck := ck) Try.underlying43 rfl H ?_
        intro it137 w H
        refine OpsE.nil ?_
        refine Then.normal ?_
        refine WP.block ?_
        have H0 : Sat w (pt it137 (seenO m ck []) :: bI b23 ((zs.length : Int) - ((([] : List Me).filter fun e => inR x y e.key).length : Nat)) :: pt m (mapO es ck) :: StP b S :: dm bm :: bMap b18 m :: stars (bs.map dm) :: TC.bS b10 x :: TC.bS b11 y :: bB b12 false :: R) := (show Sat w (pt it137 (seenO m ck []) :: StP b S :: dm bm :: bI b23 ((zs.length : Int) - 0) :: pt m (mapO es ck) :: bMap b18 m :: stars (bs.map dm) :: TC.bS b10 x :: TC.bS b11 y :: bB b12 false :: R) from by rw [Int.sub_zero]; exact H).perm (by
          show _ = stars (pt it137 (seenO m ck []) :: bI b23 ((zs.length : Int) - 0) :: pt m (mapO es ck) :: StP b S :: dm bm :: bMap b18 m :: stars (bs.map dm) :: TC.bS b10 x :: TC.bS b11 y :: bB b12 false :: R)
          simp only [stars_cons]; ac_rfl)
        refine WP.loopS [27, 138, 139, 140, 141, 142, 143, 144, 145, 146, 147, 148, 149, 150, 151, 152, 153, 154, 155] (fun (vis : List Me) E w => (∀ e ∈ vis, e ∈ es) ∧ vis.Pairwise (fun a b => a.born ≠ b.born) ∧ vis.length + (leftM es vis).length ≤ es.length ∧ Sat w (pt it137 (seenO m ck vis) :: bI b23 ((zs.length : Int) - ((vis.filter fun e => inR x y e.key).length : Nat)) :: pt m (mapO es ck) :: StP b S :: dm bm :: bMap b18 m :: stars (bs.map dm) :: TC.bS b10 x :: TC.bS b11 y :: bB b12 false :: R)) (fun vis => (leftM es vis).length) [] ⟨(fun _ h => by cases h), List.Pairwise.nil, (by have : (leftM es []).length ≤ es.length := List.length_filter_le _ _; simpa using this), H0⟩ ?_
        clear H H0
        rintro vis E2 w hs2 ⟨hve, hvp, hvl, H⟩
        refine WP.seq ?_
        refine WP.region ?_
        refine OpsE.next (es := es) (vis := vis) (ck := ck) (hs2 137 rfl) H (hm2.ok) ?_ ?_
        · intro hnend w H
          refine OpsE.val (x_extract (v := .bool _) rfl rfl) ?_
          refine OpsE.nil ?_
          refine Then.normal ?_
          refine WP.seq ?_
          refine WP.cond_f rfl rfl ?_
          refine WP.exit ?_
          refine Then.exit ?_
          refine Then.exit ?_
          refine InBlock.hit ?_
          refine Then.normal ?_
          refine WP.seq ?_
          have hvc := vis_count hm2.ok hve hvp hnend (fun e => inR x y e.key)
          refine WP.region ?_
          refine OpsE.val (x_load (v := .int .i64 ((zs.length : Int) - ((vis.filter fun e => inR x y e.key).length : Nat))) (hs2 23 rfl) Try.isAgg3 (H.look _) rfl) ?_
          refine OpsE.val (x_neI rfl rfl) ?_
          rw [decide_eq_false (by rw [hvc, hcount]; simp)]
          refine OpsE.nil ?_
          refine Then.normal ?_
          refine WP.cond_f rfl rfl ?_
          refine WP.skip ?_
          refine InBlock.normal ?_
          refine Then.normal ?_
          refine WP.region ?_
          refine OpsE.val (x_move (v := .int .i64 _) ((hs2 17 rfl).trans e17)) ?_
          refine OpsE.val (x_add (z := ((f + (j + 1) : Nat) : Int)) rfl rfl (by rw [hq, i64n (by omega) (by omega)]; omega)) ?_
          refine OpsE.val (x_assign (v := .int .i64 _) rfl) ?_
          refine OpsE.nil ?_
          refine Then.normal ?_
          refine ⟨j + 1, bm :: bs, rfl, (by repeat (first | exact hs | refine Same.upd ?_ rfl | refine Same.sub hs2 ?_ rfl)), by omega, rfl, by omega, ?_⟩
          have H1 := H.tail.tail.tail
          have H2 : Sat w (bMap b18 m :: dm bm :: stars (bs.map dm) :: StP b S :: TC.bS b10 x :: TC.bS b11 y :: bB b12 false :: R) := H1.perm (by simp only [stars_cons]; ac_rfl)
          exact sat_sep.2 H2.tail
        · intro ne hne w H
          refine OpsE.val (x_extract (v := .bool _) rfl rfl) ?_
          refine OpsE.nil ?_
          refine Then.normal ?_
          refine WP.seq ?_
          refine WP.cond_t rfl rfl ?_
          refine WP.skip ?_
          refine Then.normal ?_
          refine WP.block ?_
          refine WP.seq ?_
          have hl1 := left_lt1 hne
          have hve2 : ∀ e ∈ vis ++ [ne], e ∈ es := fun e he => by
            rcases List.mem_append.1 he with h | h
            · exact hve e h
            · rcases List.mem_singleton.1 h with rfl; exact (mem_left hne).1
          have hvp2 : (vis ++ [ne]).Pairwise (fun a b => a.born ≠ b.born) := List.pairwise_append.2 ⟨hvp, List.pairwise_singleton _ _, fun a ha b hb => by rcases List.mem_singleton.1 hb with rfl; exact (mem_left hne).2 a ha⟩
          have hvl2 : (vis ++ [ne]).length + (leftM es (vis ++ [ne])).length ≤ es.length := by rw [List.length_append]; simp only [List.length_cons, List.length_nil]; omega
          have hfl : (vis.filter fun e => inR x y e.key).length ≤ (es.filter fun e => inR x y e.key).length := nodup_le ((hvp.imp fun h e => h (by rw [e])).sublist List.filter_sublist) fun e he => by
            obtain ⟨h1, h2⟩ := List.mem_filter.1 he
            exact List.mem_filter.2 ⟨hve e h1, h2⟩
          have hyes : inR x y ne.key = true → ((vis ++ [ne]).filter fun e => inR x y e.key).length = (vis.filter fun e => inR x y e.key).length + 1 := fun h => by rw [List.filter_append, List.filter_cons_of_pos (by exact h)]; simp
          have hno : inR x y ne.key = false → ((vis ++ [ne]).filter fun e => inR x y e.key).length = (vis.filter fun e => inR x y e.key).length := fun h => by rw [List.filter_append, List.filter_cons_of_neg (by rw [h]; simp)]; simp
          refine WP.region ?_
          refine OpsE.val (x_entry (e := ne) (hs2 137 rfl) (H.look _) (H.look _) (hm2.ok) ((mem_left hne).1)) ?_
          refine OpsE.val (x_extract (v := .string ne.key) rfl rfl) ?_
          refine OpsE.val (x_assign (v := .string _) rfl) ?_
          refine OpsE.nil ?_
          refine Then.normal ?_
          refine WP.seq ?_
          refine WP.region ?_
          refine OpsE.val (x_move (v := .string ne.key) rfl) ?_
          refine OpsE.val (x_load (v := .string x) ((hs2 10 rfl).trans (hs 10 rfl)) Try.isAgg9 (H.look _) rfl) ?_
          refine OpsE.val (x_geS rfl rfl) ?_
          cases g1 : (!slt ne.key x)
          case false =>
            refine OpsE.val (x_move (v := .bool _) rfl) ?_
            refine OpsE.no rfl ?_
            refine OpsE.no rfl ?_
            refine OpsE.no rfl ?_
            refine OpsE.no rfl ?_
            refine OpsE.no rfl ?_
            refine OpsE.no rfl ?_
            refine OpsE.no rfl ?_
            refine OpsE.val (x_pickF rfl rfl) ?_
            refine OpsE.nil ?_
            refine Then.normal ?_
            refine WP.cond_f rfl rfl ?_
            refine WP.skip ?_
            refine InBlock.normal ?_
            refine Then.normal ?_
            refine ⟨rfl, (by repeat (first | exact hs2 | refine Same.upd ?_ rfl)), vis ++ [ne], by omega, hve2, hvp2, hvl2, ?_⟩
            rw [hno (by unfold inR; rw [g1, Bool.false_and])]; exact H
          case true =>
            refine OpsE.val (x_move (v := .bool _) rfl) ?_
            refine OpsE.yes rfl ?_
            refine OpsE.val (x_load (v := .string y) ((hs2 11 rfl).trans (hs 11 rfl)) Try.isAgg9 (H.look _) rfl) ?_
            refine OpsE.yes rfl ?_
            refine OpsE.val (x_eqS rfl rfl) ?_
            by_cases g2 : y = ⟨#[]⟩
            · rw [decide_eq_true g2]
              refine OpsE.yes rfl ?_
              refine OpsE.val (x_move (v := .bool _) rfl) ?_
              refine OpsE.no rfl ?_
              refine OpsE.no rfl ?_
              refine OpsE.no rfl ?_
              refine OpsE.yes rfl ?_
              refine OpsE.val (x_pickT rfl rfl) ?_
              refine OpsE.val (x_pickT rfl rfl) ?_
              refine OpsE.nil ?_
              refine Then.normal ?_
              refine WP.cond_t rfl rfl ?_
              refine WP.region ?_
              refine OpsE.val (x_load (v := .int .i64 ((zs.length : Int) - ((vis.filter fun e => inR x y e.key).length : Nat))) (hs2 23 rfl) Try.isAgg3 (H.look _) rfl) ?_
              refine OpsE.val (x_sub (z := ((zs.length : Int) - ((vis.filter fun e => inR x y e.key).length : Nat) - 1)) rfl rfl (i64n (by omega) (by omega))) ?_
              refine OpsE.store (v := .int .i64 ((zs.length : Int) - ((vis.filter fun e => inR x y e.key).length : Nat) - 1)) (hs2 23 rfl) rfl rfl rfl Try.sizeOf3 H (by simp) ?_
              intro w H
              simp only [List.set_cons_zero, List.set_cons_succ] at H
              refine OpsE.nil ?_
              refine InBlock.normal ?_
              refine Then.normal ?_
              refine ⟨rfl, (by repeat (first | exact hs2 | refine Same.upd ?_ rfl)), vis ++ [ne], by omega, hve2, hvp2, hvl2, ?_⟩
              rw [hyes (by unfold inR; rw [g1, decide_eq_true g2]; rfl), show ((zs.length : Int) - (((vis.filter fun e => inR x y e.key).length + 1 : Nat) : Int)) = (zs.length : Int) - ((vis.filter fun e => inR x y e.key).length : Nat) - 1 by omega]
              exact H.swap
            · rw [decide_eq_false g2]
              refine OpsE.yes rfl ?_
              refine OpsE.val (x_move (v := .bool _) rfl) ?_
              refine OpsE.yes rfl ?_
              refine OpsE.val (x_move (v := .string ne.key) rfl) ?_
              refine OpsE.yes rfl ?_
              refine OpsE.val (x_load (v := .string y) ((hs2 11 rfl).trans (hs 11 rfl)) Try.isAgg9 (H.look _) rfl) ?_
              refine OpsE.yes rfl ?_
              refine OpsE.val (x_ltS rfl rfl) ?_
              cases g3 : slt ne.key y
              case false =>
                refine OpsE.yes rfl ?_
                refine OpsE.val (x_pickF rfl rfl) ?_
                refine OpsE.val (x_pickT rfl rfl) ?_
                refine OpsE.nil ?_
                refine Then.normal ?_
                refine WP.cond_f rfl rfl ?_
                refine WP.skip ?_
                refine InBlock.normal ?_
                refine Then.normal ?_
                refine ⟨rfl, (by repeat (first | exact hs2 | refine Same.upd ?_ rfl)), vis ++ [ne], by omega, hve2, hvp2, hvl2, ?_⟩
                rw [hno (by unfold inR; rw [g1, g3, decide_eq_false g2]; rfl)]; exact H
              case true =>
                refine OpsE.yes rfl ?_
                refine OpsE.val (x_pickF rfl rfl) ?_
                refine OpsE.val (x_pickT rfl rfl) ?_
                refine OpsE.nil ?_
                refine Then.normal ?_
                refine WP.cond_t rfl rfl ?_
                refine WP.region ?_
                refine OpsE.val (x_load (v := .int .i64 ((zs.length : Int) - ((vis.filter fun e => inR x y e.key).length : Nat))) (hs2 23 rfl) Try.isAgg3 (H.look _) rfl) ?_
                refine OpsE.val (x_sub (z := ((zs.length : Int) - ((vis.filter fun e => inR x y e.key).length : Nat) - 1)) rfl rfl (i64n (by omega) (by omega))) ?_
                refine OpsE.store (v := .int .i64 ((zs.length : Int) - ((vis.filter fun e => inR x y e.key).length : Nat) - 1)) (hs2 23 rfl) rfl rfl rfl Try.sizeOf3 H (by simp) ?_
                intro w H
                simp only [List.set_cons_zero, List.set_cons_succ] at H
                refine OpsE.nil ?_
                refine InBlock.normal ?_
                refine Then.normal ?_
                refine ⟨rfl, (by repeat (first | exact hs2 | refine Same.upd ?_ rfl)), vis ++ [ne], by omega, hve2, hvp2, hvl2, ?_⟩
                rw [hyes (by unfold inR; rw [g1, g3, Bool.or_true]; rfl), show ((zs.length : Int) - (((vis.filter fun e => inR x y e.key).length + 1 : Nat) : Int)) = (zs.length : Int) - ((vis.filter fun e => inR x y e.key).length : Nat) - 1 by omega]
                exact H.swap
      · intro bm i e c w hi hj H
        cases e with
        | ret =>
          exact (sat_lift.1 H.swap).1.elim
        | exit id =>
          exact (sat_lift.1 H.swap).1.elim
        | _ => cases hj
    · rw [decide_eq_false hle]
      refine OpsE.nil ?_
      refine Then.normal ?_
      refine WP.cond_f rfl rfl ?_
      refine WP.exit ?_
      refine Then.exit ?_
      refine Then.exit ?_
      refine InBlock.hit ?_
      refine Then.normal ?_
      refine WP.seq ?_
      refine WP.region ?_
      refine OpsE.store (v := .bool _) (hs 12 rfl) rfl rfl rfl Try.sizeOf4 H (by simp) ?_
      intro w H
      simp only [List.set_cons_zero, List.set_cons_succ] at H
      refine OpsE.nil ?_
      refine Then.normal ?_
      refine WP.ret ?_
      refine LeaveC.ret ?_
      have H1 : Sat w (bB b12 true :: stars (bs.map dm) :: StP b S :: TC.bS b10 x :: TC.bS b11 y :: R) := H
      refine ⟨b12, .bool true, bs, (hs 12 rfl), rfl, (StP b S :: TC.bS b10 x :: TC.bS b11 y :: R), sat_stars.1 (H1.swap), fun w' H' => ⟨rfl, ?_⟩⟩
      rw [hR] at H'
      exact H'.tail.tail.tail.tail.tail.tail.tail.tail
  · rw [decide_eq_false c0]
    refine OpsE.val (x_not rfl) ?_
    refine OpsE.nil ?_
    refine Then.normal ?_
    refine WP.cond_t rfl rfl ?_
    refine WP.seq ?_
    refine WP.region ?_
    refine OpsE.store (v := .bool _) rfl rfl rfl rfl Try.sizeOf4 H (by simp) ?_
    intro w H
    simp only [List.set_cons_zero, List.set_cons_succ] at H
    refine OpsE.nil ?_
    refine Then.normal ?_
    refine WP.ret ?_
    refine Then.ret ?_
    refine LeaveC.ret ?_
    exact ⟨b12, .bool true, [], rfl, rfl, _, H, fun w' H' => ⟨rfl, H'.tail.tail.tail⟩⟩
end Go.Proofs.Ytbhbdpbhhfemhaa

/-
  Vacuums one behind the other, plain facts; rows of numbers.
-/
namespace Go.Proofs.Ytbhbdpbhhfemhaa
open Go Go.Proofs
set_option maxHeartbeats 2000000
set_option linter.unusedVariables false

def intc (z : Int) : List Value := [.int .i64 z]
theorem intc_len (z : Int) : (intc z).length = 1 := rfl
abbrev TIn : TypeId := 3

theorem bh_drop {vs : List Ver} {c : Nat} {q : Int} (h : ∀ v ∈ vs.take c, v.seq ≤ q) (hc : c ≤ vs.length) : upto vs q = vs.take c ++ upto (vs.drop c) q ∧ bh vs q = c + bh (vs.drop c) q := by
  have e1 : upto vs q = vs.take c ++ upto (vs.drop c) q := by
    conv => lhs; rw [← List.take_append_drop c vs]
    rw [upto_app]
    congr 1
    exact List.filter_eq_self.2 fun v hv => by simpa using h v hv
  refine ⟨e1, ?_⟩
  unfold bh
  rw [e1, List.length_append, List.length_take, Nat.min_eq_left hc]
theorem cut_cut {vs : List Ver} (hs : vs.Pairwise (fun a b => a.seq < b.seq)) {q0 q : Int} (hq : q0 ≤ q) : cutv (cutv vs q0) q = cutv vs q := by
  obtain ⟨c, hc⟩ : ∃ c, cutN vs q0 = c := ⟨_, rfl⟩
  have hnl := cutN_le vs q0
  have hut := upto_take hs q0
  have hbl := bh_le vs q0
  have hA : ∀ v ∈ vs.take c, v.seq ≤ q := fun v hv => by
    have h1 : v ∈ vs.take (bh vs q0) := by
      have h2 : vs.take c = (vs.take (bh vs q0)).take c := by rw [List.take_take, Nat.min_eq_left (by omega)]
      rw [h2] at hv; exact List.mem_of_mem_take hv
    rw [← hut] at h1
    have := (List.mem_filter.1 h1).2
    simp at this; omega
  obtain ⟨e1, e2⟩ := bh_drop hA (by omega)
  have hcv : cutv vs q0 = vs.drop c := by unfold cutv; rw [hc]
  rw [hcv]
  have goal : cutN vs q = c + cutN (vs.drop c) q := by
    unfold cutN
    rw [e1, e2, List.getLast?_append]
    cases hB : (upto (vs.drop c) q).getLast? with
    | some v =>
      simp only [Option.some_or]
      have hpos : 0 < bh (vs.drop c) q := by
        unfold bh
        rcases Nat.eq_zero_or_pos (upto (vs.drop c) q).length with h0 | h0
        · rw [List.length_eq_zero_iff.1 h0] at hB; cases hB
        · exact h0
      split <;> omega
    | none =>
      rw [List.getLast?_eq_none_iff] at hB
      have hb0 : bh (vs.drop c) q = 0 := by unfold bh; rw [hB]; rfl
      simp only [Option.none_or]
      rw [hb0]
      -- what is the last of the first c?
      have hcc := hc
      unfold cutN at hcc
      cases hl : (upto vs q0).getLast? with
      | none =>
        rw [hl] at hcc; dsimp only at hcc
        subst hcc; rfl
      | some z =>
        rw [hl] at hcc; dsimp only at hcc
        by_cases hg : z.gone = true
        · rw [if_pos hg] at hcc
          subst hcc
          rw [← hut, hl]
          dsimp only
          rw [if_pos hg]
        · rw [if_neg hg] at hcc
          exfalso
          have hbn : bh vs q0 ≠ 0 := fun h0 => by rw [hut, h0] at hl; simp at hl
          have hl2 := hl
          rw [hut, last_take hbn hbl] at hl2
          have hzm : z ∈ vs.drop c := List.mem_of_getElem? (i := 0) (by rw [List.getElem?_drop, Nat.add_zero, ← hcc]; exact hl2)
          have hzq : z.seq ≤ q := by
            have := (List.mem_filter.1 (List.mem_of_getLast? hl)).2
            simp at this; omega
          have : z ∈ upto (vs.drop c) q := List.mem_filter.2 ⟨hzm, by simpa using hzq⟩
          rw [hB] at this; cases this
  unfold cutv
  rw [goal, List.drop_drop]
theorem cut_zero {b : List Wr} {cms : List Cmt} (h : ∀ (i : Nat) (c : Cmt), cms[i]? = some c → c.1 = 0 + 1 + i) (k : ByteArray) : cutv (verA 0 b cms k) 0 = verA 0 b cms k := by
  have e2 : upto (cms.flatMap fun c => verW c.1 k c.2.2) (0 : Int) = [] := List.filter_eq_nil_iff.2 fun v hv => by
    obtain ⟨c, hc, hv⟩ := List.mem_flatMap.1 hv
    obtain ⟨x, _, rfl⟩ := List.mem_map.1 hv
    obtain ⟨i, hi, rfl⟩ := List.mem_iff_getElem.1 hc
    have := h i cms[i] (by simp)
    simp; omega
  have h0 : cutN (verA 0 b cms k) 0 = 0 := by
    unfold cutN bh verA
    rw [upto_app, e2, List.append_nil]
    unfold verB
    cases valB b k with
    | none => rfl
    | some v => rfl
  unfold cutv
  rw [h0]; rfl
theorem st_ne (first : Int) (b : List Wr) (cms : List Cmt) : ∀ k ∈ stK first b cms, k.2 ≠ [] := by
  have hput : ∀ (ks : List KVs) (kv : KVs), (∀ k ∈ ks, k.2 ≠ []) → kv.2 ≠ [] → ∀ k ∈ putK ks kv, k.2 ≠ [] := by
    intro ks kv h h2 k hk
    unfold putK at hk
    rcases List.mem_append.1 hk with hk | hk
    · exact h k (List.mem_filter.1 hk).1
    · rcases List.mem_cons.1 hk with rfl | hk
      · exact h2
      · exact h k (List.mem_filter.1 hk).1
  have hadd : ∀ (seq : Int) (ws : List Wr) (ks : List KVs), (∀ k ∈ ks, k.2 ≠ []) → ∀ k ∈ ws.foldl (addK seq) ks, k.2 ≠ [] := by
    intro seq ws
    induction ws with
    | nil => exact fun _ h => h
    | cons x ws ih => exact fun ks h => ih _ (hput ks _ h (by simp))
  have hnew : ∀ (ws : List Wr) (ks : List KVs), (∀ k ∈ ks, k.2 ≠ []) → ∀ k ∈ ws.foldl (newK first) ks, k.2 ≠ [] := by
    intro ws
    induction ws with
    | nil => exact fun _ h => h
    | cons x ws ih => exact fun ks h => ih _ (hput ks _ h (by simp))
  unfold stK
  have h := hnew b [] (fun _ h => by cases h)
  generalize b.foldl (newK first) [] = ks at h
  induction cms generalizing ks with
  | nil => exact h
  | cons c cms ih => exact ih _ (hadd c.1 c.2.2 ks h)

/-- a store that was vacuumed -/
structure VInv (S : SC) (b : List Wr) (cms : List Cmt) (lo : Nat) : Prop where
  ok : S.Ok 300000
  low : S.low = lo
  le : lo ≤ cms.length
  hist : S.hist.xs.map cma = cms.drop lo
  vs : ∀ k, vsK (ek S.es) k = cutv (verA 0 b cms k) lo
theorem VInv.last {S : SC} {b : List Wr} {cms : List Cmt} {lo : Nat} (h : VInv S b cms lo) : S.last = (cms.length : Int) := by
  have h1 := rw_len h.hist
  have h2 := h.le
  rw [List.length_drop] at h1
  unfold SC.last
  rw [h.low, h1]; omega
theorem VInv.at {S : SC} {b : List Wr} {cms : List Cmt} {lo : Nat} (h : VInv S b cms lo) (hc : ∀ (i : Nat) (c : Cmt), cms[i]? = some c → c.1 = 0 + 1 + i) (hs : ∀ k, (verA 0 b cms k).Pairwise (fun a b => a.seq < b.seq)) {q : Int} (hq : (lo : Int) ≤ q) (k : ByteArray) : atv (vsOf S.es k) q = valA b cms q k := by
  rw [vsOf_ek, h.vs, atv_cut (hs k) hq]
  exact atv_verA (seq_rise hc) (by omega) k
theorem VInv.vac {S S' : SC} {b : List Wr} {cms : List Cmt} {lo q : Nat} {N : Nat} (h : VInv S b cms lo) (hs : ∀ k, (verA 0 b cms k).Pairwise (fun a b => a.seq < b.seq)) (ok' : S'.Ok N) (hN : N ≤ 300000) (h1 : lo ≤ q) (h2 : q ≤ cms.length) (hl : S'.low = q) (hh : S'.hist.xs.map cma = (S.hist.xs.map cma).drop ((q : Int) - S.low).toNat)
    (hk : ∀ k vs, (k, vs) ∈ ek S'.es ↔ vs ≠ [] ∧ ∃ vs0, (k, vs0) ∈ ek S.es ∧ vs = cutv vs0 q) : VInv S' b cms q := by
  refine ⟨ok'.mono hN (by decide), hl, h2, ?_, fun k => ?_⟩
  · rw [hh, h.hist, h.low, List.drop_drop, show lo + ((q : Int) - (lo : Int)).toNat = q by omega]
  · rw [vac_vs h.ok ok' hk, h.vs, cut_cut (hs k) (by omega)]
/-- how many versions are left -/
theorem VInv.count {S S0 : SC} {b : List Wr} {cms : List Cmt} {lo : Nat} (h : VInv S b cms lo) (hc : ∀ (i : Nat) (c : Cmt), cms[i]? = some c → c.1 = 0 + 1 + i) {N : Nat} (ok0 : S0.Ok N) (h0 : ek S0.es = stK 0 b cms) {es : List Me} {ck : Nat} (hm : MapIs es ck (valA b cms lo)) : vcount (ek S.es) = es.length + wcount (cms.drop lo) := by
  have hat : ∀ k, atv (vsOf S0.es k) (lo : Int) = valA b cms lo k := fun k => atv_st h0 (seq_rise hc) (by omega) k
  have hb := base_is ok0 hat
  have hm2 : MapIs es ck (fun k => atv (vsOf S0.es k) (lo : Int)) := hm.cong hat
  rw [← base_count ok0 hm2, ← st_count (lo : Int) (cms.drop lo) hb.srt]
  refine vcount_eq (ek_srt h.ok) (st_srt _ _ _) (ek_ne h.ok) (st_ne _ _ _) fun k => ?_
  rw [h.vs, vsK_st]
  exact cut_len hc hb k
theorem wcount_snoc (cms : List Cmt) (c : Cmt) : wcount (cms ++ [c]) = wcount cms + c.2.2.length := by unfold wcount; rw [List.map_append, List.sum_append]; simp
end Go.Proofs.Ytbhbdpbhhfemhaa
