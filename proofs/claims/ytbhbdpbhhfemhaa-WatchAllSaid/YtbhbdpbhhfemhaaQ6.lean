/-
  Parts of the proof, joined in one file: WVacuums, Open3, Leavr, Pre, Pre2, Poll, WMade, WPolls, WSteps.
-/
import Derived.Test.YtbhbdpbhhfemhaaQ5
import Derived.Test.YtbhbdpbhhfemhaaQ4
import Derived.Test.YtbhbdpbhhfemhaaQ1
set_option linter.unusedSimpArgs false
set_option linter.unusedVariables false
/-
  StoreVacuums: the walk.
-/
namespace Go.Proofs.Ytbhbdpbhhfemhaa
open Go Go.Proofs
set_option maxRecDepth 100000
set_option maxHeartbeats 16000000
set_option linter.unusedVariables false

theorem StoreVacuums_walk {w : World} {l : List HP} {a a3 a4 : Option Addr} {n c n3 c3 n4 c4 : Nat} {xs : List Sl} {ws : List Wr} {zs : List Int} (H : Sat w l) (hr : SlIn l a n c xs) (h3 : RIn wrc TWr l a3 n3 c3 ws) (hk : ∀ x ∈ ws, x.key.size ≤ 4611686018427387904) (hn3 : n3 ≤ 4611686018427387904) (h4 : RIn intc TIn l a4 n4 c4 zs) :
    Calls Try.prog 13 #[.slice a3 n3 c3, .slice a n c, .slice a4 n4 c4] w (Ret fun v w' => v = .bool true ∧ Sat w' l) := by
  have hln := slIn_len hr
  have hl4 := h4.len
  refine Calls.of_wp Try.func13 rfl Try.ntmps13 Try.results13 (Nat.le_of_ble_eq_true rfl) ?_
  refine WP.seq ?_
  refine WP.region ?_
  refine OpsE.val (x_assign (v := .bool _) rfl) ?_
  refine OpsE.nil ?_
  refine Then.normal ?_
  refine WP.seq ?_
  refine WP.seq ?_
  refine WP.region ?_
  refine OpsE.call (x_call (vl := []) rfl Try.call14) (head_spec H) ?_
  rintro _ w ⟨rfl, H⟩
  refine OpsE.val (x_not rfl) ?_
  refine OpsE.nil ?_
  refine Then.normal ?_
  refine WP.cond_f rfl rfl ?_
  refine WP.skip ?_
  refine Then.normal ?_
  refine WP.seq ?_
  refine WP.seq ?_
  refine WP.region ?_
  refine OpsE.val (x_move (v := .slice _ _ _) rfl) ?_
  refine OpsE.call (x_call (vl := [.slice _ _ _]) rfl Try.call21) (few_spec H) ?_
  rintro _ w ⟨rfl, H⟩
  by_cases c0 : (n : Int) ≤ 30
  · rw [decide_eq_true c0]
    refine OpsE.val (x_not rfl) ?_
    refine OpsE.val (x_move (v := .bool _) rfl) ?_
    refine OpsE.yes rfl ?_
    refine OpsE.val (x_move (v := .slice a4 n4 c4) rfl) ?_
    refine OpsE.yes rfl ?_
    refine OpsE.val (x_lenL rfl rfl Try.runUnderlying64) ?_
    refine OpsE.yes rfl ?_
    refine OpsE.val (x_gt rfl rfl) ?_
    by_cases c00 : (n4 : Int) > 6
    · rw [decide_eq_true c00]
      refine OpsE.val (x_pickF rfl rfl) ?_
      refine OpsE.nil ?_
      refine Then.normal ?_
      refine WP.cond_t rfl rfl ?_
      refine WP.seq ?_
      refine WP.region ?_
      refine OpsE.val (x_assign (v := .bool _) rfl) ?_
      refine OpsE.nil ?_
      refine Then.normal ?_
      refine WP.ret ?_
      refine Then.ret ?_
      refine Leave0.ret (v := .bool _) rfl ?_
      exact ⟨rfl, H⟩
    · rw [decide_eq_false c00]
      refine OpsE.val (x_pickF rfl rfl) ?_
      refine OpsE.nil ?_
      refine Then.normal ?_
      refine WP.cond_f rfl rfl ?_
      refine WP.skip ?_
      refine Then.normal ?_
      refine WP.seq ?_
      refine WP.region ?_
      refine OpsE.val (x_move (v := .slice _ _ _) rfl) ?_
      refine OpsE.call (x_call (vl := [.slice _ _ _]) rfl Try.call31) (Some_spec H h3 hk hn3) ?_
      rintro _ w ⟨rs, rfl, hso, hrso, hrsl, H⟩
      refine OpsE.call (x_call (vl := [.slice _ _ _]) rfl Try.call30) (there_spec H (Rw.rin_own rs hrso) (by omega)) ?_
      rintro _ w ⟨rb, rfl, hrb, hrbo, H⟩
      refine OpsE.val (x_assign (v := .slice _ _ _) rfl) ?_
      refine OpsE.nil ?_
      refine Then.normal ?_
      refine WP.seq ?_
      refine WP.region ?_
      refine OpsE.val (x_move (v := .slice _ _ _) rfl) ?_
      refine OpsE.call (x_call (vl := [.int .i64 _, .slice _ _ _]) rfl Try.call22) (List_spec (first := 1) H hr.more.more (by omega) (by decide)) ?_
      rintro _ w ⟨r, rfl, hlo, hro, hrw, H⟩
      refine OpsE.val (x_assign (v := .slice _ _ _) rfl) ?_
      refine OpsE.nil ?_
      refine Then.normal ?_
      refine WP.seq ?_
      refine WP.region ?_
      refine OpsE.val (x_move (v := rb.val) rfl) ?_
      refine OpsE.val (x_move (v := r.val) rfl) ?_
      have hlo' : ListOf (0 + 1) (xs.map Sl.ws) (r.xs.map cma) := hlo
      have htk := takes_list hlo' (by omega) (by decide)
      have hrl : r.xs.length = n := by rw [← hln, ← hlo.1, List.length_map]
      obtain ⟨hb1, hb2, hb3⟩ := there_ok hso
      have hbg := there_good hso (seq := 0) (by decide)
      rw [← hrb] at hb1 hb2 hb3 hbg
      refine OpsE.call (x_call (vl := [.int .i64 _, .slice _ _ _, .slice _ _ _]) rfl Try.call23) (made_spec (first := 0) (bs := rb.xs) H (Rw.rin_own rb hrbo) (by omega) hbg (CIn.of_rw hro hrw) (by omega) (by rw [cm_ab]; exact htk) (good_big hbg)) ?_
      rintro _ w ⟨b, S0, rfl, ok0, hlow, hhist, hek, H⟩
      rw [cm_ab] at hhist hek
      obtain ⟨cms, hcms⟩ : ∃ cms, r.xs.map cma = cms := ⟨_, rfl⟩
      rw [hcms] at hhist hek htk
      have hcl : cms.length = n := by rw [← hcms, List.length_map, hrl]
      have hcs : ∀ (i : Nat) (c : Cmt), cms[i]? = some c → c.1 = 0 + 1 + i := fun i c hc => (htk.seq i c hc).1
      have hwc := wcount_le htk.right
      have hvs : ∀ k, (verA 0 rb.xs cms k).Pairwise (fun a b => a.seq < b.seq) := fun k => by
        have h := vsOf_srt ok0 k
        rw [vsOf_ek, hek, vsK_st] at h; exact h
      have hinv0 : VInv S0 rb.xs cms 0 := ⟨ok0, hlow, Nat.zero_le _, hhist, fun k => by rw [hek, vsK_st]; exact (cut_zero hcs k).symm⟩
      obtain ⟨R, hR⟩ : ∃ R, R = (r.own cmc TCm :: stars (r.xs.map cmH) :: rb.own wrc TWr :: rs.own wrc TWr :: l) := ⟨_, rfl⟩
      have H0 : Sat w (StP b S0 :: R) := by rw [hR]; exact H
      clear H
      replace H := H0
      clear H0
      have hci : CIn R r.ad r.xs.length r.cp (r.xs.map Cm.v) := by rw [hR]; exact CIn.of_rw hro hrw
      have hbi : RIn wrc TWr R rb.ad rb.xs.length rb.cp rb.xs := by rw [hR]; exact Rw.rin_own rb hrbo
      have hcn : ∀ x ∈ r.xs.map Cm.v, x.n ≤ 4611686018427387904 := fun x hx => hci_n htk hcms hx
      have hii : RIn intc TIn R a4 n4 c4 zs := by rw [hR]; exact h4.more.more.more.more
      refine OpsE.val (x_move (v := .tuple _) rfl) ?_
      refine OpsE.val (x_extract (v := .pointer (some ⟨b, 0, none⟩)) rfl rfl) ?_
      refine OpsE.val (x_extract (v := .bool true) rfl rfl) ?_
      refine OpsE.val (x_assign (v := .pointer _) rfl) ?_
      refine OpsE.val (x_assign (v := .bool _) rfl) ?_
      refine OpsE.nil ?_
      refine Then.normal ?_
      refine WP.seq ?_
      refine WP.seq ?_
      refine WP.region ?_
      refine OpsE.val (x_move (v := .bool _) rfl) ?_
      refine OpsE.val (x_not rfl) ?_
      refine OpsE.nil ?_
      refine Then.normal ?_
      refine WP.cond_f rfl rfl ?_
      refine WP.skip ?_
      refine Then.normal ?_
      refine WP.seq ?_
      refine WP.region ?_
      refine OpsE.val (x_assign (v := .int .i64 _) rfl) ?_
      refine OpsE.nil ?_
      refine Then.normal ?_
      refine WP.seq ?_
      refine WP.seq ?_
      refine WP.region ?_
      refine OpsE.val (x_move (v := .slice a4 n4 c4) rfl) ?_
      refine OpsE.val (x_lenL rfl rfl Try.runUnderlying64) ?_
      refine OpsE.val (x_move (v := .int .i64 _) rfl) ?_
      refine OpsE.nil ?_
      refine Then.normal ?_
      refine WP.block ?_
      refine WP.loopS [6, 11, 13, 14, 15, 16, 18, 19, 20, 21, 22, 23, 49, 50, 51, 52, 53, 54, 55, 56, 57, 58, 59, 60, 61, 62, 63, 64, 65, 66, 67, 68, 69, 70, 71, 72, 73, 74, 75, 76, 77, 78, 79, 80, 81, 82, 83, 84, 85, 86, 87, 88, 89, 90, 91, 92, 93, 94, 95, 96, 97, 98, 99, 100, 101, 102, 103, 104, 105, 106, 107, 108, 109, 110, 111, 112, 113, 114, 115, 116, 117, 118, 119, 120, 121, 122, 123, 124, 125, 126, 127, 128, 129, 130, 131, 132, 133, 134, 135, 136, 137, 138, 139, 140, 141, 142, 143, 144, 145, 146, 147, 148, 149, 150, 151, 152, 153, 154, 155, 156] (fun (i : Nat) E w => ∃ (Si : SC) (lo : Nat), E 49 = .int .i64 (i : Int) ∧ E 11 = .int .i64 (lo : Int) ∧ i ≤ n4 ∧ VInv Si rb.xs cms lo ∧ Sat w (StP b Si :: R)) (fun i => n4 - i) 0 ⟨S0, 0, rfl, rfl, Nat.zero_le _, hinv0, H⟩ ?_
      clear H
      rintro i E1 w hs ⟨Si, lo, e49, e11, hin, hinv, H⟩
      refine WP.seq ?_
      refine WP.region ?_
      refine OpsE.val (x_lt e49 (hs 48 rfl)) ?_
      by_cases hlt : (i : Int) < (n4 : Int)
      · rw [decide_eq_true hlt]
        refine OpsE.nil ?_
        refine Then.normal ?_
        refine WP.seq ?_
        refine WP.cond_t rfl rfl ?_
        refine WP.skip ?_
        refine Then.normal ?_
        refine WP.seq ?_
        refine WP.block ?_
        refine WP.seq ?_
        obtain ⟨bb, off, B, fz, pre, post, rfl, hB, hBl, hpo⟩ := hii.some (by omega)
        obtain ⟨z, hz⟩ : ∃ z, zs[i]? = some z := ⟨_, List.getElem?_eq_getElem (by omega)⟩
        have hlol := hinv.le
        have hlas := hinv.last
        have hSw : ∀ c ∈ Si.hist.xs, c.w.xs.length ≤ 1000 := fun c hc => by
          have h1 : cma c ∈ cms.drop lo := by rw [← hinv.hist]; exact List.mem_map.2 ⟨c, hc, rfl⟩
          have h2 := right_len (htk.right (cma c) (List.mem_of_mem_drop h1))
          have h3 : c.w.xs.length ≤ 200 := h2
          omega
        have hSl : Si.hist.xs.length = n - lo := by rw [rw_len hinv.hist, List.length_drop, hcl]
        refine WP.region ?_
        refine OpsE.val (x_indexAddro1 (i := i) (hs 47 rfl) e49 Try.runUnderlying64 Try.sizeOf3 rfl (by omega)) ?_
        refine OpsE.val (x_load (v := .int .i64 z) rfl Try.isAgg3 (hB w H.tail) (by have := row_cell intc_len hBl hpo (j := 0) hz rfl; simpa using this)) ?_
        refine OpsE.val (x_assign (v := .int .i64 _) rfl) ?_
        refine OpsE.nil ?_
        refine Then.normal ?_
        refine WP.cutS [14, 53, 54, 55, 56, 57, 58, 59, 60, 61] (fun E w => ∃ g : Bool, E 14 = .bool g ∧ (g = true ↔ ((lo : Int) ≤ z ∧ z ≤ n)) ∧ Sat w (StP b Si :: R)) ?_ ?_
        · skip
          refine WP.region ?_
          refine OpsE.val (x_move (v := .int .i64 z) rfl) ?_
          refine OpsE.val (x_move (v := .int .i64 _) e11) ?_
          refine OpsE.val (x_ge rfl rfl) ?_
          by_cases g1 : z ≥ (lo : Int)
          · rw [decide_eq_true g1]
            refine OpsE.val (x_move (v := .bool _) rfl) ?_
            refine OpsE.yes rfl ?_
            refine OpsE.val (x_move (v := .int .i64 z) rfl) ?_
            refine OpsE.yes rfl ?_
            refine OpsE.val (x_move (v := .slice r.ad r.xs.length r.cp) (hs 8 rfl)) ?_
            refine OpsE.yes rfl ?_
            refine OpsE.val (x_lenL rfl rfl Try.runUnderlying38) ?_
            refine OpsE.yes rfl ?_
            refine OpsE.val (x_le rfl rfl) ?_
            by_cases g2 : z ≤ ((r.xs.length : Nat) : Int)
            · rw [decide_eq_true g2]
              refine OpsE.val (x_pickT rfl rfl) ?_
              refine OpsE.val (x_assign (v := .bool _) rfl) ?_
              refine OpsE.nil ?_
              refine Then.normal ?_
              exact ⟨rfl, (by repeat (first | exact Same.refl _ _ | refine Same.upd ?_ rfl)), true, rfl, ⟨fun _ => ⟨by omega, by omega⟩, fun _ => rfl⟩, H⟩
            · rw [decide_eq_false g2]
              refine OpsE.val (x_pickT rfl rfl) ?_
              refine OpsE.val (x_assign (v := .bool _) rfl) ?_
              refine OpsE.nil ?_
              refine Then.normal ?_
              exact ⟨rfl, (by repeat (first | exact Same.refl _ _ | refine Same.upd ?_ rfl)), false, rfl, ⟨fun h => (by cases h), fun h => absurd h.2 (by omega)⟩, H⟩
          · rw [decide_eq_false g1]
            refine OpsE.val (x_move (v := .bool _) rfl) ?_
            refine OpsE.no rfl ?_
            refine OpsE.no rfl ?_
            refine OpsE.no rfl ?_
            refine OpsE.no rfl ?_
            refine OpsE.val (x_pickF rfl rfl) ?_
            refine OpsE.val (x_assign (v := .bool _) rfl) ?_
            refine OpsE.nil ?_
            refine Then.normal ?_
            exact ⟨rfl, (by repeat (first | exact Same.refl _ _ | refine Same.upd ?_ rfl)), false, rfl, ⟨fun h => (by cases h), fun h => absurd h.1 (by omega)⟩, H⟩
        · skip
          rintro E2 w hs1 ⟨g, e14, hgood, H⟩
          refine WP.seq ?_
          refine WP.region ?_
          refine OpsE.val (x_move (v := .pointer (some ⟨b, 0, none⟩)) ((hs1 9 rfl).trans (hs 9 rfl))) ?_
          cases hg : g
          case false =>
            refine OpsE.val (x_move (v := .int .i64 z) (hs1 13 rfl)) ?_
            subst hg
            refine OpsE.call (x_call (vl := [.pointer _, .int .i64 _]) rfl Try.call19) (Vacuum_spec (q := z) H hinv.ok (by omega)) ?_
            rintro _ w (⟨_, rfl, H⟩ | ⟨hg1, _⟩)
            rotate_left
            · exact absurd (hgood.2 ⟨by have := hg1.1; rw [hinv.low] at this; exact this, by have := hg1.2; rw [hlas, hcl] at this; exact this⟩) (by simp)
            obtain ⟨S2, lo2, hS2, hlo2⟩ : ∃ (S2 : SC) (lo2 : Nat), S2 = Si ∧ lo2 = lo := ⟨_, _, rfl, rfl⟩
            have hinv2 : VInv S2 rb.xs cms lo2 := by rw [hS2, hlo2]; exact hinv
            rw [← hlo2] at e11
            rw [← hS2] at H
            refine OpsE.val (x_assign (v := .int .i64 _) rfl) ?_
            refine OpsE.nil ?_
            refine Then.normal ?_
            refine WP.seq ?_
            refine WP.seq ?_
            refine WP.region ?_
            refine OpsE.val (x_move (v := .int .i64 1) rfl) ?_
            refine OpsE.val (x_eqI rfl rfl) ?_
            rw [decide_eq_false (by decide)]
            refine OpsE.val (x_move (v := .bool false) e14) ?_
            refine OpsE.val (x_neB rfl rfl Try.runUnderlying4) ?_
            rw [(show (!(false == false)) = false from rfl)]
            refine OpsE.val (x_move (v := .bool _) rfl) ?_
            refine OpsE.yes rfl ?_
            refine OpsE.val (x_move (v := .bool false) e14) ?_
            refine OpsE.yes rfl ?_
            refine OpsE.val (x_not rfl) ?_
            refine OpsE.yes rfl ?_
            refine OpsE.val (x_move (v := .bool _) rfl) ?_
            refine OpsE.yes rfl ?_
            refine OpsE.val (x_move (v := .int .i64 _) rfl) ?_
            refine OpsE.yes rfl ?_
            refine OpsE.val (x_neI rfl rfl) ?_
            rw [decide_eq_false (by decide)]
            refine OpsE.yes rfl ?_
            refine OpsE.val (x_pickT rfl rfl) ?_
            refine OpsE.val (x_pickF rfl rfl) ?_
            refine OpsE.nil ?_
            refine Then.normal ?_
            refine WP.cond_f rfl rfl ?_
            refine WP.skip ?_
            refine Then.normal ?_
            refine WP.seq ?_
            refine WP.seq ?_
            refine WP.region ?_
            refine OpsE.val (x_move (v := .bool false) e14) ?_
            refine OpsE.nil ?_
            refine Then.normal ?_
            refine WP.cond_f rfl rfl ?_
            refine WP.skip ?_
            refine Then.normal ?_
            refine WP.seq ?_
            refine WP.seq ?_
            refine WP.region ?_
            refine OpsE.val (x_move (v := .int .i64 (lo2 : Int)) ((hs1 11 rfl).trans e11)) ?_
            refine OpsE.val (x_assign (v := .int .i64 _) rfl) ?_
            refine OpsE.nil ?_
            refine Then.normal ?_
            refine WP.block ?_
            have hinv3 := hinv2
            refine WP.loopS [6, 19, 20, 21, 103, 104, 105, 106, 107, 108, 109, 110, 111, 112, 113, 114, 115, 116, 117, 118, 119, 120, 121, 122, 123, 124, 125, 126, 127, 128, 129, 130, 131, 132, 133] (fun (j : Nat) E w => E 19 = .int .i64 ((lo2 + j : Nat) : Int) ∧ lo2 + j ≤ n + 1 ∧ Sat w (StP b S2 :: R)) (fun j => n + 1 - (lo2 + j)) 0 ⟨rfl, by have := hinv2.le; omega, H⟩ ?_
            clear H
            rintro j E4 w hs4 ⟨e19, hjn, H⟩
            have hle2 := hinv2.le
            have hlas2 := hinv2.last
            have hSl2 : S2.hist.xs.length = n - lo2 := by rw [rw_len hinv2.hist, List.length_drop, hcl]
            have hSw2 : ∀ c ∈ S2.hist.xs, c.w.xs.length ≤ 1000 := fun c hc => by
              have h1 : cma c ∈ cms.drop lo2 := by rw [← hinv2.hist]; exact List.mem_map.2 ⟨c, hc, rfl⟩
              have h2 := right_len (htk.right (cma c) (List.mem_of_mem_drop h1))
              have h3 : c.w.xs.length ≤ 200 := h2
              omega
            refine WP.seq ?_
            refine WP.seq ?_
            refine WP.region ?_
            refine OpsE.val (x_move (v := .int .i64 _) e19) ?_
            refine OpsE.val (x_move (v := r.val) ((hs4 8 rfl).trans ((hs1 8 rfl).trans (hs 8 rfl)))) ?_
            refine OpsE.val (x_lenL rfl rfl Try.runUnderlying38) ?_
            refine OpsE.val (x_le rfl rfl) ?_
            by_cases hle : ((lo2 + j : Nat) : Int) ≤ ((r.xs.length : Nat) : Int)
            · rw [decide_eq_true hle]
              refine OpsE.nil ?_
              refine Then.normal ?_
              refine WP.cond_t rfl rfl ?_
              refine WP.skip ?_
              refine Then.normal ?_
              refine WP.seq ?_
              refine WP.block ?_
              refine WP.seq ?_
              refine WP.seq ?_
              refine WP.region ?_
              refine OpsE.val (x_move (v := .pointer (some ⟨b, 0, none⟩)) ((hs4 9 rfl).trans ((hs1 9 rfl).trans (hs 9 rfl)))) ?_
              refine OpsE.val (x_move (v := rb.val) ((hs4 7 rfl).trans ((hs1 7 rfl).trans (hs 7 rfl)))) ?_
              refine OpsE.val (x_move (v := r.val) ((hs4 8 rfl).trans ((hs1 8 rfl).trans (hs 8 rfl)))) ?_
              refine OpsE.val (x_move (v := .int .i64 ((lo2 + j : Nat) : Int)) e19) ?_
              refine OpsE.call (x_call (vl := [.slice _ _ _, .slice _ _ _, .int .i64 _]) rfl Try.call27) (At_map (q := ((lo2 + j : Nat) : Int)) H hbi.more (by omega) hci.more (by omega) hcn) ?_
              rintro _ w ⟨m2, es2, ck2, rfl, hm3, H⟩
              refine OpsE.val (x_move (v := .int .i64 ((lo2 + j : Nat) : Int)) e19) ?_
              have hm4 : MapIs es2 ck2 (fun k => atv (vsOf S2.es k) ((lo2 + j : Nat) : Int)) := hm3.cong fun k => by rw [cm_ab, hcms]; exact hinv2.at hcs hvs (by omega) k
              refine OpsE.call (x_call (vl := [.pointer _, .map _, .int .i64 _]) rfl Try.call26) (shows_spec H.swap hinv2.ok hm4) ?_
              rintro _ w ⟨rfl, H⟩
              refine OpsE.val (x_not rfl) ?_
              refine OpsE.nil ?_
              refine Then.normal ?_
              refine WP.cond_f rfl rfl ?_
              refine WP.skip ?_
              refine Then.normal ?_
              refine WP.seq ?_
              refine WP.region ?_
              refine OpsE.val (x_move (v := .pointer (some ⟨b, 0, none⟩)) ((hs4 9 rfl).trans ((hs1 9 rfl).trans (hs 9 rfl)))) ?_
              refine OpsE.val (x_move (v := .int .i64 ((lo2 + j : Nat) : Int)) e19) ?_
              refine OpsE.call (x_call (vl := [.pointer _, .int .i64 _]) rfl Try.call38) (Since_one (q := ((lo2 + j : Nat) : Int)) H hinv2.ok (by omega) hSw2) ?_
              rintro _ w ⟨r2, er, rfl, hs2s, H⟩
              rw [hinv2.low, hlas2, hcl] at hs2s
              obtain ⟨rfl, hr2⟩ : er = 0 ∧ r2.xs.length = n - (lo2 + j) := by
                rcases hs2s with ⟨h, _⟩ | ⟨_, h, _⟩ | ⟨_, _, h1, h2, _⟩
                · omega
                · omega
                · refine ⟨h1, ?_⟩
                  have h5 := congrArg List.length h2
                  rw [List.length_map, List.length_drop, List.length_map, hSl2] at h5
                  omega
              refine OpsE.val (x_move (v := .tuple #[r2.val, .int .i64 0]) rfl) ?_
              refine OpsE.val (x_extract (v := r2.val) rfl rfl) ?_
              refine OpsE.val (x_extract (v := .int .i64 0) rfl rfl) ?_
              refine OpsE.val (x_assign (v := .slice _ _ _) rfl) ?_
              refine OpsE.val (x_assign (v := .int .i64 _) rfl) ?_
              refine OpsE.nil ?_
              refine Then.normal ?_
              refine WP.seq ?_
              refine WP.region ?_
              refine OpsE.val (x_move (v := .int .i64 0) rfl) ?_
              refine OpsE.val (x_neI rfl rfl) ?_
              rw [decide_eq_false (by decide)]
              refine OpsE.val (x_move (v := .bool _) rfl) ?_
              refine OpsE.yes rfl ?_
              refine OpsE.val (x_move (v := r2.val) rfl) ?_
              refine OpsE.yes rfl ?_
              refine OpsE.val (x_lenL rfl rfl Try.runUnderlying38) ?_
              refine OpsE.yes rfl ?_
              refine OpsE.val (x_move (v := r.val) ((hs4 8 rfl).trans ((hs1 8 rfl).trans (hs 8 rfl)))) ?_
              refine OpsE.yes rfl ?_
              refine OpsE.val (x_lenL rfl rfl Try.runUnderlying38) ?_
              refine OpsE.yes rfl ?_
              refine OpsE.val (x_move (v := .int .i64 ((lo2 + j : Nat) : Int)) e19) ?_
              refine OpsE.yes rfl ?_
              refine OpsE.val (x_sub (z := ((n - (lo2 + j) : Nat) : Int)) rfl rfl (by show IntKind.i64.wrap (((r.xs.length : Nat) : Int) - _) = _; rw [hrl, i64n (by omega) (by omega)]; omega)) ?_
              refine OpsE.yes rfl ?_
              refine OpsE.val (x_neI rfl rfl) ?_
              rw [decide_eq_false (by rw [hr2]; simp)]
              refine OpsE.val (x_pickF rfl rfl) ?_
              refine OpsE.nil ?_
              refine Then.normal ?_
              refine WP.cond_f rfl rfl ?_
              refine WP.skip ?_
              refine InBlock.normal ?_
              refine Then.normal ?_
              refine WP.region ?_
              refine OpsE.val (x_move (v := .int .i64 _) e19) ?_
              refine OpsE.val (x_add (z := ((lo2 + (j + 1) : Nat) : Int)) rfl rfl (by rw [i64n (by omega) (by omega)]; omega)) ?_
              refine OpsE.val (x_assign (v := .int .i64 _) rfl) ?_
              refine OpsE.nil ?_
              refine Then.normal ?_
              exact ⟨rfl, (by repeat (first | exact hs4 | refine Same.upd ?_ rfl)), j + 1, by omega, rfl, by omega, H.tail.tail.swap.tail⟩
            · rw [decide_eq_false hle]
              refine OpsE.nil ?_
              refine Then.normal ?_
              refine WP.cond_f rfl rfl ?_
              refine WP.exit ?_
              refine Then.exit ?_
              refine Then.exit ?_
              refine InBlock.hit ?_
              refine Then.normal ?_
              refine WP.seq ?_
              refine WP.region ?_
              refine OpsE.val (x_move (v := .pointer (some ⟨b, 0, none⟩)) ((hs4 9 rfl).trans ((hs1 9 rfl).trans (hs 9 rfl)))) ?_
              refine OpsE.val (x_move (v := .int .i64 _) ((hs4 11 rfl).trans ((hs1 11 rfl).trans e11))) ?_
              refine OpsE.val (x_sub (z := ((lo2 : Int) - 1)) rfl rfl (i64n (by omega) (by omega))) ?_
              refine OpsE.call (x_call (vl := [.pointer _, .int .i64 _]) rfl Try.call38) (Since_one (q := (lo2 : Int) - 1) H hinv2.ok (by omega) hSw2) ?_
              rintro _ w ⟨r3, er, rfl, hs2s, H⟩
              rw [hinv2.low] at hs2s
              obtain rfl : er = 12 := by
                rcases hs2s with ⟨_, h, _⟩ | ⟨h, _⟩ | ⟨h, _⟩
                · exact h
                · omega
                · omega
              refine OpsE.val (x_move (v := .tuple #[r3.val, .int .i64 12]) rfl) ?_
              refine OpsE.val (x_extract (v := r3.val) rfl rfl) ?_
              refine OpsE.val (x_extract (v := .int .i64 12) rfl rfl) ?_
              refine OpsE.val (x_assign (v := .slice _ _ _) rfl) ?_
              refine OpsE.val (x_assign (v := .int .i64 _) rfl) ?_
              refine OpsE.nil ?_
              refine Then.normal ?_
              refine WP.seq ?_
              refine WP.region ?_
              refine OpsE.val (x_move (v := .int .i64 12) rfl) ?_
              refine OpsE.val (x_neI rfl rfl) ?_
              rw [decide_eq_false (by decide)]
              refine OpsE.val (x_move (v := .bool _) rfl) ?_
              refine OpsE.yes rfl ?_
              refine OpsE.val (x_move (v := .pointer (some ⟨b, 0, none⟩)) ((hs4 9 rfl).trans ((hs1 9 rfl).trans (hs 9 rfl)))) ?_
              refine OpsE.yes rfl ?_
              replace H := StP.open.1 H.tail.tail
              refine OpsE.call (x_call (vl := [.pointer _]) rfl Try.call17) (SLow_spec H (fun w H => H.look b) hinv2.ok) ?_
              rintro _ w ⟨rfl, H⟩
              replace H := StP.open.2 H
              refine OpsE.yes rfl ?_
              refine OpsE.val (x_move (v := .int .i64 (lo2 : Int)) ((hs4 11 rfl).trans ((hs1 11 rfl).trans e11))) ?_
              refine OpsE.yes rfl ?_
              refine OpsE.val (x_neI rfl rfl) ?_
              rw [decide_eq_false (by rw [hinv2.low]; simp)]
              refine OpsE.val (x_pickF rfl rfl) ?_
              refine OpsE.val (x_move (v := .bool _) rfl) ?_
              refine OpsE.yes rfl ?_
              refine OpsE.val (x_move (v := .pointer (some ⟨b, 0, none⟩)) ((hs4 9 rfl).trans ((hs1 9 rfl).trans (hs 9 rfl)))) ?_
              refine OpsE.yes rfl ?_
              replace H := StP.open.1 H
              refine OpsE.call (x_call (vl := [.pointer _]) rfl Try.call16) (SLast_spec H (fun w H => H.look b) hinv2.ok) ?_
              rintro _ w ⟨rfl, H⟩
              replace H := StP.open.2 H
              refine OpsE.yes rfl ?_
              refine OpsE.val (x_move (v := r.val) ((hs4 8 rfl).trans ((hs1 8 rfl).trans (hs 8 rfl)))) ?_
              refine OpsE.yes rfl ?_
              refine OpsE.val (x_lenL rfl rfl Try.runUnderlying38) ?_
              refine OpsE.yes rfl ?_
              refine OpsE.val (x_neI rfl rfl) ?_
              rw [decide_eq_false (by rw [hlas2, hcl, hrl]; simp)]
              refine OpsE.val (x_pickF rfl rfl) ?_
              refine OpsE.nil ?_
              refine Then.normal ?_
              refine WP.cond_f rfl rfl ?_
              refine WP.skip ?_
              refine InBlock.normal ?_
              refine Then.normal ?_
              refine WP.region ?_
              refine OpsE.val (x_add (z := ((i + 1 : Nat) : Int)) ((hs4 49 rfl).trans ((hs1 49 rfl).trans e49)) rfl (by rw [i64n (by omega) (by omega)]; omega)) ?_
              refine OpsE.val (x_move (v := .int .i64 _) rfl) ?_
              refine OpsE.nil ?_
              refine Then.normal ?_
              refine ⟨rfl, (by repeat (first | exact hs | refine Same.upd ?_ rfl | refine Same.sub hs4 ?_ rfl | refine Same.sub hs1 ?_ rfl)), i + 1, by omega, S2, lo2, rfl, ?_, by omega, hinv2, H⟩
              exact (hs4 11 rfl).trans ((hs1 11 rfl).trans e11)
          case true =>
            refine OpsE.val (x_move (v := .int .i64 z) (hs1 13 rfl)) ?_
            subst hg
            obtain ⟨hz1, hz2⟩ := hgood.1 rfl
            obtain ⟨lo2, hlo2⟩ : ∃ lo2 : Nat, z = (lo2 : Int) := ⟨z.toNat, by omega⟩
            subst hlo2
            refine OpsE.call (x_call (vl := [.pointer _, .int .i64 _]) rfl Try.call19) (Vacuum_spec (q := (lo2 : Int)) H hinv.ok (by omega)) ?_
            rintro _ w (⟨hng, _, _⟩ | ⟨_, rfl, S2, ok2, hl2, hh2, hk2, H⟩)
            · exact absurd ⟨by rw [hinv.low]; exact hz1, by rw [hlas, hcl]; exact hz2⟩ hng
            have hinv2 : VInv S2 rb.xs cms lo2 := hinv.vac hvs ok2 (Nat.le_refl _) (by omega) (by omega) hl2 hh2 hk2
            refine OpsE.val (x_assign (v := .int .i64 _) rfl) ?_
            refine OpsE.nil ?_
            refine Then.normal ?_
            refine WP.seq ?_
            refine WP.seq ?_
            refine WP.region ?_
            refine OpsE.val (x_move (v := .int .i64 0) rfl) ?_
            refine OpsE.val (x_eqI rfl rfl) ?_
            rw [decide_eq_true (by decide)]
            refine OpsE.val (x_move (v := .bool true) e14) ?_
            refine OpsE.val (x_neB rfl rfl Try.runUnderlying4) ?_
            rw [(show (!(true == true)) = false from rfl)]
            refine OpsE.val (x_move (v := .bool _) rfl) ?_
            refine OpsE.yes rfl ?_
            refine OpsE.val (x_move (v := .bool true) e14) ?_
            refine OpsE.yes rfl ?_
            refine OpsE.val (x_not rfl) ?_
            refine OpsE.yes rfl ?_
            refine OpsE.val (x_move (v := .bool _) rfl) ?_
            refine OpsE.no rfl ?_
            refine OpsE.no rfl ?_
            refine OpsE.yes rfl ?_
            refine OpsE.val (x_pickF rfl rfl) ?_
            refine OpsE.val (x_pickF rfl rfl) ?_
            refine OpsE.nil ?_
            refine Then.normal ?_
            refine WP.cond_f rfl rfl ?_
            refine WP.skip ?_
            refine Then.normal ?_
            refine WP.seq ?_
            refine WP.seq ?_
            refine WP.region ?_
            refine OpsE.val (x_move (v := .bool true) e14) ?_
            refine OpsE.nil ?_
            refine Then.normal ?_
            refine WP.cond_t rfl rfl ?_
            refine WP.seq ?_
            refine WP.region ?_
            refine OpsE.val (x_move (v := .int .i64 (lo2 : Int)) (hs1 13 rfl)) ?_
            refine OpsE.val (x_assign (v := .int .i64 _) rfl) ?_
            refine OpsE.nil ?_
            refine Then.normal ?_
            refine WP.seq ?_
            refine WP.region ?_
            refine OpsE.val (x_move (v := rb.val) ((hs1 7 rfl).trans (hs 7 rfl))) ?_
            refine OpsE.val (x_move (v := r.val) ((hs1 8 rfl).trans (hs 8 rfl))) ?_
            refine OpsE.val (x_move (v := .int .i64 (lo2 : Int)) rfl) ?_
            refine OpsE.call (x_call (vl := [.slice _ _ _, .slice _ _ _, .int .i64 _]) rfl Try.call27) (At_map (q := (lo2 : Int)) H hbi.more (by omega) hci.more (by omega) hcn) ?_
            rintro _ w ⟨m, es, ck, rfl, hm, H⟩
            have hm1 : MapIs es ck (valA rb.xs cms (lo2 : Int)) := hm.cong fun k => by rw [cm_ab, hcms]
            have hvc := hinv2.count hcs ok0 hek hm1
            have hle2 := hinv2.le
            refine OpsE.val (x_lenM rfl rfl Try.underlying43 (H.look _)) ?_
            refine OpsE.val (x_assign (v := .int .i64 _) rfl) ?_
            refine OpsE.nil ?_
            refine Then.normal ?_
            refine WP.seq ?_
            refine WP.seq ?_
            refine WP.region ?_
            refine OpsE.val (x_move (v := r.val) ((hs1 8 rfl).trans (hs 8 rfl))) ?_
            refine OpsE.val (x_move (v := .int .i64 (lo2 : Int)) rfl) ?_
            obtain ⟨ad', hsl, hcd⟩ := CIn.drop (P := Try.prog) (T := 38) hci Try.runUnderlying38 Try.sizeOf33 (k := lo2) (by omega)
            refine OpsE.val (hsl _ _ _ _ .i64 w rfl rfl) ?_
            obtain ⟨ys, hys⟩ : ∃ ys, (r.xs.map Cm.v).drop lo2 = ys := ⟨_, rfl⟩
            rw [hys] at hcd
            have hyab : ys.map CmV.ab = cms.drop lo2 := by rw [← hys, List.map_drop, cm_ab, hcms]
            have hyl : ys.length = n - lo2 := by rw [← hys, List.length_drop, List.length_map, hrl]
            have hyw : ∀ i, wcount ((ys.take i).map CmV.ab) ≤ n * 200 := fun i => by
              have h1 := wcount_le (cms := (ys.take i).map CmV.ab) fun c hc => by
                obtain ⟨y, hy, rfl⟩ := List.mem_map.1 hc
                have : y.ab ∈ cms.drop lo2 := by rw [← hyab]; exact List.mem_map.2 ⟨y, List.mem_of_mem_take hy, rfl⟩
                exact htk.right _ (List.mem_of_mem_drop this)
              rw [List.length_map, List.length_take] at h1
              have h2 : min i ys.length * 200 ≤ n * 200 := Nat.mul_le_mul_right _ (by omega)
              omega
            have hesl : es.length ≤ 500000 := by
              have hat : ∀ k, atv (vsOf S0.es k) (lo2 : Int) = valA rb.xs cms (lo2 : Int) k := fun k => atv_st hek (seq_rise hcs) (by omega) k
              rw [← base_count ok0 (hm1.cong hat)]
              have := baseL_len S0.es (lo2 : Int)
              have := ok0.num
              omega
            refine OpsE.val (x_lenL rfl rfl Try.runUnderlying38) ?_
            refine OpsE.val (x_move (v := .int .i64 _) rfl) ?_
            refine OpsE.nil ?_
            refine Then.normal ?_
            refine WP.block ?_
            refine WP.loopS [16, 18, 88, 89, 90, 91, 92, 93, 94, 95, 96, 97] (fun (k : Nat) E w => E 88 = .int .i64 (k : Int) ∧ E 16 = .int .i64 ((es.length + wcount ((ys.take k).map CmV.ab) : Nat) : Int) ∧ k ≤ n - lo2 ∧ Sat w (StP b S2 :: R)) (fun k => n - lo2 - k) 0 ⟨rfl, rfl, Nat.zero_le _, H.tail⟩ ?_
            clear H
            rintro k E3 w hs2 ⟨e88, e16, hkl, H⟩
            refine WP.seq ?_
            refine WP.region ?_
            refine OpsE.val (x_lt e88 (hs2 87 rfl)) ?_
            by_cases hlt2 : (k : Int) < ((r.xs.length - lo2 : Nat) : Int)
            · rw [decide_eq_true hlt2]
              refine OpsE.nil ?_
              refine Then.normal ?_
              refine WP.seq ?_
              refine WP.cond_t rfl rfl ?_
              refine WP.skip ?_
              refine Then.normal ?_
              refine WP.seq ?_
              refine WP.block ?_
              refine WP.seq ?_
              obtain ⟨bb2, off2, B2, fz2, pre2, post2, had2, hB2, hBl2, hpo2⟩ := hcd.row.some (by omega)
              obtain ⟨y, hy⟩ : ∃ y, ys[k]? = some y := ⟨_, List.getElem?_eq_getElem (by omega)⟩
              have hyn : y.n = y.ws.length := (hcd.ws y (List.mem_of_getElem? hy)).len
              have hw1 := hyw k
              have hw2 := hyw (k + 1)
              have hw3 : wcount ((ys.take (k + 1)).map CmV.ab) = wcount ((ys.take k).map CmV.ab) + y.n := by rw [List.take_add_one, hy, List.map_append]; show wcount (_ ++ [y.ab]) = _; rw [wcount_snoc, hyn]; rfl
              refine WP.region ?_
              refine OpsE.val (x_indexAddro (i := k) ((hs2 86 rfl).trans (show Value.slice ad' _ _ = _ by rw [had2])) e88 Try.runUnderlying38 Try.sizeOf33 rfl (by omega)) ?_
              refine OpsE.val (x_loadA (vs := cvc y) rfl Try.isAgg33 Try.sizeOf33 (hB2 w H.tail) (row_el cvc_len hBl2 hpo2 hy) rfl) ?_
              refine OpsE.allocA Try.zeroValue33 H ?_
              intro b18 w H
              refine OpsE.storeA (vs := cvc y) rfl rfl Try.sizeOf33 H (cvc_one y) (Nat.le_refl _) ?_
              intro w H
              refine OpsE.nil ?_
              refine Then.normal ?_
              refine WP.region ?_
              refine OpsE.val (x_move (v := .int .i64 _) e16) ?_
              refine OpsE.val (x_fieldAddr (o := 2) rfl Try.runUnderlying33 rfl rfl Try.sizeOf22) ?_
              refine OpsE.val (x_load (v := .slice y.a y.n y.c) rfl Try.isAgg22 (H.look _) rfl) ?_
              refine OpsE.val (x_lenL rfl rfl Try.runUnderlying22) ?_
              refine OpsE.val (x_add (z := ((es.length + wcount ((ys.take (k + 1)).map CmV.ab) : Nat) : Int)) rfl rfl (by rw [i64n (by omega) (by omega)]; omega)) ?_
              refine OpsE.val (x_assign (v := .int .i64 _) rfl) ?_
              refine OpsE.nil ?_
              refine InBlock.normal ?_
              refine Then.normal ?_
              refine WP.region ?_
              refine OpsE.val (x_add (z := ((k + 1 : Nat) : Int)) e88 rfl (by rw [i64n (by omega) (by omega)]; omega)) ?_
              refine OpsE.val (x_move (v := .int .i64 _) rfl) ?_
              refine OpsE.nil ?_
              refine Then.normal ?_
              exact ⟨rfl, (by repeat (first | exact hs2 | refine Same.upd ?_ rfl)), k + 1, by omega, rfl, rfl, by omega, H.tail⟩
            · rw [decide_eq_false hlt2]
              refine OpsE.nil ?_
              refine Then.normal ?_
              refine WP.seq ?_
              refine WP.cond_f rfl rfl ?_
              refine WP.exit ?_
              refine Then.exit ?_
              refine Then.exit ?_
              refine InBlock.hit ?_
              refine Then.normal ?_
              refine WP.seq ?_
              refine WP.region ?_
              refine OpsE.val (x_move (v := .pointer (some ⟨b, 0, none⟩)) ((hs2 9 rfl).trans ((hs1 9 rfl).trans (hs 9 rfl)))) ?_
              refine OpsE.call (x_call (vl := [.pointer _]) rfl Try.call20) (Versions_spec H hinv2.ok) ?_
              rintro _ w ⟨rfl, H⟩
              have hke : k = ys.length := by omega
              rw [hke, List.take_length, hyab, ← hvc] at e16
              refine OpsE.val (x_move (v := .int .i64 ((vcount (ek S2.es) : Nat) : Int)) e16) ?_
              refine OpsE.val (x_neI rfl rfl) ?_
              rw [decide_eq_false (fun h => h rfl)]
              refine OpsE.nil ?_
              refine Then.normal ?_
              refine WP.cond_f rfl rfl ?_
              refine WP.skip ?_
              refine Then.normal ?_
              refine WP.seq ?_
              refine WP.seq ?_
              refine WP.region ?_
              refine OpsE.val (x_move (v := .int .i64 (lo2 : Int)) (hs2 11 rfl)) ?_
              refine OpsE.val (x_assign (v := .int .i64 _) rfl) ?_
              refine OpsE.nil ?_
              refine Then.normal ?_
              refine WP.block ?_
              have hinv3 := hinv2
              refine WP.loopS [6, 19, 20, 21, 103, 104, 105, 106, 107, 108, 109, 110, 111, 112, 113, 114, 115, 116, 117, 118, 119, 120, 121, 122, 123, 124, 125, 126, 127, 128, 129, 130, 131, 132, 133] (fun (j : Nat) E w => E 19 = .int .i64 ((lo2 + j : Nat) : Int) ∧ lo2 + j ≤ n + 1 ∧ Sat w (StP b S2 :: R)) (fun j => n + 1 - (lo2 + j)) 0 ⟨rfl, by have := hinv2.le; omega, H⟩ ?_
              clear H
              rintro j E4 w hs4 ⟨e19, hjn, H⟩
              have hle2 := hinv2.le
              have hlas2 := hinv2.last
              have hSl2 : S2.hist.xs.length = n - lo2 := by rw [rw_len hinv2.hist, List.length_drop, hcl]
              have hSw2 : ∀ c ∈ S2.hist.xs, c.w.xs.length ≤ 1000 := fun c hc => by
                have h1 : cma c ∈ cms.drop lo2 := by rw [← hinv2.hist]; exact List.mem_map.2 ⟨c, hc, rfl⟩
                have h2 := right_len (htk.right (cma c) (List.mem_of_mem_drop h1))
                have h3 : c.w.xs.length ≤ 200 := h2
                omega
              refine WP.seq ?_
              refine WP.seq ?_
              refine WP.region ?_
              refine OpsE.val (x_move (v := .int .i64 _) e19) ?_
              refine OpsE.val (x_move (v := r.val) ((hs4 8 rfl).trans ((hs2 8 rfl).trans ((hs1 8 rfl).trans (hs 8 rfl))))) ?_
              refine OpsE.val (x_lenL rfl rfl Try.runUnderlying38) ?_
              refine OpsE.val (x_le rfl rfl) ?_
              by_cases hle : ((lo2 + j : Nat) : Int) ≤ ((r.xs.length : Nat) : Int)
              · rw [decide_eq_true hle]
                refine OpsE.nil ?_
                refine Then.normal ?_
                refine WP.cond_t rfl rfl ?_
                refine WP.skip ?_
                refine Then.normal ?_
                refine WP.seq ?_
                refine WP.block ?_
                refine WP.seq ?_
                refine WP.seq ?_
                refine WP.region ?_
                refine OpsE.val (x_move (v := .pointer (some ⟨b, 0, none⟩)) ((hs4 9 rfl).trans ((hs2 9 rfl).trans ((hs1 9 rfl).trans (hs 9 rfl))))) ?_
                refine OpsE.val (x_move (v := rb.val) ((hs4 7 rfl).trans ((hs2 7 rfl).trans ((hs1 7 rfl).trans (hs 7 rfl))))) ?_
                refine OpsE.val (x_move (v := r.val) ((hs4 8 rfl).trans ((hs2 8 rfl).trans ((hs1 8 rfl).trans (hs 8 rfl))))) ?_
                refine OpsE.val (x_move (v := .int .i64 ((lo2 + j : Nat) : Int)) e19) ?_
                refine OpsE.call (x_call (vl := [.slice _ _ _, .slice _ _ _, .int .i64 _]) rfl Try.call27) (At_map (q := ((lo2 + j : Nat) : Int)) H hbi.more (by omega) hci.more (by omega) hcn) ?_
                rintro _ w ⟨m2, es2, ck2, rfl, hm3, H⟩
                refine OpsE.val (x_move (v := .int .i64 ((lo2 + j : Nat) : Int)) e19) ?_
                have hm4 : MapIs es2 ck2 (fun k => atv (vsOf S2.es k) ((lo2 + j : Nat) : Int)) := hm3.cong fun k => by rw [cm_ab, hcms]; exact hinv2.at hcs hvs (by omega) k
                refine OpsE.call (x_call (vl := [.pointer _, .map _, .int .i64 _]) rfl Try.call26) (shows_spec H.swap hinv2.ok hm4) ?_
                rintro _ w ⟨rfl, H⟩
                refine OpsE.val (x_not rfl) ?_
                refine OpsE.nil ?_
                refine Then.normal ?_
                refine WP.cond_f rfl rfl ?_
                refine WP.skip ?_
                refine Then.normal ?_
                refine WP.seq ?_
                refine WP.region ?_
                refine OpsE.val (x_move (v := .pointer (some ⟨b, 0, none⟩)) ((hs4 9 rfl).trans ((hs2 9 rfl).trans ((hs1 9 rfl).trans (hs 9 rfl))))) ?_
                refine OpsE.val (x_move (v := .int .i64 ((lo2 + j : Nat) : Int)) e19) ?_
                refine OpsE.call (x_call (vl := [.pointer _, .int .i64 _]) rfl Try.call38) (Since_one (q := ((lo2 + j : Nat) : Int)) H hinv2.ok (by omega) hSw2) ?_
                rintro _ w ⟨r2, er, rfl, hs2s, H⟩
                rw [hinv2.low, hlas2, hcl] at hs2s
                obtain ⟨rfl, hr2⟩ : er = 0 ∧ r2.xs.length = n - (lo2 + j) := by
                  rcases hs2s with ⟨h, _⟩ | ⟨_, h, _⟩ | ⟨_, _, h1, h2, _⟩
                  · omega
                  · omega
                  · refine ⟨h1, ?_⟩
                    have h5 := congrArg List.length h2
                    rw [List.length_map, List.length_drop, List.length_map, hSl2] at h5
                    omega
                refine OpsE.val (x_move (v := .tuple #[r2.val, .int .i64 0]) rfl) ?_
                refine OpsE.val (x_extract (v := r2.val) rfl rfl) ?_
                refine OpsE.val (x_extract (v := .int .i64 0) rfl rfl) ?_
                refine OpsE.val (x_assign (v := .slice _ _ _) rfl) ?_
                refine OpsE.val (x_assign (v := .int .i64 _) rfl) ?_
                refine OpsE.nil ?_
                refine Then.normal ?_
                refine WP.seq ?_
                refine WP.region ?_
                refine OpsE.val (x_move (v := .int .i64 0) rfl) ?_
                refine OpsE.val (x_neI rfl rfl) ?_
                rw [decide_eq_false (by decide)]
                refine OpsE.val (x_move (v := .bool _) rfl) ?_
                refine OpsE.yes rfl ?_
                refine OpsE.val (x_move (v := r2.val) rfl) ?_
                refine OpsE.yes rfl ?_
                refine OpsE.val (x_lenL rfl rfl Try.runUnderlying38) ?_
                refine OpsE.yes rfl ?_
                refine OpsE.val (x_move (v := r.val) ((hs4 8 rfl).trans ((hs2 8 rfl).trans ((hs1 8 rfl).trans (hs 8 rfl))))) ?_
                refine OpsE.yes rfl ?_
                refine OpsE.val (x_lenL rfl rfl Try.runUnderlying38) ?_
                refine OpsE.yes rfl ?_
                refine OpsE.val (x_move (v := .int .i64 ((lo2 + j : Nat) : Int)) e19) ?_
                refine OpsE.yes rfl ?_
                refine OpsE.val (x_sub (z := ((n - (lo2 + j) : Nat) : Int)) rfl rfl (by show IntKind.i64.wrap (((r.xs.length : Nat) : Int) - _) = _; rw [hrl, i64n (by omega) (by omega)]; omega)) ?_
                refine OpsE.yes rfl ?_
                refine OpsE.val (x_neI rfl rfl) ?_
                rw [decide_eq_false (by rw [hr2]; simp)]
                refine OpsE.val (x_pickF rfl rfl) ?_
                refine OpsE.nil ?_
                refine Then.normal ?_
                refine WP.cond_f rfl rfl ?_
                refine WP.skip ?_
                refine InBlock.normal ?_
                refine Then.normal ?_
                refine WP.region ?_
                refine OpsE.val (x_move (v := .int .i64 _) e19) ?_
                refine OpsE.val (x_add (z := ((lo2 + (j + 1) : Nat) : Int)) rfl rfl (by rw [i64n (by omega) (by omega)]; omega)) ?_
                refine OpsE.val (x_assign (v := .int .i64 _) rfl) ?_
                refine OpsE.nil ?_
                refine Then.normal ?_
                exact ⟨rfl, (by repeat (first | exact hs4 | refine Same.upd ?_ rfl)), j + 1, by omega, rfl, by omega, H.tail.tail.swap.tail⟩
              · rw [decide_eq_false hle]
                refine OpsE.nil ?_
                refine Then.normal ?_
                refine WP.cond_f rfl rfl ?_
                refine WP.exit ?_
                refine Then.exit ?_
                refine Then.exit ?_
                refine InBlock.hit ?_
                refine Then.normal ?_
                refine WP.seq ?_
                refine WP.region ?_
                refine OpsE.val (x_move (v := .pointer (some ⟨b, 0, none⟩)) ((hs4 9 rfl).trans ((hs2 9 rfl).trans ((hs1 9 rfl).trans (hs 9 rfl))))) ?_
                refine OpsE.val (x_move (v := .int .i64 _) ((hs4 11 rfl).trans (hs2 11 rfl))) ?_
                refine OpsE.val (x_sub (z := ((lo2 : Int) - 1)) rfl rfl (i64n (by omega) (by omega))) ?_
                refine OpsE.call (x_call (vl := [.pointer _, .int .i64 _]) rfl Try.call38) (Since_one (q := (lo2 : Int) - 1) H hinv2.ok (by omega) hSw2) ?_
                rintro _ w ⟨r3, er, rfl, hs2s, H⟩
                rw [hinv2.low] at hs2s
                obtain rfl : er = 12 := by
                  rcases hs2s with ⟨_, h, _⟩ | ⟨h, _⟩ | ⟨h, _⟩
                  · exact h
                  · omega
                  · omega
                refine OpsE.val (x_move (v := .tuple #[r3.val, .int .i64 12]) rfl) ?_
                refine OpsE.val (x_extract (v := r3.val) rfl rfl) ?_
                refine OpsE.val (x_extract (v := .int .i64 12) rfl rfl) ?_
                refine OpsE.val (x_assign (v := .slice _ _ _) rfl) ?_
                refine OpsE.val (x_assign (v := .int .i64 _) rfl) ?_
                refine OpsE.nil ?_
                refine Then.normal ?_
                refine WP.seq ?_
                refine WP.region ?_
                refine OpsE.val (x_move (v := .int .i64 12) rfl) ?_
                refine OpsE.val (x_neI rfl rfl) ?_
                rw [decide_eq_false (by decide)]
                refine OpsE.val (x_move (v := .bool _) rfl) ?_
                refine OpsE.yes rfl ?_
                refine OpsE.val (x_move (v := .pointer (some ⟨b, 0, none⟩)) ((hs4 9 rfl).trans ((hs2 9 rfl).trans ((hs1 9 rfl).trans (hs 9 rfl))))) ?_
                refine OpsE.yes rfl ?_
                replace H := StP.open.1 H.tail.tail
                refine OpsE.call (x_call (vl := [.pointer _]) rfl Try.call17) (SLow_spec H (fun w H => H.look b) hinv2.ok) ?_
                rintro _ w ⟨rfl, H⟩
                replace H := StP.open.2 H
                refine OpsE.yes rfl ?_
                refine OpsE.val (x_move (v := .int .i64 (lo2 : Int)) ((hs4 11 rfl).trans (hs2 11 rfl))) ?_
                refine OpsE.yes rfl ?_
                refine OpsE.val (x_neI rfl rfl) ?_
                rw [decide_eq_false (by rw [hinv2.low]; simp)]
                refine OpsE.val (x_pickF rfl rfl) ?_
                refine OpsE.val (x_move (v := .bool _) rfl) ?_
                refine OpsE.yes rfl ?_
                refine OpsE.val (x_move (v := .pointer (some ⟨b, 0, none⟩)) ((hs4 9 rfl).trans ((hs2 9 rfl).trans ((hs1 9 rfl).trans (hs 9 rfl))))) ?_
                refine OpsE.yes rfl ?_
                replace H := StP.open.1 H
                refine OpsE.call (x_call (vl := [.pointer _]) rfl Try.call16) (SLast_spec H (fun w H => H.look b) hinv2.ok) ?_
                rintro _ w ⟨rfl, H⟩
                replace H := StP.open.2 H
                refine OpsE.yes rfl ?_
                refine OpsE.val (x_move (v := r.val) ((hs4 8 rfl).trans ((hs2 8 rfl).trans ((hs1 8 rfl).trans (hs 8 rfl))))) ?_
                refine OpsE.yes rfl ?_
                refine OpsE.val (x_lenL rfl rfl Try.runUnderlying38) ?_
                refine OpsE.yes rfl ?_
                refine OpsE.val (x_neI rfl rfl) ?_
                rw [decide_eq_false (by rw [hlas2, hcl, hrl]; simp)]
                refine OpsE.val (x_pickF rfl rfl) ?_
                refine OpsE.nil ?_
                refine Then.normal ?_
                refine WP.cond_f rfl rfl ?_
                refine WP.skip ?_
                refine InBlock.normal ?_
                refine Then.normal ?_
                refine WP.region ?_
                refine OpsE.val (x_add (z := ((i + 1 : Nat) : Int)) ((hs4 49 rfl).trans ((hs2 49 rfl).trans ((hs1 49 rfl).trans e49))) rfl (by rw [i64n (by omega) (by omega)]; omega)) ?_
                refine OpsE.val (x_move (v := .int .i64 _) rfl) ?_
                refine OpsE.nil ?_
                refine Then.normal ?_
                refine ⟨rfl, (by repeat (first | exact hs | refine Same.upd ?_ rfl | refine Same.sub hs4 ?_ rfl | refine Same.sub hs2 ?_ rfl | refine Same.sub hs1 ?_ rfl)), i + 1, by omega, S2, lo2, rfl, ?_, by omega, hinv2, H⟩
                exact (hs4 11 rfl).trans (hs2 11 rfl)
      · rw [decide_eq_false hlt]
        refine OpsE.nil ?_
        refine Then.normal ?_
        refine WP.seq ?_
        refine WP.cond_f rfl rfl ?_
        refine WP.exit ?_
        refine Then.exit ?_
        refine Then.exit ?_
        refine InBlock.hit ?_
        refine Then.normal ?_
        refine WP.seq ?_
        refine WP.region ?_
        refine OpsE.val (x_assign (v := .bool _) rfl) ?_
        refine OpsE.nil ?_
        refine Then.normal ?_
        refine WP.ret ?_
        refine Leave0.ret (v := .bool _) rfl ?_
        rw [hR] at H
        exact ⟨rfl, H.tail.tail.tail.tail.tail⟩
  · rw [decide_eq_false c0]
    refine OpsE.val (x_not rfl) ?_
    refine OpsE.val (x_move (v := .bool _) rfl) ?_
    refine OpsE.no rfl ?_
    refine OpsE.no rfl ?_
    refine OpsE.no rfl ?_
    refine OpsE.val (x_pickT rfl rfl) ?_
    refine OpsE.nil ?_
    refine Then.normal ?_
    refine WP.cond_t rfl rfl ?_
    refine WP.seq ?_
    refine WP.region ?_
    refine OpsE.val (x_assign (v := .bool _) rfl) ?_
    refine OpsE.nil ?_
    refine Then.normal ?_
    refine WP.ret ?_
    refine Then.ret ?_
    refine Leave0.ret (v := .bool _) rfl ?_
    exact ⟨rfl, H⟩
end Go.Proofs.Ytbhbdpbhhfemhaa

/-
  The arguments of a law, opened: a row of numbers.
-/
namespace Go.Proofs.Ytbhbdpbhhfemhaa
open Go Go.Proofs
open Go.ChangeShapes Go.WideShapes Go.ChangeAt Go.RowKit
set_option maxRecDepth 100000
set_option maxHeartbeats 4000000
set_option linter.unusedVariables false

structure IntsOk (a : Option Addr) (n c : Nat) (zs : List Int) (W : World) : Prop where
  row : RIn intc TIn [init W] a n c zs
  bd : ∀ z ∈ zs, -9223372036854775808 ≤ z ∧ z ≤ 9223372036854775807
  n : n ≤ reachBytes
theorem open_is {H : Type} {enc : TypeId × Value → H} {W : World} {n : Nat} {cs : List Value} {x : DataW H × List MemPlace} (h : DataW.trod enc Try.prog W 0 (fun _ => true) true n 64 cs = some x) : ∃ (a : Option Addr) (m c : Nat) (zs : List Int), cs = [.slice a m c] ∧ (okL (x.1.weights Try.prog 64) → IntsOk a m c zs W) := by
  obtain ⟨a, m, c, xs, ds, sp, rfl, hr, hdl, hg, hx⟩ := open_slice (f := intc) (S := 1) (T := TIn) (Good := fun (d : DataW H) (z : Int) => -9223372036854775808 ≤ z ∧ z ≤ 9223372036854775807) intc_len (by decide) Try.underlying64 (by kernel_rfl) (fun n cs x h => by
    obtain ⟨z, rfl, rfl, hw⟩ := DataW.trod_int Try.underlying3 h
    exact ⟨z, rfl, by simpa [Lit.wf, IntKind.min, IntKind.max, IntKind.signed, IntKind.bits] using hw⟩) h
  refine ⟨a, m, c, xs, rfl, fun hw => ⟨hr, fun z hz => ?_, ?_⟩⟩
  · obtain ⟨d, _, h2⟩ := hg z hz; exact h2
  · obtain ⟨h1, h2⟩ := weights_elem Try.underlying64 hx hw
    have hb : Try.prog.bytesOf 3 = 8 := by kernel_rfl
    rw [hb] at h2
    rcases h2 with h2 | h2
    · rw [← hdl, h2]; exact Nat.zero_le _
    · omega
end Go.Proofs.Ytbhbdpbhhfemhaa

/-
  A function whose results lie in cells, structs among them; a struct of two fields, some of them given; the start of a string. Nothing of the program.
-/
namespace Go.Proofs.Ytbhbdpbhhfemhaa
open Go
set_option linter.unusedVariables false

/-- what a function's results read, by its environment and its world -/
def ResAt (P : Program) (fn : Func) (res : Env → World → Value → Prop) : Prop := ∀ (tmps : Array Value) (E : Env) (w : World) (v : Value), (∀ t, tmps.getD t undef = E t) → res E w v → (results fn tmps).run P w = .ok v w

theorem leaves_inR {P : Program} {fn : Func} {tmps : Array Value} {K : Value → World → Prop} {v : Value} {l : List HP} (hv : ∀ w, Sat w l → (results fn tmps).run P w = .ok v w) (hK : ∀ w', Sat w' l → K v w') (bs : List Nat) :
    ∀ (w : World), Sat w (bs.map (fun b => pt b (.deferred (some []))) ++ l) → LeavesInM (Wd none) 0 P fn tmps (Ret K) (bs.map mark) .returning w := leaves_inC hv hK bs

def LeaveR (res : Env → World → Value → Prop) (K : Value → World → Prop) : Post
  | .normal, E, ds, w | .ret, E, ds, w => ∃ (v : Value) (bs : List Nat), ds = bs.map mark ∧ ∃ l, (∀ w', Sat w' l → res E w' v) ∧ Sat w (bs.map (fun b => pt b (.deferred (some []))) ++ l) ∧ ∀ w', Sat w' l → K v w'
  | _, _, _, _ => False
theorem LeaveR.ret {res : Env → World → Value → Prop} {K : Value → World → Prop} {E : Env} {ds : List Deferred} {w : World} (h : ∃ (v : Value) (bs : List Nat), ds = bs.map mark ∧ ∃ l, (∀ w', Sat w' l → res E w' v) ∧ Sat w (bs.map (fun b => pt b (.deferred (some []))) ++ l) ∧ ∀ w', Sat w' l → K v w') : LeaveR res K .ret E ds w := h
theorem LeaveR.normal {res : Env → World → Value → Prop} {K : Value → World → Prop} {E : Env} {ds : List Deferred} {w : World} (h : ∃ (v : Value) (bs : List Nat), ds = bs.map mark ∧ ∃ l, (∀ w', Sat w' l → res E w' v) ∧ Sat w (bs.map (fun b => pt b (.deferred (some []))) ++ l) ∧ ∀ w', Sat w' l → K v w') : LeaveR res K .normal E ds w := h

theorem Calls.of_wp_res {P : Program} {f : FuncId} {fn : Func} {c : Code} {args : Array Value} {w : World} {K : Value → World → Prop} {res : Env → World → Value → Prop}
    (hf : P.funcs[f]? = some fn) (hb : fn.body = some c) {N : Nat} (hN : fn.ntmps = N) (hrs : ResAt P fn res) (hs : args.size ≤ N) (h : WP P none N c (LeaveR res K) (envOf args) [] w) : Calls P f args w (Ret K) := by
  subst hN
  refine calls_wd.1 (callsIn_of_wp_marks (F := Wd none) (n := 0) hf hb trivial (wpIn_mono (h _ (rep_start args _ hs)) ?_))
  rintro e a w' ⟨E, ds, hr, q⟩
  cases e with
  | normal =>
    obtain ⟨v, bs, rfl, l, hv, H, hk⟩ := q
    show LeavesInM _ _ _ _ a.tmps _ a.defers _ _
    rw [hr.ds]
    exact leaves_inR (fun w H => hrs _ _ _ _ hr.env (hv w H)) hk bs w' H
  | ret =>
    obtain ⟨v, bs, rfl, l, hv, H, hk⟩ := q
    show LeavesInM _ _ _ _ a.tmps _ a.defers _ _
    rw [hr.ds]
    exact leaves_inR (fun w H => hrs _ _ _ _ hr.env (hv w H)) hk bs w' H
  | _ => exact q.elim

theorem loadVar_agg {P : Program} {w : World} {T TT : TypeId} {b n : Nat} {vs : List Value} {fz : Nat × Nat} (ha : ∀ w, (isAgg T).run P w = .ok true w) (hs : ∀ w, (sizeOf T).run P w = .ok n w) (hb : w.heap[b]? = some (.cells vs.toArray TT fz)) (hn : vs.length = n) : (loadVar T ⟨b, 0, none⟩).run P w = .ok (.agg vs.toArray) w := by
  subst hn
  have := run_loadCells_list (P := P) (w := w) ⟨b, 0, none⟩ vs (fun j v h => by
    have e : (⟨b, 0, none⟩ : Addr).add j = ⟨b, j, none⟩ := by unfold Addr.add; split <;> simp_all
    rw [e]
    refine cell_of hb ?_
    simpa using h)
  simp [loadVar, ha, hs, this]

def resA (t : Nat) (TT : TypeId) (n : Nat) : Env → World → Value → Prop := fun E w v => ∃ (b : Nat) (vs : List Value), E t = .pointer (some ⟨b, 0, none⟩) ∧ w.heap[b]? = some (.cells vs.toArray TT (0, 0)) ∧ vs.length = n ∧ v = .agg vs.toArray
def resAT (t u : Nat) (TT : TypeId) (n : Nat) : Env → World → Value → Prop := fun E w v => ∃ (b : Nat) (vs : List Value), E t = .pointer (some ⟨b, 0, none⟩) ∧ w.heap[b]? = some (.cells vs.toArray TT (0, 0)) ∧ vs.length = n ∧ v = .tuple #[.agg vs.toArray, E u]
theorem res_agg {P : Program} {fn : Func} {t n : Nat} {T TT : TypeId} (h : fn.results = #[.cell t T]) (ha : ∀ w, (isAgg T).run P w = .ok true w) (hs : ∀ w, (sizeOf T).run P w = .ok n w) : ResAt P fn (resA t TT n) := by
  rintro tmps E w v he ⟨b, vs, hE, hb, hn, rfl⟩
  have h1 := loadVar_agg ha hs hb hn
  have ht := (he t).trans hE
  have h2 : (asAddr (tmps.getD t undef)).run P w = .ok ⟨b, 0, none⟩ w := by rw [ht]; simp [asAddr]
  simp only [Array.getD_eq_getD_getElem?] at h2 ht
  simp [results, h, h1, h2]
theorem res_aggT {P : Program} {fn : Func} {t u n : Nat} {T TT : TypeId} (h : fn.results = #[.cell t T, .tmp u]) (ha : ∀ w, (isAgg T).run P w = .ok true w) (hs : ∀ w, (sizeOf T).run P w = .ok n w) : ResAt P fn (resAT t u TT n) := by
  rintro tmps E w v he ⟨b, vs, hE, hb, hn, rfl⟩
  have h1 := loadVar_agg ha hs hb hn
  have ht := (he t).trans hE
  have h2 : (asAddr (tmps.getD t undef)).run P w = .ok ⟨b, 0, none⟩ w := by rw [ht]; simp [asAddr]
  have hu := he u
  simp only [Array.getD_eq_getD_getElem?] at h2 ht hu
  simp [results, h, h1, h2, hu]

section
variable {P : Program} {E : Env} {w : World} {ty T : TypeId} {x y : Operand}
theorem x_build2_0 {f0 f1 : Field} {n0 n1 : Nat} {vl : List Value} {cs : List Value} {zv : Value} (h : ([] : List Operand).map (evE E) = vl) (hz : ∀ w, (zeroValue T).run P w = .ok zv w) (hu : ∀ w, (underlying T).run P w = .ok (.struct #[f0, f1]) w)
    (s0 : ∀ w, (sizeOf f0.type).run P w = .ok n0 w) (s1 : ∀ w, (sizeOf f1.type).run P w = .ok n1 w)
    (hf : Instr.fill (fun i => [(f0.offset, n0), (f1.offset, n1)][i]?) zv.cells [] = some cs.toArray) : (xop E (.build T #[]) ty).run P w = .ok (.value (.agg cs.toArray)) w := by
  simp [xop, execOp, Instr.build, hz, hu, s0, s1, hf]
theorem x_build2_1 {f0 f1 : Field} {o0 : Operand} {i0 n0 n1 : Nat} {vl : List Value} {cs : List Value} {zv : Value} (h : [o0].map (evE E) = vl) (hz : ∀ w, (zeroValue T).run P w = .ok zv w) (hu : ∀ w, (underlying T).run P w = .ok (.struct #[f0, f1]) w)
    (s0 : ∀ w, (sizeOf f0.type).run P w = .ok n0 w) (s1 : ∀ w, (sizeOf f1.type).run P w = .ok n1 w)
    (hf : Instr.fill (fun i => [(f0.offset, n0), (f1.offset, n1)][i]?) zv.cells ([i0].zip vl) = some cs.toArray) : (xop E (.build T #[(i0, o0)]) ty).run P w = .ok (.value (.agg cs.toArray)) w := by
  subst h
  simp only [List.map_cons, List.map_nil, List.zip_cons_cons, List.zip_nil_left] at hf
  simp [xop, execOp, Instr.build, hz, hu, s0, s1, hf]
end
end Go.Proofs.Ytbhbdpbhhfemhaa

/-
  The start of a string; the commits with such keys alone.
-/
namespace Go.Proofs.Ytbhbdpbhhfemhaa
open Go Go.Proofs
set_option maxRecDepth 100000
set_option maxHeartbeats 8000000
set_option linter.unusedVariables false

def hasP (p s : ByteArray) : Bool := decide (p.size ≤ s.size) && decide (s.extract 0 p.size = p)
theorem hasP1_spec {w : World} {l : List HP} {s p : ByteArray} (H : Sat w l) (hp : p.size ≤ 4611686018427387904) (hs : s.size ≤ 4611686018427387904) : Calls Try.prog 98 #[.string s, .string p] w (Ret fun v w' => v = .bool (hasP p s) ∧ Sat w' l) := by
  refine Calls.of_wp Try.func98 rfl Try.ntmps98 Try.results98 (Nat.le_of_ble_eq_true rfl) ?_
  refine WP.seq ?_
  refine WP.region ?_
  refine OpsE.val (x_assign (v := .bool _) rfl) ?_
  refine OpsE.nil ?_
  refine Then.normal ?_
  refine WP.seq ?_
  refine WP.region ?_
  refine OpsE.val (x_move (v := .string _) rfl) ?_
  refine OpsE.val (x_lenS rfl rfl Try.runUnderlying9) ?_
  refine OpsE.val (x_move (v := .string _) rfl) ?_
  refine OpsE.val (x_lenS rfl rfl Try.runUnderlying9) ?_
  refine OpsE.val (x_ge rfl rfl) ?_
  by_cases c1 : (s.size : Int) ≥ (p.size : Int)
  · rw [decide_eq_true c1]
    refine OpsE.val (x_move (v := .bool _) rfl) ?_
    refine OpsE.yes rfl ?_
    refine OpsE.val (x_move (v := .string _) rfl) ?_
    refine OpsE.yes rfl ?_
    refine OpsE.val (x_move (v := .string _) rfl) ?_
    refine OpsE.yes rfl ?_
    refine OpsE.val (x_lenS rfl rfl Try.runUnderlying9) ?_
    refine OpsE.yes rfl ?_
    refine OpsE.val (x_strHi (h := p.size) rfl rfl Try.runUnderlying9 rfl (by omega)) ?_
    refine OpsE.yes rfl ?_
    refine OpsE.val (x_move (v := .string _) rfl) ?_
    refine OpsE.yes rfl ?_
    refine OpsE.val (x_eqS rfl rfl) ?_
    refine OpsE.val (x_pickT rfl rfl) ?_
    refine OpsE.val (x_assign (v := .bool _) rfl) ?_
    refine OpsE.nil ?_
    refine Then.normal ?_
    refine WP.ret ?_
    refine Leave0.ret (v := .bool _) rfl ?_
    refine ⟨?_, H⟩
    unfold hasP; rw [decide_eq_true (by omega : p.size ≤ s.size), Bool.true_and]
  · rw [decide_eq_false c1]
    refine OpsE.val (x_move (v := .bool _) rfl) ?_
    refine OpsE.no rfl ?_
    refine OpsE.no rfl ?_
    refine OpsE.no rfl ?_
    refine OpsE.no rfl ?_
    refine OpsE.no rfl ?_
    refine OpsE.no rfl ?_
    refine OpsE.val (x_pickF rfl rfl) ?_
    refine OpsE.val (x_assign (v := .bool _) rfl) ?_
    refine OpsE.nil ?_
    refine Then.normal ?_
    refine WP.ret ?_
    refine Leave0.ret (v := .bool _) rfl ?_
    refine ⟨?_, H⟩
    unfold hasP; rw [decide_eq_false (by omega : ¬ p.size ≤ s.size), Bool.false_and]
theorem hasP_spec {w : World} {l : List HP} {s p : ByteArray} (H : Sat w l) (hp : p.size ≤ 4611686018427387904) (hs : s.size ≤ 4611686018427387904) : Calls Try.prog 73 #[.string s, .string p] w (Ret fun v w' => v = .bool (hasP p s) ∧ Sat w' l) := by
  refine Calls.of_wp Try.func73 rfl Try.ntmps73 Try.results73 (Nat.le_of_ble_eq_true rfl) ?_
  refine WP.seq ?_
  refine WP.region ?_
  refine OpsE.val (x_assign (v := .bool _) rfl) ?_
  refine OpsE.nil ?_
  refine Then.normal ?_
  refine WP.seq ?_
  refine WP.region ?_
  refine OpsE.val (x_move (v := .string _) rfl) ?_
  refine OpsE.val (x_move (v := .string _) rfl) ?_
  refine OpsE.call (x_call (vl := [.string _, .string _]) rfl Try.call98) (hasP1_spec H hp hs) ?_
  rintro _ w ⟨rfl, H⟩
  refine OpsE.val (x_assign (v := .bool _) rfl) ?_
  refine OpsE.nil ?_
  refine Then.normal ?_
  refine WP.ret ?_
  refine Leave0.ret (v := .bool _) rfl ?_
  exact ⟨rfl, H⟩

def onlyW (p : ByteArray) (ws : List Wr) : List Wr := ws.filter fun x => hasP p x.key
def onlyC (p : ByteArray) (c : Cmt) : Cmt := (c.1, c.2.1, onlyW p c.2.2)
def onlyL (p : ByteArray) (cms : List Cmt) : List Cmt := (cms.map (onlyC p)).filter fun c => decide (0 < c.2.2.length)
theorem onlyW_snoc (p : ByteArray) (ws : List Wr) (x : Wr) : onlyW p (ws ++ [x]) = if hasP p x.key then onlyW p ws ++ [x] else onlyW p ws := by
  unfold onlyW; rw [List.filter_append]
  by_cases h : hasP p x.key = true
  · rw [if_pos h, List.filter_cons_of_pos (by exact h)]; rfl
  · rw [if_neg h, List.filter_cons_of_neg (by exact h)]; simp
theorem onlyL_app (p : ByteArray) (a b : List Cmt) : onlyL p (a ++ b) = onlyL p a ++ onlyL p b := by unfold onlyL; rw [List.map_append, List.filter_append]
theorem onlyL_snoc (p : ByteArray) (a : List Cmt) (c : Cmt) : onlyL p (a ++ [c]) = if 0 < (onlyW p c.2.2).length then onlyL p a ++ [onlyC p c] else onlyL p a := by
  rw [onlyL_app]
  unfold onlyL
  by_cases h : 0 < (onlyW p c.2.2).length
  · rw [if_pos h, List.map_cons, List.filter_cons_of_pos (by exact decide_eq_true h)]; rfl
  · rw [if_neg h, List.map_cons, List.filter_cons_of_neg (by exact fun e => h (of_decide_eq_true e))]; simp
theorem onlyL_len (p : ByteArray) (a : List Cmt) : (onlyL p a).length ≤ a.length := Nat.le_trans (List.length_filter_le _ _) (by rw [List.length_map]; exact Nat.le_refl _)

theorem only_spec {w : World} {l : List HP} {p : ByteArray} {y : CmV} (H : Sat w l) (hr : RIn wrc TWr l y.a y.n y.c y.ws) (hn : y.n ≤ 1000000) (hp : p.size ≤ 4611686018427387904) (hk : ∀ x ∈ y.ws, x.key.size ≤ 4611686018427387904) :
    Calls Try.prog 56 #[.agg (cvc y).toArray, .string p] w (Ret fun v w' => ∃ r : Rw Wr, v = .agg (cmc ⟨y.seq, y.time, r⟩).toArray ∧ r.xs = onlyW p y.ws ∧ r.Ok 3 ∧ Sat w' (r.own wrc TWr :: l)) := by
  have hlen := hr.len
  refine Calls.of_wp_res Try.func56 rfl Try.ntmps56 (res_agg (TT := TCm) (n := 3) Try.results56 Try.isAgg33 Try.sizeOf33) (Nat.le_of_ble_eq_true rfl) ?_
  refine WP.seq ?_
  refine WP.region ?_
  refine OpsE.boxA (cs := _) rfl H ?_
  intro b2 w H
  refine OpsE.allocA Try.zeroValue33 H ?_
  intro b4 w H
  refine OpsE.nil ?_
  refine Then.normal ?_
  refine WP.seq ?_
  refine WP.region ?_
  refine OpsE.val (x_fieldAddr0 rfl Try.runUnderlying33 rfl rfl Try.sizeOf3) ?_
  refine OpsE.val (x_load (v := .int .i64 y.seq) rfl Try.isAgg3 (H.look _) rfl) ?_
  refine OpsE.val (x_fieldAddr (o := 1) rfl Try.runUnderlying33 rfl rfl Try.sizeOf3) ?_
  refine OpsE.val (x_load (v := .int .i64 y.time) rfl Try.isAgg3 (H.look _) rfl) ?_
  refine OpsE.val (x_build3_2 (vl := [.int .i64 _, .int .i64 _]) rfl Try.zeroValue33 Try.runUnderlying33 Try.sizeOf3 Try.sizeOf3 Try.sizeOf22 rfl) ?_
  refine OpsE.allocA Try.zeroValue33 H ?_
  intro b5 w H
  refine OpsE.storeA (vs := cmc ⟨y.seq, y.time, ⟨[], none⟩⟩) rfl rfl Try.sizeOf33 H (cmc_one _) (Nat.le_refl _) ?_
  intro w H
  refine OpsE.nil ?_
  refine Then.normal ?_
  refine WP.seq ?_
  refine WP.seq ?_
  refine WP.region ?_
  refine OpsE.val (x_fieldAddr (o := 2) rfl Try.runUnderlying33 rfl rfl Try.sizeOf22) ?_
  refine OpsE.val (x_load (v := .slice y.a y.n y.c) rfl Try.isAgg22 (H.look _) rfl) ?_
  refine OpsE.val (x_lenL rfl rfl Try.runUnderlying22) ?_
  refine OpsE.val (x_move (v := .int .i64 _) rfl) ?_
  refine OpsE.nil ?_
  refine Then.normal ?_
  refine WP.block ?_
  have H0 : Sat w (pt b5 (.cells (cmc ⟨y.seq, y.time, ⟨[], none⟩⟩).toArray TCm (0, 0)) :: (⟨[], none⟩ : Rw Wr).own wrc TWr :: pt b4 (.cells (cmc ⟨0, 0, ⟨[], none⟩⟩).toArray TCm (0, 0)) :: pt b2 (.cells (cvc y).toArray TCm (0, 0)) :: l) := (sat_one.2 H).swap
  refine WP.loopS [7, 16, 17, 18, 19, 20, 21, 22, 23, 24, 25, 26, 27, 28, 29, 30] (fun (i : Nat) E w => ∃ r : Rw Wr, E 16 = .int .i64 (i : Int) ∧ i ≤ y.n ∧ r.xs = onlyW p (y.ws.take i) ∧ r.Ok 3 ∧ Sat w (pt b5 (.cells (cmc ⟨y.seq, y.time, r⟩).toArray TCm (0, 0)) :: r.own wrc TWr :: pt b4 (.cells (cmc ⟨0, 0, ⟨[], none⟩⟩).toArray TCm (0, 0)) :: pt b2 (.cells (cvc y).toArray TCm (0, 0)) :: l)) (fun i => y.n - i) 0 ⟨⟨[], none⟩, rfl, Nat.zero_le _, rfl, Rw.empty_ok, H0⟩ ?_
  clear H H0
  rintro i E1 w hs ⟨r, e16, hin, hrx, hro, H⟩
  refine WP.seq ?_
  refine WP.region ?_
  refine OpsE.val (x_lt e16 (hs 15 rfl)) ?_
  by_cases hlt : (i : Int) < (y.n : Int)
  · rw [decide_eq_true hlt]
    refine OpsE.nil ?_
    refine Then.normal ?_
    refine WP.seq ?_
    refine WP.cond_t rfl rfl ?_
    refine WP.skip ?_
    refine Then.normal ?_
    refine WP.seq ?_
    refine WP.block ?_
    refine WP.seq ?_
    obtain ⟨bb, off, B, fz, pre, post, hya, hB, hBl, hpo⟩ := hr.some (by omega)
    obtain ⟨x, hx⟩ : ∃ x, y.ws[i]? = some x := ⟨_, List.getElem?_eq_getElem (by omega)⟩
    have hkx := hk x (List.mem_of_getElem? hx)
    have hrl : r.xs.length ≤ i := by rw [hrx]; exact Nat.le_trans (List.length_filter_le _ _) (by rw [List.length_take]; omega)
    refine WP.region ?_
    refine OpsE.val (x_indexAddro (i := i) (len := y.n) (cap := y.c) ((hs 14 rfl).trans (show Value.slice y.a y.n y.c = _ by rw [hya])) e16 Try.runUnderlying22 Try.sizeOf26 rfl (by omega)) ?_
    refine OpsE.val (x_loadA (vs := wrc x) rfl Try.isAgg26 Try.sizeOf26 (hB w H.tail.tail.tail.tail) (row_el wrc_len hBl hpo hx) rfl) ?_
    refine OpsE.allocA Try.zeroValue26 H ?_
    intro b7 w H
    refine OpsE.storeA (vs := wrc x) rfl rfl Try.sizeOf26 H (wrc_one x) (Nat.le_refl _) ?_
    intro w H
    refine OpsE.nil ?_
    refine Then.normal ?_
    refine WP.seq ?_
    refine WP.region ?_
    refine OpsE.val (x_fieldAddr0 rfl Try.runUnderlying26 rfl rfl Try.sizeOf9) ?_
    refine OpsE.val (x_load (v := .string x.key) rfl Try.isAgg9 (H.look _) rfl) ?_
    refine OpsE.val (x_move (v := .string _) (hs 1 rfl)) ?_
    refine OpsE.call (x_call (vl := [.string _, .string _]) rfl Try.call73) (hasP_spec H hp hkx) ?_
    rintro _ w ⟨rfl, H⟩
    refine OpsE.nil ?_
    refine Then.normal ?_
    refine WP.cond rfl (fun hg => ?_) (fun hg => ?_)
    · skip
      refine WP.region ?_
      refine OpsE.val (x_fieldAddr (o := 2) (hs 5 rfl) Try.runUnderlying33 rfl rfl Try.sizeOf22) ?_
      refine OpsE.val (x_load (v := r.val) rfl Try.isAgg22 (H.look _) rfl) ?_
      refine OpsE.val (x_loadA (vs := wrc x) rfl Try.isAgg26 Try.sizeOf26 (H.look _) rfl rfl) ?_
      refine OpsE.buildSlice1 (vs := wrc x) KW (by decide) rfl rfl rfl (by decide) H ?_
      intro sg w H
      refine OpsE.append_rw (f := wrc) (r := r) (ys := [x]) rfl KW wrc_len wrc_one rfl rfl H hro (H.look sg) (by simp) rfl (by decide) (by omega) (by omega) ?_
      intro g' w hh1 hh2 hh3 H
      refine OpsE.val (x_fieldAddr (o := 2) (hs 5 rfl) Try.runUnderlying33 rfl rfl Try.sizeOf22) ?_
      refine OpsE.store (v := g'.val) rfl rfl rfl rfl Try.sizeOf22 H (by show 2 < 3; decide) ?_
      intro w H
      refine OpsE.nil ?_
      refine InBlock.normal ?_
      refine Then.normal ?_
      refine WP.region ?_
      refine OpsE.val (x_add (z := ((i + 1 : Nat) : Int)) e16 rfl (by rw [i64n (by omega) (by omega)]; omega)) ?_
      refine OpsE.val (x_move (v := .int .i64 _) rfl) ?_
      refine OpsE.nil ?_
      refine Then.normal ?_
      refine ⟨rfl, (by repeat (first | exact hs | refine Same.upd ?_ rfl)), i + 1, by omega, g', rfl, by omega, ?_, hh2, ?_⟩
      · rw [hh1, hrx, List.take_add_one, hx, Option.toList_some, onlyW_snoc, if_pos hg]
      · have h0 : Sat w (pt b5 (.cells (cmc ⟨y.seq, y.time, g'⟩).toArray TCm (0, 0)) :: g'.own wrc TWr :: pt sg (.cells (wrc x).toArray TWr (0, 0)) :: pt b7 (.cells (wrc x).toArray TWr (0, 0)) :: pt b4 (.cells (cmc ⟨0, 0, ⟨[], none⟩⟩).toArray TCm (0, 0)) :: pt b2 (.cells (cvc y).toArray TCm (0, 0)) :: l) := H.perm (by simp only [stars_cons]; ac_rfl)
        exact ((h0.take (pt sg (.cells (wrc x).toArray TWr (0, 0)))).tail.take (pt b7 (.cells (wrc x).toArray TWr (0, 0)))).tail
    · skip
      refine WP.skip ?_
      refine InBlock.normal ?_
      refine Then.normal ?_
      refine WP.region ?_
      refine OpsE.val (x_add (z := ((i + 1 : Nat) : Int)) e16 rfl (by rw [i64n (by omega) (by omega)]; omega)) ?_
      refine OpsE.val (x_move (v := .int .i64 _) rfl) ?_
      refine OpsE.nil ?_
      refine Then.normal ?_
      refine ⟨rfl, (by repeat (first | exact hs | refine Same.upd ?_ rfl)), i + 1, by omega, r, rfl, by omega, ?_, hro, ?_⟩
      · rw [hrx, List.take_add_one, hx, Option.toList_some, onlyW_snoc, if_neg (by rw [hg]; simp)]
      · exact H.tail
  · rw [decide_eq_false hlt]
    refine OpsE.nil ?_
    refine Then.normal ?_
    refine WP.seq ?_
    refine WP.cond_f rfl rfl ?_
    refine WP.exit ?_
    refine Then.exit ?_
    refine Then.exit ?_
    refine InBlock.hit ?_
    refine Then.normal ?_
    refine WP.seq ?_
    refine WP.region ?_
    refine OpsE.val (x_loadA (vs := cmc ⟨y.seq, y.time, r⟩) (hs 5 rfl) Try.isAgg33 Try.sizeOf33 (H.look _) rfl rfl) ?_
    refine OpsE.storeA (vs := cmc ⟨y.seq, y.time, r⟩) (hs 4 rfl) rfl Try.sizeOf33 H (cmc_one _) (Nat.le_refl _) ?_
    intro w H
    refine OpsE.nil ?_
    refine Then.normal ?_
    refine WP.ret ?_
    refine LeaveR.ret ?_
    have H0 : Sat w (pt b4 (.cells (cmc ⟨y.seq, y.time, r⟩).toArray TCm (0, 0)) :: r.own wrc TWr :: pt b5 (.cells (cmc ⟨y.seq, y.time, r⟩).toArray TCm (0, 0)) :: pt b2 (.cells (cvc y).toArray TCm (0, 0)) :: l) := H.perm (by simp only [stars_cons]; ac_rfl)
    refine ⟨_, [], rfl, _, fun w' H' => ⟨b4, cmc ⟨y.seq, y.time, r⟩, (hs 4 rfl), H'.pt_get, rfl, rfl⟩, H0, fun w' H' => ⟨r, rfl, ?_, hro, H'.tail.swap.tail.swap.tail⟩⟩
    rw [hrx, List.take_of_length_le (by omega)]
end Go.Proofs.Ytbhbdpbhhfemhaa

/-
  The laws' own functions: Same, Only.
-/
namespace Go.Proofs.Ytbhbdpbhhfemhaa
open Go Go.Proofs
set_option maxRecDepth 100000
set_option maxHeartbeats 8000000
set_option linter.unusedVariables false

theorem Same_spec {w : World} {l : List HP} {x y : CmV} (H : Sat w l) (hx : RIn wrc TWr l x.a x.n x.c x.ws) (hy : RIn wrc TWr l y.a y.n y.c y.ws) (hn : x.n ≤ 1000000) (e : x.ab = y.ab) :
    Calls Try.prog 37 #[.agg (cvc x).toArray, .agg (cvc y).toArray] w (Ret fun v w' => v = .bool true ∧ Sat w' l) := by
  have hl1 := hx.len
  have hl2 := hy.len
  have e1 : x.seq = y.seq := (Prod.mk.inj e).1
  have e2 : x.time = y.time := (Prod.mk.inj (Prod.mk.inj e).2).1
  have e3 : x.ws = y.ws := (Prod.mk.inj (Prod.mk.inj e).2).2
  have hnn : x.n = y.n := by rw [hl1, hl2, e3]
  refine Calls.of_wp Try.func37 rfl Try.ntmps37 Try.results37 (Nat.le_of_ble_eq_true rfl) ?_
  refine WP.seq ?_
  refine WP.region ?_
  refine OpsE.boxA (cs := _) rfl H ?_
  intro b2 w H
  refine OpsE.boxA (cs := _) rfl H ?_
  intro b3 w H
  refine OpsE.val (x_assign (v := .bool _) rfl) ?_
  refine OpsE.nil ?_
  refine Then.normal ?_
  refine WP.seq ?_
  refine WP.seq ?_
  refine WP.region ?_
  refine OpsE.val (x_fieldAddr0 rfl Try.runUnderlying33 rfl rfl Try.sizeOf3) ?_
  refine OpsE.val (x_load (v := .int .i64 x.seq) rfl Try.isAgg3 (H.look _) rfl) ?_
  refine OpsE.val (x_fieldAddr0 rfl Try.runUnderlying33 rfl rfl Try.sizeOf3) ?_
  refine OpsE.val (x_load (v := .int .i64 y.seq) rfl Try.isAgg3 (H.look _) rfl) ?_
  refine OpsE.val (x_neI rfl rfl) ?_
  rw [decide_eq_false (fun h => h e1)]
  refine OpsE.val (x_move (v := .bool _) rfl) ?_
  refine OpsE.yes rfl ?_
  refine OpsE.val (x_fieldAddr (o := 1) rfl Try.runUnderlying33 rfl rfl Try.sizeOf3) ?_
  refine OpsE.yes rfl ?_
  refine OpsE.val (x_load (v := .int .i64 x.time) rfl Try.isAgg3 (H.look _) rfl) ?_
  refine OpsE.yes rfl ?_
  refine OpsE.val (x_fieldAddr (o := 1) rfl Try.runUnderlying33 rfl rfl Try.sizeOf3) ?_
  refine OpsE.yes rfl ?_
  refine OpsE.val (x_load (v := .int .i64 y.time) rfl Try.isAgg3 (H.look _) rfl) ?_
  refine OpsE.yes rfl ?_
  refine OpsE.val (x_neI rfl rfl) ?_
  rw [decide_eq_false (fun h => h e2)]
  refine OpsE.val (x_pickF rfl rfl) ?_
  refine OpsE.val (x_move (v := .bool _) rfl) ?_
  refine OpsE.yes rfl ?_
  refine OpsE.val (x_fieldAddr (o := 2) rfl Try.runUnderlying33 rfl rfl Try.sizeOf22) ?_
  refine OpsE.yes rfl ?_
  refine OpsE.val (x_load (v := .slice x.a x.n x.c) rfl Try.isAgg22 (H.look _) rfl) ?_
  refine OpsE.yes rfl ?_
  refine OpsE.val (x_lenL rfl rfl Try.runUnderlying22) ?_
  refine OpsE.yes rfl ?_
  refine OpsE.val (x_fieldAddr (o := 2) rfl Try.runUnderlying33 rfl rfl Try.sizeOf22) ?_
  refine OpsE.yes rfl ?_
  refine OpsE.val (x_load (v := .slice y.a y.n y.c) rfl Try.isAgg22 (H.look _) rfl) ?_
  refine OpsE.yes rfl ?_
  refine OpsE.val (x_lenL rfl rfl Try.runUnderlying22) ?_
  refine OpsE.yes rfl ?_
  refine OpsE.val (x_neI rfl rfl) ?_
  rw [decide_eq_false (by rw [hnn]; simp)]
  refine OpsE.val (x_pickF rfl rfl) ?_
  refine OpsE.nil ?_
  refine Then.normal ?_
  refine WP.cond_f rfl rfl ?_
  refine WP.skip ?_
  refine Then.normal ?_
  refine WP.seq ?_
  refine WP.seq ?_
  refine WP.region ?_
  refine OpsE.val (x_fieldAddr (o := 2) rfl Try.runUnderlying33 rfl rfl Try.sizeOf22) ?_
  refine OpsE.val (x_load (v := .slice x.a x.n x.c) rfl Try.isAgg22 (H.look _) rfl) ?_
  refine OpsE.val (x_lenL rfl rfl Try.runUnderlying22) ?_
  refine OpsE.val (x_move (v := .int .i64 _) rfl) ?_
  refine OpsE.nil ?_
  refine Then.normal ?_
  refine WP.block ?_
  have H0 : Sat w (pt b3 (.cells (cvc y).toArray TCm (0, 0)) :: pt b2 (.cells (cvc x).toArray TCm (0, 0)) :: l) := H
  refine WP.loopS [4, 5, 30, 31, 32, 33, 34, 35, 36, 37, 38, 39, 40, 41, 42, 43, 44] (fun (i : Nat) E w => E 30 = .int .i64 (i : Int) ∧ i ≤ x.n ∧ Sat w (pt b3 (.cells (cvc y).toArray TCm (0, 0)) :: pt b2 (.cells (cvc x).toArray TCm (0, 0)) :: l)) (fun i => x.n - i) 0 ⟨rfl, Nat.zero_le _, H0⟩ ?_
  clear H H0
  rintro i E1 w hs ⟨e30, hin, H⟩
  refine WP.seq ?_
  refine WP.region ?_
  refine OpsE.val (x_lt e30 (hs 29 rfl)) ?_
  by_cases hlt : (i : Int) < (x.n : Int)
  · rw [decide_eq_true hlt]
    refine OpsE.nil ?_
    refine Then.normal ?_
    refine WP.seq ?_
    refine WP.cond_t rfl rfl ?_
    refine WP.skip ?_
    refine Then.normal ?_
    refine WP.seq ?_
    refine WP.block ?_
    refine WP.seq ?_
    obtain ⟨bb, off, B, fz, pre, post, hxa, hB, hBl, hpo⟩ := hx.some (by omega)
    obtain ⟨bb2, off2, B2, fz2, pre2, post2, hya, hB2, hBl2, hpo2⟩ := hy.some (by omega)
    obtain ⟨z, hz⟩ : ∃ z, x.ws[i]? = some z := ⟨_, List.getElem?_eq_getElem (by omega)⟩
    have hz2 : y.ws[i]? = some z := by rw [← e3]; exact hz
    refine WP.region ?_
    refine OpsE.val (x_move (v := .int .i64 _) e30) ?_
    refine OpsE.val (x_assign (v := .int .i64 _) rfl) ?_
    refine OpsE.nil ?_
    refine Then.normal ?_
    refine WP.seq ?_
    refine WP.draw (fun w => Sat w _) (by kernel_rfl) (by kernel_rfl) (H.heap rfl) ?_
    refine QuietE.val (fun w H => x_fieldAddr (o := 2) (hs 2 rfl) Try.runUnderlying33 rfl rfl Try.sizeOf22) ?_
    refine QuietE.val (fun w H => x_load (v := .slice (some ⟨bb, off, none⟩) x.n x.c) rfl Try.isAgg22 (H.look _) (by rw [← hxa]; rfl)) ?_
    refine QuietE.val (fun w H => x_move (v := .int .i64 _) rfl) ?_
    refine QuietE.val (fun w H => x_indexAddro (i := i) rfl rfl Try.runUnderlying22 Try.sizeOf26 rfl (by omega)) ?_
    refine QuietE.val (fun w H => x_loadA (vs := wrc z) rfl Try.isAgg26 Try.sizeOf26 (hB w H.tail.tail) (row_el wrc_len hBl hpo hz) rfl) ?_
    refine QuietE.val (fun w H => x_fieldAddr (o := 2) (hs 3 rfl) Try.runUnderlying33 rfl rfl Try.sizeOf22) ?_
    refine QuietE.val (fun w H => x_load (v := .slice (some ⟨bb2, off2, none⟩) y.n y.c) rfl Try.isAgg22 (H.look _) (by rw [← hya]; rfl)) ?_
    refine QuietE.val (fun w H => x_move (v := .int .i64 _) rfl) ?_
    refine QuietE.val (fun w H => x_indexAddro (i := i) rfl rfl Try.runUnderlying22 Try.sizeOf26 rfl (by omega)) ?_
    refine QuietE.val (fun w H => x_loadA (vs := wrc z) rfl Try.isAgg26 Try.sizeOf26 (hB2 w H.tail.tail) (row_el wrc_len hBl2 hpo2 hz2) rfl) ?_
    refine QuietE.val (fun w H => x_neW (p := z) (q := z) rfl rfl) ?_
    refine QuietE.nil ?_
    intro w H
    refine Then.normal ?_
    refine WP.cond_f rfl (decide_eq_false fun h => h rfl) ?_
    refine WP.skip ?_
    refine InBlock.normal ?_
    refine Then.normal ?_
    refine WP.region ?_
    refine OpsE.val (x_add (z := ((i + 1 : Nat) : Int)) e30 rfl (by rw [i64n (by omega) (by omega)]; omega)) ?_
    refine OpsE.val (x_move (v := .int .i64 _) rfl) ?_
    refine OpsE.nil ?_
    refine Then.normal ?_
    exact ⟨rfl, (by repeat (first | exact hs | refine Same.upd ?_ rfl)), i + 1, by omega, rfl, by omega, H⟩
  · rw [decide_eq_false hlt]
    refine OpsE.nil ?_
    refine Then.normal ?_
    refine WP.seq ?_
    refine WP.cond_f rfl rfl ?_
    refine WP.exit ?_
    refine Then.exit ?_
    refine Then.exit ?_
    refine InBlock.hit ?_
    refine Then.normal ?_
    refine WP.seq ?_
    refine WP.region ?_
    refine OpsE.val (x_assign (v := .bool _) rfl) ?_
    refine OpsE.nil ?_
    refine Then.normal ?_
    refine WP.ret ?_
    refine Leave0.ret (v := .bool _) rfl ?_
    exact ⟨rfl, H.tail.tail⟩

theorem Only_spec {w : World} {l : List HP} {p : ByteArray} {a : Option Addr} {n c : Nat} {xs : List CmV} (H : Sat w l) (hr : CIn l a n c xs) (hn : n ≤ 100000) (hp : p.size ≤ 4611686018427387904) (hw : ∀ x ∈ xs, x.n ≤ 1000000 ∧ ∀ z ∈ x.ws, z.key.size ≤ 4611686018427387904) :
    Calls Try.prog 36 #[.slice a n c, .string p] w (Ret fun v w' => ∃ r : Rw Cm, v = r.val ∧ r.xs.map cma = onlyL p (xs.map CmV.ab) ∧ r.Ok 3 ∧ (∀ c ∈ r.xs, c.w.Ok 3) ∧ Sat w' (r.own cmc TCm :: stars (r.xs.map cmH) :: l)) := by
  have hlen := hr.row.len
  refine Calls.of_wp Try.func36 rfl Try.ntmps36 Try.results36 (Nat.le_of_ble_eq_true rfl) ?_
  refine WP.seq ?_
  refine WP.region ?_
  refine OpsE.val (x_assign (v := .slice _ _ _) rfl) ?_
  refine OpsE.nil ?_
  refine Then.normal ?_
  refine WP.seq ?_
  refine WP.region ?_
  refine OpsE.buildSlice0 CM.K H ?_
  intro g0 w H
  refine OpsE.val (x_assign (v := .slice _ _ _) rfl) ?_
  refine OpsE.nil ?_
  refine Then.normal ?_
  refine WP.seq ?_
  refine WP.seq ?_
  refine WP.region ?_
  refine OpsE.val (x_move (v := .slice _ _ _) rfl) ?_
  refine OpsE.val (x_lenL rfl rfl Try.runUnderlying38) ?_
  refine OpsE.val (x_move (v := .int .i64 _) rfl) ?_
  refine OpsE.nil ?_
  refine Then.normal ?_
  refine WP.block ?_
  have H0 : Sat w ((⟨[], some (g0, 0, [])⟩ : Rw Cm).own cmc TCm :: stars (([] : List Cm).map cmH) :: l) := H.perm (by show _ = stars (pt g0 (.cells #[] TCm (0, 0)) :: HP.one :: l); simp only [stars_cons]; rw [HP.sep_comm HP.one, HP.sep_one])
  refine WP.loopS [5, 7, 8, 10, 14, 15, 16, 17, 18, 19, 20, 21, 22, 23, 24, 25, 26, 27, 28, 29, 30, 31, 32, 33, 34, 35, 36, 37, 38, 39, 40, 41, 42, 43, 44, 45, 46, 47, 48, 49, 50, 51, 52, 53, 54, 55, 56, 57, 58, 59, 60] (fun (i : Nat) E w => ∃ r : Rw Cm, E 14 = .int .i64 (i : Int) ∧ E 5 = r.val ∧ i ≤ n ∧ r.xs.map cma = onlyL p ((xs.take i).map CmV.ab) ∧ r.Ok 3 ∧ (∀ c ∈ r.xs, c.w.Ok 3) ∧ Sat w (r.own cmc TCm :: stars (r.xs.map cmH) :: l)) (fun i => n - i) 0 ⟨⟨[], some (g0, 0, [])⟩, rfl, rfl, Nat.zero_le _, rfl, ⟨fun h => (by cases h), fun p h => by cases h; exact ⟨Nat.le_refl _, rfl⟩⟩, (fun _ h => by cases h), H0⟩ ?_
  clear H H0
  rintro i E1 w hs ⟨r, e14, e5, hin, hrx, hro, hrw, H⟩
  refine WP.seq ?_
  refine WP.region ?_
  refine OpsE.val (x_lt e14 (hs 13 rfl)) ?_
  by_cases hlt : (i : Int) < (n : Int)
  · rw [decide_eq_true hlt]
    refine OpsE.nil ?_
    refine Then.normal ?_
    refine WP.seq ?_
    refine WP.cond_t rfl rfl ?_
    refine WP.skip ?_
    refine Then.normal ?_
    refine WP.seq ?_
    refine WP.block ?_
    refine WP.seq ?_
    obtain ⟨bb, off, B, fz, pre, post, rfl, hB, hBl, hpo⟩ := hr.row.some (by omega)
    obtain ⟨y, hy⟩ : ∃ y, xs[i]? = some y := ⟨_, List.getElem?_eq_getElem (by omega)⟩
    have hym := List.mem_of_getElem? hy
    have hry := hr.ws y hym
    have hyl := hry.len
    obtain ⟨hyn, hyk⟩ := hw y hym
    have hrl : r.xs.length ≤ i := by have := congrArg List.length hrx; rw [List.length_map] at this; rw [this]; refine Nat.le_trans (onlyL_len _ _) ?_; rw [List.length_map, List.length_take]; omega
    refine WP.region ?_
    refine OpsE.val (x_indexAddro (i := i) (hs 12 rfl) e14 Try.runUnderlying38 Try.sizeOf33 rfl (by omega)) ?_
    refine OpsE.val (x_loadA (vs := cvc y) rfl Try.isAgg33 Try.sizeOf33 (hB w H.tail.tail) (row_el cvc_len hBl hpo hy) rfl) ?_
    refine OpsE.allocA Try.zeroValue33 H ?_
    intro b7 w H
    refine OpsE.storeA (vs := cvc y) rfl rfl Try.sizeOf33 H (cvc_one y) (Nat.le_refl _) ?_
    intro w H
    refine OpsE.nil ?_
    refine Then.normal ?_
    refine WP.seq ?_
    refine WP.region ?_
    refine OpsE.val (x_fieldAddr0 rfl Try.runUnderlying33 rfl rfl Try.sizeOf3) ?_
    refine OpsE.val (x_load (v := .int .i64 y.seq) rfl Try.isAgg3 (H.look _) rfl) ?_
    refine OpsE.val (x_fieldAddr (o := 1) rfl Try.runUnderlying33 rfl rfl Try.sizeOf3) ?_
    refine OpsE.val (x_load (v := .int .i64 y.time) rfl Try.isAgg3 (H.look _) rfl) ?_
    refine OpsE.val (x_build3_2 (vl := [.int .i64 _, .int .i64 _]) rfl Try.zeroValue33 Try.runUnderlying33 Try.sizeOf3 Try.sizeOf3 Try.sizeOf22 rfl) ?_
    refine OpsE.allocA Try.zeroValue33 H ?_
    intro b8 w H
    refine OpsE.storeA (vs := cmc ⟨y.seq, y.time, ⟨[], none⟩⟩) rfl rfl Try.sizeOf33 H (cmc_one _) (Nat.le_refl _) ?_
    intro w H
    refine OpsE.nil ?_
    refine Then.normal ?_
    refine WP.seq ?_
    refine WP.seq ?_
    refine WP.region ?_
    refine OpsE.val (x_fieldAddr (o := 2) rfl Try.runUnderlying33 rfl rfl Try.sizeOf22) ?_
    refine OpsE.val (x_load (v := .slice y.a y.n y.c) rfl Try.isAgg22 (H.look _) rfl) ?_
    refine OpsE.val (x_lenL rfl rfl Try.runUnderlying22) ?_
    refine OpsE.val (x_move (v := .int .i64 _) rfl) ?_
    refine OpsE.nil ?_
    refine Then.normal ?_
    refine WP.block ?_
    have H0 : Sat w (pt b8 (.cells (cmc ⟨y.seq, y.time, ⟨[], none⟩⟩).toArray TCm (0, 0)) :: (⟨[], none⟩ : Rw Wr).own wrc TWr :: pt b7 (.cells (cvc y).toArray TCm (0, 0)) :: r.own cmc TCm :: stars (r.xs.map cmH) :: l) := (sat_one.2 H).swap
    refine WP.loopS [10, 26, 27, 28, 29, 30, 31, 32, 33, 34, 35, 36, 37, 38, 39, 40, 41, 42, 43, 44, 45, 46, 47, 48, 49, 50, 51] (fun (j : Nat) E w => ∃ d : Rw Wr, E 26 = .int .i64 (j : Int) ∧ j ≤ y.n ∧ d.xs = onlyW p (y.ws.take j) ∧ d.Ok 3 ∧ Sat w (pt b8 (.cells (cmc ⟨y.seq, y.time, d⟩).toArray TCm (0, 0)) :: d.own wrc TWr :: pt b7 (.cells (cvc y).toArray TCm (0, 0)) :: r.own cmc TCm :: stars (r.xs.map cmH) :: l)) (fun j => y.n - j) 0 ⟨⟨[], none⟩, rfl, Nat.zero_le _, rfl, Rw.empty_ok, H0⟩ ?_
    clear H H0
    rintro j E2 w hs2 ⟨d, e26, hjn, hdx, hdo, H⟩
    refine WP.seq ?_
    refine WP.region ?_
    refine OpsE.val (x_lt e26 (hs2 25 rfl)) ?_
    by_cases hlt2 : (j : Int) < (y.n : Int)
    · rw [decide_eq_true hlt2]
      refine OpsE.nil ?_
      refine Then.normal ?_
      refine WP.seq ?_
      refine WP.cond_t rfl rfl ?_
      refine WP.skip ?_
      refine Then.normal ?_
      refine WP.seq ?_
      refine WP.block ?_
      refine WP.seq ?_
      obtain ⟨bb2, off2, B2, fz2, pre2, post2, hya, hB2, hBl2, hpo2⟩ := hry.some (by omega)
      obtain ⟨x, hx⟩ : ∃ x, y.ws[j]? = some x := ⟨_, List.getElem?_eq_getElem (by omega)⟩
      have hkx := hyk x (List.mem_of_getElem? hx)
      have hdl : d.xs.length ≤ j := by rw [hdx]; exact Nat.le_trans (List.length_filter_le _ _) (by rw [List.length_take]; omega)
      refine WP.region ?_
      refine OpsE.val (x_indexAddro (i := j) (len := y.n) (cap := y.c) ((hs2 24 rfl).trans (show Value.slice y.a y.n y.c = _ by rw [hya])) e26 Try.runUnderlying22 Try.sizeOf26 rfl (by omega)) ?_
      refine OpsE.val (x_loadA (vs := wrc x) rfl Try.isAgg26 Try.sizeOf26 (hB2 w H.tail.tail.tail.tail.tail) (row_el wrc_len hBl2 hpo2 hx) rfl) ?_
      refine OpsE.allocA Try.zeroValue26 H ?_
      intro b10 w H
      refine OpsE.storeA (vs := wrc x) rfl rfl Try.sizeOf26 H (wrc_one x) (Nat.le_refl _) ?_
      intro w H
      refine OpsE.nil ?_
      refine Then.normal ?_
      refine WP.seq ?_
      refine WP.region ?_
      refine OpsE.val (x_fieldAddr0 rfl Try.runUnderlying26 rfl rfl Try.sizeOf9) ?_
      refine OpsE.val (x_load (v := .string x.key) rfl Try.isAgg9 (H.look _) rfl) ?_
      refine OpsE.val (x_lenS rfl rfl Try.runUnderlying9) ?_
      refine OpsE.val (x_move (v := .string _) ((hs2 1 rfl).trans (hs 1 rfl))) ?_
      refine OpsE.val (x_lenS rfl rfl Try.runUnderlying9) ?_
      refine OpsE.val (x_ge rfl rfl) ?_
      by_cases c1 : (x.key.size : Int) ≥ (p.size : Int)
      · rw [decide_eq_true c1]
        refine OpsE.val (x_move (v := .bool _) rfl) ?_
        refine OpsE.yes rfl ?_
        refine OpsE.val (x_fieldAddr0 rfl Try.runUnderlying26 rfl rfl Try.sizeOf9) ?_
        refine OpsE.yes rfl ?_
        refine OpsE.val (x_load (v := .string x.key) rfl Try.isAgg9 (H.look _) rfl) ?_
        refine OpsE.yes rfl ?_
        refine OpsE.val (x_move (v := .string _) ((hs2 1 rfl).trans (hs 1 rfl))) ?_
        refine OpsE.yes rfl ?_
        refine OpsE.val (x_lenS rfl rfl Try.runUnderlying9) ?_
        refine OpsE.yes rfl ?_
        refine OpsE.val (x_strHi (h := p.size) rfl rfl Try.runUnderlying9 rfl (by omega)) ?_
        refine OpsE.yes rfl ?_
        refine OpsE.val (x_move (v := .string _) ((hs2 1 rfl).trans (hs 1 rfl))) ?_
        refine OpsE.yes rfl ?_
        refine OpsE.val (x_eqS rfl rfl) ?_
        by_cases c2 : x.key.extract 0 p.size = p
        · rw [decide_eq_true c2]
          refine OpsE.val (x_pickT rfl rfl) ?_
          refine OpsE.nil ?_
          refine Then.normal ?_
          refine WP.cond_t rfl rfl ?_
          refine WP.region ?_
          refine OpsE.val (x_fieldAddr (o := 2) (hs2 8 rfl) Try.runUnderlying33 rfl rfl Try.sizeOf22) ?_
          refine OpsE.val (x_load (v := d.val) rfl Try.isAgg22 (H.look _) rfl) ?_
          refine OpsE.val (x_loadA (vs := wrc x) rfl Try.isAgg26 Try.sizeOf26 (H.look _) rfl rfl) ?_
          refine OpsE.buildSlice1 (vs := wrc x) KW (by decide) rfl rfl rfl (by decide) H ?_
          intro sg w H
          refine OpsE.append_rw (f := wrc) (r := d) (ys := [x]) rfl KW wrc_len wrc_one rfl rfl H hdo (H.look sg) (by simp) rfl (by decide) (by omega) (by omega) ?_
          intro g' w hh1 hh2 hh3 H
          refine OpsE.val (x_fieldAddr (o := 2) (hs2 8 rfl) Try.runUnderlying33 rfl rfl Try.sizeOf22) ?_
          refine OpsE.store (v := g'.val) rfl rfl rfl rfl Try.sizeOf22 H (by show 2 < 3; decide) ?_
          intro w H
          refine OpsE.nil ?_
          refine InBlock.normal ?_
          refine Then.normal ?_
          refine WP.region ?_
          refine OpsE.val (x_add (z := ((j + 1 : Nat) : Int)) e26 rfl (by rw [i64n (by omega) (by omega)]; omega)) ?_
          refine OpsE.val (x_move (v := .int .i64 _) rfl) ?_
          refine OpsE.nil ?_
          refine Then.normal ?_
          have hg : hasP p x.key = true := by unfold hasP; rw [decide_eq_true (by omega : p.size ≤ x.key.size), decide_eq_true c2]; rfl
          refine ⟨rfl, (by repeat (first | exact hs2 | refine Same.upd ?_ rfl)), j + 1, by omega, g', rfl, by omega, ?_, hh2, ?_⟩
          · rw [hh1, hdx, List.take_add_one, hx, Option.toList_some, onlyW_snoc, if_pos hg]
          · have h0 : Sat w (pt b8 (.cells (cmc ⟨y.seq, y.time, g'⟩).toArray TCm (0, 0)) :: g'.own wrc TWr :: pt sg (.cells (wrc x).toArray TWr (0, 0)) :: pt b10 (.cells (wrc x).toArray TWr (0, 0)) :: pt b7 (.cells (cvc y).toArray TCm (0, 0)) :: r.own cmc TCm :: stars (r.xs.map cmH) :: l) := H.perm (by simp only [stars_cons]; ac_rfl)
            exact ((h0.take (pt sg (.cells (wrc x).toArray TWr (0, 0)))).tail.take (pt b10 (.cells (wrc x).toArray TWr (0, 0)))).tail
        · rw [decide_eq_false c2]
          refine OpsE.val (x_pickT rfl rfl) ?_
          refine OpsE.nil ?_
          refine Then.normal ?_
          refine WP.cond_f rfl rfl ?_
          refine WP.skip ?_
          refine InBlock.normal ?_
          refine Then.normal ?_
          refine WP.region ?_
          refine OpsE.val (x_add (z := ((j + 1 : Nat) : Int)) e26 rfl (by rw [i64n (by omega) (by omega)]; omega)) ?_
          refine OpsE.val (x_move (v := .int .i64 _) rfl) ?_
          refine OpsE.nil ?_
          refine Then.normal ?_
          have hg : hasP p x.key = false := by unfold hasP; rw [decide_eq_false c2, Bool.and_false]
          refine ⟨rfl, (by repeat (first | exact hs2 | refine Same.upd ?_ rfl)), j + 1, by omega, d, rfl, by omega, ?_, hdo, H.tail⟩
          rw [hdx, List.take_add_one, hx, Option.toList_some, onlyW_snoc, if_neg (by rw [hg]; simp)]
      · rw [decide_eq_false c1]
        refine OpsE.val (x_move (v := .bool _) rfl) ?_
        refine OpsE.no rfl ?_
        refine OpsE.no rfl ?_
        refine OpsE.no rfl ?_
        refine OpsE.no rfl ?_
        refine OpsE.no rfl ?_
        refine OpsE.no rfl ?_
        refine OpsE.no rfl ?_
        refine OpsE.val (x_pickF rfl rfl) ?_
        refine OpsE.nil ?_
        refine Then.normal ?_
        refine WP.cond_f rfl rfl ?_
        refine WP.skip ?_
        refine InBlock.normal ?_
        refine Then.normal ?_
        refine WP.region ?_
        refine OpsE.val (x_add (z := ((j + 1 : Nat) : Int)) e26 rfl (by rw [i64n (by omega) (by omega)]; omega)) ?_
        refine OpsE.val (x_move (v := .int .i64 _) rfl) ?_
        refine OpsE.nil ?_
        refine Then.normal ?_
        have hg : hasP p x.key = false := by unfold hasP; rw [decide_eq_false (by omega : ¬ p.size ≤ x.key.size), Bool.false_and]
        refine ⟨rfl, (by repeat (first | exact hs2 | refine Same.upd ?_ rfl)), j + 1, by omega, d, rfl, by omega, ?_, hdo, H.tail⟩
        rw [hdx, List.take_add_one, hx, Option.toList_some, onlyW_snoc, if_neg (by rw [hg]; simp)]
    · rw [decide_eq_false hlt2]
      refine OpsE.nil ?_
      refine Then.normal ?_
      refine WP.seq ?_
      refine WP.cond_f rfl rfl ?_
      refine WP.exit ?_
      refine Then.exit ?_
      refine Then.exit ?_
      refine InBlock.hit ?_
      refine Then.normal ?_
      refine WP.seq ?_
      obtain ⟨cm, hcm⟩ : ∃ cm : Cm, cm = ⟨y.seq, y.time, d⟩ := ⟨_, rfl⟩
      have hjn' : j = y.n := by omega
      rw [hjn', List.take_of_length_le (by omega)] at hdx
      have hab : cma cm = onlyC p y.ab := by rw [hcm]; show (y.seq, y.time, d.xs) = _; rw [hdx]; rfl
      rw [← hcm] at H
      refine WP.region ?_
      refine OpsE.val (x_fieldAddr (o := 2) (hs2 8 rfl) Try.runUnderlying33 rfl rfl Try.sizeOf22) ?_
      refine OpsE.val (x_load (v := d.val) rfl Try.isAgg22 (H.look _) (by rw [hcm]; rfl)) ?_
      refine OpsE.val (x_lenL rfl rfl Try.runUnderlying22) ?_
      refine OpsE.val (x_gt rfl rfl) ?_
      by_cases hpos : (d.xs.length : Int) > 0
      · rw [decide_eq_true hpos]
        refine OpsE.nil ?_
        refine Then.normal ?_
        refine WP.cond_t rfl rfl ?_
        refine WP.region ?_
        refine OpsE.val (x_move (v := .slice _ _ _) ((hs2 5 rfl).trans e5)) ?_
        refine OpsE.val (x_loadA (vs := cmc cm) (hs2 8 rfl) Try.isAgg33 Try.sizeOf33 (H.look _) rfl rfl) ?_
        refine OpsE.buildSlice1 (vs := cmc cm) CM.K (by decide) rfl rfl rfl (by decide) H ?_
        intro g w H
        refine OpsE.append_rw (f := cmc) (r := r) (ys := [cm]) rfl CM.K cmc_len cmc_one rfl rfl H hro (H.look g) (by simp) rfl (by decide) (by omega) (by omega) ?_
        intro r2 w hh1 hh2 hh3 H
        refine OpsE.val (x_assign (v := .slice _ _ _) rfl) ?_
        refine OpsE.nil ?_
        refine InBlock.normal ?_
        refine Then.normal ?_
        refine WP.region ?_
        refine OpsE.val (x_add (z := ((i + 1 : Nat) : Int)) ((hs2 14 rfl).trans e14) rfl (by rw [i64n (by omega) (by omega)]; omega)) ?_
        refine OpsE.val (x_move (v := .int .i64 _) rfl) ?_
        refine OpsE.nil ?_
        refine Then.normal ?_
        have e1 : (xs.take (i + 1)).map CmV.ab = (xs.take i).map CmV.ab ++ [y.ab] := by rw [List.take_add_one, hy, Option.toList_some, List.map_append]; rfl
        have hdp : 0 < (onlyW p y.ab.2.2).length := by show 0 < (onlyW p y.ws).length; rw [← hdx]; omega
        refine ⟨rfl, (by repeat (first | exact hs | refine Same.upd ?_ rfl | refine Same.sub hs2 ?_ rfl)), i + 1, by omega, r2, rfl, rfl, by omega, ?_, hh2, fun c' hc' => ?_, ?_⟩
        · rw [hh1, List.map_append, hrx, e1, onlyL_snoc, if_pos hdp]
          show _ ++ [cma cm] = _
          rw [hab]
        · rw [hh1] at hc'
          rcases List.mem_append.1 hc' with h | h
          · exact hrw c' h
          · rcases List.mem_singleton.1 h with rfl
            rw [hcm]; exact hdo
        · have h1 := (H.take (pt g (.cells (cmc cm).toArray TCm (0, 0)))).tail
          have h2 := (h1.take (pt b8 (.cells (cmc cm).toArray TCm (0, 0)))).tail
          have h2' := (h2.take (pt b7 (.cells (cvc y).toArray TCm (0, 0)))).tail
          have h3 := Rw.freeze (h2'.take (d.own wrc TWr))
          exact h3.perm (by
            have e1 : stars (r2.xs.map cmH) = HP.sep (stars (r.xs.map cmH)) (d.ror wrc TWr) := by
              rw [hh1, List.map_append, stars_append, show stars ([cm].map cmH) = HP.sep (cmH cm) HP.one from rfl, HP.sep_one, hcm]; rfl
            simp only [stars_cons]
            rw [e1]
            ac_rfl)
      · rw [decide_eq_false hpos]
        refine OpsE.nil ?_
        refine Then.normal ?_
        refine WP.cond_f rfl rfl ?_
        refine WP.skip ?_
        refine InBlock.normal ?_
        refine Then.normal ?_
        refine WP.region ?_
        refine OpsE.val (x_add (z := ((i + 1 : Nat) : Int)) ((hs2 14 rfl).trans e14) rfl (by rw [i64n (by omega) (by omega)]; omega)) ?_
        refine OpsE.val (x_move (v := .int .i64 _) rfl) ?_
        refine OpsE.nil ?_
        refine Then.normal ?_
        have e1 : (xs.take (i + 1)).map CmV.ab = (xs.take i).map CmV.ab ++ [y.ab] := by rw [List.take_add_one, hy, Option.toList_some, List.map_append]; rfl
        have hdp : ¬ 0 < (onlyW p y.ab.2.2).length := by show ¬ 0 < (onlyW p y.ws).length; rw [← hdx]; omega
        refine ⟨rfl, (by repeat (first | exact hs | refine Same.upd ?_ rfl | refine Same.sub hs2 ?_ rfl)), i + 1, by omega, r, rfl, ?_, by omega, ?_, hro, hrw, H.tail.tail.tail⟩
        · exact (hs2 5 rfl).trans e5
        · rw [hrx, e1, onlyL_snoc, if_neg hdp]
  · rw [decide_eq_false hlt]
    refine OpsE.nil ?_
    refine Then.normal ?_
    refine WP.seq ?_
    refine WP.cond_f rfl rfl ?_
    refine WP.exit ?_
    refine Then.exit ?_
    refine Then.exit ?_
    refine InBlock.hit ?_
    refine Then.normal ?_
    refine WP.seq ?_
    refine WP.region ?_
    refine OpsE.val (x_move (v := .slice _ _ _) e5) ?_
    refine OpsE.val (x_assign (v := .slice _ _ _) rfl) ?_
    refine OpsE.nil ?_
    refine Then.normal ?_
    refine WP.ret ?_
    refine Leave0.ret (v := .slice _ _ _) rfl ?_
    refine ⟨r, rfl, ?_, hro, hrw, H⟩
    rw [hrx, List.take_of_length_le (by omega)]
end Go.Proofs.Ytbhbdpbhhfemhaa

/-
  Poll: a batch of commits behind a mark.
-/
namespace Go.Proofs.Ytbhbdpbhhfemhaa
open Go Go.Proofs
set_option maxRecDepth 100000
set_option maxHeartbeats 8000000
set_option linter.unusedVariables false

/-- what a batch is: of the commits behind the mark, the first i are looked at -/
structure PollIs (p : ByteArray) (most : Nat) (cs : List Cmt) (i : Nat) (L : List Cmt) : Prop where
  is : L = onlyL p (cs.take i)
  le : i ≤ cs.length
  top : L.length ≤ most
  full : i = cs.length ∨ L.length = most
  before : 0 < i → (onlyL p (cs.take (i - 1))).length < most
abbrev TBt : TypeId := 58
def btc (r : Rw Cm) (m : Int) : List Value := [r.val, .int .i64 m]
theorem btc_one (r : Rw Cm) (m : Int) : ∀ u ∈ btc r m, u.oneCell' = true := by
  intro u hu
  simp only [btc, List.mem_cons, List.not_mem_nil, or_false] at hu
  rcases hu with rfl | rfl <;> rfl
theorem hw_of {cms cs : List Cmt} {xs : List Cm} (hc : ∀ c ∈ cms, rightB c.2.2) (hsub : ∀ c ∈ cs, c ∈ cms) (e : xs.map cma = cs) : ∀ y ∈ xs.map Cm.v, y.n ≤ 1000000 ∧ ∀ z ∈ y.ws, z.key.size ≤ 4611686018427387904 := by
  intro y hy
  obtain ⟨c, hc', rfl⟩ := List.mem_map.1 hy
  have h1 : rightB (cma c).2.2 := hc _ (hsub _ (by rw [← e]; exact List.mem_map.2 ⟨c, hc', rfl⟩))
  have h2 := right_len h1
  have h3 : c.w.xs.length ≤ 200 := h2
  refine ⟨(by show c.w.xs.length ≤ _; omega), fun z hz => ?_⟩
  obtain ⟨i, hi, rfl⟩ := List.mem_iff_getElem.1 hz
  have h4 := (okTo_at h1.2 (i := i) (x := c.w.xs[i]) (List.getElem?_eq_getElem hi)).2.1
  have h5 : (c.w.xs[i]).key.size ≤ 400 := h4
  show (c.w.xs[i]).key.size ≤ _
  omega

theorem Poll_spec {w : World} {l : List HP} {b N : Nat} {S : SC} {q m : Int} {p : ByteArray} (H : Sat w (StP b S :: l)) (ok : S.Ok N) (hhl : S.hist.xs.length ≤ 1000) (hrt : ∀ c ∈ S.hist.xs.map cma, rightB c.2.2) (hseq : ∀ (i : Nat) (c : Cmt), (S.hist.xs.map cma)[i]? = some c → c.1 = S.low + 1 + i) (hq : -9223372036854775808 ≤ q ∧ q ≤ 9223372036854775807) :
    Calls Try.prog 35 #[.pointer (some ⟨b, 0, none⟩), .int .i64 q, .string p, .int .i64 m] w (Ret fun v w' =>
      (∃ e : Int, ((e = 1 ∧ (m < 1 ∨ m > 100 ∨ (p.size : Int) > 400)) ∨ (¬ (m < 1 ∨ m > 100 ∨ (p.size : Int) > 400) ∧ ((e = 12 ∧ q < S.low) ∨ (e = 13 ∧ S.low ≤ q ∧ S.last < q)))) ∧ v = .tuple #[.agg (btc ⟨[], none⟩ 0).toArray, .int .i64 e] ∧ Sat w' (StP b S :: l)) ∨
      (¬ (m < 1 ∨ m > 100 ∨ (p.size : Int) > 400) ∧ S.low ≤ q ∧ q ≤ S.last ∧ ∃ (r : Rw Cm) (i : Nat), v = .tuple #[.agg (btc r (q + i)).toArray, .int .i64 0] ∧ PollIs p m.toNat ((S.hist.xs.map cma).drop (q - S.low).toNat) i (r.xs.map cma) ∧ r.Ok 3 ∧ (∀ c ∈ r.xs, c.w.Ok 3) ∧ Sat w' (r.own cmc TCm :: stars (r.xs.map cmH) :: StP b S :: l))) := by
  have hlow := ok.low
  have hlast := ok.last
  have hwl : ∀ c ∈ S.hist.xs, c.w.xs.length ≤ 1000 := fun c hc => by
    have h2 := right_len (hrt (cma c) (List.mem_map.2 ⟨c, hc, rfl⟩))
    have h3 : c.w.xs.length ≤ 200 := h2
    omega
  refine Calls.of_wp_res Try.func35 rfl Try.ntmps35 (res_aggT (TT := TBt) (n := 2) Try.results35 Try.isAgg58 Try.sizeOf58) (Nat.le_of_ble_eq_true rfl) ?_
  refine WP.seq ?_
  refine WP.region ?_
  refine OpsE.allocA Try.zeroValue58 H ?_
  intro b8 w H
  refine OpsE.val (x_assign (v := .int .i64 _) rfl) ?_
  refine OpsE.nil ?_
  refine Then.normal ?_
  refine WP.scope ?_
  refine WP.seq ?_
  refine WP.seq ?_
  refine WP.region ?_
  refine OpsE.val (x_move (v := .int .i64 _) rfl) ?_
  refine OpsE.val (x_lt rfl rfl) ?_
  by_cases c1 : m < 1
  · rw [decide_eq_true c1]
    refine OpsE.val (x_move (v := .bool _) rfl) ?_
    refine OpsE.no rfl ?_
    refine OpsE.no rfl ?_
    refine OpsE.val (x_pickT rfl rfl) ?_
    refine OpsE.val (x_move (v := .bool _) rfl) ?_
    refine OpsE.no rfl ?_
    refine OpsE.no rfl ?_
    refine OpsE.no rfl ?_
    refine OpsE.val (x_pickT rfl rfl) ?_
    refine OpsE.nil ?_
    refine Then.normal ?_
    refine WP.cond_t rfl rfl ?_
    refine WP.seq ?_
    refine WP.region ?_
    refine OpsE.val (x_build2_0 (vl := []) rfl Try.zeroValue58 Try.runUnderlying58 Try.sizeOf38 Try.sizeOf3 rfl) ?_
    refine OpsE.storeA (vs := btc ⟨[], none⟩ 0) rfl rfl Try.sizeOf58 H (btc_one _ _) (Nat.le_refl _) ?_
    intro w H
    refine OpsE.val (x_assign (v := .int .i64 _) rfl) ?_
    refine OpsE.nil ?_
    refine Then.normal ?_
    refine WP.ret ?_
    refine Then.ret ?_
    refine NoGoto.ret ?_
    refine LeaveR.ret ?_
    exact ⟨_, [], rfl, _, (fun w' H' => ⟨b8, btc ⟨[], none⟩ 0, rfl, H'.pt_get, rfl, rfl⟩), H, fun w' H' => .inl ⟨1, .inl ⟨rfl, .inl c1⟩, rfl, H'.tail⟩⟩
  · rw [decide_eq_false c1]
    refine OpsE.val (x_move (v := .bool _) rfl) ?_
    refine OpsE.yes rfl ?_
    refine OpsE.val (x_move (v := .int .i64 _) rfl) ?_
    refine OpsE.yes rfl ?_
    refine OpsE.val (x_gt rfl rfl) ?_
    by_cases c2 : m > 100
    · rw [decide_eq_true c2]
      refine OpsE.val (x_pickF rfl rfl) ?_
      refine OpsE.val (x_move (v := .bool _) rfl) ?_
      refine OpsE.no rfl ?_
      refine OpsE.no rfl ?_
      refine OpsE.no rfl ?_
      refine OpsE.val (x_pickT rfl rfl) ?_
      refine OpsE.nil ?_
      refine Then.normal ?_
      refine WP.cond_t rfl rfl ?_
      refine WP.seq ?_
      refine WP.region ?_
      refine OpsE.val (x_build2_0 (vl := []) rfl Try.zeroValue58 Try.runUnderlying58 Try.sizeOf38 Try.sizeOf3 rfl) ?_
      refine OpsE.storeA (vs := btc ⟨[], none⟩ 0) rfl rfl Try.sizeOf58 H (btc_one _ _) (Nat.le_refl _) ?_
      intro w H
      refine OpsE.val (x_assign (v := .int .i64 _) rfl) ?_
      refine OpsE.nil ?_
      refine Then.normal ?_
      refine WP.ret ?_
      refine Then.ret ?_
      refine NoGoto.ret ?_
      refine LeaveR.ret ?_
      exact ⟨_, [], rfl, _, (fun w' H' => ⟨b8, btc ⟨[], none⟩ 0, rfl, H'.pt_get, rfl, rfl⟩), H, fun w' H' => .inl ⟨1, .inl ⟨rfl, .inr (.inl c2)⟩, rfl, H'.tail⟩⟩
    · rw [decide_eq_false c2]
      refine OpsE.val (x_pickF rfl rfl) ?_
      refine OpsE.val (x_move (v := .bool _) rfl) ?_
      refine OpsE.yes rfl ?_
      refine OpsE.val (x_move (v := .string _) rfl) ?_
      refine OpsE.yes rfl ?_
      refine OpsE.val (x_lenS rfl rfl Try.runUnderlying9) ?_
      refine OpsE.yes rfl ?_
      refine OpsE.val (x_gt rfl rfl) ?_
      by_cases c3 : (p.size : Int) > 400
      · rw [decide_eq_true c3]
        refine OpsE.val (x_pickF rfl rfl) ?_
        refine OpsE.nil ?_
        refine Then.normal ?_
        refine WP.cond_t rfl rfl ?_
        refine WP.seq ?_
        refine WP.region ?_
        refine OpsE.val (x_build2_0 (vl := []) rfl Try.zeroValue58 Try.runUnderlying58 Try.sizeOf38 Try.sizeOf3 rfl) ?_
        refine OpsE.storeA (vs := btc ⟨[], none⟩ 0) rfl rfl Try.sizeOf58 H (btc_one _ _) (Nat.le_refl _) ?_
        intro w H
        refine OpsE.val (x_assign (v := .int .i64 _) rfl) ?_
        refine OpsE.nil ?_
        refine Then.normal ?_
        refine WP.ret ?_
        refine Then.ret ?_
        refine NoGoto.ret ?_
        refine LeaveR.ret ?_
        exact ⟨_, [], rfl, _, (fun w' H' => ⟨b8, btc ⟨[], none⟩ 0, rfl, H'.pt_get, rfl, rfl⟩), H, fun w' H' => .inl ⟨1, .inl ⟨rfl, .inr (.inr c3)⟩, rfl, H'.tail⟩⟩
      · rw [decide_eq_false c3]
        refine OpsE.val (x_pickF rfl rfl) ?_
        refine OpsE.nil ?_
        refine Then.normal ?_
        refine WP.cond_f rfl rfl ?_
        refine WP.skip ?_
        refine Then.normal ?_
        refine WP.seq ?_
        refine WP.region ?_
        refine OpsE.val (x_move (v := .pointer _) rfl) ?_
        refine OpsE.val (x_move (v := .int .i64 _) rfl) ?_
        refine OpsE.call (x_call (vl := [.pointer _, .int .i64 _]) rfl Try.call38) (Since_one (q := q) H.swap ok (by omega) hwl) ?_
        have hnc : ¬ (m < 1 ∨ m > 100 ∨ (p.size : Int) > 400) := by omega
        rintro _ w ⟨r1, er, rfl, hs1, H⟩
        refine OpsE.val (x_move (v := .tuple #[r1.val, .int .i64 er]) rfl) ?_
        refine OpsE.val (x_extract (v := r1.val) rfl rfl) ?_
        refine OpsE.val (x_extract (v := .int .i64 er) rfl rfl) ?_
        refine OpsE.val (x_assign (v := .slice _ _ _) rfl) ?_
        refine OpsE.val (x_assign (v := .int .i64 _) rfl) ?_
        refine OpsE.nil ?_
        refine Then.normal ?_
        refine WP.seq ?_
        refine WP.seq ?_
        refine WP.region ?_
        refine OpsE.val (x_move (v := .int .i64 er) rfl) ?_
        refine OpsE.val (x_neI rfl rfl) ?_
        by_cases c4 : er ≠ 0
        · rw [decide_eq_true c4]
          refine OpsE.nil ?_
          refine Then.normal ?_
          refine WP.cond_t rfl rfl ?_
          refine WP.seq ?_
          have H0 : Sat w (pt b8 (.cells (btc ⟨[], none⟩ 0).toArray TBt (0, 0)) :: r1.own cmc TCm :: stars (r1.xs.map cmH) :: StP b S :: l) := H.perm (by show _ = stars (pt b8 (.cells (btc ⟨[], none⟩ 0).toArray TBt (0, 0)) :: r1.own cmc TCm :: stars (r1.xs.map cmH) :: StP b S :: l); simp only [stars_cons]; ac_rfl)
          clear H
          replace H := H0
          refine WP.region ?_
          refine OpsE.val (x_build2_0 (vl := []) rfl Try.zeroValue58 Try.runUnderlying58 Try.sizeOf38 Try.sizeOf3 rfl) ?_
          refine OpsE.val (x_move (v := .int .i64 er) rfl) ?_
          refine OpsE.storeA (vs := btc ⟨[], none⟩ 0) rfl rfl Try.sizeOf58 H (btc_one _ _) (Nat.le_refl _) ?_
          intro w H
          refine OpsE.val (x_assign (v := .int .i64 _) rfl) ?_
          refine OpsE.nil ?_
          refine Then.normal ?_
          refine WP.ret ?_
          refine Then.ret ?_
          refine NoGoto.ret ?_
          refine LeaveR.ret ?_
          refine ⟨_, [], rfl, _, (fun w' H' => ⟨b8, btc ⟨[], none⟩ 0, rfl, H'.pt_get, rfl, rfl⟩), H, fun w' H' => .inl ⟨er, .inr ⟨hnc, ?_⟩, rfl, H'.tail.tail.tail⟩⟩
          rcases hs1 with ⟨h, h2⟩ | ⟨h, h2, h3⟩ | ⟨_, _, h, _⟩
          · exact .inl ⟨by omega, by omega⟩
          · exact .inr ⟨by omega, by omega, by omega⟩
          · exact absurd h c4
        · rw [decide_eq_false c4]
          refine OpsE.nil ?_
          refine Then.normal ?_
          refine WP.cond_f rfl rfl ?_
          refine WP.skip ?_
          refine Then.normal ?_
          refine WP.seq ?_
          obtain ⟨h1, h2, hcs, hro1, hrw1⟩ : S.low ≤ q ∧ q ≤ S.last ∧ r1.xs.map cma = (S.hist.xs.map cma).drop (q - S.low).toNat ∧ r1.Ok 3 ∧ ∀ c ∈ r1.xs, c.w.Ok 3 := by
            rcases hs1 with ⟨_, h, _⟩ | ⟨_, _, h, _⟩ | ⟨h1, h2, _, h3, h4, h5⟩
            · exact absurd (by omega) c4
            · exact absurd (by omega) c4
            · exact ⟨h1, h2, h3, h4, h5⟩
          have her : er = 0 := by omega
          subst her
          obtain ⟨cs, hcs'⟩ : ∃ cs, r1.xs.map cma = cs := ⟨_, rfl⟩
          have hcd : (S.hist.xs.map cma).drop (q - S.low).toNat = cs := by rw [← hcs, hcs']
          have hcl : cs.length = r1.xs.length := by rw [← hcs', List.length_map]
          have hcl2 : cs.length ≤ 1000 := by rw [← hcd, List.length_drop, List.length_map]; omega
          have hcq : ∀ (i : Nat) (c : Cmt), cs[i]? = some c → c.1 = q + ((i + 1 : Nat) : Int) := fun i c hc => by
            rw [← hcd, List.getElem?_drop] at hc
            have := hseq _ c hc; omega
          have hyw := hw_of (cms := S.hist.xs.map cma) (cs := cs) (xs := r1.xs) hrt (fun c hc => List.mem_of_mem_drop (by rw [hcd]; exact hc)) hcs'
          obtain ⟨R, hR⟩ : ∃ R, R = (pt b8 (.cells (btc ⟨[], none⟩ 0).toArray TBt (0, 0)) :: r1.own cmc TCm :: stars (r1.xs.map cmH) :: StP b S :: l) := ⟨_, rfl⟩
          have H0 : Sat w R := by
            rw [hR]
            exact H.perm (by show _ = stars (pt b8 (.cells (btc ⟨[], none⟩ 0).toArray TBt (0, 0)) :: r1.own cmc TCm :: stars (r1.xs.map cmH) :: StP b S :: l); simp only [stars_cons]; ac_rfl)
          clear H
          replace H := H0
          clear H0
          have hci : CIn R r1.ad r1.xs.length r1.cp (r1.xs.map Cm.v) := by rw [hR]; exact CIn.of_rw hro1 hrw1
          have hb8 : ∀ w, Sat w R → Sat w (pt b8 (.cells (btc ⟨[], none⟩ 0).toArray TBt (0, 0)) :: r1.own cmc TCm :: stars (r1.xs.map cmH) :: StP b S :: l) := fun w H => by rw [hR] at H; exact H
          obtain ⟨ys, hys⟩ : ∃ ys, r1.xs.map Cm.v = ys := ⟨_, rfl⟩
          rw [hys] at hci hyw
          have hyab : ys.map CmV.ab = cs := by rw [← hys, cm_ab, hcs']
          have hyl : ys.length = r1.xs.length := by rw [← hys, List.length_map]
          refine WP.region ?_
          refine OpsE.val (x_move (v := .int .i64 q) rfl) ?_
          refine OpsE.val (x_build2_1 (vl := [.int .i64 _]) rfl Try.zeroValue58 Try.runUnderlying58 Try.sizeOf38 Try.sizeOf3 rfl) ?_
          refine OpsE.allocA Try.zeroValue58 H ?_
          intro b12 w H
          refine OpsE.storeA (vs := btc ⟨[], none⟩ q) rfl rfl Try.sizeOf58 H (btc_one _ _) (Nat.le_refl _) ?_
          intro w H
          refine OpsE.nil ?_
          refine Then.normal ?_
          refine WP.seq ?_
          refine WP.label ?_
          refine Then.normal ?_
          refine WP.seq ?_
          refine WP.seq ?_
          refine WP.region ?_
          refine OpsE.val (x_move (v := r1.val) rfl) ?_
          refine OpsE.val (x_lenL rfl rfl Try.runUnderlying38) ?_
          refine OpsE.val (x_move (v := .int .i64 _) rfl) ?_
          refine OpsE.nil ?_
          refine Then.normal ?_
          refine WP.block ?_
          have H0 : Sat w (pt b12 (.cells (btc ⟨[], none⟩ (q + ((0 : Nat) : Int))).toArray TBt (0, 0)) :: (⟨[], none⟩ : Rw Cm).own cmc TCm :: stars (([] : List Cm).map cmH) :: R) := by
            have e0 : q + ((0 : Nat) : Int) = q := by omega
            rw [e0]
            exact (sat_one.2 (sat_one.2 H)).perm (by show stars (HP.one :: HP.one :: pt b12 (.cells (btc ⟨[], none⟩ q).toArray TBt (0, 0)) :: R) = stars (pt b12 (.cells (btc ⟨[], none⟩ q).toArray TBt (0, 0)) :: HP.one :: HP.one :: R); simp only [stars_cons]; ac_rfl)
          refine WP.loopS [14, 41, 42, 43, 44, 45, 46, 47, 48, 49, 50, 51, 52, 53, 54, 55, 56, 57, 58, 59, 60, 61, 62, 63, 64, 65, 66] (fun (i : Nat) E w => ∃ r : Rw Cm, E 41 = .int .i64 (i : Int) ∧ i ≤ r1.xs.length ∧ r.xs.map cma = onlyL p (cs.take i) ∧ r.Ok 3 ∧ (∀ c ∈ r.xs, c.w.Ok 3) ∧ (r.xs.length : Int) ≤ m ∧ (0 < i → (onlyL p (cs.take (i - 1))).length < m.toNat) ∧ Sat w (pt b12 (.cells (btc r (q + i)).toArray TBt (0, 0)) :: r.own cmc TCm :: stars (r.xs.map cmH) :: R)) (fun i => r1.xs.length - i) 0 ⟨⟨[], none⟩, rfl, Nat.zero_le _, rfl, Rw.empty_ok, (fun _ h => by cases h), (by show (0 : Int) ≤ m; omega), (fun h => absurd h (Nat.lt_irrefl _)), H0⟩ ?_
          clear H H0
          rintro i E1 w hs ⟨r, e41, hin, hrx, hro, hrw, hrm, hbef, H⟩
          refine WP.seq ?_
          refine WP.region ?_
          refine OpsE.val (x_lt e41 (hs 40 rfl)) ?_
          by_cases hlt : (i : Int) < (r1.xs.length : Int)
          · rw [decide_eq_true hlt]
            refine OpsE.nil ?_
            refine Then.normal ?_
            refine WP.seq ?_
            refine WP.cond_t rfl rfl ?_
            refine WP.skip ?_
            refine Then.normal ?_
            refine WP.seq ?_
            refine WP.block ?_
            refine WP.seq ?_
            obtain ⟨bb, off, B, fz, pre, post, had, hB, hBl, hpo⟩ := hci.row.some (by omega)
            obtain ⟨y, hy⟩ : ∃ y, ys[i]? = some y := ⟨_, List.getElem?_eq_getElem (by omega)⟩
            have hym := List.mem_of_getElem? hy
            have hry := hci.ws y hym
            obtain ⟨hyn, hyk⟩ := hyw y hym
            have hcy : cs[i]? = some y.ab := by rw [← hyab, List.getElem?_map, hy]; rfl
            have hyq : y.seq = q + ((i + 1 : Nat) : Int) := hcq i _ hcy
            have hcs1 : cs.take (i + 1) = cs.take i ++ [y.ab] := by rw [List.take_add_one, hcy]; rfl
            have hrl : r.xs.length = (onlyL p (cs.take i)).length := by rw [← hrx, List.length_map]
            refine WP.region ?_
            refine OpsE.val (x_indexAddro (i := i) (len := r1.xs.length) (cap := r1.cp) ((hs 39 rfl).trans (show r1.val = _ by unfold Rw.val; rw [had])) e41 Try.runUnderlying38 Try.sizeOf33 rfl (by omega)) ?_
            refine OpsE.val (x_loadA (vs := cvc y) rfl Try.isAgg33 Try.sizeOf33 (hB w H.tail.tail.tail) (row_el cvc_len hBl hpo hy) rfl) ?_
            refine OpsE.allocA Try.zeroValue33 H ?_
            intro b14 w H
            refine OpsE.storeA (vs := cvc y) rfl rfl Try.sizeOf33 H (cvc_one y) (Nat.le_refl _) ?_
            intro w H
            refine OpsE.nil ?_
            refine Then.normal ?_
            refine WP.seq ?_
            refine WP.seq ?_
            refine WP.region ?_
            refine OpsE.val (x_fieldAddr0 (hs 12 rfl) Try.runUnderlying58 rfl rfl Try.sizeOf38) ?_
            refine OpsE.val (x_load (v := r.val) rfl Try.isAgg38 (H.look _) rfl) ?_
            refine OpsE.val (x_lenL rfl rfl Try.runUnderlying38) ?_
            refine OpsE.val (x_move (v := .int .i64 _) (hs 3 rfl)) ?_
            refine OpsE.val (x_eqI rfl rfl) ?_
            by_cases hful : (r.xs.length : Int) = m
            · rw [decide_eq_true hful]
              refine OpsE.nil ?_
              refine Then.normal ?_
              refine WP.cond_t rfl rfl ?_
              refine WP.exit ?_
              refine Then.exit ?_
              refine InBlock.miss rfl ?_
              refine Then.exit ?_
              refine Then.exit ?_
              refine InBlock.hit ?_
              refine Then.normal ?_
              refine WP.seq ?_
              have H0 : Sat w (pt b12 (.cells (btc r (q + i)).toArray TBt (0, 0)) :: r.own cmc TCm :: stars (r.xs.map cmH) :: pt b8 (.cells (btc ⟨[], none⟩ 0).toArray TBt (0, 0)) :: r1.own cmc TCm :: stars (r1.xs.map cmH) :: StP b S :: l) := by rw [hR] at H; exact H.tail
              clear H
              replace H := H0
              refine WP.region ?_
              refine OpsE.val (x_loadA (vs := btc r (q + i)) (hs 12 rfl) Try.isAgg58 Try.sizeOf58 (H.look _) rfl rfl) ?_
              refine OpsE.storeA (vs := btc r (q + i)) (hs 8 rfl) rfl Try.sizeOf58 H (btc_one _ _) (Nat.le_refl _) ?_
              intro w H
              refine OpsE.val (x_assign (v := .int .i64 _) rfl) ?_
              refine OpsE.nil ?_
              refine Then.normal ?_
              refine WP.ret ?_
              refine NoGoto.ret ?_
              refine LeaveR.ret ?_
              refine ⟨_, [], rfl, _, (fun w' H' => ⟨b8, btc r (q + i), (hs 8 rfl), H'.pt_get, rfl, rfl⟩), H, fun w' H' => .inr ⟨hnc, h1, h2, r, i, rfl, ?_, hro, hrw, ?_⟩⟩
              · rw [hcd]; exact ⟨hrx, by omega, by rw [List.length_map]; omega, .inr (by rw [List.length_map]; omega), hbef⟩
              · exact ((H'.tail.tail.take (r1.own cmc TCm)).tail.take (stars (r1.xs.map cmH))).tail
            · rw [decide_eq_false hful]
              refine OpsE.nil ?_
              refine Then.normal ?_
              refine WP.cond_f rfl rfl ?_
              refine WP.skip ?_
              refine Then.normal ?_
              refine WP.seq ?_
              refine WP.region ?_
              refine OpsE.val (x_fieldAddr0 rfl Try.runUnderlying33 rfl rfl Try.sizeOf3) ?_
              refine OpsE.val (x_load (v := .int .i64 y.seq) rfl Try.isAgg3 (H.look _) rfl) ?_
              refine OpsE.val (x_fieldAddr (o := 1) (hs 12 rfl) Try.runUnderlying58 rfl rfl Try.sizeOf3) ?_
              refine OpsE.store (v := .int .i64 y.seq) rfl rfl rfl rfl Try.sizeOf3 H (by show 1 < 2; decide) ?_
              intro w H
              refine OpsE.nil ?_
              refine Then.normal ?_
              refine WP.seq ?_
              have H0 : Sat w (pt b12 (.cells (btc r y.seq).toArray TBt (0, 0)) :: pt b14 (.cells (cvc y).toArray TCm (0, 0)) :: r.own cmc TCm :: stars (r.xs.map cmH) :: R) := H
              clear H
              rw [hyq] at H0
              replace H := H0
              clear H0
              refine WP.region ?_
              refine OpsE.val (x_loadA (vs := cvc y) rfl Try.isAgg33 Try.sizeOf33 (H.look _) rfl rfl) ?_
              refine OpsE.val (x_move (v := .string _) (hs 2 rfl)) ?_
              refine OpsE.call (x_call (vl := [.agg _, .string _]) rfl Try.call56) (only_spec H hry.more.more.more.more hyn (by omega) hyk) ?_
              rintro _ w ⟨d, rfl, hdx, hdo, H⟩
              refine OpsE.storeA (vs := cmc ⟨y.seq, y.time, d⟩) rfl rfl Try.sizeOf33 H (cmc_one _) (Nat.le_refl _) ?_
              intro w H
              refine OpsE.nil ?_
              refine Then.normal ?_
              refine WP.seq ?_
              obtain ⟨cm, hcm⟩ : ∃ cm : Cm, cm = ⟨y.seq, y.time, d⟩ := ⟨_, rfl⟩
              have hab : cma cm = onlyC p y.ab := by rw [hcm]; show (y.seq, y.time, d.xs) = _; rw [hdx]; rfl
              have H0 : Sat w (pt b14 (.cells (cmc cm).toArray TCm (0, 0)) :: d.own wrc TWr :: pt b12 (.cells (btc r (q + ((i + 1 : Nat) : Int))).toArray TBt (0, 0)) :: r.own cmc TCm :: stars (r.xs.map cmH) :: R) := by rw [hcm]; exact H
              clear H
              replace H := H0
              clear H0
              refine WP.region ?_
              refine OpsE.val (x_fieldAddr (o := 2) rfl Try.runUnderlying33 rfl rfl Try.sizeOf22) ?_
              refine OpsE.val (x_load (v := d.val) rfl Try.isAgg22 (H.look _) (by rw [hcm]; rfl)) ?_
              refine OpsE.val (x_lenL rfl rfl Try.runUnderlying22) ?_
              refine OpsE.val (x_gt rfl rfl) ?_
              by_cases hpos : (d.xs.length : Int) > 0
              · rw [decide_eq_true hpos]
                refine OpsE.nil ?_
                refine Then.normal ?_
                refine WP.cond_t rfl rfl ?_
                refine WP.region ?_
                refine OpsE.val (x_fieldAddr0 (hs 12 rfl) Try.runUnderlying58 rfl rfl Try.sizeOf38) ?_
                refine OpsE.val (x_load (v := r.val) rfl Try.isAgg38 (H.look _) rfl) ?_
                refine OpsE.val (x_loadA (vs := cmc cm) rfl Try.isAgg33 Try.sizeOf33 (H.look _) rfl rfl) ?_
                refine OpsE.buildSlice1 (vs := cmc cm) CM.K (by decide) rfl rfl rfl (by decide) H ?_
                intro g w H
                refine OpsE.append_rw (f := cmc) (r := r) (ys := [cm]) rfl CM.K cmc_len cmc_one rfl rfl H hro (H.look g) (by simp) rfl (by decide) (by omega) (by omega) ?_
                intro r2 w hh1 hh2 hh3 H
                refine OpsE.val (x_fieldAddr0 (hs 12 rfl) Try.runUnderlying58 rfl rfl Try.sizeOf38) ?_
                refine OpsE.store (v := r2.val) rfl rfl rfl rfl Try.sizeOf38 H (by show 0 < 2; decide) ?_
                intro w H
                refine OpsE.nil ?_
                refine InBlock.normal ?_
                refine Then.normal ?_
                refine WP.region ?_
                refine OpsE.val (x_add (z := ((i + 1 : Nat) : Int)) e41 rfl (by rw [i64n (by omega) (by omega)]; omega)) ?_
                refine OpsE.val (x_move (v := .int .i64 _) rfl) ?_
                refine OpsE.nil ?_
                refine Then.normal ?_
                have hdp : 0 < (onlyW p y.ab.2.2).length := by show 0 < (onlyW p y.ws).length; rw [← hdx]; omega
                refine ⟨rfl, (by repeat (first | exact hs | refine Same.upd ?_ rfl)), i + 1, by omega, r2, rfl, by omega, ?_, hh2, fun c' hc' => ?_, ?_, fun _ => ?_, ?_⟩
                · rw [hh1, List.map_append, hrx, hcs1, onlyL_snoc, if_pos hdp]
                  show _ ++ [cma cm] = _
                  rw [hab]
                · rw [hh1] at hc'
                  rcases List.mem_append.1 hc' with h | h
                  · exact hrw c' h
                  · rcases List.mem_singleton.1 h with rfl
                    rw [hcm]; exact hdo
                · rw [hh1, List.length_append]; simp only [List.length_cons, List.length_nil]; omega
                · show (onlyL p (cs.take (i + 1 - 1))).length < _
                  rw [Nat.add_sub_cancel]; omega
                · have h0 : Sat w (pt b12 (.cells (btc r2 (q + ((i + 1 : Nat) : Int))).toArray TBt (0, 0)) :: r2.own cmc TCm :: pt g (.cells (cmc cm).toArray TCm (0, 0)) :: pt b14 (.cells (cmc cm).toArray TCm (0, 0)) :: d.own wrc TWr :: stars (r.xs.map cmH) :: R) := H
                  have h1 := (h0.take (pt g (.cells (cmc cm).toArray TCm (0, 0)))).tail
                  have h2 := (h1.take (pt b14 (.cells (cmc cm).toArray TCm (0, 0)))).tail
                  have h3 := Rw.freeze (h2.take (d.own wrc TWr))
                  exact h3.perm (by
                    have e1 : stars (r2.xs.map cmH) = HP.sep (stars (r.xs.map cmH)) (d.ror wrc TWr) := by
                      rw [hh1, List.map_append, stars_append, show stars ([cm].map cmH) = HP.sep (cmH cm) HP.one from rfl, HP.sep_one, hcm]; rfl
                    simp only [stars_cons]
                    rw [e1]
                    ac_rfl)
              · rw [decide_eq_false hpos]
                refine OpsE.nil ?_
                refine Then.normal ?_
                refine WP.cond_f rfl rfl ?_
                refine WP.skip ?_
                refine InBlock.normal ?_
                refine Then.normal ?_
                refine WP.region ?_
                refine OpsE.val (x_add (z := ((i + 1 : Nat) : Int)) e41 rfl (by rw [i64n (by omega) (by omega)]; omega)) ?_
                refine OpsE.val (x_move (v := .int .i64 _) rfl) ?_
                refine OpsE.nil ?_
                refine Then.normal ?_
                have hdp : ¬ 0 < (onlyW p y.ab.2.2).length := by show ¬ 0 < (onlyW p y.ws).length; rw [← hdx]; omega
                refine ⟨rfl, (by repeat (first | exact hs | refine Same.upd ?_ rfl)), i + 1, by omega, r, rfl, by omega, ?_, hro, hrw, hrm, fun _ => ?_, H.tail.tail⟩
                · rw [hrx, hcs1, onlyL_snoc, if_neg hdp]
                · show (onlyL p (cs.take (i + 1 - 1))).length < _
                  rw [Nat.add_sub_cancel]; omega
          · rw [decide_eq_false hlt]
            refine OpsE.nil ?_
            refine Then.normal ?_
            refine WP.seq ?_
            refine WP.cond_f rfl rfl ?_
            refine WP.exit ?_
            refine Then.exit ?_
            refine Then.exit ?_
            refine InBlock.hit ?_
            refine Then.normal ?_
            refine WP.seq ?_
            have H0 : Sat w (pt b12 (.cells (btc r (q + i)).toArray TBt (0, 0)) :: r.own cmc TCm :: stars (r.xs.map cmH) :: pt b8 (.cells (btc ⟨[], none⟩ 0).toArray TBt (0, 0)) :: r1.own cmc TCm :: stars (r1.xs.map cmH) :: StP b S :: l) := by rw [hR] at H; exact H
            clear H
            replace H := H0
            refine WP.region ?_
            refine OpsE.val (x_loadA (vs := btc r (q + i)) (hs 12 rfl) Try.isAgg58 Try.sizeOf58 (H.look _) rfl rfl) ?_
            refine OpsE.storeA (vs := btc r (q + i)) (hs 8 rfl) rfl Try.sizeOf58 H (btc_one _ _) (Nat.le_refl _) ?_
            intro w H
            refine OpsE.val (x_assign (v := .int .i64 _) rfl) ?_
            refine OpsE.nil ?_
            refine Then.normal ?_
            refine WP.ret ?_
            refine NoGoto.ret ?_
            refine LeaveR.ret ?_
            have hie : i = cs.length := by omega
            refine ⟨_, [], rfl, _, (fun w' H' => ⟨b8, btc r (q + i), (hs 8 rfl), H'.pt_get, rfl, rfl⟩), H, fun w' H' => .inr ⟨hnc, h1, h2, r, i, rfl, ?_, hro, hrw, ?_⟩⟩
            · rw [hcd]; exact ⟨hrx, by omega, by rw [List.length_map]; omega, .inl hie, hbef⟩
            · exact ((H'.tail.tail.take (r1.own cmc TCm)).tail.take (stars (r1.xs.map cmH))).tail
end Go.Proofs.Ytbhbdpbhhfemhaa

/-
  The watch laws' own functions: made, head.
-/
namespace Go.Proofs.Ytbhbdpbhhfemhaa
open Go Go.Proofs
set_option maxRecDepth 100000
set_option maxHeartbeats 8000000
set_option linter.unusedVariables false

theorem goodN0 : goodN 0 [] := ⟨by decide, by decide, fun j x h => absurd h (Nat.not_lt_zero _), fun x h => by cases h⟩

theorem made17_spec {w : World} {l : List HP} {a : Option Addr} {n c lo : Nat} {xs : List Sl} (H : Sat w l) (hr : SlIn l a n c xs) (hn : n ≤ 1000) (hlo : lo ≤ n) :
    Calls Try.prog 34 #[.slice a n c, .int .i64 (lo : Int)] w (Ret fun v w' => ∃ (b : Nat) (S : SC) (r : Rw Cm), v = .tuple #[.pointer (some ⟨b, 0, none⟩), r.val] ∧ S.Ok 300000 ∧ S.low = (lo : Int) ∧ S.hist.xs.map cma = (r.xs.map cma).drop lo ∧ ListOf 1 (xs.map Sl.ws) (r.xs.map cma) ∧ r.Ok 3 ∧ (∀ c ∈ r.xs, c.w.Ok 3) ∧ Sat w' (StP b S :: r.own cmc TCm :: stars (r.xs.map cmH) :: l)) := by
  have hln := slIn_len hr
  refine Calls.of_wp Try.func34 rfl Try.ntmps34 Try.results34 (Nat.le_of_ble_eq_true rfl) ?_
  refine WP.seq ?_
  refine WP.region ?_
  refine OpsE.val (x_assign (v := .pointer _) rfl) ?_
  refine OpsE.val (x_assign (v := .slice _ _ _) rfl) ?_
  refine OpsE.nil ?_
  refine Then.normal ?_
  refine WP.seq ?_
  refine WP.region ?_
  refine OpsE.call (x_call (vl := [.int .i64 _, .slice _ _ _]) rfl Try.call40) (New_spec (ws := []) H RIn.nil (by decide) (fun _ h => by cases h)) ?_
  rintro _ w (⟨hb2, _⟩ | ⟨_, b, S0, rfl, ok0, hl0, hh0, hk0, H⟩)
  · exact absurd goodN0 hb2
  refine OpsE.val (x_move (v := .tuple _) rfl) ?_
  refine OpsE.val (x_extract (v := .pointer _) rfl rfl) ?_
  refine OpsE.val (x_extract (v := .int .i64 _) rfl rfl) ?_
  refine OpsE.val (x_assign (v := .pointer _) rfl) ?_
  refine OpsE.val (x_assign (v := .int .i64 _) rfl) ?_
  refine OpsE.nil ?_
  refine Then.normal ?_
  refine WP.seq ?_
  refine WP.region ?_
  refine OpsE.val (x_move (v := .slice _ _ _) rfl) ?_
  refine OpsE.call (x_call (vl := [.int .i64 _, .slice _ _ _]) rfl Try.call22) (List_spec (first := 1) H hr.more (by omega) (by decide)) ?_
  rintro _ w ⟨r, rfl, hlo1, hro, hrw, H⟩
  refine OpsE.val (x_assign (v := .slice _ _ _) rfl) ?_
  refine OpsE.nil ?_
  refine Then.normal ?_
  refine WP.seq ?_
  refine WP.seq ?_
  have hlo' : ListOf (0 + 1) (xs.map Sl.ws) (r.xs.map cma) := hlo1
  have ht := takes_list hlo' (by omega) (by decide)
  have hrl : r.xs.length = n := by rw [← hln, ← hlo1.1, List.length_map]
  obtain ⟨R, hR⟩ : ∃ R, R = (r.own cmc TCm :: stars (r.xs.map cmH) :: l) := ⟨_, rfl⟩
  have H0 : Sat w (StP b S0 :: R) := by rw [hR]; exact H.perm (by show _ = stars (StP b S0 :: r.own cmc TCm :: stars (r.xs.map cmH) :: l); simp only [stars_cons]; ac_rfl)
  clear H
  replace H := H0
  clear H0
  have hx : CIn R r.ad r.xs.length r.cp (r.xs.map Cm.v) := by rw [hR]; exact CIn.of_rw hro hrw
  obtain ⟨ys, hys⟩ : ∃ ys, r.xs.map Cm.v = ys := ⟨_, rfl⟩
  have hyab : ys.map CmV.ab = r.xs.map cma := by rw [← hys, cm_ab]
  have hyl : ys.length = n := by rw [← hys, List.length_map, hrl]
  rw [hys] at hx
  rw [← hyab] at ht
  refine WP.region ?_
  refine OpsE.val (x_move (v := r.val) rfl) ?_
  refine OpsE.val (x_lenL rfl rfl Try.runUnderlying38) ?_
  refine OpsE.val (x_move (v := .int .i64 _) rfl) ?_
  refine OpsE.nil ?_
  refine Then.normal ?_
  refine WP.block ?_
  refine WP.loopS [10, 19, 20, 21, 22, 23, 24, 25, 26] (fun (i : Nat) E w => ∃ Si : SC, E 19 = .int .i64 (i : Int) ∧ i ≤ n ∧ Si.Ok (200 * i) ∧ Si.low = 0 ∧ Si.hist.xs.map cma = (ys.take i).map CmV.ab ∧ Sat w (StP b Si :: R)) (fun i => n - i) 0 ⟨S0, rfl, Nat.zero_le _, by simpa using ok0, hl0, by rw [hh0]; rfl, H⟩ ?_
  clear H
  rintro i E1 w hs ⟨Si, e19, hin, oki, hlow, hhist, H⟩
  refine WP.seq ?_
  refine WP.region ?_
  refine OpsE.val (x_lt e19 (hs 18 rfl)) ?_
  by_cases hlt : (i : Int) < (r.xs.length : Int)
  · rw [decide_eq_true hlt]
    refine OpsE.nil ?_
    refine Then.normal ?_
    refine WP.seq ?_
    refine WP.cond_t rfl rfl ?_
    refine WP.skip ?_
    refine Then.normal ?_
    refine WP.seq ?_
    refine WP.block ?_
    refine WP.seq ?_
    obtain ⟨bb, off, B, fz, pre, post, had, hB, hBl, hpo⟩ := hx.row.some (by omega)
    obtain ⟨x, hxi⟩ : ∃ x, ys[i]? = some x := ⟨_, List.getElem?_eq_getElem (by omega)⟩
    have hxm := List.mem_of_getElem? hxi
    have hrx := hx.ws x hxm
    have hrg := ht.right x.ab (List.mem_map.2 ⟨x, hxm, rfl⟩)
    have hal : x.n ≤ 200 := by rw [hrx.len]; exact right_len hrg
    have hhl : Si.hist.xs.length = i := by have := congrArg List.length hhist; rw [List.length_map, List.length_map, List.length_take] at this; omega
    have hgood : goodC Si x.seq x.time x.ws := by
      have hab : (ys.map CmV.ab)[i]? = some x.ab := by rw [List.getElem?_map, hxi]; rfl
      obtain ⟨h1, h2⟩ := ht.seq i x.ab hab
      obtain ⟨h3, h4⟩ := ht.time i x.ab hab
      refine ⟨by unfold SC.last; rw [hlow, hhl]; have h5 : x.ab.1 = x.seq := rfl; omega, h2, h3, h4, hrg, fun c hc => ?_⟩
      rw [List.getLast?_eq_getElem?, hhl] at hc
      have hi0 : 0 < i := by
        rcases Nat.eq_zero_or_pos i with h | h
        · have h6 := (List.getElem?_eq_some_iff.1 hc).1; omega
        · exact h
      have h7 : (Si.hist.xs.map cma)[i - 1]? = some (cma c) := by rw [List.getElem?_map, hc]; rfl
      rw [hhist, List.map_take, List.getElem?_take, if_pos (by omega)] at h7
      exact ht.rise (i - 1) (cma c) x.ab h7 (by rw [Nat.sub_add_cancel (by omega)]; exact hab)
    refine WP.region ?_
    refine OpsE.val (x_indexAddro (i := i) (len := r.xs.length) (cap := r.cp) ((hs 17 rfl).trans (show r.val = _ by unfold Rw.val; rw [had])) e19 Try.runUnderlying38 Try.sizeOf33 rfl (by omega)) ?_
    refine OpsE.val (x_loadA (vs := cvc x) rfl Try.isAgg33 Try.sizeOf33 (hB w H.tail) (row_el cvc_len hBl hpo hxi) rfl) ?_
    refine OpsE.allocA Try.zeroValue33 H ?_
    intro b10 w H
    refine OpsE.storeA (vs := cvc x) rfl rfl Try.sizeOf33 H (cvc_one x) (Nat.le_refl _) ?_
    intro w H
    refine OpsE.nil ?_
    refine Then.normal ?_
    refine WP.region ?_
    refine OpsE.val (x_move (v := .pointer (some ⟨b, 0, none⟩)) (hs 6 rfl)) ?_
    refine OpsE.val (x_loadA (vs := cvc x) rfl Try.isAgg33 Try.sizeOf33 (H.look _) rfl rfl) ?_
    refine OpsE.call (x_call (vl := [.pointer _, .agg _]) rfl Try.call18) (Commit_spec (seq := x.seq) (time := x.time) H.swap oki (by omega) hrx.more (by omega) (right_sz hrg)) ?_
    rintro _ w (⟨hng, _, _⟩ | ⟨_, rfl, S1, ok1, hl1, hh1, hk1, H⟩)
    · exact absurd hgood hng
    refine OpsE.nil ?_
    refine InBlock.normal ?_
    refine Then.normal ?_
    refine WP.region ?_
    refine OpsE.val (x_add (z := ((i + 1 : Nat) : Int)) e19 rfl (by rw [i64n (by omega) (by omega)]; omega)) ?_
    refine OpsE.val (x_move (v := .int .i64 _) rfl) ?_
    refine OpsE.nil ?_
    refine Then.normal ?_
    refine ⟨rfl, (by repeat (first | exact hs | refine Same.upd ?_ rfl)), i + 1, by omega, S1, rfl, by omega, ok1.mono (by omega) (by omega), hl1.trans hlow, ?_, H.swap.tail⟩
    rw [hh1, hhist, List.take_add_one, hxi, List.map_append]; rfl
  · rw [decide_eq_false hlt]
    refine OpsE.nil ?_
    refine Then.normal ?_
    refine WP.seq ?_
    refine WP.cond_f rfl rfl ?_
    refine WP.exit ?_
    refine Then.exit ?_
    refine Then.exit ?_
    refine InBlock.hit ?_
    refine Then.normal ?_
    refine WP.seq ?_
    refine WP.region ?_
    refine OpsE.val (x_move (v := .pointer (some ⟨b, 0, none⟩)) (hs 6 rfl)) ?_
    refine OpsE.val (x_move (v := .int .i64 (lo : Int)) (hs 1 rfl)) ?_
    have hie : i = n := by omega
    have hhl : Si.hist.xs.length = n := by have := congrArg List.length hhist; rw [List.length_map, List.length_map, List.length_take] at this; omega
    refine OpsE.call (x_call (vl := [.pointer _, .int .i64 _]) rfl Try.call19) (Vacuum_spec (q := (lo : Int)) H oki (by omega)) ?_
    rintro _ w (⟨hng, _, _⟩ | ⟨_, rfl, S2, ok2, hl2, hh2, hk2, H⟩)
    · exact absurd ⟨by rw [hlow]; omega, by unfold SC.last; rw [hlow, hhl]; omega⟩ hng
    refine OpsE.nil ?_
    refine Then.normal ?_
    refine WP.seq ?_
    refine WP.region ?_
    refine OpsE.val (x_move (v := .pointer (some ⟨b, 0, none⟩)) (hs 6 rfl)) ?_
    refine OpsE.val (x_move (v := r.val) (hs 8 rfl)) ?_
    refine OpsE.val (x_assign (v := .pointer _) rfl) ?_
    refine OpsE.val (x_assign (v := .slice _ _ _) rfl) ?_
    refine OpsE.nil ?_
    refine Then.normal ?_
    refine WP.ret ?_
    refine Leave0.ret (v := .tuple #[.pointer _, .slice _ _ _]) rfl ?_
    rw [hR] at H
    refine ⟨b, S2, r, rfl, ok2.mono (by omega) (by omega), hl2, ?_, hlo1, hro, hrw, H⟩
    rw [hh2, hhist, hlow, hie, List.take_of_length_le (by omega), hyab]
    congr 1

abbrev wA : Wr := ⟨⟨#[97]⟩, ⟨#[]⟩, false⟩
abbrev wB : Wr := ⟨⟨#[98]⟩, ⟨#[]⟩, false⟩
theorem right_one {x : Wr} (h : bad [x] 0 x = false) : rightB [x] := ⟨by show ((1 : Nat) : Int) ≤ 200; decide, fun j y hj hy => by
    have hj0 : j = 0 := by simp at hj; exact hj
    subst hj0
    simp at hy
    subst hy
    exact h⟩
theorem rin_one {l : List HP} {g : Nat} {x : Wr} : RIn wrc TWr (pt g (.cells (wrc x).toArray TWr (0, 0)) :: l) (some ⟨g, 0, none⟩) 1 1 [x] := ⟨rfl, Nat.le_refl _, .inr ⟨g, 0, _, (TWr, (0, 0)), [], [], rfl, fun w H => H.look g, by simp, rfl⟩⟩

theorem head17_spec {w : World} {l : List HP} (H : Sat w l) : Calls Try.prog 33 #[] w (Ret fun v w' => v = .bool true ∧ Sat w' l) := by
  refine Calls.of_wp Try.func33 rfl Try.ntmps33 Try.results33 (Nat.le_of_ble_eq_true rfl) ?_
  refine WP.seq ?_
  refine WP.region ?_
  refine OpsE.val (x_assign (v := .bool _) rfl) ?_
  refine OpsE.nil ?_
  refine Then.normal ?_
  refine WP.seq ?_
  refine WP.region ?_
  refine OpsE.call (x_call (vl := [.int .i64 _, .slice _ _ _]) rfl Try.call40) (New_spec (ws := []) H RIn.nil (by decide) (fun _ h => by cases h)) ?_
  rintro _ w (⟨hb, _⟩ | ⟨hg, b, S0, rfl, ok0, hl0, hh0, hk0, H⟩)
  · exact absurd goodN0 hb
  refine OpsE.val (x_move (v := .tuple _) rfl) ?_
  refine OpsE.val (x_extract (v := .pointer _) rfl rfl) ?_
  refine OpsE.val (x_extract (v := .int .i64 _) rfl rfl) ?_
  refine OpsE.val (x_assign (v := .pointer _) rfl) ?_
  refine OpsE.val (x_assign (v := .int .i64 _) rfl) ?_
  refine OpsE.nil ?_
  refine Then.normal ?_
  refine WP.seq ?_
  refine WP.region ?_
  refine OpsE.val (x_move (v := .pointer _) rfl) ?_
  refine OpsE.val (x_build3_1 (vl := [.string _]) rfl Try.zeroValue26 Try.runUnderlying26 Try.sizeOf9 Try.sizeOf9 Try.sizeOf4 rfl) ?_
  refine OpsE.buildSlice1 (vs := wrc wA) KW (by decide) rfl rfl rfl (by decide) H ?_
  intro g1 w H
  refine OpsE.val (x_build3_2 (vl := [.int .i64 _, .slice _ _ _]) rfl Try.zeroValue33 Try.runUnderlying33 Try.sizeOf3 Try.sizeOf3 Try.sizeOf22 rfl) ?_
  refine OpsE.call (x_call (vl := [.pointer _, .agg _]) rfl Try.call18) (Commit_spec (seq := 1) (time := 0) H.swap ok0 (by decide) rin_one (by decide) (by intro x hx; rcases List.mem_singleton.1 hx with rfl; decide)) ?_
  rintro _ w (⟨hng, _, _⟩ | ⟨hgd, rfl, S1, ok1, hl1, hh1, hk1, H⟩)
  · exact absurd ⟨by unfold SC.last; rw [hl0, hh0]; rfl, by decide, by decide, by decide, right_one (by rfl), fun c hc => by rw [hh0] at hc; cases hc⟩ hng
  refine OpsE.nil ?_
  refine Then.normal ?_
  refine WP.seq ?_
  refine WP.region ?_
  refine OpsE.val (x_move (v := .pointer _) rfl) ?_
  refine OpsE.val (x_build3_1 (vl := [.string _]) rfl Try.zeroValue26 Try.runUnderlying26 Try.sizeOf9 Try.sizeOf9 Try.sizeOf4 rfl) ?_
  refine OpsE.buildSlice1 (vs := wrc wB) KW (by decide) rfl rfl rfl (by decide) H ?_
  intro g2 w H
  refine OpsE.val (x_build3_2 (vl := [.int .i64 _, .slice _ _ _]) rfl Try.zeroValue33 Try.runUnderlying33 Try.sizeOf3 Try.sizeOf3 Try.sizeOf22 rfl) ?_
  have hcl1 : S1.hist.xs.map cma = [(1, 0, [wA])] := by rw [hh1, hh0]; rfl
  have hcn1 : S1.hist.xs.length = 1 := by have := congrArg List.length hcl1; simpa using this
  refine OpsE.call (x_call (vl := [.pointer _, .agg _]) rfl Try.call18) (Commit_spec (seq := 2) (time := 0) H.swap ok1 (by decide) rin_one (by decide) (by intro x hx; rcases List.mem_singleton.1 hx with rfl; decide)) ?_
  rintro _ w (⟨hng, _, _⟩ | ⟨hgd2, rfl, S2, ok2, hl2, hh2, hk2, H⟩)
  · refine absurd ⟨by unfold SC.last; rw [hl1, hl0, hcn1]; rfl, by decide, by decide, by decide, right_one (by rfl), fun c hc => ?_⟩ hng
    have h2 : cma c ∈ S1.hist.xs.map cma := List.mem_map.2 ⟨c, List.mem_of_getLast? hc, rfl⟩
    rw [hcl1] at h2
    have h4 : c.time = 0 := (Prod.mk.inj (Prod.mk.inj (List.mem_singleton.1 h2)).2).1
    omega
  refine OpsE.nil ?_
  refine Then.normal ?_
  refine WP.seq ?_
  refine WP.region ?_
  refine OpsE.val (x_move (v := .pointer _) rfl) ?_
  have hcl2 : S2.hist.xs.map cma = [(1, 0, [wA]), (2, 0, [wB])] := by rw [hh2, hcl1]; rfl
  have hcn2 : S2.hist.xs.length = 2 := by have := congrArg List.length hcl2; simpa using this
  have hlow2 : S2.low = 0 := by rw [hl2, hl1, hl0]
  refine OpsE.call (x_call (vl := [.pointer _, .int .i64 _, .string _, .int .i64 _]) rfl Try.call35) (Poll_spec (q := 0) (m := 5) (p := ⟨#[98]⟩) H ok2 (by omega) (fun c hc => ?_) (fun i c hc => ?_) (by decide)) ?_
  · rw [hcl2] at hc
    rcases List.mem_cons.1 hc with rfl | hc
    · exact right_one (by rfl)
    · rcases List.mem_singleton.1 hc with rfl; exact right_one (by rfl)
  · rw [hcl2] at hc
    rw [hlow2]
    match i, hc with
    | 0, hc => cases hc; rfl
    | 1, hc => cases hc; rfl
    | i + 2, hc => simp at hc
  rintro _ w (⟨e, he, _⟩ | ⟨_, _, _, r, i, rfl, hp, hro, hrw, H⟩)
  · exfalso
    have hla : S2.last = 2 := by unfold SC.last; rw [hlow2, hcn2]; rfl
    have hz : ((⟨#[98]⟩ : ByteArray).size : Int) = 1 := rfl
    rw [hz, hlow2, hla] at he
    omega
  have hi2 : i = 2 ∧ r.xs.map cma = [(2, 0, [wB])] := by
    have h1 : (S2.hist.xs.map cma).drop ((0 : Int) - S2.low).toNat = [(1, 0, [wA]), (2, 0, [wB])] := by rw [hcl2, hlow2]; rfl
    rw [h1] at hp
    have h2 : i = 2 := by
      rcases hp.full with h | h
      · exact h
      · have h3 := onlyL_len ⟨#[98]⟩ (([(1, 0, [wA]), (2, 0, [wB])] : List Cmt).take i)
        rw [← hp.is, h, List.length_take] at h3
        have h4 : ((5 : Int).toNat) = 5 := rfl
        rw [h4] at h3
        simp only [List.length_cons, List.length_nil] at h3
        omega
    refine ⟨h2, ?_⟩
    rw [hp.is, h2]
    have hA : hasP ⟨#[98]⟩ ⟨#[97]⟩ = false := by decide
    have hB : hasP ⟨#[98]⟩ ⟨#[98]⟩ = true := by decide
    simp [onlyL, onlyC, onlyW, hA, hB]
  obtain ⟨rfl, hrm⟩ := hi2
  obtain ⟨cm, hcm, hcma⟩ : ∃ cm, r.xs = [cm] ∧ cma cm = (2, 0, [wB]) := by
    rcases hx : r.xs with _ | ⟨cm, _ | ⟨cm2, t⟩⟩
    · rw [hx] at hrm; simp at hrm
    · rw [hx] at hrm; exact ⟨cm, rfl, (List.cons.inj hrm).1⟩
    · rw [hx] at hrm; simp at hrm
  have hseq2 : cm.seq = 2 := (Prod.mk.inj hcma).1
  refine OpsE.val (x_move (v := .tuple #[.agg (btc r (0 + ((2 : Nat) : Int))).toArray, .int .i64 0]) rfl) ?_
  refine OpsE.val (x_extract (v := .agg _) rfl rfl) ?_
  refine OpsE.val (x_extract (v := .int .i64 0) rfl rfl) ?_
  refine OpsE.allocA Try.zeroValue58 H ?_
  intro b3 w H
  refine OpsE.storeA (vs := btc r 2) rfl rfl Try.sizeOf58 H (btc_one _ _) (Nat.le_refl _) ?_
  intro w H
  refine OpsE.val (x_assign (v := .int .i64 _) rfl) ?_
  refine OpsE.nil ?_
  refine Then.normal ?_
  refine WP.seq ?_
  have H0 : Sat w (pt b3 (.cells (btc r 2).toArray TBt (0, 0)) :: r.own cmc TCm :: stars (r.xs.map cmH) :: StP b S2 :: pt g2 (.cells (wrc wB).toArray TWr (0, 0)) :: pt g1 (.cells (wrc wA).toArray TWr (0, 0)) :: l) := H
  clear H
  replace H := H0
  clear H0
  have hrin : RIn cmc TCm [r.own cmc TCm] r.ad r.xs.length r.cp r.xs := Rw.rin_own r hro
  have hl1 : r.xs.length = 1 := by rw [hcm]; rfl
  obtain ⟨bb, off, B, fz, pre, post, had, hB, hBl, hpo⟩ := hrin.some (by omega)
  have hx0 : r.xs[0]? = some cm := by rw [hcm]; rfl
  refine WP.region ?_
  refine OpsE.val (x_move (v := .int .i64 0) rfl) ?_
  refine OpsE.val (x_eqI rfl rfl) ?_
  rw [decide_eq_true (by decide)]
  refine OpsE.val (x_move (v := .bool _) rfl) ?_
  refine OpsE.yes rfl ?_
  refine OpsE.val (x_fieldAddr0 rfl Try.runUnderlying58 rfl rfl Try.sizeOf38) ?_
  refine OpsE.yes rfl ?_
  refine OpsE.val (x_load (v := r.val) rfl Try.isAgg38 (H.look _) rfl) ?_
  refine OpsE.yes rfl ?_
  refine OpsE.val (x_lenL rfl rfl Try.runUnderlying38) ?_
  refine OpsE.yes rfl ?_
  refine OpsE.val (x_eqI rfl rfl) ?_
  rw [decide_eq_true (by rw [hl1]; decide)]
  refine OpsE.val (x_pickT rfl rfl) ?_
  refine OpsE.val (x_move (v := .bool _) rfl) ?_
  refine OpsE.yes rfl ?_
  refine OpsE.val (x_fieldAddr0 rfl Try.runUnderlying58 rfl rfl Try.sizeOf38) ?_
  refine OpsE.yes rfl ?_
  refine OpsE.val (x_load (v := .slice (some ⟨bb, off, none⟩) r.xs.length r.cp) rfl Try.isAgg38 (H.look _) (by rw [← had]; rfl)) ?_
  refine OpsE.yes rfl ?_
  refine OpsE.val (x_indexAddro (i := 0) rfl rfl Try.runUnderlying38 Try.sizeOf33 rfl (by omega)) ?_
  refine OpsE.yes rfl ?_
  refine OpsE.val (x_fieldAddr0 rfl Try.runUnderlying33 rfl rfl Try.sizeOf3) ?_
  refine OpsE.yes rfl ?_
  refine OpsE.val (x_load (v := .int .i64 cm.seq) rfl Try.isAgg3 (hB w (H.take (r.own cmc TCm)).only) (row_cell cmc_len hBl hpo (j := 0) hx0 rfl)) ?_
  refine OpsE.yes rfl ?_
  refine OpsE.val (x_eqI rfl rfl) ?_
  rw [decide_eq_true hseq2]
  refine OpsE.val (x_pickT rfl rfl) ?_
  refine OpsE.val (x_move (v := .bool _) rfl) ?_
  refine OpsE.yes rfl ?_
  refine OpsE.val (x_fieldAddr (o := 1) rfl Try.runUnderlying58 rfl rfl Try.sizeOf3) ?_
  refine OpsE.yes rfl ?_
  refine OpsE.val (x_load (v := .int .i64 2) rfl Try.isAgg3 (H.look _) rfl) ?_
  refine OpsE.yes rfl ?_
  refine OpsE.val (x_eqI rfl rfl) ?_
  rw [decide_eq_true (by decide)]
  refine OpsE.val (x_pickT rfl rfl) ?_
  refine OpsE.val (x_assign (v := .bool _) rfl) ?_
  refine OpsE.nil ?_
  refine Then.normal ?_
  refine WP.ret ?_
  refine Leave0.ret (v := .bool _) rfl ?_
  exact ⟨rfl, H.tail.tail.tail.tail.tail.tail⟩
end Go.Proofs.Ytbhbdpbhhfemhaa

/-
  WatchPolls: the walk.
-/
namespace Go.Proofs.Ytbhbdpbhhfemhaa
open Go Go.Proofs
set_option maxRecDepth 100000
set_option maxHeartbeats 16000000
set_option linter.unusedVariables false

theorem Poll_one {w : World} {l : List HP} {b N : Nat} {S : SC} {q m : Int} {p : ByteArray} (H : Sat w (StP b S :: l)) (ok : S.Ok N) (hhl : S.hist.xs.length ≤ 1000) (hrt : ∀ c ∈ S.hist.xs.map cma, rightB c.2.2) (hseq : ∀ (i : Nat) (c : Cmt), (S.hist.xs.map cma)[i]? = some c → c.1 = S.low + 1 + i) (hq : -9223372036854775808 ≤ q ∧ q ≤ 9223372036854775807) :
    Calls Try.prog 35 #[.pointer (some ⟨b, 0, none⟩), .int .i64 q, .string p, .int .i64 m] w (Ret fun v w' => ∃ (r : Rw Cm) (mk e : Int), v = .tuple #[.agg (btc r mk).toArray, .int .i64 e] ∧
      ((((e = 1 ∧ (m < 1 ∨ m > 100 ∨ (p.size : Int) > 400)) ∨ (¬ (m < 1 ∨ m > 100 ∨ (p.size : Int) > 400) ∧ ((e = 12 ∧ q < S.low) ∨ (e = 13 ∧ S.low ≤ q ∧ S.last < q)))) ∧ r.xs.length = 0 ∧ mk = 0) ∨
      (e = 0 ∧ ¬ (m < 1 ∨ m > 100 ∨ (p.size : Int) > 400) ∧ S.low ≤ q ∧ q ≤ S.last ∧ ∃ i : Nat, mk = q + i ∧ PollIs p m.toNat ((S.hist.xs.map cma).drop (q - S.low).toNat) i (r.xs.map cma) ∧ r.Ok 3 ∧ (∀ c ∈ r.xs, c.w.Ok 3))) ∧ Sat w' (r.own cmc TCm :: stars (r.xs.map cmH) :: StP b S :: l)) := by
  have hone : ∀ {w : World}, Sat w (StP b S :: l) → Sat w ((⟨[], none⟩ : Rw Cm).own cmc TCm :: stars (([] : List Cm).map cmH) :: StP b S :: l) := fun H => sat_one.2 (sat_one.2 H)
  refine Calls.ret (Poll_spec (m := m) (p := p) H ok hhl hrt hseq hq) ?_
  rintro v w' (⟨e, he, rfl, H⟩ | ⟨h1, h2, h3, r, i, rfl, hp, hro, hrw, H⟩)
  · exact ⟨⟨[], none⟩, 0, e, rfl, .inl ⟨he, rfl, rfl⟩, hone H⟩
  · exact ⟨r, q + i, 0, rfl, .inr ⟨rfl, h1, h2, h3, i, rfl, hp, hro, hrw⟩, H⟩

/-- what a batch tells, against all commits behind the mark -/
theorem PollIs.pre {p : ByteArray} {most i : Nat} {cs L : List Cmt} (h : PollIs p most cs i L) : L = (onlyL p cs).take L.length := by
  have e : onlyL p cs = L ++ onlyL p (cs.drop i) := by rw [h.is, ← onlyL_app, List.take_append_drop]
  rw [e]; simp
theorem PollIs.len {p : ByteArray} {most i : Nat} {cs L : List Cmt} (h : PollIs p most cs i L) : L.length = min most (onlyL p cs).length := by
  have e : onlyL p cs = L ++ onlyL p (cs.drop i) := by rw [h.is, ← onlyL_app, List.take_append_drop]
  have e2 := congrArg List.length e
  rw [List.length_append] at e2
  have := h.top
  rcases h.full with h1 | h1
  · rw [h1, List.drop_length] at e2
    have e3 : (onlyL p ([] : List Cmt)).length = 0 := rfl
    omega
  · omega
theorem PollIs.last {p : ByteArray} {most i : Nat} {cs L : List Cmt} (h : PollIs p most cs i L) (h0 : 0 < most) (hf : L.length = most) : 0 < i ∧ ∃ c, cs[i - 1]? = some c ∧ (onlyL p cs)[most - 1]? = some (onlyC p c) := by
  have hi : 0 < i := by
    rcases Nat.eq_zero_or_pos i with h1 | h1
    · have e := h.is
      rw [h1] at e
      have e3 : L.length = 0 := by rw [e]; rfl
      omega
    · exact h1
  have hle := h.le
  obtain ⟨c, hc⟩ : ∃ c, cs[i - 1]? = some c := ⟨_, List.getElem?_eq_getElem (by omega)⟩
  have e1 : cs.take i = cs.take (i - 1) ++ [c] := by
    conv => lhs; rw [show i = i - 1 + 1 by omega]
    rw [List.take_add_one, hc]; rfl
  have h3 := h.is
  rw [e1, onlyL_snoc] at h3
  have hb := h.before hi
  by_cases h4 : 0 < (onlyW p c.2.2).length
  · rw [if_pos h4] at h3
    have e4 := congrArg List.length h3
    rw [List.length_append, hf] at e4
    simp only [List.length_cons, List.length_nil] at e4
    refine ⟨hi, c, hc, ?_⟩
    have e5 : (onlyL p cs)[most - 1]? = L[most - 1]? := by
      have e6 := h.pre
      conv => rhs; rw [e6]
      rw [List.getElem?_take, if_pos (by omega)]
    rw [e5, h3, List.getElem?_append_right (by omega), show most - 1 - (onlyL p (cs.take (i - 1))).length = 0 by omega]; rfl
  · rw [if_neg h4] at h3
    rw [h3] at hf; omega

theorem WatchPolls_walk {w : World} {l : List HP} {a : Option Addr} {n c : Nat} {xs : List Sl} {z1 z2 z4 : Int} {p : ByteArray} (H : Sat w l) (hr : SlIn l a n c xs) (hz1 : -9223372036854775808 ≤ z1 ∧ z1 ≤ 9223372036854775807) (hz2 : -9223372036854775808 ≤ z2 ∧ z2 ≤ 9223372036854775807) :
    Calls Try.prog 8 #[.slice a n c, .int .i64 z1, .int .i64 z2, .string p, .int .i64 z4] w (Ret fun v w' => v = .bool true ∧ Sat w' l) := by
  have hln := slIn_len hr
  refine Calls.of_wp Try.func8 rfl Try.ntmps8 Try.results8 (Nat.le_of_ble_eq_true rfl) ?_
  refine WP.seq ?_
  refine WP.region ?_
  refine OpsE.val (x_assign (v := .bool _) rfl) ?_
  refine OpsE.nil ?_
  refine Then.normal ?_
  refine WP.seq ?_
  refine WP.seq ?_
  refine WP.region ?_
  refine OpsE.call (x_call (vl := []) rfl Try.call33) (head17_spec H) ?_
  rintro _ w ⟨rfl, H⟩
  refine OpsE.val (x_not rfl) ?_
  refine OpsE.nil ?_
  refine Then.normal ?_
  refine WP.cond_f rfl rfl ?_
  refine WP.skip ?_
  refine Then.normal ?_
  refine WP.seq ?_
  refine WP.seq ?_
  refine WP.region ?_
  refine OpsE.val (x_move (v := .slice a n c) rfl) ?_
  refine OpsE.val (x_lenL rfl rfl Try.runUnderlying36) ?_
  refine OpsE.val (x_gt rfl rfl) ?_
  by_cases c0 : (n : Int) > 30
  · rw [decide_eq_true c0]
    refine OpsE.val (x_move (v := .bool _) rfl) ?_
    refine OpsE.no rfl ?_
    refine OpsE.no rfl ?_
    refine OpsE.no rfl ?_
    refine OpsE.val (x_pickT rfl rfl) ?_
    refine OpsE.nil ?_
    refine Then.normal ?_
    refine WP.cond_t rfl rfl ?_
    refine WP.seq ?_
    refine WP.region ?_
    refine OpsE.val (x_assign (v := .bool _) rfl) ?_
    refine OpsE.nil ?_
    refine Then.normal ?_
    refine WP.ret ?_
    refine Then.ret ?_
    refine Leave0.ret (v := .bool _) rfl ?_
    exact ⟨rfl, H⟩
  · rw [decide_eq_false c0]
    refine OpsE.val (x_move (v := .bool _) rfl) ?_
    refine OpsE.yes rfl ?_
    refine OpsE.val (x_move (v := .string _) rfl) ?_
    refine OpsE.yes rfl ?_
    refine OpsE.val (x_lenS rfl rfl Try.runUnderlying9) ?_
    refine OpsE.yes rfl ?_
    refine OpsE.val (x_gt rfl rfl) ?_
    by_cases c00 : (p.size : Int) > 500
    · rw [decide_eq_true c00]
      refine OpsE.val (x_pickF rfl rfl) ?_
      refine OpsE.nil ?_
      refine Then.normal ?_
      refine WP.cond_t rfl rfl ?_
      refine WP.seq ?_
      refine WP.region ?_
      refine OpsE.val (x_assign (v := .bool _) rfl) ?_
      refine OpsE.nil ?_
      refine Then.normal ?_
      refine WP.ret ?_
      refine Then.ret ?_
      refine Leave0.ret (v := .bool _) rfl ?_
      exact ⟨rfl, H⟩
    · rw [decide_eq_false c00]
      refine OpsE.val (x_pickF rfl rfl) ?_
      refine OpsE.nil ?_
      refine Then.normal ?_
      refine WP.cond_f rfl rfl ?_
      refine WP.skip ?_
      refine Then.normal ?_
      refine WP.seq ?_
      refine WP.region ?_
      refine OpsE.val (x_move (v := .int .i64 z1) rfl) ?_
      refine OpsE.andM (m := 255) rfl rfl (by decide) ?_
      intro f hf
      refine OpsE.val (x_move (v := .slice _ _ _) rfl) ?_
      refine OpsE.val (x_lenL rfl rfl Try.runUnderlying36) ?_
      refine OpsE.val (x_add (z := ((n + 1 : Nat) : Int)) rfl rfl (by rw [i64n (by omega) (by omega)]; omega)) ?_
      refine OpsE.val (x_rem (a := f) (b := n + 1) rfl rfl (by omega)) ?_
      refine OpsE.val (x_assign (v := .int .i64 _) rfl) ?_
      refine OpsE.nil ?_
      refine Then.normal ?_
      refine WP.seq ?_
      obtain ⟨lo, hlo⟩ : ∃ lo, f % (n + 1) = lo := ⟨_, rfl⟩
      have hlon : lo ≤ n := by rw [← hlo]; have := Nat.mod_lt f (show 0 < n + 1 by omega); omega
      rw [hlo]
      refine WP.region ?_
      refine OpsE.val (x_move (v := .slice _ _ _) rfl) ?_
      refine OpsE.val (x_move (v := .int .i64 (lo : Int)) rfl) ?_
      refine OpsE.call (x_call (vl := [.slice _ _ _, .int .i64 _]) rfl Try.call34) (made17_spec H hr (by omega) hlon) ?_
      rintro _ w ⟨b, S, rl, rfl, ok, hlow, hhist, hlof, hlro, hlrw, H⟩
      refine OpsE.val (x_move (v := .tuple #[.pointer (some ⟨b, 0, none⟩), rl.val]) rfl) ?_
      refine OpsE.val (x_extract (v := .pointer (some ⟨b, 0, none⟩)) rfl rfl) ?_
      refine OpsE.val (x_extract (v := rl.val) rfl rfl) ?_
      refine OpsE.val (x_assign (v := .pointer _) rfl) ?_
      refine OpsE.val (x_assign (v := .slice _ _ _) rfl) ?_
      refine OpsE.nil ?_
      refine Then.normal ?_
      refine WP.seq ?_
      have hlo' : ListOf (0 + 1) (xs.map Sl.ws) (rl.xs.map cma) := hlof
      have htk := takes_list hlo' (by omega) (by decide)
      obtain ⟨cms, hcms⟩ : ∃ cms, rl.xs.map cma = cms := ⟨_, rfl⟩
      have hrl : rl.xs.length = n := by rw [← hln, ← hlof.1, List.length_map]
      rw [hcms] at hhist htk
      have hcl : cms.length = n := by rw [← hcms, List.length_map, hrl]
      have hSl : S.hist.xs.length = n - lo := by rw [rw_len hhist, List.length_drop, hcl]
      have hlast : S.last = (n : Int) := by unfold SC.last; rw [hlow, hSl]; omega
      refine WP.region ?_
      refine OpsE.val (x_move (v := .pointer _) rfl) ?_
      refine OpsE.val (x_move (v := .int .i64 _) rfl) ?_
      refine OpsE.val (x_move (v := .string _) rfl) ?_
      refine OpsE.val (x_move (v := .int .i64 _) rfl) ?_
      refine OpsE.call (x_call (vl := [.pointer _, .int .i64 _, .string _, .int .i64 _]) rfl Try.call35) (Poll_one (q := z2) (m := z4) (p := p) H ok (by omega) (fun c hc => htk.right c (List.mem_of_mem_drop (by rw [← hhist]; exact hc))) (fun i c hc => ?_) hz2) ?_
      · rw [hhist, List.getElem?_drop] at hc
        have := (htk.seq _ c hc).1
        rw [hlow]; omega
      rintro _ w ⟨r, mk, e, rfl, he, H⟩
      rw [hlow, hlast, hhist] at he
      refine OpsE.val (x_move (v := .tuple #[.agg (btc r mk).toArray, .int .i64 e]) rfl) ?_
      refine OpsE.val (x_extract (v := .agg _) rfl rfl) ?_
      refine OpsE.val (x_extract (v := .int .i64 e) rfl rfl) ?_
      refine OpsE.allocA Try.zeroValue58 H ?_
      intro b13 w H
      refine OpsE.storeA (vs := btc r mk) rfl rfl Try.sizeOf58 H (btc_one _ _) (Nat.le_refl _) ?_
      intro w H
      refine OpsE.val (x_assign (v := .int .i64 _) rfl) ?_
      refine OpsE.nil ?_
      refine Then.normal ?_
      refine WP.seq ?_
      obtain ⟨R, hR⟩ : ∃ R, R = (r.own cmc TCm :: stars (r.xs.map cmH) :: StP b S :: rl.own cmc TCm :: stars (rl.xs.map cmH) :: l) := ⟨_, rfl⟩
      have H0 : Sat w (pt b13 (.cells (btc r mk).toArray TBt (0, 0)) :: R) := by rw [hR]; exact H
      clear H
      replace H := H0
      clear H0
      refine WP.region ?_
      refine OpsE.val (x_assign (v := .int .i64 _) rfl) ?_
      refine OpsE.nil ?_
      refine Then.normal ?_
      refine WP.cutS [15, 49, 50, 51, 52, 53, 54, 55, 56, 57, 58, 59, 60, 61, 62, 63, 64, 65, 66, 67, 68, 69] (fun E w => E 15 = .int .i64 e ∧ Sat w (pt b13 (.cells (btc r mk).toArray TBt (0, 0)) :: R)) ?_ ?_
      · skip
        refine WP.block ?_
        refine WP.seq ?_
        refine WP.region ?_
        refine OpsE.val (x_move (v := .int .i64 _) rfl) ?_
        refine OpsE.val (x_lt rfl rfl) ?_
        by_cases d1 : z4 < 1
        · rw [decide_eq_true d1]
          refine OpsE.val (x_move (v := .bool _) rfl) ?_
          refine OpsE.no rfl ?_
          refine OpsE.no rfl ?_
          refine OpsE.val (x_pickT rfl rfl) ?_
          refine OpsE.val (x_move (v := .bool _) rfl) ?_
          refine OpsE.no rfl ?_
          refine OpsE.no rfl ?_
          refine OpsE.no rfl ?_
          refine OpsE.val (x_pickT rfl rfl) ?_
          refine OpsE.val (x_assign (v := .bool _) rfl) ?_
          refine OpsE.nil ?_
          refine Then.normal ?_
          refine WP.cond_t rfl rfl ?_
          refine WP.region ?_
          refine OpsE.val (x_assign (v := .int .i64 _) rfl) ?_
          refine OpsE.nil ?_
          refine InBlock.normal ?_
          refine Then.normal ?_
          exact ⟨rfl, (by repeat (first | exact Same.refl _ _ | refine Same.upd ?_ rfl)), by show Value.int .i64 1 = _; congr 1; omega, H⟩
        · rw [decide_eq_false d1]
          refine OpsE.val (x_move (v := .bool _) rfl) ?_
          refine OpsE.yes rfl ?_
          refine OpsE.val (x_move (v := .int .i64 _) rfl) ?_
          refine OpsE.yes rfl ?_
          refine OpsE.val (x_gt rfl rfl) ?_
          by_cases d2 : z4 > 100
          · rw [decide_eq_true d2]
            refine OpsE.val (x_pickF rfl rfl) ?_
            refine OpsE.val (x_move (v := .bool _) rfl) ?_
            refine OpsE.no rfl ?_
            refine OpsE.no rfl ?_
            refine OpsE.no rfl ?_
            refine OpsE.val (x_pickT rfl rfl) ?_
            refine OpsE.val (x_assign (v := .bool _) rfl) ?_
            refine OpsE.nil ?_
            refine Then.normal ?_
            refine WP.cond_t rfl rfl ?_
            refine WP.region ?_
            refine OpsE.val (x_assign (v := .int .i64 _) rfl) ?_
            refine OpsE.nil ?_
            refine InBlock.normal ?_
            refine Then.normal ?_
            exact ⟨rfl, (by repeat (first | exact Same.refl _ _ | refine Same.upd ?_ rfl)), by show Value.int .i64 1 = _; congr 1; omega, H⟩
          · rw [decide_eq_false d2]
            refine OpsE.val (x_pickF rfl rfl) ?_
            refine OpsE.val (x_move (v := .bool _) rfl) ?_
            refine OpsE.yes rfl ?_
            refine OpsE.val (x_move (v := .string _) rfl) ?_
            refine OpsE.yes rfl ?_
            refine OpsE.val (x_lenS rfl rfl Try.runUnderlying9) ?_
            refine OpsE.yes rfl ?_
            refine OpsE.val (x_gt rfl rfl) ?_
            by_cases d3 : (p.size : Int) > 400
            · rw [decide_eq_true d3]
              refine OpsE.val (x_pickF rfl rfl) ?_
              refine OpsE.val (x_assign (v := .bool _) rfl) ?_
              refine OpsE.nil ?_
              refine Then.normal ?_
              refine WP.cond_t rfl rfl ?_
              refine WP.region ?_
              refine OpsE.val (x_assign (v := .int .i64 _) rfl) ?_
              refine OpsE.nil ?_
              refine InBlock.normal ?_
              refine Then.normal ?_
              exact ⟨rfl, (by repeat (first | exact Same.refl _ _ | refine Same.upd ?_ rfl)), by show Value.int .i64 1 = _; congr 1; omega, H⟩
            · rw [decide_eq_false d3]
              refine OpsE.val (x_pickF rfl rfl) ?_
              refine OpsE.val (x_assign (v := .bool _) rfl) ?_
              refine OpsE.nil ?_
              refine Then.normal ?_
              refine WP.cond_f rfl rfl ?_
              refine WP.seq ?_
              refine WP.region ?_
              refine OpsE.val (x_move (v := .int .i64 z2) rfl) ?_
              refine OpsE.val (x_move (v := .int .i64 _) rfl) ?_
              refine OpsE.val (x_lt rfl rfl) ?_
              by_cases d4 : z2 < (lo : Int)
              · rw [decide_eq_true d4]
                refine OpsE.val (x_assign (v := .bool _) rfl) ?_
                refine OpsE.nil ?_
                refine Then.normal ?_
                refine WP.cond_t rfl rfl ?_
                refine WP.region ?_
                refine OpsE.val (x_assign (v := .int .i64 _) rfl) ?_
                refine OpsE.nil ?_
                refine InBlock.normal ?_
                refine Then.normal ?_
                exact ⟨rfl, (by repeat (first | exact Same.refl _ _ | refine Same.upd ?_ rfl)), by show Value.int .i64 12 = _; congr 1; omega, H⟩
              · rw [decide_eq_false d4]
                refine OpsE.val (x_assign (v := .bool _) rfl) ?_
                refine OpsE.nil ?_
                refine Then.normal ?_
                refine WP.cond_f rfl rfl ?_
                refine WP.seq ?_
                refine WP.region ?_
                refine OpsE.val (x_move (v := .int .i64 _) rfl) ?_
                refine OpsE.val (x_move (v := rl.val) rfl) ?_
                refine OpsE.val (x_lenL rfl rfl Try.runUnderlying38) ?_
                refine OpsE.val (x_gt rfl rfl) ?_
                by_cases d5 : z2 > ((rl.xs.length : Nat) : Int)
                · rw [decide_eq_true d5]
                  refine OpsE.val (x_assign (v := .bool _) rfl) ?_
                  refine OpsE.nil ?_
                  refine Then.normal ?_
                  refine WP.cond_t rfl rfl ?_
                  refine WP.region ?_
                  refine OpsE.val (x_assign (v := .int .i64 _) rfl) ?_
                  refine OpsE.nil ?_
                  refine InBlock.normal ?_
                  refine Then.normal ?_
                  exact ⟨rfl, (by repeat (first | exact Same.refl _ _ | refine Same.upd ?_ rfl)), by show Value.int .i64 13 = _; congr 1; omega, H⟩
                · rw [decide_eq_false d5]
                  refine OpsE.val (x_assign (v := .bool _) rfl) ?_
                  refine OpsE.nil ?_
                  refine Then.normal ?_
                  refine WP.cond_f rfl rfl ?_
                  refine WP.skip ?_
                  refine InBlock.normal ?_
                  refine Then.normal ?_
                  exact ⟨rfl, (by repeat (first | exact Same.refl _ _ | refine Same.upd ?_ rfl)), by show Value.int .i64 0 = _; congr 1; omega, H⟩
      · skip
        rintro E2 w hs2 ⟨e15, H⟩
        refine WP.seq ?_
        refine WP.seq ?_
        refine WP.region ?_
        refine OpsE.val (x_move (v := .int .i64 e) (hs2 14 rfl)) ?_
        refine OpsE.val (x_move (v := .int .i64 e) e15) ?_
        refine OpsE.val (x_neI rfl rfl) ?_
        rw [decide_eq_false (fun h => h rfl)]
        refine OpsE.nil ?_
        refine Then.normal ?_
        refine WP.cond_f rfl rfl ?_
        refine WP.skip ?_
        refine Then.normal ?_
        refine WP.seq ?_
        refine WP.seq ?_
        refine WP.region ?_
        refine OpsE.val (x_move (v := .int .i64 e) (hs2 14 rfl)) ?_
        refine OpsE.val (x_neI rfl rfl) ?_
        by_cases ce : e ≠ 0
        · rw [decide_eq_true ce]
          refine OpsE.nil ?_
          refine Then.normal ?_
          refine WP.cond_t rfl rfl ?_
          refine WP.seq ?_
          refine WP.region ?_
          refine OpsE.val (x_fieldAddr0 (hs2 13 rfl) Try.runUnderlying58 rfl rfl Try.sizeOf38) ?_
          refine OpsE.val (x_load (v := r.val) rfl Try.isAgg38 (H.look _) rfl) ?_
          refine OpsE.val (x_lenL rfl rfl Try.runUnderlying38) ?_
          refine OpsE.val (x_eqI rfl rfl) ?_
          rw [decide_eq_true (show ((r.xs.length : Nat) : Int) = 0 by rcases he with ⟨_, h, _⟩ | ⟨h, _⟩ <;> omega)]
          refine OpsE.val (x_move (v := .bool _) rfl) ?_
          refine OpsE.yes rfl ?_
          refine OpsE.val (x_fieldAddr (o := 1) (hs2 13 rfl) Try.runUnderlying58 rfl rfl Try.sizeOf3) ?_
          refine OpsE.yes rfl ?_
          refine OpsE.val (x_load (v := .int .i64 mk) rfl Try.isAgg3 (H.look _) rfl) ?_
          refine OpsE.yes rfl ?_
          refine OpsE.val (x_eqI rfl rfl) ?_
          rw [decide_eq_true (show mk = 0 by rcases he with ⟨_, _, h⟩ | ⟨h, _⟩ <;> omega)]
          refine OpsE.val (x_pickT rfl rfl) ?_
          refine OpsE.val (x_assign (v := .bool _) rfl) ?_
          refine OpsE.nil ?_
          refine Then.normal ?_
          refine WP.ret ?_
          refine Then.ret ?_
          refine Leave0.ret (v := .bool _) rfl ?_
          rw [hR] at H
          exact ⟨rfl, H.tail.tail.tail.tail.tail.tail⟩
        · rw [decide_eq_false ce]
          refine OpsE.nil ?_
          refine Then.normal ?_
          refine WP.cond_f rfl rfl ?_
          refine WP.skip ?_
          refine Then.normal ?_
          refine WP.seq ?_
          obtain ⟨hc1, h1, h2, i, hmk, hp, hro, hrw⟩ : ¬ (z4 < 1 ∨ z4 > 100 ∨ (p.size : Int) > 400) ∧ (lo : Int) ≤ z2 ∧ z2 ≤ (n : Int) ∧ ∃ i : Nat, mk = z2 + i ∧ PollIs p z4.toNat ((cms.drop lo).drop (z2 - (lo : Int)).toNat) i (r.xs.map cma) ∧ r.Ok 3 ∧ ∀ c ∈ r.xs, c.w.Ok 3 := by
            rcases he with ⟨h, _⟩ | ⟨_, h1, h2, h3, i, h4, h5, h6, h7⟩
            · exfalso; omega
            · exact ⟨h1, h2, h3, i, h4, h5, h6, h7⟩
          obtain ⟨k, rfl⟩ : ∃ k : Nat, z2 = (k : Int) := ⟨z2.toNat, by omega⟩
          have hcd : (cms.drop lo).drop ((k : Int) - (lo : Int)).toNat = cms.drop k := by rw [List.drop_drop]; congr 1; omega
          rw [hcd] at hp
          have hli : CIn R rl.ad rl.xs.length rl.cp (rl.xs.map Cm.v) := by rw [hR]; exact CIn.of_rw hlro hlrw
          have hri : CIn R r.ad r.xs.length r.cp (r.xs.map Cm.v) := by rw [hR]; exact CIn.of_rw hro hrw
          have hlw := hw_of (cms := cms) (cs := cms) (xs := rl.xs) htk.right (fun c h => h) hcms
          obtain ⟨ys, hys⟩ : ∃ ys, rl.xs.map Cm.v = ys := ⟨_, rfl⟩
          rw [hys] at hli hlw
          have hyab : ys.map CmV.ab = cms := by rw [← hys, cm_ab, hcms]
          refine WP.region ?_
          refine OpsE.val (x_move (v := rl.val) (hs2 12 rfl)) ?_
          refine OpsE.val (x_move (v := .int .i64 (k : Int)) (hs2 2 rfl)) ?_
          obtain ⟨ad', hsl, hcdr⟩ := CIn.drop (P := Try.prog) (T := 38) hli Try.runUnderlying38 Try.sizeOf33 (k := k) (by omega)
          refine OpsE.val (hsl _ _ _ _ .i64 w rfl rfl) ?_
          refine OpsE.val (x_move (v := .string _) (hs2 3 rfl)) ?_
          refine OpsE.call (x_call (vl := [.slice _ _ _, .string _]) rfl Try.call36) (Only_spec H hcdr.more (by omega) (by omega) (fun x hx => hlw x (List.mem_of_mem_drop hx))) ?_
          rintro _ w ⟨r2, rfl, hr2, hro2, hrw2, H⟩
          refine OpsE.val (x_assign (v := .slice _ _ _) rfl) ?_
          refine OpsE.nil ?_
          refine Then.normal ?_
          refine WP.seq ?_
          have hr2' : r2.xs.map cma = onlyL p (cms.drop k) := by rw [hr2, List.map_drop, hyab]
          have hlen2 : r2.xs.length = (onlyL p (cms.drop k)).length := by rw [← hr2', List.length_map]
          have hlen1 : r.xs.length = min z4.toNat r2.xs.length := by have := hp.len; rw [List.length_map] at this; rw [this, hlen2]
          have hn2 : r2.xs.length ≤ n := by rw [hlen2]; have := onlyL_len p (cms.drop k); rw [List.length_drop] at this; omega
          obtain ⟨R2, hR2⟩ : ∃ R2, R2 = (r2.own cmc TCm :: stars (r2.xs.map cmH) :: pt b13 (.cells (btc r mk).toArray TBt (0, 0)) :: R) := ⟨_, rfl⟩
          have hr2i : CIn R2 r2.ad r2.xs.length r2.cp (r2.xs.map Cm.v) := by rw [hR2]; exact CIn.of_rw hro2 hrw2
          have hri2 : CIn R2 r.ad r.xs.length r.cp (r.xs.map Cm.v) := by rw [hR2]; exact hri.more.more.more
          have hbl : ∀ w, Sat w R2 → w.heap[b13]? = some (.cells (btc r mk).toArray TBt (0, 0)) := fun w H => by rw [hR2] at H; exact H.look b13
          rw [← hR2] at H
          refine WP.region ?_
          refine OpsE.val (x_move (v := .int .i64 z4) (hs2 4 rfl)) ?_
          refine OpsE.val (x_move (v := r2.val) rfl) ?_
          refine OpsE.val (x_lenL rfl rfl Try.runUnderlying38) ?_
          refine OpsE.val (x_min (z := ((r.xs.length : Nat) : Int)) rfl rfl (by split <;> omega)) ?_
          refine OpsE.val (x_assign (v := .int .i64 _) rfl) ?_
          refine OpsE.nil ?_
          refine Then.normal ?_
          refine WP.seq ?_
          refine WP.seq ?_
          refine WP.region ?_
          refine OpsE.val (x_fieldAddr0 (hs2 13 rfl) Try.runUnderlying58 rfl rfl Try.sizeOf38) ?_
          refine OpsE.val (x_load (v := r.val) rfl Try.isAgg38 (hbl w H) rfl) ?_
          refine OpsE.val (x_lenL rfl rfl Try.runUnderlying38) ?_
          refine OpsE.val (x_move (v := .int .i64 (r.xs.length : Int)) rfl) ?_
          refine OpsE.val (x_neI rfl rfl) ?_
          rw [decide_eq_false (fun h => h rfl)]
          refine OpsE.nil ?_
          refine Then.normal ?_
          refine WP.cond_f rfl rfl ?_
          refine WP.skip ?_
          refine Then.normal ?_
          refine WP.seq ?_
          refine WP.seq ?_
          refine WP.region ?_
          refine OpsE.val (x_assign (v := .int .i64 _) rfl) ?_
          refine OpsE.nil ?_
          refine Then.normal ?_
          refine WP.block ?_
          refine WP.loopS [10, 18, 98, 99, 100, 101, 102, 103, 104, 105, 106, 107, 108, 109, 110, 111, 112, 113] (fun (j : Nat) E w => E 18 = .int .i64 (j : Int) ∧ j ≤ r.xs.length ∧ Sat w R2) (fun j => r.xs.length - j) 0 ⟨rfl, Nat.zero_le _, H⟩ ?_
          clear H
          rintro j E3 w hs3 ⟨e18, hjn, H⟩
          refine WP.seq ?_
          refine WP.seq ?_
          refine WP.region ?_
          refine OpsE.val (x_move (v := .int .i64 (j : Int)) e18) ?_
          refine OpsE.val (x_move (v := .int .i64 (r.xs.length : Int)) (hs3 17 rfl)) ?_
          refine OpsE.val (x_lt rfl rfl) ?_
          by_cases hlt : (j : Int) < (r.xs.length : Int)
          · rw [decide_eq_true hlt]
            refine OpsE.nil ?_
            refine Then.normal ?_
            refine WP.cond_t rfl rfl ?_
            refine WP.skip ?_
            refine Then.normal ?_
            refine WP.seq ?_
            refine WP.block ?_
            refine WP.seq ?_
            obtain ⟨bb, off, B, fz, pre, post, had, hB, hBl, hpo⟩ := hri2.row.some (by omega)
            obtain ⟨bb2, off2, B2, fz2, pre2, post2, had2, hB2, hBl2, hpo2⟩ := hr2i.row.some (by omega)
            obtain ⟨x, hx⟩ : ∃ x, (r.xs.map Cm.v)[j]? = some x := ⟨_, List.getElem?_eq_getElem (by rw [List.length_map]; omega)⟩
            obtain ⟨y, hy⟩ : ∃ y, (r2.xs.map Cm.v)[j]? = some y := ⟨_, List.getElem?_eq_getElem (by rw [List.length_map]; omega)⟩
            have hxm := List.mem_of_getElem? hx
            have hym := List.mem_of_getElem? hy
            have hxy : x.ab = y.ab := by
              have e1 : (r.xs.map cma)[j]? = some x.ab := by rw [← cm_ab, List.getElem?_map, hx]; rfl
              have e2 : (r2.xs.map cma)[j]? = some y.ab := by rw [← cm_ab, List.getElem?_map, hy]; rfl
              rw [hp.pre, List.length_map, List.getElem?_take, if_pos (by omega), ← hr2', e2] at e1
              exact (Option.some.inj e1).symm
            have hxn : x.n ≤ 1000000 := by
              have h3 : x.ab.2.2 = x.ws := rfl
              have h4 := (hri2.ws x hxm).len
              have h5 : x.ab ∈ onlyL p (cms.drop k) := by rw [← hr2', ← cm_ab, hxy]; exact List.mem_map.2 ⟨y, hym, rfl⟩
              obtain ⟨c0', hc0, he0⟩ := List.mem_map.1 (List.mem_filter.1 h5).1
              have h6 := right_len (htk.right c0' (List.mem_of_mem_drop hc0))
              have h7 : x.ws = onlyW p c0'.2.2 := by rw [← h3, ← he0]; rfl
              have h8 : (onlyW p c0'.2.2).length ≤ c0'.2.2.length := List.length_filter_le _ _
              rw [← h7] at h8; omega
            refine WP.mix (kdOf [0, 0, 0, 0, 0, 0, 0, 0, 0]) (fun w => Sat w _) (by kernel_rfl) (by kernel_rfl) (fun w hw => Sat.heap (H) hw) ?_
            intro w hw; replace H := H.heap hw; clear hw
            refine MixE.q rfl (fun w H => x_fieldAddr0 ((hs3 13 rfl).trans (hs2 13 rfl)) Try.runUnderlying58 rfl rfl Try.sizeOf38) ?_
            refine MixE.q rfl (fun w H => x_load (v := .slice (some ⟨bb, off, none⟩) r.xs.length r.cp) rfl Try.isAgg38 (hbl w H) (by rw [← had]; rfl)) ?_
            refine MixE.q rfl (fun w H => x_move (v := .int .i64 (j : Int)) e18) ?_
            refine MixE.q rfl (fun w H => x_indexAddro (i := j) rfl rfl Try.runUnderlying38 Try.sizeOf33 rfl (by omega)) ?_
            refine MixE.q rfl (fun w H => x_loadA (vs := cvc x) rfl Try.isAgg33 Try.sizeOf33 (hB w H) (row_el cvc_len hBl hpo hx) rfl) ?_
            refine MixE.q rfl (fun w H => x_move (v := .slice (some ⟨bb2, off2, none⟩) r2.xs.length r2.cp) (show evE _ _ = _ from (hs3 16 rfl).trans (by rw [← had2]; rfl))) ?_
            refine MixE.q rfl (fun w H => x_move (v := .int .i64 (j : Int)) e18) ?_
            refine MixE.q rfl (fun w H => x_indexAddro (i := j) rfl rfl Try.runUnderlying38 Try.sizeOf33 rfl (by omega)) ?_
            refine MixE.q rfl (fun w H => x_loadA (vs := cvc y) rfl Try.isAgg33 Try.sizeOf33 (hB2 w H) (row_el cvc_len hBl2 hpo2 hy) rfl) ?_
            refine MixE.two _ (fun k _ => kdOf_ge (Nat.le_add_right _ _)) ?_
            refine OpsE.call (x_call (vl := [.agg _, .agg _]) rfl Try.call37) (Same_spec H (hri2.ws x hxm) (hr2i.ws y hym) hxn hxy) ?_
            rintro _ w ⟨rfl, H⟩
            refine OpsE.val (x_not rfl) ?_
            refine OpsE.nil ?_
            refine Then.normal ?_
            refine WP.cond_f rfl rfl ?_
            refine WP.skip ?_
            refine InBlock.normal ?_
            refine Then.normal ?_
            refine WP.region ?_
            refine OpsE.val (x_move (v := .int .i64 (j : Int)) e18) ?_
            refine OpsE.val (x_add (z := ((j + 1 : Nat) : Int)) rfl rfl (by rw [i64n (by omega) (by omega)]; omega)) ?_
            refine OpsE.val (x_assign (v := .int .i64 _) rfl) ?_
            refine OpsE.nil ?_
            refine Then.normal ?_
            exact ⟨rfl, (by repeat (first | exact hs3 | refine Same.upd ?_ rfl)), j + 1, by omega, rfl, by omega, H⟩
          · rw [decide_eq_false hlt]
            refine OpsE.nil ?_
            refine Then.normal ?_
            refine WP.cond_f rfl rfl ?_
            refine WP.exit ?_
            refine Then.exit ?_
            refine Then.exit ?_
            refine InBlock.hit ?_
            refine Then.normal ?_
            refine WP.seq ?_
            refine WP.seq ?_
            refine WP.region ?_
            refine OpsE.val (x_move (v := .int .i64 (r.xs.length : Int)) (hs3 17 rfl)) ?_
            refine OpsE.val (x_move (v := .int .i64 z4) ((hs3 4 rfl).trans (hs2 4 rfl))) ?_
            refine OpsE.val (x_eqI rfl rfl) ?_
            by_cases hful : ((r.xs.length : Nat) : Int) = z4
            · rw [decide_eq_true hful]
              refine OpsE.nil ?_
              refine Then.normal ?_
              refine WP.cond_t rfl rfl ?_
              refine WP.seq ?_
              obtain ⟨hi0, c1, hci1, hlast1⟩ := hp.last (by omega) (by rw [List.length_map]; omega)
              obtain ⟨bb2, off2, B2, fz2, pre2, post2, had2, hB2, hBl2, hpo2⟩ := hr2i.row.some (by omega)
              obtain ⟨y, hy⟩ : ∃ y, (r2.xs.map Cm.v)[r.xs.length - 1]? = some y := ⟨_, List.getElem?_eq_getElem (by rw [List.length_map]; omega)⟩
              have hyab : y.ab = onlyC p c1 := by
                have e2 : (r2.xs.map cma)[r.xs.length - 1]? = some y.ab := by rw [← cm_ab, List.getElem?_map, hy]; rfl
                rw [hr2', show r.xs.length - 1 = z4.toNat - 1 by omega, hlast1] at e2
                exact (Option.some.inj e2).symm
              have hseqy : mk = y.seq := by
                have h5 : y.seq = c1.1 := (Prod.mk.inj hyab).1
                rw [List.getElem?_drop] at hci1
                have h6 := (htk.seq _ c1 hci1).1
                omega
              refine WP.draw (fun w => Sat w _) (by kernel_rfl) (by kernel_rfl) (H.heap rfl) ?_
              refine QuietE.val (fun w H => x_fieldAddr (o := 1) ((hs3 13 rfl).trans (hs2 13 rfl)) Try.runUnderlying58 rfl rfl Try.sizeOf3) ?_
              refine QuietE.val (fun w H => x_load (v := .int .i64 mk) rfl Try.isAgg3 (hbl w H) rfl) ?_
              refine QuietE.val (fun w H => x_move (v := .slice (some ⟨bb2, off2, none⟩) r2.xs.length r2.cp) (show evE _ _ = _ from (hs3 16 rfl).trans (by rw [← had2]; rfl))) ?_
              refine QuietE.val (fun w H => x_move (v := .int .i64 (r.xs.length : Int)) (hs3 17 rfl)) ?_
              refine QuietE.val (fun w H => x_sub (z := ((r.xs.length - 1 : Nat) : Int)) rfl rfl (by rw [i64n (by omega) (by omega)]; omega)) ?_
              refine QuietE.val (fun w H => x_indexAddro (i := r.xs.length - 1) rfl rfl Try.runUnderlying38 Try.sizeOf33 rfl (by omega)) ?_
              refine QuietE.val (fun w H => x_fieldAddr0 rfl Try.runUnderlying33 rfl rfl Try.sizeOf3) ?_
              refine QuietE.val (fun w H => x_load (v := .int .i64 y.seq) rfl Try.isAgg3 (hB2 w H) (row_cell cvc_len hBl2 hpo2 (j := 0) hy rfl)) ?_
              refine QuietE.val (fun w H => x_eqI rfl rfl) ?_
              rw [decide_eq_true hseqy]
              refine QuietE.val (fun w H => x_assign (v := .bool _) rfl) ?_
              refine QuietE.nil ?_
              intro w H
              refine Then.normal ?_
              refine WP.ret ?_
              refine Then.ret ?_
              refine Leave0.ret (v := .bool _) rfl ?_
              rw [hR2, hR] at H
              exact ⟨rfl, H.tail.tail.tail.tail.tail.tail.tail.tail⟩
            · rw [decide_eq_false hful]
              refine OpsE.nil ?_
              refine Then.normal ?_
              refine WP.cond_f rfl rfl ?_
              refine WP.skip ?_
              refine Then.normal ?_
              refine WP.seq ?_
              refine WP.region ?_
              refine OpsE.val (x_fieldAddr (o := 1) ((hs3 13 rfl).trans (hs2 13 rfl)) Try.runUnderlying58 rfl rfl Try.sizeOf3) ?_
              refine OpsE.val (x_load (v := .int .i64 mk) rfl Try.isAgg3 (hbl w H) rfl) ?_
              refine OpsE.val (x_move (v := rl.val) ((hs3 12 rfl).trans (hs2 12 rfl))) ?_
              refine OpsE.val (x_lenL rfl rfl Try.runUnderlying38) ?_
              refine OpsE.val (x_eqI rfl rfl) ?_
              rw [decide_eq_true (by
                have h7 := hp.le
                have h8 : i = (cms.drop k).length := by
                  rcases hp.full with h | h
                  · exact h
                  · rw [List.length_map] at h; omega
                rw [List.length_drop] at h8
                omega)]
              refine OpsE.val (x_assign (v := .bool _) rfl) ?_
              refine OpsE.nil ?_
              refine Then.normal ?_
              refine WP.ret ?_
              refine Leave0.ret (v := .bool _) rfl ?_
              rw [hR2, hR] at H
              exact ⟨rfl, H.tail.tail.tail.tail.tail.tail.tail.tail⟩
end Go.Proofs.Ytbhbdpbhhfemhaa

/-
  WatchSteps: the walk.
-/
namespace Go.Proofs.Ytbhbdpbhhfemhaa
open Go Go.Proofs
set_option maxRecDepth 100000
set_option maxHeartbeats 16000000
set_option linter.unusedVariables false

theorem made17_zero {w : World} {l : List HP} {a : Option Addr} {n c : Nat} {xs : List Sl} (H : Sat w l) (hr : SlIn l a n c xs) (hn : n ≤ 1000) :
    Calls Try.prog 34 #[.slice a n c, .int .i64 0] w (Ret fun v w' => ∃ (b : Nat) (S : SC) (r : Rw Cm), v = .tuple #[.pointer (some ⟨b, 0, none⟩), r.val] ∧ S.Ok 300000 ∧ S.low = 0 ∧ S.hist.xs.map cma = r.xs.map cma ∧ ListOf 1 (xs.map Sl.ws) (r.xs.map cma) ∧ r.Ok 3 ∧ (∀ c ∈ r.xs, c.w.Ok 3) ∧ Sat w' (StP b S :: r.own cmc TCm :: stars (r.xs.map cmH) :: l)) :=
  made17_spec (lo := 0) H hr hn (Nat.zero_le _)

theorem Poll_ok {w : World} {l : List HP} {b N k mm : Nat} {S : SC} {cms : List Cmt} {p : ByteArray} (H : Sat w (StP b S :: l)) (ok : S.Ok N) (hlow : S.low = 0) (hh : S.hist.xs.map cma = cms) (hrt : ∀ c ∈ cms, rightB c.2.2) (hseq : ∀ (i : Nat) (c : Cmt), cms[i]? = some c → c.1 = 0 + 1 + i) (hcl : cms.length ≤ 1000) (hk : k ≤ cms.length) (hm : 1 ≤ mm ∧ mm ≤ 100) (hp : p.size ≤ 400) :
    Calls Try.prog 35 #[.pointer (some ⟨b, 0, none⟩), .int .i64 (k : Int), .string p, .int .i64 (mm : Int)] w (Ret fun v w' => ∃ (r : Rw Cm) (i : Nat), v = .tuple #[.agg (btc r ((k + i : Nat) : Int)).toArray, .int .i64 0] ∧ PollIs p mm (cms.drop k) i (r.xs.map cma) ∧ r.Ok 3 ∧ (∀ c ∈ r.xs, c.w.Ok 3) ∧ Sat w' (r.own cmc TCm :: stars (r.xs.map cmH) :: StP b S :: l)) := by
  have hSl : S.hist.xs.length = cms.length := rw_len hh
  have hla : S.last = (cms.length : Int) := by unfold SC.last; rw [hlow, hSl]; omega
  refine Calls.ret (Poll_spec (q := (k : Int)) (m := (mm : Int)) (p := p) H ok (by omega) (by rw [hh]; exact hrt) (by rw [hh, hlow]; exact hseq) (by omega)) ?_
  rintro v w' (⟨e, he, rfl, H⟩ | ⟨h1, h2, h3, r, i, rfl, hp, hro, hrw, H⟩)
  · exfalso; rw [hlow, hla] at he; omega
  · rw [hlow, hh, show ((k : Int) - 0).toNat = k by omega, show ((mm : Int)).toNat = mm by omega] at hp
    exact ⟨r, i, rfl, hp, hro, hrw, H⟩
theorem PollIs.step {p : ByteArray} {most i k : Nat} {cms L : List Cmt} (h : PollIs p most (cms.drop k) i L) : onlyL p (cms.take (k + i)) = onlyL p (cms.take k) ++ L := by
  rw [h.is, ← onlyL_app, List.take_add]
theorem PollIs.at {p : ByteArray} {most i k j : Nat} {cms L : List Cmt} (h : PollIs p most (cms.drop k) i L) (hj : j < L.length) : (onlyL p cms)[(onlyL p (cms.take k)).length + j]? = L[j]? := by
  have e : onlyL p cms = onlyL p (cms.take k) ++ (L ++ onlyL p ((cms.drop k).drop i)) := by rw [h.is, ← onlyL_app, List.take_append_drop, ← onlyL_app, List.take_append_drop]
  rw [e, List.getElem?_append_right (Nat.le_add_right _ _), Nat.add_sub_cancel_left, List.getElem?_append_left hj]
theorem PollIs.pos {p : ByteArray} {most i : Nat} {cs L : List Cmt} (h : PollIs p most cs i L) (h0 : 0 < most) (hc : 0 < cs.length) : 0 < i := by
  rcases Nat.eq_zero_or_pos i with h1 | h1
  · have e := h.is
    rw [h1] at e
    have e3 : L.length = 0 := by rw [e]; rfl
    rcases h.full with h2 | h2 <;> omega
  · exact h1
theorem only_sz {p : ByteArray} {cms : List Cmt} (hrt : ∀ c ∈ cms, rightB c.2.2) {c : Cmt} (h : c ∈ onlyL p cms) : c.2.2.length ≤ 200 := by
  obtain ⟨c0, hc0, rfl⟩ := List.mem_map.1 (List.mem_filter.1 h).1
  have h6 := right_len (hrt c0 hc0)
  have h8 : (onlyW p c0.2.2).length ≤ c0.2.2.length := List.length_filter_le _ _
  show (onlyW p c0.2.2).length ≤ _
  omega
theorem v_at {xs : List Cm} {j : Nat} {x : CmV} (hx : (xs.map Cm.v)[j]? = some x) : (xs.map cma)[j]? = some x.ab := by rw [← cm_ab, List.getElem?_map, hx]; rfl

theorem WatchSteps_walk {w : World} {l : List HP} {a a4 : Option Addr} {n c n4 c4 : Nat} {xs : List Sl} {zs : List Int} {p : ByteArray} (H : Sat w l) (hr : SlIn l a n c xs) (h4 : RIn intc TIn l a4 n4 c4 zs) :
    Calls Try.prog 10 #[.slice a n c, .string p, .slice a4 n4 c4] w (Ret fun v w' => v = .bool true ∧ Sat w' l) := by
  have hln := slIn_len hr
  have hl4 := h4.len
  refine Calls.of_wp Try.func10 rfl Try.ntmps10 Try.results10 (Nat.le_of_ble_eq_true rfl) ?_
  refine WP.seq ?_
  refine WP.region ?_
  refine OpsE.val (x_assign (v := .bool _) rfl) ?_
  refine OpsE.nil ?_
  refine Then.normal ?_
  refine WP.seq ?_
  refine WP.seq ?_
  refine WP.region ?_
  refine OpsE.call (x_call (vl := []) rfl Try.call33) (head17_spec H) ?_
  rintro _ w ⟨rfl, H⟩
  refine OpsE.val (x_not rfl) ?_
  refine OpsE.nil ?_
  refine Then.normal ?_
  refine WP.cond_f rfl rfl ?_
  refine WP.skip ?_
  refine Then.normal ?_
  refine WP.seq ?_
  refine WP.seq ?_
  refine WP.region ?_
  refine OpsE.val (x_move (v := .slice a n c) rfl) ?_
  refine OpsE.val (x_lenL rfl rfl Try.runUnderlying36) ?_
  refine OpsE.val (x_gt rfl rfl) ?_
  by_cases c0 : (n : Int) > 30
  · rw [decide_eq_true c0]
    refine OpsE.val (x_move (v := .bool _) rfl) ?_
    refine OpsE.no rfl ?_
    refine OpsE.no rfl ?_
    refine OpsE.no rfl ?_
    refine OpsE.val (x_pickT rfl rfl) ?_
    refine OpsE.val (x_move (v := .bool _) rfl) ?_
    refine OpsE.no rfl ?_
    refine OpsE.no rfl ?_
    refine OpsE.no rfl ?_
    refine OpsE.val (x_pickT rfl rfl) ?_
    refine OpsE.nil ?_
    refine Then.normal ?_
    refine WP.cond_t rfl rfl ?_
    refine WP.seq ?_
    refine WP.region ?_
    refine OpsE.val (x_assign (v := .bool _) rfl) ?_
    refine OpsE.nil ?_
    refine Then.normal ?_
    refine WP.ret ?_
    refine Then.ret ?_
    refine Leave0.ret (v := .bool _) rfl ?_
    exact ⟨rfl, H⟩
  · rw [decide_eq_false c0]
    refine OpsE.val (x_move (v := .bool _) rfl) ?_
    refine OpsE.yes rfl ?_
    refine OpsE.val (x_move (v := .string _) rfl) ?_
    refine OpsE.yes rfl ?_
    refine OpsE.val (x_lenS rfl rfl Try.runUnderlying9) ?_
    refine OpsE.yes rfl ?_
    refine OpsE.val (x_gt rfl rfl) ?_
    by_cases c00 : (p.size : Int) > 60
    · rw [decide_eq_true c00]
      refine OpsE.val (x_pickF rfl rfl) ?_
      refine OpsE.val (x_move (v := .bool _) rfl) ?_
      refine OpsE.no rfl ?_
      refine OpsE.no rfl ?_
      refine OpsE.no rfl ?_
      refine OpsE.val (x_pickT rfl rfl) ?_
      refine OpsE.nil ?_
      refine Then.normal ?_
      refine WP.cond_t rfl rfl ?_
      refine WP.seq ?_
      refine WP.region ?_
      refine OpsE.val (x_assign (v := .bool _) rfl) ?_
      refine OpsE.nil ?_
      refine Then.normal ?_
      refine WP.ret ?_
      refine Then.ret ?_
      refine Leave0.ret (v := .bool _) rfl ?_
      exact ⟨rfl, H⟩
    · rw [decide_eq_false c00]
      refine OpsE.val (x_pickF rfl rfl) ?_
      refine OpsE.val (x_move (v := .bool _) rfl) ?_
      refine OpsE.yes rfl ?_
      refine OpsE.val (x_move (v := .slice a4 n4 c4) rfl) ?_
      refine OpsE.yes rfl ?_
      refine OpsE.val (x_lenL rfl rfl Try.runUnderlying64) ?_
      refine OpsE.yes rfl ?_
      refine OpsE.val (x_gt rfl rfl) ?_
      by_cases c000 : (n4 : Int) > 40
      · rw [decide_eq_true c000]
        refine OpsE.val (x_pickF rfl rfl) ?_
        refine OpsE.nil ?_
        refine Then.normal ?_
        refine WP.cond_t rfl rfl ?_
        refine WP.seq ?_
        refine WP.region ?_
        refine OpsE.val (x_assign (v := .bool _) rfl) ?_
        refine OpsE.nil ?_
        refine Then.normal ?_
        refine WP.ret ?_
        refine Then.ret ?_
        refine Leave0.ret (v := .bool _) rfl ?_
        exact ⟨rfl, H⟩
      · rw [decide_eq_false c000]
        refine OpsE.val (x_pickF rfl rfl) ?_
        refine OpsE.nil ?_
        refine Then.normal ?_
        refine WP.cond_f rfl rfl ?_
        refine WP.skip ?_
        refine Then.normal ?_
        refine WP.seq ?_
        refine WP.region ?_
        refine OpsE.val (x_move (v := .slice _ _ _) rfl) ?_
        refine OpsE.call (x_call (vl := [.slice _ _ _, .int .i64 _]) rfl Try.call34) (made17_zero H hr (by omega)) ?_
        rintro _ w ⟨b, S, rl, rfl, ok, hlow, hhist, hlof, hlro, hlrw, H⟩
        refine OpsE.val (x_move (v := .tuple #[.pointer (some ⟨b, 0, none⟩), rl.val]) rfl) ?_
        refine OpsE.val (x_extract (v := .pointer (some ⟨b, 0, none⟩)) rfl rfl) ?_
        refine OpsE.val (x_extract (v := rl.val) rfl rfl) ?_
        refine OpsE.val (x_assign (v := .pointer _) rfl) ?_
        refine OpsE.val (x_assign (v := .slice _ _ _) rfl) ?_
        refine OpsE.nil ?_
        refine Then.normal ?_
        refine WP.seq ?_
        have hlo' : ListOf (0 + 1) (xs.map Sl.ws) (rl.xs.map cma) := hlof
        have htk := takes_list hlo' (by omega) (by decide)
        obtain ⟨cms, hcms⟩ : ∃ cms, rl.xs.map cma = cms := ⟨_, rfl⟩
        have hrl : rl.xs.length = n := by rw [← hln, ← hlof.1, List.length_map]
        rw [hcms] at hhist htk
        have hcl : cms.length = n := by rw [← hcms, List.length_map, hrl]
        have hcs : ∀ (i : Nat) (c : Cmt), cms[i]? = some c → c.1 = 0 + 1 + i := fun i c hc => (htk.seq i c hc).1
        refine WP.region ?_
        refine OpsE.val (x_move (v := .pointer _) rfl) ?_
        refine OpsE.val (x_move (v := .string _) rfl) ?_
        refine OpsE.call (x_call (vl := [.pointer _, .int .i64 _, .string _, .int .i64 _]) rfl Try.call35) (Poll_ok (k := 0) (mm := 100) (p := p) H ok hlow hhist htk.right hcs (by omega) (Nat.zero_le _) (by decide) (by omega)) ?_
        rintro _ w ⟨ra, ia, rfl, hpa, hroa, hrwa, H⟩
        have hia : ia = n := by
          have h1 := onlyL_len p (((cms.drop 0).take ia))
          rw [← hpa.is, List.length_take] at h1
          have h2 : (cms.drop 0).length = n := by rw [List.length_drop, hcl]; omega
          rcases hpa.full with h | h
          · omega
          · omega
        have hall : ra.xs.map cma = onlyL p cms := by rw [hpa.is, List.drop_zero, hia, List.take_of_length_le (by omega)]
        have hral : ra.xs.length = (onlyL p cms).length := by rw [← hall, List.length_map]
        have hran : ra.xs.length ≤ n := by rw [hral]; have := onlyL_len p cms; omega
        refine OpsE.val (x_move (v := .tuple #[.agg (btc ra ((0 + ia : Nat) : Int)).toArray, .int .i64 0]) rfl) ?_
        refine OpsE.val (x_extract (v := .agg _) rfl rfl) ?_
        refine OpsE.val (x_extract (v := .int .i64 0) rfl rfl) ?_
        refine OpsE.allocA Try.zeroValue58 H ?_
        intro b9 w H
        refine OpsE.storeA (vs := btc ra ((0 + ia : Nat) : Int)) rfl rfl Try.sizeOf58 H (btc_one _ _) (Nat.le_refl _) ?_
        intro w H
        refine OpsE.val (x_assign (v := .int .i64 _) rfl) ?_
        refine OpsE.nil ?_
        refine Then.normal ?_
        refine WP.seq ?_
        refine WP.seq ?_
        obtain ⟨R, hR⟩ : ∃ R, R = (pt b9 (.cells (btc ra ((0 + ia : Nat) : Int)).toArray TBt (0, 0)) :: ra.own cmc TCm :: stars (ra.xs.map cmH) :: rl.own cmc TCm :: stars (rl.xs.map cmH) :: l) := ⟨_, rfl⟩
        have H0 : Sat w (StP b S :: R) := by
          have H1 : Sat w (pt b9 (.cells (btc ra ((0 + ia : Nat) : Int)).toArray TBt (0, 0)) :: ra.own cmc TCm :: stars (ra.xs.map cmH) :: StP b S :: rl.own cmc TCm :: stars (rl.xs.map cmH) :: l) := H
          rw [hR]
          exact H1.perm (by simp only [stars_cons]; ac_rfl)
        clear H
        replace H := H0
        clear H0
        have hai : CIn R ra.ad ra.xs.length ra.cp (ra.xs.map Cm.v) := by rw [hR]; exact CIn.of_rw hroa hrwa
        have hb9 : ∀ w, Sat w R → w.heap[b9]? = some (.cells (btc ra ((0 + ia : Nat) : Int)).toArray TBt (0, 0)) := fun w H => by rw [hR] at H; exact H.look b9
        have hii : RIn intc TIn R a4 n4 c4 zs := by rw [hR]; exact h4.more.more.more.more.more
        refine WP.region ?_
        refine OpsE.val (x_move (v := .int .i64 0) rfl) ?_
        refine OpsE.val (x_neI rfl rfl) ?_
        rw [decide_eq_false (by decide)]
        refine OpsE.val (x_move (v := .bool _) rfl) ?_
        refine OpsE.yes rfl ?_
        refine OpsE.val (x_fieldAddr (o := 1) rfl Try.runUnderlying58 rfl rfl Try.sizeOf3) ?_
        refine OpsE.yes rfl ?_
        refine OpsE.val (x_load (v := .int .i64 ((0 + ia : Nat) : Int)) rfl Try.isAgg3 (hb9 w H.tail) rfl) ?_
        refine OpsE.yes rfl ?_
        refine OpsE.val (x_move (v := .slice a n c) rfl) ?_
        refine OpsE.yes rfl ?_
        refine OpsE.val (x_lenL rfl rfl Try.runUnderlying36) ?_
        refine OpsE.yes rfl ?_
        refine OpsE.val (x_neI rfl rfl) ?_
        rw [decide_eq_false (by omega)]
        refine OpsE.val (x_pickF rfl rfl) ?_
        refine OpsE.nil ?_
        refine Then.normal ?_
        refine WP.cond_f rfl rfl ?_
        refine WP.skip ?_
        refine Then.normal ?_
        refine WP.seq ?_
        refine WP.region ?_
        refine OpsE.val (x_assign (v := .int .i64 _) rfl) ?_
        refine OpsE.nil ?_
        refine Then.normal ?_
        refine WP.seq ?_
        refine WP.region ?_
        refine OpsE.val (x_assign (v := .int .i64 _) rfl) ?_
        refine OpsE.nil ?_
        refine Then.normal ?_
        refine WP.seq ?_
        refine WP.seq ?_
        refine WP.region ?_
        refine OpsE.val (x_assign (v := .int .i64 _) rfl) ?_
        refine OpsE.nil ?_
        refine Then.normal ?_
        refine WP.block ?_
        refine WP.loopS [6, 11, 12, 13, 14, 15, 16, 18, 54, 55, 56, 57, 58, 59, 60, 61, 62, 63, 64, 65, 66, 67, 68, 69, 70, 71, 72, 73, 74, 75, 76, 77, 78, 79, 80, 81, 82, 83, 84, 85, 86, 87, 88, 89, 90, 91, 92, 93, 94, 95, 96, 97, 98, 99, 100, 101, 102, 103, 104, 105, 106, 107, 108, 109, 110, 111, 112, 113, 114, 115, 116] (fun (i : Nat) E w => ∃ m : Nat, E 13 = .int .i64 (i : Int) ∧ E 11 = .int .i64 (m : Int) ∧ E 12 = .int .i64 (((onlyL p (cms.take m)).length : Nat) : Int) ∧ i ≤ 60 ∧ i ≤ m ∧ m ≤ n ∧ Sat w (StP b S :: R)) (fun i => 60 - i) 0 ⟨0, rfl, rfl, rfl, by decide, Nat.le_refl _, Nat.zero_le _, H⟩ ?_
        clear H
        rintro i E1 w hs ⟨m, e13, e11, e12, hi60, him, hmn, H⟩
        refine WP.seq ?_
        refine WP.seq ?_
        refine WP.region ?_
        refine OpsE.val (x_move (v := .int .i64 (i : Int)) e13) ?_
        refine OpsE.val (x_lt rfl rfl) ?_
        by_cases g1 : (i : Int) < 60
        · rw [decide_eq_true g1]
          refine OpsE.val (x_move (v := .bool _) rfl) ?_
          refine OpsE.yes rfl ?_
          refine OpsE.val (x_move (v := .int .i64 (m : Int)) e11) ?_
          refine OpsE.yes rfl ?_
          refine OpsE.val (x_move (v := .slice a n c) (hs 0 rfl)) ?_
          refine OpsE.yes rfl ?_
          refine OpsE.val (x_lenL rfl rfl Try.runUnderlying36) ?_
          refine OpsE.yes rfl ?_
          refine OpsE.val (x_lt rfl rfl) ?_
          by_cases g2 : (m : Int) < (n : Int)
          · rw [decide_eq_true g2]
            refine OpsE.val (x_pickT rfl rfl) ?_
            refine OpsE.nil ?_
            refine Then.normal ?_
            refine WP.cond_t rfl rfl ?_
            refine WP.skip ?_
            refine Then.normal ?_
            refine WP.seq ?_
            refine WP.block ?_
            refine WP.seq ?_
            refine WP.region ?_
            refine OpsE.val (x_assign (v := .int .i64 _) rfl) ?_
            refine OpsE.nil ?_
            refine Then.normal ?_
            refine WP.cutS [14, 64, 65, 66, 67, 68, 69, 70, 71, 72, 73] (fun E w => ∃ kk : Nat, E 14 = .int .i64 (kk : Int) ∧ 1 ≤ kk ∧ kk ≤ 16 ∧ Sat w (StP b S :: R)) ?_ ?_
            · skip
              refine WP.seq ?_
              refine WP.region ?_
              refine OpsE.val (x_move (v := .int .i64 (i : Int)) e13) ?_
              refine OpsE.val (x_move (v := .slice a4 n4 c4) (hs 2 rfl)) ?_
              refine OpsE.val (x_lenL rfl rfl Try.runUnderlying64) ?_
              refine OpsE.val (x_lt rfl rfl) ?_
              refine OpsE.nil ?_
              refine Then.normal ?_
              refine WP.cond rfl (fun hk => ?_) (fun hk => ?_)
              · skip
                have hk' : (i : Int) < (n4 : Int) := of_decide_eq_true hk
                obtain ⟨bb, off, B, fz, pre, post, rfl, hB, hBl, hpo⟩ := hii.some (by omega)
                obtain ⟨z, hz⟩ : ∃ z, zs[i]? = some z := ⟨_, List.getElem?_eq_getElem (by omega)⟩
                refine WP.region ?_
                refine OpsE.val (x_move (v := .slice _ _ _) (hs 2 rfl)) ?_
                refine OpsE.val (x_move (v := .int .i64 _) e13) ?_
                refine OpsE.val (x_indexAddro1 (i := i) rfl rfl Try.runUnderlying64 Try.sizeOf3 rfl (by omega)) ?_
                refine OpsE.val (x_load (v := .int .i64 z) rfl Try.isAgg3 (hB w H.tail) (by have := row_cell intc_len hBl hpo (j := 0) hz rfl; simpa using this)) ?_
                refine OpsE.andM (m := 15) rfl rfl (by decide) ?_
                intro f hf
                refine OpsE.val (x_add (z := ((1 + f : Nat) : Int)) rfl rfl (by rw [i64n (by omega) (by omega)]; omega)) ?_
                refine OpsE.val (x_assign (v := .int .i64 _) rfl) ?_
                refine OpsE.nil ?_
                refine Then.normal ?_
                exact ⟨rfl, (by repeat (first | exact Same.refl _ _ | refine Same.upd ?_ rfl)), 1 + f, rfl, by omega, by omega, H⟩
              · skip
                refine WP.skip ?_
                refine Then.normal ?_
                exact ⟨rfl, (by repeat (first | exact Same.refl _ _ | refine Same.upd ?_ rfl)), 1, rfl, by omega, by omega, H⟩
            · skip
              rintro E2 w hs2 ⟨kk, e14, hk1, hk2, H⟩
              refine WP.seq ?_
              refine WP.region ?_
              refine OpsE.val (x_move (v := .pointer (some ⟨b, 0, none⟩)) ((hs2 7 rfl).trans (hs 7 rfl))) ?_
              refine OpsE.val (x_move (v := .int .i64 (m : Int)) ((hs2 11 rfl).trans e11)) ?_
              refine OpsE.val (x_move (v := .string p) ((hs2 1 rfl).trans (hs 1 rfl))) ?_
              refine OpsE.val (x_move (v := .int .i64 (kk : Int)) e14) ?_
              refine OpsE.call (x_call (vl := [.pointer _, .int .i64 _, .string _, .int .i64 _]) rfl Try.call35) (Poll_ok (k := m) (mm := kk) (p := p) H ok hlow hhist htk.right hcs (by omega) (by omega) (by omega) (by omega)) ?_
              rintro _ w ⟨r, i2, rfl, hp, hro, hrw, H⟩
              have hi0 := hp.pos (by omega) (by rw [List.length_drop]; omega)
              have hile := hp.le
              rw [List.length_drop] at hile
              refine OpsE.val (x_move (v := .tuple #[.agg (btc r ((m + i2 : Nat) : Int)).toArray, .int .i64 0]) rfl) ?_
              refine OpsE.val (x_extract (v := .agg _) rfl rfl) ?_
              refine OpsE.val (x_extract (v := .int .i64 0) rfl rfl) ?_
              refine OpsE.allocA Try.zeroValue58 H ?_
              intro b15 w H
              refine OpsE.storeA (vs := btc r ((m + i2 : Nat) : Int)) rfl rfl Try.sizeOf58 H (btc_one _ _) (Nat.le_refl _) ?_
              intro w H
              refine OpsE.val (x_assign (v := .int .i64 _) rfl) ?_
              refine OpsE.nil ?_
              refine Then.normal ?_
              refine WP.seq ?_
              refine WP.seq ?_
              obtain ⟨R2, hR2⟩ : ∃ R2, R2 = (pt b15 (.cells (btc r ((m + i2 : Nat) : Int)).toArray TBt (0, 0)) :: r.own cmc TCm :: stars (r.xs.map cmH) :: StP b S :: R) := ⟨_, rfl⟩
              have H0 : Sat w R2 := by rw [hR2]; exact H
              clear H
              replace H := H0
              clear H0
              have hri : CIn R2 r.ad r.xs.length r.cp (r.xs.map Cm.v) := by rw [hR2]; exact CIn.of_rw hro hrw
              have hai2 : CIn R2 ra.ad ra.xs.length ra.cp (ra.xs.map Cm.v) := by rw [hR2]; exact hai.more.more.more.more
              have hb15 : ∀ w, Sat w R2 → w.heap[b15]? = some (.cells (btc r ((m + i2 : Nat) : Int)).toArray TBt (0, 0)) := fun w H => by rw [hR2] at H; exact H.look b15
              have hb9' : ∀ w, Sat w R2 → w.heap[b9]? = some (.cells (btc ra ((0 + ia : Nat) : Int)).toArray TBt (0, 0)) := fun w H => hb9 w (by rw [hR2] at H; exact H.tail.tail.tail.tail)
              have hstep := congrArg List.length hp.step
              rw [List.length_append, List.length_map] at hstep
              have hle2 : (onlyL p (cms.take (m + i2))).length ≤ ra.xs.length := by
                rw [hral]
                have := onlyL_app p (cms.take (m + i2)) (cms.drop (m + i2))
                rw [List.take_append_drop] at this
                rw [this, List.length_append]; omega
              refine WP.region ?_
              refine OpsE.val (x_move (v := .int .i64 0) rfl) ?_
              refine OpsE.val (x_neI rfl rfl) ?_
              rw [decide_eq_false (by decide)]
              refine OpsE.val (x_move (v := .bool _) rfl) ?_
              refine OpsE.yes rfl ?_
              refine OpsE.val (x_fieldAddr (o := 1) rfl Try.runUnderlying58 rfl rfl Try.sizeOf3) ?_
              refine OpsE.yes rfl ?_
              refine OpsE.val (x_load (v := .int .i64 ((m + i2 : Nat) : Int)) rfl Try.isAgg3 (hb15 w H) rfl) ?_
              refine OpsE.yes rfl ?_
              refine OpsE.val (x_move (v := .int .i64 (m : Int)) ((hs2 11 rfl).trans e11)) ?_
              refine OpsE.yes rfl ?_
              refine OpsE.val (x_lt rfl rfl) ?_
              rw [decide_eq_false (by omega)]
              refine OpsE.val (x_pickF rfl rfl) ?_
              refine OpsE.nil ?_
              refine Then.normal ?_
              refine WP.cond_f rfl rfl ?_
              refine WP.skip ?_
              refine Then.normal ?_
              refine WP.seq ?_
              refine WP.seq ?_
              refine WP.region ?_
              refine OpsE.val (x_fieldAddr0 rfl Try.runUnderlying58 rfl rfl Try.sizeOf38) ?_
              refine OpsE.val (x_load (v := r.val) rfl Try.isAgg38 (hb15 w H) rfl) ?_
              refine OpsE.val (x_lenL rfl rfl Try.runUnderlying38) ?_
              refine OpsE.val (x_move (v := .int .i64 _) rfl) ?_
              refine OpsE.nil ?_
              refine Then.normal ?_
              refine WP.block ?_
              refine WP.loopS [6, 12, 18, 93, 94, 95, 96, 97, 98, 99, 100, 101, 102, 103, 104, 105, 106, 107, 108, 109, 110, 111, 112, 113, 114] (fun (j : Nat) E w => E 93 = .int .i64 (j : Int) ∧ E 12 = .int .i64 (((onlyL p (cms.take m)).length + j : Nat) : Int) ∧ j ≤ r.xs.length ∧ Sat w R2) (fun j => r.xs.length - j) 0 ⟨rfl, (hs2 12 rfl).trans e12, Nat.zero_le _, H⟩ ?_
              clear H
              rintro j E3 w hs3 ⟨e93, e12', hjn, H⟩
              refine WP.seq ?_
              refine WP.region ?_
              refine OpsE.val (x_lt e93 (hs3 92 rfl)) ?_
              by_cases hlt : (j : Int) < (r.xs.length : Int)
              · rw [decide_eq_true hlt]
                refine OpsE.nil ?_
                refine Then.normal ?_
                refine WP.seq ?_
                refine WP.cond_t rfl rfl ?_
                refine WP.skip ?_
                refine Then.normal ?_
                refine WP.seq ?_
                refine WP.block ?_
                refine WP.seq ?_
                obtain ⟨bb, off, B, fz, pre, post, had, hB, hBl, hpo⟩ := hri.row.some (by omega)
                obtain ⟨bb2, off2, B2, fz2, pre2, post2, had2, hB2, hBl2, hpo2⟩ := hai2.row.some (by omega)
                obtain ⟨x, hx⟩ : ∃ x, (r.xs.map Cm.v)[j]? = some x := ⟨_, List.getElem?_eq_getElem (by rw [List.length_map]; omega)⟩
                obtain ⟨y, hy⟩ : ∃ y, (ra.xs.map Cm.v)[(onlyL p (cms.take m)).length + j]? = some y := ⟨_, List.getElem?_eq_getElem (by rw [List.length_map]; omega)⟩
                have hxm := List.mem_of_getElem? hx
                have hym := List.mem_of_getElem? hy
                have hxy : x.ab = y.ab := by
                  have e1 := v_at hx
                  have e2 := v_at hy
                  rw [hall, hp.at (by rw [List.length_map]; omega), e1] at e2
                  exact Option.some.inj e2
                have hxn : x.n ≤ 1000000 := by
                  have h4 := (hri.ws x hxm).len
                  have h5 := only_sz (p := p) htk.right (c := x.ab) (by rw [hxy, ← hall]; exact List.mem_of_getElem? (v_at hy))
                  have h6 : x.ws.length ≤ 200 := h5
                  omega
                refine WP.region ?_
                refine OpsE.val (x_indexAddro (i := j) (len := r.xs.length) (cap := r.cp) ((hs3 91 rfl).trans (show r.val = _ by unfold Rw.val; rw [had])) e93 Try.runUnderlying38 Try.sizeOf33 rfl (by omega)) ?_
                refine OpsE.val (x_loadA (vs := cvc x) rfl Try.isAgg33 Try.sizeOf33 (hB w H) (row_el cvc_len hBl hpo hx) rfl) ?_
                refine OpsE.allocA Try.zeroValue33 H ?_
                intro b18 w H
                refine OpsE.storeA (vs := cvc x) rfl rfl Try.sizeOf33 H (cvc_one x) (Nat.le_refl _) ?_
                intro w H
                refine OpsE.nil ?_
                refine Then.normal ?_
                refine WP.seq ?_
                refine WP.seq ?_
                refine WP.mix (kdOf [0, 0, 0, 0, 0, 0, 0, 0, 0, 0, 0, 0]) (fun w => Sat w _) (by kernel_rfl) (by kernel_rfl) (fun w hw => Sat.heap (H) hw) ?_
                intro w hw; replace H := H.heap hw; clear hw
                refine MixE.q rfl (fun w H => x_move (v := .int .i64 (((onlyL p (cms.take m)).length + j : Nat) : Int)) e12') ?_
                refine MixE.q rfl (fun w H => x_fieldAddr0 ((hs3 9 rfl).trans ((hs2 9 rfl).trans (hs 9 rfl))) Try.runUnderlying58 rfl rfl Try.sizeOf38) ?_
                refine MixE.q rfl (fun w H => x_load (v := ra.val) rfl Try.isAgg38 (hb9' w H.tail) rfl) ?_
                refine MixE.q rfl (fun w H => x_lenL rfl rfl Try.runUnderlying38) ?_
                refine MixE.q rfl (fun w H => x_ge rfl rfl) ?_
                rw [decide_eq_false (by omega)]
                refine MixE.q rfl (fun w H => x_move (v := .bool _) rfl) ?_
                refine MixE.yes rfl ?_
                refine MixE.q rfl (fun w H => x_loadA (vs := cvc x) rfl Try.isAgg33 Try.sizeOf33 (H.look _) rfl rfl) ?_
                refine MixE.yes rfl ?_
                refine MixE.q rfl (fun w H => x_fieldAddr0 ((hs3 9 rfl).trans ((hs2 9 rfl).trans (hs 9 rfl))) Try.runUnderlying58 rfl rfl Try.sizeOf38) ?_
                refine MixE.yes rfl ?_
                refine MixE.q rfl (fun w H => x_load (v := .slice (some ⟨bb2, off2, none⟩) ra.xs.length ra.cp) rfl Try.isAgg38 (hb9' w H.tail) (by rw [← had2]; rfl)) ?_
                refine MixE.yes rfl ?_
                refine MixE.q rfl (fun w H => x_move (v := .int .i64 (((onlyL p (cms.take m)).length + j : Nat) : Int)) e12') ?_
                refine MixE.yes rfl ?_
                refine MixE.q rfl (fun w H => x_indexAddro (i := (onlyL p (cms.take m)).length + j) rfl rfl Try.runUnderlying38 Try.sizeOf33 rfl (by omega)) ?_
                refine MixE.yes rfl ?_
                refine MixE.q rfl (fun w H => x_loadA (vs := cvc y) rfl Try.isAgg33 Try.sizeOf33 (hB2 w H.tail) (row_el cvc_len hBl2 hpo2 hy) rfl) ?_
                refine MixE.two _ (fun k _ => kdOf_ge (Nat.le_add_right _ _)) ?_
                refine OpsE.yes rfl ?_
                refine OpsE.call (x_call (vl := [.agg _, .agg _]) rfl Try.call37) (Same_spec H (hri.ws x hxm).more (hai2.ws y hym).more hxn hxy) ?_
                rintro _ w ⟨rfl, H⟩
                refine OpsE.yes rfl ?_
                refine OpsE.val (x_not rfl) ?_
                refine OpsE.val (x_pickF rfl rfl) ?_
                refine OpsE.nil ?_
                refine Then.normal ?_
                refine WP.cond_f rfl rfl ?_
                refine WP.skip ?_
                refine Then.normal ?_
                refine WP.region ?_
                refine OpsE.val (x_move (v := .int .i64 (((onlyL p (cms.take m)).length + j : Nat) : Int)) e12') ?_
                refine OpsE.val (x_add (z := (((onlyL p (cms.take m)).length + (j + 1) : Nat) : Int)) rfl rfl (by rw [i64n (by omega) (by omega)]; omega)) ?_
                refine OpsE.val (x_assign (v := .int .i64 _) rfl) ?_
                refine OpsE.nil ?_
                refine InBlock.normal ?_
                refine Then.normal ?_
                refine WP.region ?_
                refine OpsE.val (x_add (z := ((j + 1 : Nat) : Int)) e93 rfl (by rw [i64n (by omega) (by omega)]; omega)) ?_
                refine OpsE.val (x_move (v := .int .i64 _) rfl) ?_
                refine OpsE.nil ?_
                refine Then.normal ?_
                exact ⟨rfl, (by repeat (first | exact hs3 | refine Same.upd ?_ rfl)), j + 1, by omega, rfl, rfl, by omega, H.tail⟩
              · rw [decide_eq_false hlt]
                refine OpsE.nil ?_
                refine Then.normal ?_
                refine WP.seq ?_
                refine WP.cond_f rfl rfl ?_
                refine WP.exit ?_
                refine Then.exit ?_
                refine Then.exit ?_
                refine InBlock.hit ?_
                refine Then.normal ?_
                refine WP.region ?_
                refine OpsE.val (x_fieldAddr (o := 1) (hs3 15 rfl) Try.runUnderlying58 rfl rfl Try.sizeOf3) ?_
                refine OpsE.val (x_load (v := .int .i64 ((m + i2 : Nat) : Int)) rfl Try.isAgg3 (hb15 w H) rfl) ?_
                refine OpsE.val (x_assign (v := .int .i64 _) rfl) ?_
                refine OpsE.nil ?_
                refine InBlock.normal ?_
                refine Then.normal ?_
                refine WP.region ?_
                refine OpsE.val (x_move (v := .int .i64 (i : Int)) ((hs3 13 rfl).trans ((hs2 13 rfl).trans e13))) ?_
                refine OpsE.val (x_add (z := ((i + 1 : Nat) : Int)) rfl rfl (by rw [i64n (by omega) (by omega)]; omega)) ?_
                refine OpsE.val (x_assign (v := .int .i64 _) rfl) ?_
                refine OpsE.nil ?_
                refine Then.normal ?_
                rw [hR2] at H
                refine ⟨rfl, (by repeat (first | exact hs | refine Same.upd ?_ rfl | refine Same.sub hs3 ?_ rfl | refine Same.sub hs2 ?_ rfl)), i + 1, by omega, m + i2, rfl, rfl, ?_, by omega, by omega, by omega, H.tail.tail.tail⟩
                rw [hstep, show r.xs.length = j by omega]
                exact e12'
          · rw [decide_eq_false g2]
            refine OpsE.val (x_pickT rfl rfl) ?_
            refine OpsE.nil ?_
            refine Then.normal ?_
            refine WP.cond_f rfl rfl ?_
            refine WP.exit ?_
            refine Then.exit ?_
            refine Then.exit ?_
            refine InBlock.hit ?_
            refine Then.normal ?_
            refine WP.seq ?_
            refine WP.region ?_
            refine OpsE.val (x_move (v := .int .i64 (((onlyL p (cms.take m)).length : Nat) : Int)) e12) ?_
            refine OpsE.val (x_fieldAddr0 (hs 9 rfl) Try.runUnderlying58 rfl rfl Try.sizeOf38) ?_
            refine OpsE.val (x_load (v := ra.val) rfl Try.isAgg38 (hb9 w H.tail) rfl) ?_
            refine OpsE.val (x_lenL rfl rfl Try.runUnderlying38) ?_
            refine OpsE.val (x_eqI rfl rfl) ?_
            rw [decide_eq_true (by rw [hral, List.take_of_length_le (by omega)])]
            refine OpsE.val (x_assign (v := .bool _) rfl) ?_
            refine OpsE.nil ?_
            refine Then.normal ?_
            refine WP.ret ?_
            refine Leave0.ret (v := .bool _) rfl ?_
            rw [hR] at H
            exact ⟨rfl, H.tail.tail.tail.tail.tail.tail⟩
        · rw [decide_eq_false g1]
          refine OpsE.val (x_move (v := .bool _) rfl) ?_
          refine OpsE.no rfl ?_
          refine OpsE.no rfl ?_
          refine OpsE.no rfl ?_
          refine OpsE.no rfl ?_
          refine OpsE.val (x_pickF rfl rfl) ?_
          refine OpsE.nil ?_
          refine Then.normal ?_
          refine WP.cond_f rfl rfl ?_
          refine WP.exit ?_
          refine Then.exit ?_
          refine Then.exit ?_
          refine InBlock.hit ?_
          refine Then.normal ?_
          refine WP.seq ?_
          refine WP.region ?_
          refine OpsE.val (x_move (v := .int .i64 (((onlyL p (cms.take m)).length : Nat) : Int)) e12) ?_
          refine OpsE.val (x_fieldAddr0 (hs 9 rfl) Try.runUnderlying58 rfl rfl Try.sizeOf38) ?_
          refine OpsE.val (x_load (v := ra.val) rfl Try.isAgg38 (hb9 w H.tail) rfl) ?_
          refine OpsE.val (x_lenL rfl rfl Try.runUnderlying38) ?_
          refine OpsE.val (x_eqI rfl rfl) ?_
          rw [decide_eq_true (by rw [hral, List.take_of_length_le (by omega)])]
          refine OpsE.val (x_assign (v := .bool _) rfl) ?_
          refine OpsE.nil ?_
          refine Then.normal ?_
          refine WP.ret ?_
          refine Leave0.ret (v := .bool _) rfl ?_
          rw [hR] at H
          exact ⟨rfl, H.tail.tail.tail.tail.tail.tail⟩
end Go.Proofs.Ytbhbdpbhhfemhaa
