/-
  Parts of the proof, joined in one file: WVacuums, Open3.
-/
import Derived.Test.YtbhbdpbhhfemhaaQ5
set_option linter.unusedSimpArgs false
set_option linter.unusedVariables false
/-
  StoreVacuums: the walk.
-/
namespace Go.Proofs.Ytbhbdpbhhfemhaa
open Go Go.Proofs
set_option maxRecDepth 100000
set_option maxHeartbeats 16000000
set_option linter.unusedVariables false

theorem StoreVacuums_walk {w : World} {l : List HP} {a a3 a4 : Option Addr} {n c n3 c3 n4 c4 : Nat} {xs : List Sl} {ws : List Wr} {zs : List Int} (H : Sat w l) (hr : SlIn l a n c xs) (h3 : RIn wrc TWr l a3 n3 c3 ws) (hk : ∀ x ∈ ws, x.key.size ≤ 4611686018427387904) (hn3 : n3 ≤ 4611686018427387904) (h4 : RIn intc TIn l a4 n4 c4 zs) :
    Calls Try.prog 13 #[.slice a3 n3 c3, .slice a n c, .slice a4 n4 c4] w (Ret fun v w' => v = .bool true ∧ Sat w' l) := by
  have hln := slIn_len hr
  have hl4 := h4.len
  refine Calls.of_wp Try.func13 rfl Try.ntmps13 Try.results13 (Nat.le_of_ble_eq_true rfl) ?_
  refine WP.seq ?_
  refine WP.region ?_
  refine OpsE.val (x_assign (v := .bool _) rfl) ?_
  refine OpsE.nil ?_
  refine Then.normal ?_
  refine WP.seq ?_
  refine WP.seq ?_
  refine WP.region ?_
  refine OpsE.call (x_call (vl := []) rfl Try.call14) (head_spec H) ?_
  rintro _ w ⟨rfl, H⟩
  refine OpsE.val (x_not rfl) ?_
  refine OpsE.nil ?_
  refine Then.normal ?_
  refine WP.cond_f rfl rfl ?_
  refine WP.skip ?_
  refine Then.normal ?_
  refine WP.seq ?_
  refine WP.seq ?_
  refine WP.region ?_
  refine OpsE.val (x_move (v := .slice _ _ _) rfl) ?_
  refine OpsE.call (x_call (vl := [.slice _ _ _]) rfl Try.call21) (few_spec H) ?_
  rintro _ w ⟨rfl, H⟩
  by_cases c0 : (n : Int) ≤ 30
  · rw [decide_eq_true c0]
    refine OpsE.val (x_not rfl) ?_
    refine OpsE.val (x_move (v := .bool _) rfl) ?_
    refine OpsE.yes rfl ?_
    refine OpsE.val (x_move (v := .slice a4 n4 c4) rfl) ?_
    refine OpsE.yes rfl ?_
    refine OpsE.val (x_lenL rfl rfl Try.runUnderlying64) ?_
    refine OpsE.yes rfl ?_
    refine OpsE.val (x_gt rfl rfl) ?_
    by_cases c00 : (n4 : Int) > 6
    · rw [decide_eq_true c00]
      refine OpsE.val (x_pickF rfl rfl) ?_
      refine OpsE.nil ?_
      refine Then.normal ?_
      refine WP.cond_t rfl rfl ?_
      refine WP.seq ?_
      refine WP.region ?_
      refine OpsE.val (x_assign (v := .bool _) rfl) ?_
      refine OpsE.nil ?_
      refine Then.normal ?_
      refine WP.ret ?_
      refine Then.ret ?_
      refine Leave0.ret (v := .bool _) rfl ?_
      exact ⟨rfl, H⟩
    · rw [decide_eq_false c00]
      refine OpsE.val (x_pickF rfl rfl) ?_
      refine OpsE.nil ?_
      refine Then.normal ?_
      refine WP.cond_f rfl rfl ?_
      refine WP.skip ?_
      refine Then.normal ?_
      refine WP.seq ?_
      refine WP.region ?_
      refine OpsE.val (x_move (v := .slice _ _ _) rfl) ?_
      refine OpsE.call (x_call (vl := [.slice _ _ _]) rfl Try.call31) (Some_spec H h3 hk hn3) ?_
      rintro _ w ⟨rs, rfl, hso, hrso, hrsl, H⟩
      refine OpsE.call (x_call (vl := [.slice _ _ _]) rfl Try.call30) (there_spec H (Rw.rin_own rs hrso) (by omega)) ?_
      rintro _ w ⟨rb, rfl, hrb, hrbo, H⟩
      refine OpsE.val (x_assign (v := .slice _ _ _) rfl) ?_
      refine OpsE.nil ?_
      refine Then.normal ?_
      refine WP.seq ?_
      refine WP.region ?_
      refine OpsE.val (x_move (v := .slice _ _ _) rfl) ?_
      refine OpsE.call (x_call (vl := [.int .i64 _, .slice _ _ _]) rfl Try.call22) (List_spec (first := 1) H hr.more.more (by omega) (by decide)) ?_
      rintro _ w ⟨r, rfl, hlo, hro, hrw, H⟩
      refine OpsE.val (x_assign (v := .slice _ _ _) rfl) ?_
      refine OpsE.nil ?_
      refine Then.normal ?_
      refine WP.seq ?_
      refine WP.region ?_
      refine OpsE.val (x_move (v := rb.val) rfl) ?_
      refine OpsE.val (x_move (v := r.val) rfl) ?_
      have hlo' : ListOf (0 + 1) (xs.map Sl.ws) (r.xs.map cma) := hlo
      have htk := takes_list hlo' (by omega) (by decide)
      have hrl : r.xs.length = n := by rw [← hln, ← hlo.1, List.length_map]
      obtain ⟨hb1, hb2, hb3⟩ := there_ok hso
      have hbg := there_good hso (seq := 0) (by decide)
      rw [← hrb] at hb1 hb2 hb3 hbg
      refine OpsE.call (x_call (vl := [.int .i64 _, .slice _ _ _, .slice _ _ _]) rfl Try.call23) (made_spec (first := 0) (bs := rb.xs) H (Rw.rin_own rb hrbo) (by omega) hbg (CIn.of_rw hro hrw) (by omega) (by rw [cm_ab]; exact htk) (good_big hbg)) ?_
      rintro _ w ⟨b, S0, rfl, ok0, hlow, hhist, hek, H⟩
      rw [cm_ab] at hhist hek
      obtain ⟨cms, hcms⟩ : ∃ cms, r.xs.map cma = cms := ⟨_, rfl⟩
      rw [hcms] at hhist hek htk
      have hcl : cms.length = n := by rw [← hcms, List.length_map, hrl]
      have hcs : ∀ (i : Nat) (c : Cmt), cms[i]? = some c → c.1 = 0 + 1 + i := fun i c hc => (htk.seq i c hc).1
      have hwc := wcount_le htk.right
      have hvs : ∀ k, (verA 0 rb.xs cms k).Pairwise (fun a b => a.seq < b.seq) := fun k => by
        have h := vsOf_srt ok0 k
        rw [vsOf_ek, hek, vsK_st] at h; exact h
      have hinv0 : VInv S0 rb.xs cms 0 := ⟨ok0, hlow, Nat.zero_le _, hhist, fun k => by rw [hek, vsK_st]; exact (cut_zero hcs k).symm⟩
      obtain ⟨R, hR⟩ : ∃ R, R = (r.own cmc TCm :: stars (r.xs.map cmH) :: rb.own wrc TWr :: rs.own wrc TWr :: l) := ⟨_, rfl⟩
      have H0 : Sat w (StP b S0 :: R) := by rw [hR]; exact H
      clear H
      replace H := H0
      clear H0
      have hci : CIn R r.ad r.xs.length r.cp (r.xs.map Cm.v) := by rw [hR]; exact CIn.of_rw hro hrw
      have hbi : RIn wrc TWr R rb.ad rb.xs.length rb.cp rb.xs := by rw [hR]; exact Rw.rin_own rb hrbo
      have hcn : ∀ x ∈ r.xs.map Cm.v, x.n ≤ 4611686018427387904 := fun x hx => hci_n htk hcms hx
      have hii : RIn intc TIn R a4 n4 c4 zs := by rw [hR]; exact h4.more.more.more.more
      refine OpsE.val (x_move (v := .tuple _) rfl) ?_
      refine OpsE.val (x_extract (v := .pointer (some ⟨b, 0, none⟩)) rfl rfl) ?_
      refine OpsE.val (x_extract (v := .bool true) rfl rfl) ?_
      refine OpsE.val (x_assign (v := .pointer _) rfl) ?_
      refine OpsE.val (x_assign (v := .bool _) rfl) ?_
      refine OpsE.nil ?_
      refine Then.normal ?_
      refine WP.seq ?_
      refine WP.seq ?_
      refine WP.region ?_
      refine OpsE.val (x_move (v := .bool _) rfl) ?_
      refine OpsE.val (x_not rfl) ?_
      refine OpsE.nil ?_
      refine Then.normal ?_
      refine WP.cond_f rfl rfl ?_
      refine WP.skip ?_
      refine Then.normal ?_
      refine WP.seq ?_
      refine WP.region ?_
      refine OpsE.val (x_assign (v := .int .i64 _) rfl) ?_
      refine OpsE.nil ?_
      refine Then.normal ?_
      refine WP.seq ?_
      refine WP.seq ?_
      refine WP.region ?_
      refine OpsE.val (x_move (v := .slice a4 n4 c4) rfl) ?_
      refine OpsE.val (x_lenL rfl rfl Try.runUnderlying64) ?_
      refine OpsE.val (x_move (v := .int .i64 _) rfl) ?_
      refine OpsE.nil ?_
      refine Then.normal ?_
      refine WP.block ?_
      refine WP.loopS [6, 11, 13, 14, 15, 16, 18, 19, 20, 21, 22, 23, 49, 50, 51, 52, 53, 54, 55, 56, 57, 58, 59, 60, 61, 62, 63, 64, 65, 66, 67, 68, 69, 70, 71, 72, 73, 74, 75, 76, 77, 78, 79, 80, 81, 82, 83, 84, 85, 86, 87, 88, 89, 90, 91, 92, 93, 94, 95, 96, 97, 98, 99, 100, 101, 102, 103, 104, 105, 106, 107, 108, 109, 110, 111, 112, 113, 114, 115, 116, 117, 118, 119, 120, 121, 122, 123, 124, 125, 126, 127, 128, 129, 130, 131, 132, 133, 134, 135, 136, 137, 138, 139, 140, 141, 142, 143, 144, 145, 146, 147, 148, 149, 150, 151, 152, 153, 154, 155, 156] (fun (i : Nat) E w => ∃ (Si : SC) (lo : Nat), E 49 = .int .i64 (i : Int) ∧ E 11 = .int .i64 (lo : Int) ∧ i ≤ n4 ∧ VInv Si rb.xs cms lo ∧ Sat w (StP b Si :: R)) (fun i => n4 - i) 0 ⟨S0, 0, rfl, rfl, Nat.zero_le _, hinv0, H⟩ ?_
      clear H
      rintro i E1 w hs ⟨Si, lo, e49, e11, hin, hinv, H⟩
      refine WP.seq ?_
      refine WP.region ?_
      refine OpsE.val (x_lt e49 (hs 48 rfl)) ?_
      by_cases hlt : (i : Int) < (n4 : Int)
      · rw [decide_eq_true hlt]
        refine OpsE.nil ?_
        refine Then.normal ?_
        refine WP.seq ?_
        refine WP.cond_t rfl rfl ?_
        refine WP.skip ?_
        refine Then.normal ?_
        refine WP.seq ?_
        refine WP.block ?_
        refine WP.seq ?_
        obtain ⟨bb, off, B, fz, pre, post, rfl, hB, hBl, hpo⟩ := hii.some (by omega)
        obtain ⟨z, hz⟩ : ∃ z, zs[i]? = some z := ⟨_, List.getElem?_eq_getElem (by omega)⟩
        have hlol := hinv.le
        have hlas := hinv.last
        have hSw : ∀ c ∈ Si.hist.xs, c.w.xs.length ≤ 1000 := fun c hc => by
          have h1 : cma c ∈ cms.drop lo := by rw [← hinv.hist]; exact List.mem_map.2 ⟨c, hc, rfl⟩
          have h2 := right_len (htk.right (cma c) (List.mem_of_mem_drop h1))
          have h3 : c.w.xs.length ≤ 200 := h2
          omega
        have hSl : Si.hist.xs.length = n - lo := by rw [rw_len hinv.hist, List.length_drop, hcl]
        refine WP.region ?_
        refine OpsE.val (x_indexAddro1 (i := i) (hs 47 rfl) e49 Try.runUnderlying64 Try.sizeOf3 rfl (by omega)) ?_
        refine OpsE.val (x_load (v := .int .i64 z) rfl Try.isAgg3 (hB w H.tail) (by have := row_cell intc_len hBl hpo (j := 0) hz rfl; simpa using this)) ?_
        refine OpsE.val (x_assign (v := .int .i64 _) rfl) ?_
        refine OpsE.nil ?_
        refine Then.normal ?_
        refine WP.cutS [14, 53, 54, 55, 56, 57, 58, 59, 60, 61] (fun E w => ∃ g : Bool, E 14 = .bool g ∧ (g = true ↔ ((lo : Int) ≤ z ∧ z ≤ n)) ∧ Sat w (StP b Si :: R)) ?_ ?_
        · skip
          refine WP.region ?_
          refine OpsE.val (x_move (v := .int .i64 z) rfl) ?_
          refine OpsE.val (x_move (v := .int .i64 _) e11) ?_
          refine OpsE.val (x_ge rfl rfl) ?_
          by_cases g1 : z ≥ (lo : Int)
          · rw [decide_eq_true g1]
            refine OpsE.val (x_move (v := .bool _) rfl) ?_
            refine OpsE.yes rfl ?_
            refine OpsE.val (x_move (v := .int .i64 z) rfl) ?_
            refine OpsE.yes rfl ?_
            refine OpsE.val (x_move (v := .slice r.ad r.xs.length r.cp) (hs 8 rfl)) ?_
            refine OpsE.yes rfl ?_
            refine OpsE.val (x_lenL rfl rfl Try.runUnderlying38) ?_
            refine OpsE.yes rfl ?_
            refine OpsE.val (x_le rfl rfl) ?_
            by_cases g2 : z ≤ ((r.xs.length : Nat) : Int)
            · rw [decide_eq_true g2]
              refine OpsE.val (x_pickT rfl rfl) ?_
              refine OpsE.val (x_assign (v := .bool _) rfl) ?_
              refine OpsE.nil ?_
              refine Then.normal ?_
              exact ⟨rfl, (by repeat (first | exact Same.refl _ _ | refine Same.upd ?_ rfl)), true, rfl, ⟨fun _ => ⟨by omega, by omega⟩, fun _ => rfl⟩, H⟩
            · rw [decide_eq_false g2]
              refine OpsE.val (x_pickT rfl rfl) ?_
              refine OpsE.val (x_assign (v := .bool _) rfl) ?_
              refine OpsE.nil ?_
              refine Then.normal ?_
              exact ⟨rfl, (by repeat (first | exact Same.refl _ _ | refine Same.upd ?_ rfl)), false, rfl, ⟨fun h => (by cases h), fun h => absurd h.2 (by omega)⟩, H⟩
          · rw [decide_eq_false g1]
            refine OpsE.val (x_move (v := .bool _) rfl) ?_
            refine OpsE.no rfl ?_
            refine OpsE.no rfl ?_
            refine OpsE.no rfl ?_
            refine OpsE.no rfl ?_
            refine OpsE.val (x_pickF rfl rfl) ?_
            refine OpsE.val (x_assign (v := .bool _) rfl) ?_
            refine OpsE.nil ?_
            refine Then.normal ?_
            exact ⟨rfl, (by repeat (first | exact Same.refl _ _ | refine Same.upd ?_ rfl)), false, rfl, ⟨fun h => (by cases h), fun h => absurd h.1 (by omega)⟩, H⟩
        · skip
          rintro E2 w hs1 ⟨g, e14, hgood, H⟩
          refine WP.seq ?_
          refine WP.region ?_
          refine OpsE.val (x_move (v := .pointer (some ⟨b, 0, none⟩)) ((hs1 9 rfl).trans (hs 9 rfl))) ?_
          cases hg : g
          case false =>
            refine OpsE.val (x_move (v := .int .i64 z) (hs1 13 rfl)) ?_
            subst hg
            refine OpsE.call (x_call (vl := [.pointer _, .int .i64 _]) rfl Try.call19) (Vacuum_spec (q := z) H hinv.ok (by omega)) ?_
            rintro _ w (⟨_, rfl, H⟩ | ⟨hg1, _⟩)
            rotate_left
            · exact absurd (hgood.2 ⟨by have := hg1.1; rw [hinv.low] at this; exact this, by have := hg1.2; rw [hlas, hcl] at this; exact this⟩) (by simp)
            obtain ⟨S2, lo2, hS2, hlo2⟩ : ∃ (S2 : SC) (lo2 : Nat), S2 = Si ∧ lo2 = lo := ⟨_, _, rfl, rfl⟩
            have hinv2 : VInv S2 rb.xs cms lo2 := by rw [hS2, hlo2]; exact hinv
            rw [← hlo2] at e11
            rw [← hS2] at H
            refine OpsE.val (x_assign (v := .int .i64 _) rfl) ?_
            refine OpsE.nil ?_
            refine Then.normal ?_
            refine WP.seq ?_
            refine WP.seq ?_
            refine WP.region ?_
            refine OpsE.val (x_move (v := .int .i64 1) rfl) ?_
            refine OpsE.val (x_eqI rfl rfl) ?_
            rw [decide_eq_false (by decide)]
            refine OpsE.val (x_move (v := .bool false) e14) ?_
            refine OpsE.val (x_neB rfl rfl Try.runUnderlying4) ?_
            rw [(show (!(false == false)) = false from rfl)]
            refine OpsE.val (x_move (v := .bool _) rfl) ?_
            refine OpsE.yes rfl ?_
            refine OpsE.val (x_move (v := .bool false) e14) ?_
            refine OpsE.yes rfl ?_
            refine OpsE.val (x_not rfl) ?_
            refine OpsE.yes rfl ?_
            refine OpsE.val (x_move (v := .bool _) rfl) ?_
            refine OpsE.yes rfl ?_
            refine OpsE.val (x_move (v := .int .i64 _) rfl) ?_
            refine OpsE.yes rfl ?_
            refine OpsE.val (x_neI rfl rfl) ?_
            rw [decide_eq_false (by decide)]
            refine OpsE.yes rfl ?_
            refine OpsE.val (x_pickT rfl rfl) ?_
            refine OpsE.val (x_pickF rfl rfl) ?_
            refine OpsE.nil ?_
            refine Then.normal ?_
            refine WP.cond_f rfl rfl ?_
            refine WP.skip ?_
            refine Then.normal ?_
            refine WP.seq ?_
            refine WP.seq ?_
            refine WP.region ?_
            refine OpsE.val (x_move (v := .bool false) e14) ?_
            refine OpsE.nil ?_
            refine Then.normal ?_
            refine WP.cond_f rfl rfl ?_
            refine WP.skip ?_
            refine Then.normal ?_
            refine WP.seq ?_
            refine WP.seq ?_
            refine WP.region ?_
            refine OpsE.val (x_move (v := .int .i64 (lo2 : Int)) ((hs1 11 rfl).trans e11)) ?_
            refine OpsE.val (x_assign (v := .int .i64 _) rfl) ?_
            refine OpsE.nil ?_
            refine Then.normal ?_
            refine WP.block ?_
            have hinv3 := hinv2
            refine WP.loopS [6, 19, 20, 21, 103, 104, 105, 106, 107, 108, 109, 110, 111, 112, 113, 114, 115, 116, 117, 118, 119, 120, 121, 122, 123, 124, 125, 126, 127, 128, 129, 130, 131, 132, 133] (fun (j : Nat) E w => E 19 = .int .i64 ((lo2 + j : Nat) : Int) ∧ lo2 + j ≤ n + 1 ∧ Sat w (StP b S2 :: R)) (fun j => n + 1 - (lo2 + j)) 0 ⟨rfl, by have := hinv2.le; omega, H⟩ ?_
            clear H
            rintro j E4 w hs4 ⟨e19, hjn, H⟩
            have hle2 := hinv2.le
            have hlas2 := hinv2.last
            have hSl2 : S2.hist.xs.length = n - lo2 := by rw [rw_len hinv2.hist, List.length_drop, hcl]
            have hSw2 : ∀ c ∈ S2.hist.xs, c.w.xs.length ≤ 1000 := fun c hc => by
              have h1 : cma c ∈ cms.drop lo2 := by rw [← hinv2.hist]; exact List.mem_map.2 ⟨c, hc, rfl⟩
              have h2 := right_len (htk.right (cma c) (List.mem_of_mem_drop h1))
              have h3 : c.w.xs.length ≤ 200 := h2
              omega
            refine WP.seq ?_
            refine WP.seq ?_
            refine WP.region ?_
            refine OpsE.val (x_move (v := .int .i64 _) e19) ?_
            refine OpsE.val (x_move (v := r.val) ((hs4 8 rfl).trans ((hs1 8 rfl).trans (hs 8 rfl)))) ?_
            refine OpsE.val (x_lenL rfl rfl Try.runUnderlying38) ?_
            refine OpsE.val (x_le rfl rfl) ?_
            by_cases hle : ((lo2 + j : Nat) : Int) ≤ ((r.xs.length : Nat) : Int)
            · rw [decide_eq_true hle]
              refine OpsE.nil ?_
              refine Then.normal ?_
              refine WP.cond_t rfl rfl ?_
              refine WP.skip ?_
              refine Then.normal ?_
              refine WP.seq ?_
              refine WP.block ?_
              refine WP.seq ?_
              refine WP.seq ?_
              refine WP.region ?_
              refine OpsE.val (x_move (v := .pointer (some ⟨b, 0, none⟩)) ((hs4 9 rfl).trans ((hs1 9 rfl).trans (hs 9 rfl)))) ?_
              refine OpsE.val (x_move (v := rb.val) ((hs4 7 rfl).trans ((hs1 7 rfl).trans (hs 7 rfl)))) ?_
              refine OpsE.val (x_move (v := r.val) ((hs4 8 rfl).trans ((hs1 8 rfl).trans (hs 8 rfl)))) ?_
              refine OpsE.val (x_move (v := .int .i64 ((lo2 + j : Nat) : Int)) e19) ?_
              refine OpsE.call (x_call (vl := [.slice _ _ _, .slice _ _ _, .int .i64 _]) rfl Try.call27) (At_map (q := ((lo2 + j : Nat) : Int)) H hbi.more (by omega) hci.more (by omega) hcn) ?_
              rintro _ w ⟨m2, es2, ck2, rfl, hm3, H⟩
              refine OpsE.val (x_move (v := .int .i64 ((lo2 + j : Nat) : Int)) e19) ?_
              have hm4 : MapIs es2 ck2 (fun k => atv (vsOf S2.es k) ((lo2 + j : Nat) : Int)) := hm3.cong fun k => by rw [cm_ab, hcms]; exact hinv2.at hcs hvs (by omega) k
              refine OpsE.call (x_call (vl := [.pointer _, .map _, .int .i64 _]) rfl Try.call26) (shows_spec H.swap hinv2.ok hm4) ?_
              rintro _ w ⟨rfl, H⟩
              refine OpsE.val (x_not rfl) ?_
              refine OpsE.nil ?_
              refine Then.normal ?_
              refine WP.cond_f rfl rfl ?_
              refine WP.skip ?_
              refine Then.normal ?_
              refine WP.seq ?_
              refine WP.region ?_
              refine OpsE.val (x_move (v := .pointer (some ⟨b, 0, none⟩)) ((hs4 9 rfl).trans ((hs1 9 rfl).trans (hs 9 rfl)))) ?_
              refine OpsE.val (x_move (v := .int .i64 ((lo2 + j : Nat) : Int)) e19) ?_
              refine OpsE.call (x_call (vl := [.pointer _, .int .i64 _]) rfl Try.call38) (Since_one (q := ((lo2 + j : Nat) : Int)) H hinv2.ok (by omega) hSw2) ?_
              rintro _ w ⟨r2, er, rfl, hs2s, H⟩
              rw [hinv2.low, hlas2, hcl] at hs2s
              obtain ⟨rfl, hr2⟩ : er = 0 ∧ r2.xs.length = n - (lo2 + j) := by
                rcases hs2s with ⟨h, _⟩ | ⟨_, h, _⟩ | ⟨_, _, h1, h2, _⟩
                · omega
                · omega
                · refine ⟨h1, ?_⟩
                  have h5 := congrArg List.length h2
                  rw [List.length_map, List.length_drop, List.length_map, hSl2] at h5
                  omega
              refine OpsE.val (x_move (v := .tuple #[r2.val, .int .i64 0]) rfl) ?_
              refine OpsE.val (x_extract (v := r2.val) rfl rfl) ?_
              refine OpsE.val (x_extract (v := .int .i64 0) rfl rfl) ?_
              refine OpsE.val (x_assign (v := .slice _ _ _) rfl) ?_
              refine OpsE.val (x_assign (v := .int .i64 _) rfl) ?_
              refine OpsE.nil ?_
              refine Then.normal ?_
              refine WP.seq ?_
              refine WP.region ?_
              refine OpsE.val (x_move (v := .int .i64 0) rfl) ?_
              refine OpsE.val (x_neI rfl rfl) ?_
              rw [decide_eq_false (by decide)]
              refine OpsE.val (x_move (v := .bool _) rfl) ?_
              refine OpsE.yes rfl ?_
              refine OpsE.val (x_move (v := r2.val) rfl) ?_
              refine OpsE.yes rfl ?_
              refine OpsE.val (x_lenL rfl rfl Try.runUnderlying38) ?_
              refine OpsE.yes rfl ?_
              refine OpsE.val (x_move (v := r.val) ((hs4 8 rfl).trans ((hs1 8 rfl).trans (hs 8 rfl)))) ?_
              refine OpsE.yes rfl ?_
              refine OpsE.val (x_lenL rfl rfl Try.runUnderlying38) ?_
              refine OpsE.yes rfl ?_
              refine OpsE.val (x_move (v := .int .i64 ((lo2 + j : Nat) : Int)) e19) ?_
              refine OpsE.yes rfl ?_
              refine OpsE.val (x_sub (z := ((n - (lo2 + j) : Nat) : Int)) rfl rfl (by show IntKind.i64.wrap (((r.xs.length : Nat) : Int) - _) = _; rw [hrl, i64n (by omega) (by omega)]; omega)) ?_
              refine OpsE.yes rfl ?_
              refine OpsE.val (x_neI rfl rfl) ?_
              rw [decide_eq_false (by rw [hr2]; simp)]
              refine OpsE.val (x_pickF rfl rfl) ?_
              refine OpsE.nil ?_
              refine Then.normal ?_
              refine WP.cond_f rfl rfl ?_
              refine WP.skip ?_
              refine InBlock.normal ?_
              refine Then.normal ?_
              refine WP.region ?_
              refine OpsE.val (x_move (v := .int .i64 _) e19) ?_
              refine OpsE.val (x_add (z := ((lo2 + (j + 1) : Nat) : Int)) rfl rfl (by rw [i64n (by omega) (by omega)]; omega)) ?_
              refine OpsE.val (x_assign (v := .int .i64 _) rfl) ?_
              refine OpsE.nil ?_
              refine Then.normal ?_
              exact ⟨rfl, (by repeat (first | exact hs4 | refine Same.upd ?_ rfl)), j + 1, by omega, rfl, by omega, H.tail.tail.swap.tail⟩
            · rw [decide_eq_false hle]
              refine OpsE.nil ?_
              refine Then.normal ?_
              refine WP.cond_f rfl rfl ?_
              refine WP.exit ?_
              refine Then.exit ?_
              refine Then.exit ?_
              refine InBlock.hit ?_
              refine Then.normal ?_
              refine WP.seq ?_
              refine WP.region ?_
              refine OpsE.val (x_move (v := .pointer (some ⟨b, 0, none⟩)) ((hs4 9 rfl).trans ((hs1 9 rfl).trans (hs 9 rfl)))) ?_
              refine OpsE.val (x_move (v := .int .i64 _) ((hs4 11 rfl).trans ((hs1 11 rfl).trans e11))) ?_
              refine OpsE.val (x_sub (z := ((lo2 : Int) - 1)) rfl rfl (i64n (by omega) (by omega))) ?_
              refine OpsE.call (x_call (vl := [.pointer _, .int .i64 _]) rfl Try.call38) (Since_one (q := (lo2 : Int) - 1) H hinv2.ok (by omega) hSw2) ?_
              rintro _ w ⟨r3, er, rfl, hs2s, H⟩
              rw [hinv2.low] at hs2s
              obtain rfl : er = 12 := by
                rcases hs2s with ⟨_, h, _⟩ | ⟨h, _⟩ | ⟨h, _⟩
                · exact h
                · omega
                · omega
              refine OpsE.val (x_move (v := .tuple #[r3.val, .int .i64 12]) rfl) ?_
              refine OpsE.val (x_extract (v := r3.val) rfl rfl) ?_
              refine OpsE.val (x_extract (v := .int .i64 12) rfl rfl) ?_
              refine OpsE.val (x_assign (v := .slice _ _ _) rfl) ?_
              refine OpsE.val (x_assign (v := .int .i64 _) rfl) ?_
              refine OpsE.nil ?_
              refine Then.normal ?_
              refine WP.seq ?_
              refine WP.region ?_
              refine OpsE.val (x_move (v := .int .i64 12) rfl) ?_
              refine OpsE.val (x_neI rfl rfl) ?_
              rw [decide_eq_false (by decide)]
              refine OpsE.val (x_move (v := .bool _) rfl) ?_
              refine OpsE.yes rfl ?_
              refine OpsE.val (x_move (v := .pointer (some ⟨b, 0, none⟩)) ((hs4 9 rfl).trans ((hs1 9 rfl).trans (hs 9 rfl)))) ?_
              refine OpsE.yes rfl ?_
              replace H := StP.open.1 H.tail.tail
              refine OpsE.call (x_call (vl := [.pointer _]) rfl Try.call17) (SLow_spec H (fun w H => H.look b) hinv2.ok) ?_
              rintro _ w ⟨rfl, H⟩
              replace H := StP.open.2 H
              refine OpsE.yes rfl ?_
              refine OpsE.val (x_move (v := .int .i64 (lo2 : Int)) ((hs4 11 rfl).trans ((hs1 11 rfl).trans e11))) ?_
              refine OpsE.yes rfl ?_
              refine OpsE.val (x_neI rfl rfl) ?_
              rw [decide_eq_false (by rw [hinv2.low]; simp)]
              refine OpsE.val (x_pickF rfl rfl) ?_
              refine OpsE.val (x_move (v := .bool _) rfl) ?_
              refine OpsE.yes rfl ?_
              refine OpsE.val (x_move (v := .pointer (some ⟨b, 0, none⟩)) ((hs4 9 rfl).trans ((hs1 9 rfl).trans (hs 9 rfl)))) ?_
              refine OpsE.yes rfl ?_
              replace H := StP.open.1 H
              refine OpsE.call (x_call (vl := [.pointer _]) rfl Try.call16) (SLast_spec H (fun w H => H.look b) hinv2.ok) ?_
              rintro _ w ⟨rfl, H⟩
              replace H := StP.open.2 H
              refine OpsE.yes rfl ?_
              refine OpsE.val (x_move (v := r.val) ((hs4 8 rfl).trans ((hs1 8 rfl).trans (hs 8 rfl)))) ?_
              refine OpsE.yes rfl ?_
              refine OpsE.val (x_lenL rfl rfl Try.runUnderlying38) ?_
              refine OpsE.yes rfl ?_
              refine OpsE.val (x_neI rfl rfl) ?_
              rw [decide_eq_false (by rw [hlas2, hcl, hrl]; simp)]
              refine OpsE.val (x_pickF rfl rfl) ?_
              refine OpsE.nil ?_
              refine Then.normal ?_
              refine WP.cond_f rfl rfl ?_
              refine WP.skip ?_
              refine InBlock.normal ?_
              refine Then.normal ?_
              refine WP.region ?_
              refine OpsE.val (x_add (z := ((i + 1 : Nat) : Int)) ((hs4 49 rfl).trans ((hs1 49 rfl).trans e49)) rfl (by rw [i64n (by omega) (by omega)]; omega)) ?_
              refine OpsE.val (x_move (v := .int .i64 _) rfl) ?_
              refine OpsE.nil ?_
              refine Then.normal ?_
              refine ⟨rfl, (by repeat (first | exact hs | refine Same.upd ?_ rfl | refine Same.sub hs4 ?_ rfl | refine Same.sub hs1 ?_ rfl)), i + 1, by omega, S2, lo2, rfl, ?_, by omega, hinv2, H⟩
              exact (hs4 11 rfl).trans ((hs1 11 rfl).trans e11)
          case true =>
            refine OpsE.val (x_move (v := .int .i64 z) (hs1 13 rfl)) ?_
            subst hg
            obtain ⟨hz1, hz2⟩ := hgood.1 rfl
            obtain ⟨lo2, hlo2⟩ : ∃ lo2 : Nat, z = (lo2 : Int) := ⟨z.toNat, by omega⟩
            subst hlo2
            refine OpsE.call (x_call (vl := [.pointer _, .int .i64 _]) rfl Try.call19) (Vacuum_spec (q := (lo2 : Int)) H hinv.ok (by omega)) ?_
            rintro _ w (⟨hng, _, _⟩ | ⟨_, rfl, S2, ok2, hl2, hh2, hk2, H⟩)
            · exact absurd ⟨by rw [hinv.low]; exact hz1, by rw [hlas, hcl]; exact hz2⟩ hng
            have hinv2 : VInv S2 rb.xs cms lo2 := hinv.vac hvs ok2 (Nat.le_refl _) (by omega) (by omega) hl2 hh2 hk2
            refine OpsE.val (x_assign (v := .int .i64 _) rfl) ?_
            refine OpsE.nil ?_
            refine Then.normal ?_
            refine WP.seq ?_
            refine WP.seq ?_
            refine WP.region ?_
            refine OpsE.val (x_move (v := .int .i64 0) rfl) ?_
            refine OpsE.val (x_eqI rfl rfl) ?_
            rw [decide_eq_true (by decide)]
            refine OpsE.val (x_move (v := .bool true) e14) ?_
            refine OpsE.val (x_neB rfl rfl Try.runUnderlying4) ?_
            rw [(show (!(true == true)) = false from rfl)]
            refine OpsE.val (x_move (v := .bool _) rfl) ?_
            refine OpsE.yes rfl ?_
            refine OpsE.val (x_move (v := .bool true) e14) ?_
            refine OpsE.yes rfl ?_
            refine OpsE.val (x_not rfl) ?_
            refine OpsE.yes rfl ?_
            refine OpsE.val (x_move (v := .bool _) rfl) ?_
            refine OpsE.no rfl ?_
            refine OpsE.no rfl ?_
            refine OpsE.yes rfl ?_
            refine OpsE.val (x_pickF rfl rfl) ?_
            refine OpsE.val (x_pickF rfl rfl) ?_
            refine OpsE.nil ?_
            refine Then.normal ?_
            refine WP.cond_f rfl rfl ?_
            refine WP.skip ?_
            refine Then.normal ?_
            refine WP.seq ?_
            refine WP.seq ?_
            refine WP.region ?_
            refine OpsE.val (x_move (v := .bool true) e14) ?_
            refine OpsE.nil ?_
            refine Then.normal ?_
            refine WP.cond_t rfl rfl ?_
            refine WP.seq ?_
            refine WP.region ?_
            refine OpsE.val (x_move (v := .int .i64 (lo2 : Int)) (hs1 13 rfl)) ?_
            refine OpsE.val (x_assign (v := .int .i64 _) rfl) ?_
            refine OpsE.nil ?_
            refine Then.normal ?_
            refine WP.seq ?_
            refine WP.region ?_
            refine OpsE.val (x_move (v := rb.val) ((hs1 7 rfl).trans (hs 7 rfl))) ?_
            refine OpsE.val (x_move (v := r.val) ((hs1 8 rfl).trans (hs 8 rfl))) ?_
            refine OpsE.val (x_move (v := .int .i64 (lo2 : Int)) rfl) ?_
            refine OpsE.call (x_call (vl := [.slice _ _ _, .slice _ _ _, .int .i64 _]) rfl Try.call27) (At_map (q := (lo2 : Int)) H hbi.more (by omega) hci.more (by omega) hcn) ?_
            rintro _ w ⟨m, es, ck, rfl, hm, H⟩
            have hm1 : MapIs es ck (valA rb.xs cms (lo2 : Int)) := hm.cong fun k => by rw [cm_ab, hcms]
            have hvc := hinv2.count hcs ok0 hek hm1
            have hle2 := hinv2.le
            refine OpsE.val (x_lenM rfl rfl Try.underlying43 (H.look _)) ?_
            refine OpsE.val (x_assign (v := .int .i64 _) rfl) ?_
            refine OpsE.nil ?_
            refine Then.normal ?_
            refine WP.seq ?_
            refine WP.seq ?_
            refine WP.region ?_
            refine OpsE.val (x_move (v := r.val) ((hs1 8 rfl).trans (hs 8 rfl))) ?_
            refine OpsE.val (x_move (v := .int .i64 (lo2 : Int)) rfl) ?_
            obtain ⟨ad', hsl, hcd⟩ := CIn.drop (P := Try.prog) (T := 38) hci Try.runUnderlying38 Try.sizeOf33 (k := lo2) (by omega)
            refine OpsE.val (hsl _ _ _ _ .i64 w rfl rfl) ?_
            obtain ⟨ys, hys⟩ : ∃ ys, (r.xs.map Cm.v).drop lo2 = ys := ⟨_, rfl⟩
            rw [hys] at hcd
            have hyab : ys.map CmV.ab = cms.drop lo2 := by rw [← hys, List.map_drop, cm_ab, hcms]
            have hyl : ys.length = n - lo2 := by rw [← hys, List.length_drop, List.length_map, hrl]
            have hyw : ∀ i, wcount ((ys.take i).map CmV.ab) ≤ n * 200 := fun i => by
              have h1 := wcount_le (cms := (ys.take i).map CmV.ab) fun c hc => by
                obtain ⟨y, hy, rfl⟩ := List.mem_map.1 hc
                have : y.ab ∈ cms.drop lo2 := by rw [← hyab]; exact List.mem_map.2 ⟨y, List.mem_of_mem_take hy, rfl⟩
                exact htk.right _ (List.mem_of_mem_drop this)
              rw [List.length_map, List.length_take] at h1
              have h2 : min i ys.length * 200 ≤ n * 200 := Nat.mul_le_mul_right _ (by omega)
              omega
            have hesl : es.length ≤ 500000 := by
              have hat : ∀ k, atv (vsOf S0.es k) (lo2 : Int) = valA rb.xs cms (lo2 : Int) k := fun k => atv_st hek (seq_rise hcs) (by omega) k
              rw [← base_count ok0 (hm1.cong hat)]
              have := baseL_len S0.es (lo2 : Int)
              have := ok0.num
              omega
            refine OpsE.val (x_lenL rfl rfl Try.runUnderlying38) ?_
            refine OpsE.val (x_move (v := .int .i64 _) rfl) ?_
            refine OpsE.nil ?_
            refine Then.normal ?_
            refine WP.block ?_
            refine WP.loopS [16, 18, 88, 89, 90, 91, 92, 93, 94, 95, 96, 97] (fun (k : Nat) E w => E 88 = .int .i64 (k : Int) ∧ E 16 = .int .i64 ((es.length + wcount ((ys.take k).map CmV.ab) : Nat) : Int) ∧ k ≤ n - lo2 ∧ Sat w (StP b S2 :: R)) (fun k => n - lo2 - k) 0 ⟨rfl, rfl, Nat.zero_le _, H.tail⟩ ?_
            clear H
            rintro k E3 w hs2 ⟨e88, e16, hkl, H⟩
            refine WP.seq ?_
            refine WP.region ?_
            refine OpsE.val (x_lt e88 (hs2 87 rfl)) ?_
            by_cases hlt2 : (k : Int) < ((r.xs.length - lo2 : Nat) : Int)
            · rw [decide_eq_true hlt2]
              refine OpsE.nil ?_
              refine Then.normal ?_
              refine WP.seq ?_
              refine WP.cond_t rfl rfl ?_
              refine WP.skip ?_
              refine Then.normal ?_
              refine WP.seq ?_
              refine WP.block ?_
              refine WP.seq ?_
              obtain ⟨bb2, off2, B2, fz2, pre2, post2, had2, hB2, hBl2, hpo2⟩ := hcd.row.some (by omega)
              obtain ⟨y, hy⟩ : ∃ y, ys[k]? = some y := ⟨_, List.getElem?_eq_getElem (by omega)⟩
              have hyn : y.n = y.ws.length := (hcd.ws y (List.mem_of_getElem? hy)).len
              have hw1 := hyw k
              have hw2 := hyw (k + 1)
              have hw3 : wcount ((ys.take (k + 1)).map CmV.ab) = wcount ((ys.take k).map CmV.ab) + y.n := by rw [List.take_add_one, hy, List.map_append]; show wcount (_ ++ [y.ab]) = _; rw [wcount_snoc, hyn]; rfl
              refine WP.region ?_
              refine OpsE.val (x_indexAddro (i := k) ((hs2 86 rfl).trans (show Value.slice ad' _ _ = _ by rw [had2])) e88 Try.runUnderlying38 Try.sizeOf33 rfl (by omega)) ?_
              refine OpsE.val (x_loadA (vs := cvc y) rfl Try.isAgg33 Try.sizeOf33 (hB2 w H.tail) (row_el cvc_len hBl2 hpo2 hy) rfl) ?_
              refine OpsE.allocA Try.zeroValue33 H ?_
              intro b18 w H
              refine OpsE.storeA (vs := cvc y) rfl rfl Try.sizeOf33 H (cvc_one y) (Nat.le_refl _) ?_
              intro w H
              refine OpsE.nil ?_
              refine Then.normal ?_
              refine WP.region ?_
              refine OpsE.val (x_move (v := .int .i64 _) e16) ?_
              refine OpsE.val (x_fieldAddr (o := 2) rfl Try.runUnderlying33 rfl rfl Try.sizeOf22) ?_
              refine OpsE.val (x_load (v := .slice y.a y.n y.c) rfl Try.isAgg22 (H.look _) rfl) ?_
              refine OpsE.val (x_lenL rfl rfl Try.runUnderlying22) ?_
              refine OpsE.val (x_add (z := ((es.length + wcount ((ys.take (k + 1)).map CmV.ab) : Nat) : Int)) rfl rfl (by rw [i64n (by omega) (by omega)]; omega)) ?_
              refine OpsE.val (x_assign (v := .int .i64 _) rfl) ?_
              refine OpsE.nil ?_
              refine InBlock.normal ?_
              refine Then.normal ?_
              refine WP.region ?_
              refine OpsE.val (x_add (z := ((k + 1 : Nat) : Int)) e88 rfl (by rw [i64n (by omega) (by omega)]; omega)) ?_
              refine OpsE.val (x_move (v := .int .i64 _) rfl) ?_
              refine OpsE.nil ?_
              refine Then.normal ?_
              exact ⟨rfl, (by repeat (first | exact hs2 | refine Same.upd ?_ rfl)), k + 1, by omega, rfl, rfl, by omega, H.tail⟩
            · rw [decide_eq_false hlt2]
              refine OpsE.nil ?_
              refine Then.normal ?_
              refine WP.seq ?_
              refine WP.cond_f rfl rfl ?_
              refine WP.exit ?_
              refine Then.exit ?_
              refine Then.exit ?_
              refine InBlock.hit ?_
              refine Then.normal ?_
              refine WP.seq ?_
              refine WP.region ?_
              refine OpsE.val (x_move (v := .pointer (some ⟨b, 0, none⟩)) ((hs2 9 rfl).trans ((hs1 9 rfl).trans (hs 9 rfl)))) ?_
              refine OpsE.call (x_call (vl := [.pointer _]) rfl Try.call20) (Versions_spec H hinv2.ok) ?_
              rintro _ w ⟨rfl, H⟩
              have hke : k = ys.length := by omega
              rw [hke, List.take_length, hyab, ← hvc] at e16
              refine OpsE.val (x_move (v := .int .i64 ((vcount (ek S2.es) : Nat) : Int)) e16) ?_
              refine OpsE.val (x_neI rfl rfl) ?_
              rw [decide_eq_false (fun h => h rfl)]
              refine OpsE.nil ?_
              refine Then.normal ?_
              refine WP.cond_f rfl rfl ?_
              refine WP.skip ?_
              refine Then.normal ?_
              refine WP.seq ?_
              refine WP.seq ?_
              refine WP.region ?_
              refine OpsE.val (x_move (v := .int .i64 (lo2 : Int)) (hs2 11 rfl)) ?_
              refine OpsE.val (x_assign (v := .int .i64 _) rfl) ?_
              refine OpsE.nil ?_
              refine Then.normal ?_
              refine WP.block ?_
              have hinv3 := hinv2
              refine WP.loopS [6, 19, 20, 21, 103, 104, 105, 106, 107, 108, 109, 110, 111, 112, 113, 114, 115, 116, 117, 118, 119, 120, 121, 122, 123, 124, 125, 126, 127, 128, 129, 130, 131, 132, 133] (fun (j : Nat) E w => E 19 = .int .i64 ((lo2 + j : Nat) : Int) ∧ lo2 + j ≤ n + 1 ∧ Sat w (StP b S2 :: R)) (fun j => n + 1 - (lo2 + j)) 0 ⟨rfl, by have := hinv2.le; omega, H⟩ ?_
              clear H
              rintro j E4 w hs4 ⟨e19, hjn, H⟩
              have hle2 := hinv2.le
              have hlas2 := hinv2.last
              have hSl2 : S2.hist.xs.length = n - lo2 := by rw [rw_len hinv2.hist, List.length_drop, hcl]
              have hSw2 : ∀ c ∈ S2.hist.xs, c.w.xs.length ≤ 1000 := fun c hc => by
                have h1 : cma c ∈ cms.drop lo2 := by rw [← hinv2.hist]; exact List.mem_map.2 ⟨c, hc, rfl⟩
                have h2 := right_len (htk.right (cma c) (List.mem_of_mem_drop h1))
                have h3 : c.w.xs.length ≤ 200 := h2
                omega
              refine WP.seq ?_
              refine WP.seq ?_
              refine WP.region ?_
              refine OpsE.val (x_move (v := .int .i64 _) e19) ?_
              refine OpsE.val (x_move (v := r.val) ((hs4 8 rfl).trans ((hs2 8 rfl).trans ((hs1 8 rfl).trans (hs 8 rfl))))) ?_
              refine OpsE.val (x_lenL rfl rfl Try.runUnderlying38) ?_
              refine OpsE.val (x_le rfl rfl) ?_
              by_cases hle : ((lo2 + j : Nat) : Int) ≤ ((r.xs.length : Nat) : Int)
              · rw [decide_eq_true hle]
                refine OpsE.nil ?_
                refine Then.normal ?_
                refine WP.cond_t rfl rfl ?_
                refine WP.skip ?_
                refine Then.normal ?_
                refine WP.seq ?_
                refine WP.block ?_
                refine WP.seq ?_
                refine WP.seq ?_
                refine WP.region ?_
                refine OpsE.val (x_move (v := .pointer (some ⟨b, 0, none⟩)) ((hs4 9 rfl).trans ((hs2 9 rfl).trans ((hs1 9 rfl).trans (hs 9 rfl))))) ?_
                refine OpsE.val (x_move (v := rb.val) ((hs4 7 rfl).trans ((hs2 7 rfl).trans ((hs1 7 rfl).trans (hs 7 rfl))))) ?_
                refine OpsE.val (x_move (v := r.val) ((hs4 8 rfl).trans ((hs2 8 rfl).trans ((hs1 8 rfl).trans (hs 8 rfl))))) ?_
                refine OpsE.val (x_move (v := .int .i64 ((lo2 + j : Nat) : Int)) e19) ?_
                refine OpsE.call (x_call (vl := [.slice _ _ _, .slice _ _ _, .int .i64 _]) rfl Try.call27) (At_map (q := ((lo2 + j : Nat) : Int)) H hbi.more (by omega) hci.more (by omega) hcn) ?_
                rintro _ w ⟨m2, es2, ck2, rfl, hm3, H⟩
                refine OpsE.val (x_move (v := .int .i64 ((lo2 + j : Nat) : Int)) e19) ?_
                have hm4 : MapIs es2 ck2 (fun k => atv (vsOf S2.es k) ((lo2 + j : Nat) : Int)) := hm3.cong fun k => by rw [cm_ab, hcms]; exact hinv2.at hcs hvs (by omega) k
                refine OpsE.call (x_call (vl := [.pointer _, .map _, .int .i64 _]) rfl Try.call26) (shows_spec H.swap hinv2.ok hm4) ?_
                rintro _ w ⟨rfl, H⟩
                refine OpsE.val (x_not rfl) ?_
                refine OpsE.nil ?_
                refine Then.normal ?_
                refine WP.cond_f rfl rfl ?_
                refine WP.skip ?_
                refine Then.normal ?_
                refine WP.seq ?_
                refine WP.region ?_
                refine OpsE.val (x_move (v := .pointer (some ⟨b, 0, none⟩)) ((hs4 9 rfl).trans ((hs2 9 rfl).trans ((hs1 9 rfl).trans (hs 9 rfl))))) ?_
                refine OpsE.val (x_move (v := .int .i64 ((lo2 + j : Nat) : Int)) e19) ?_
                refine OpsE.call (x_call (vl := [.pointer _, .int .i64 _]) rfl Try.call38) (Since_one (q := ((lo2 + j : Nat) : Int)) H hinv2.ok (by omega) hSw2) ?_
                rintro _ w ⟨r2, er, rfl, hs2s, H⟩
                rw [hinv2.low, hlas2, hcl] at hs2s
                obtain ⟨rfl, hr2⟩ : er = 0 ∧ r2.xs.length = n - (lo2 + j) := by
                  rcases hs2s with ⟨h, _⟩ | ⟨_, h, _⟩ | ⟨_, _, h1, h2, _⟩
                  · omega
                  · omega
                  · refine ⟨h1, ?_⟩
                    have h5 := congrArg List.length h2
                    rw [List.length_map, List.length_drop, List.length_map, hSl2] at h5
                    omega
                refine OpsE.val (x_move (v := .tuple #[r2.val, .int .i64 0]) rfl) ?_
                refine OpsE.val (x_extract (v := r2.val) rfl rfl) ?_
                refine OpsE.val (x_extract (v := .int .i64 0) rfl rfl) ?_
                refine OpsE.val (x_assign (v := .slice _ _ _) rfl) ?_
                refine OpsE.val (x_assign (v := .int .i64 _) rfl) ?_
                refine OpsE.nil ?_
                refine Then.normal ?_
                refine WP.seq ?_
                refine WP.region ?_
                refine OpsE.val (x_move (v := .int .i64 0) rfl) ?_
                refine OpsE.val (x_neI rfl rfl) ?_
                rw [decide_eq_false (by decide)]
                refine OpsE.val (x_move (v := .bool _) rfl) ?_
                refine OpsE.yes rfl ?_
                refine OpsE.val (x_move (v := r2.val) rfl) ?_
                refine OpsE.yes rfl ?_
                refine OpsE.val (x_lenL rfl rfl Try.runUnderlying38) ?_
                refine OpsE.yes rfl ?_
                refine OpsE.val (x_move (v := r.val) ((hs4 8 rfl).trans ((hs2 8 rfl).trans ((hs1 8 rfl).trans (hs 8 rfl))))) ?_
                refine OpsE.yes rfl ?_
                refine OpsE.val (x_lenL rfl rfl Try.runUnderlying38) ?_
                refine OpsE.yes rfl ?_
                refine OpsE.val (x_move (v := .int .i64 ((lo2 + j : Nat) : Int)) e19) ?_
                refine OpsE.yes rfl ?_
                refine OpsE.val (x_sub (z := ((n - (lo2 + j) : Nat) : Int)) rfl rfl (by show IntKind.i64.wrap (((r.xs.length : Nat) : Int) - _) = _; rw [hrl, i64n (by omega) (by omega)]; omega)) ?_
                refine OpsE.yes rfl ?_
                refine OpsE.val (x_neI rfl rfl) ?_
                rw [decide_eq_false (by rw [hr2]; simp)]
                refine OpsE.val (x_pickF rfl rfl) ?_
                refine OpsE.nil ?_
                refine Then.normal ?_
                refine WP.cond_f rfl rfl ?_
                refine WP.skip ?_
                refine InBlock.normal ?_
                refine Then.normal ?_
                refine WP.region ?_
                refine OpsE.val (x_move (v := .int .i64 _) e19) ?_
                refine OpsE.val (x_add (z := ((lo2 + (j + 1) : Nat) : Int)) rfl rfl (by rw [i64n (by omega) (by omega)]; omega)) ?_
                refine OpsE.val (x_assign (v := .int .i64 _) rfl) ?_
                refine OpsE.nil ?_
                refine Then.normal ?_
                exact ⟨rfl, (by repeat (first | exact hs4 | refine Same.upd ?_ rfl)), j + 1, by omega, rfl, by omega, H.tail.tail.swap.tail⟩
              · rw [decide_eq_false hle]
                refine OpsE.nil ?_
                refine Then.normal ?_
                refine WP.cond_f rfl rfl ?_
                refine WP.exit ?_
                refine Then.exit ?_
                refine Then.exit ?_
                refine InBlock.hit ?_
                refine Then.normal ?_
                refine WP.seq ?_
                refine WP.region ?_
                refine OpsE.val (x_move (v := .pointer (some ⟨b, 0, none⟩)) ((hs4 9 rfl).trans ((hs2 9 rfl).trans ((hs1 9 rfl).trans (hs 9 rfl))))) ?_
                refine OpsE.val (x_move (v := .int .i64 _) ((hs4 11 rfl).trans (hs2 11 rfl))) ?_
                refine OpsE.val (x_sub (z := ((lo2 : Int) - 1)) rfl rfl (i64n (by omega) (by omega))) ?_
                refine OpsE.call (x_call (vl := [.pointer _, .int .i64 _]) rfl Try.call38) (Since_one (q := (lo2 : Int) - 1) H hinv2.ok (by omega) hSw2) ?_
                rintro _ w ⟨r3, er, rfl, hs2s, H⟩
                rw [hinv2.low] at hs2s
                obtain rfl : er = 12 := by
                  rcases hs2s with ⟨_, h, _⟩ | ⟨h, _⟩ | ⟨h, _⟩
                  · exact h
                  · omega
                  · omega
                refine OpsE.val (x_move (v := .tuple #[r3.val, .int .i64 12]) rfl) ?_
                refine OpsE.val (x_extract (v := r3.val) rfl rfl) ?_
                refine OpsE.val (x_extract (v := .int .i64 12) rfl rfl) ?_
                refine OpsE.val (x_assign (v := .slice _ _ _) rfl) ?_
                refine OpsE.val (x_assign (v := .int .i64 _) rfl) ?_
                refine OpsE.nil ?_
                refine Then.normal ?_
                refine WP.seq ?_
                refine WP.region ?_
                refine OpsE.val (x_move (v := .int .i64 12) rfl) ?_
                refine OpsE.val (x_neI rfl rfl) ?_
                rw [decide_eq_false (by decide)]
                refine OpsE.val (x_move (v := .bool _) rfl) ?_
                refine OpsE.yes rfl ?_
                refine OpsE.val (x_move (v := .pointer (some ⟨b, 0, none⟩)) ((hs4 9 rfl).trans ((hs2 9 rfl).trans ((hs1 9 rfl).trans (hs 9 rfl))))) ?_
                refine OpsE.yes rfl ?_
                replace H := StP.open.1 H.tail.tail
                refine OpsE.call (x_call (vl := [.pointer _]) rfl Try.call17) (SLow_spec H (fun w H => H.look b) hinv2.ok) ?_
                rintro _ w ⟨rfl, H⟩
                replace H := StP.open.2 H
                refine OpsE.yes rfl ?_
                refine OpsE.val (x_move (v := .int .i64 (lo2 : Int)) ((hs4 11 rfl).trans (hs2 11 rfl))) ?_
                refine OpsE.yes rfl ?_
                refine OpsE.val (x_neI rfl rfl) ?_
                rw [decide_eq_false (by rw [hinv2.low]; simp)]
                refine OpsE.val (x_pickF rfl rfl) ?_
                refine OpsE.val (x_move (v := .bool _) rfl) ?_
                refine OpsE.yes rfl ?_
                refine OpsE.val (x_move (v := .pointer (some ⟨b, 0, none⟩)) ((hs4 9 rfl).trans ((hs2 9 rfl).trans ((hs1 9 rfl).trans (hs 9 rfl))))) ?_
                refine OpsE.yes rfl ?_
                replace H := StP.open.1 H
                refine OpsE.call (x_call (vl := [.pointer _]) rfl Try.call16) (SLast_spec H (fun w H => H.look b) hinv2.ok) ?_
                rintro _ w ⟨rfl, H⟩
                replace H := StP.open.2 H
                refine OpsE.yes rfl ?_
                refine OpsE.val (x_move (v := r.val) ((hs4 8 rfl).trans ((hs2 8 rfl).trans ((hs1 8 rfl).trans (hs 8 rfl))))) ?_
                refine OpsE.yes rfl ?_
                refine OpsE.val (x_lenL rfl rfl Try.runUnderlying38) ?_
                refine OpsE.yes rfl ?_
                refine OpsE.val (x_neI rfl rfl) ?_
                rw [decide_eq_false (by rw [hlas2, hcl, hrl]; simp)]
                refine OpsE.val (x_pickF rfl rfl) ?_
                refine OpsE.nil ?_
                refine Then.normal ?_
                refine WP.cond_f rfl rfl ?_
                refine WP.skip ?_
                refine InBlock.normal ?_
                refine Then.normal ?_
                refine WP.region ?_
                refine OpsE.val (x_add (z := ((i + 1 : Nat) : Int)) ((hs4 49 rfl).trans ((hs2 49 rfl).trans ((hs1 49 rfl).trans e49))) rfl (by rw [i64n (by omega) (by omega)]; omega)) ?_
                refine OpsE.val (x_move (v := .int .i64 _) rfl) ?_
                refine OpsE.nil ?_
                refine Then.normal ?_
                refine ⟨rfl, (by repeat (first | exact hs | refine Same.upd ?_ rfl | refine Same.sub hs4 ?_ rfl | refine Same.sub hs2 ?_ rfl | refine Same.sub hs1 ?_ rfl)), i + 1, by omega, S2, lo2, rfl, ?_, by omega, hinv2, H⟩
                exact (hs4 11 rfl).trans (hs2 11 rfl)
      · rw [decide_eq_false hlt]
        refine OpsE.nil ?_
        refine Then.normal ?_
        refine WP.seq ?_
        refine WP.cond_f rfl rfl ?_
        refine WP.exit ?_
        refine Then.exit ?_
        refine Then.exit ?_
        refine InBlock.hit ?_
        refine Then.normal ?_
        refine WP.seq ?_
        refine WP.region ?_
        refine OpsE.val (x_assign (v := .bool _) rfl) ?_
        refine OpsE.nil ?_
        refine Then.normal ?_
        refine WP.ret ?_
        refine Leave0.ret (v := .bool _) rfl ?_
        rw [hR] at H
        exact ⟨rfl, H.tail.tail.tail.tail.tail⟩
  · rw [decide_eq_false c0]
    refine OpsE.val (x_not rfl) ?_
    refine OpsE.val (x_move (v := .bool _) rfl) ?_
    refine OpsE.no rfl ?_
    refine OpsE.no rfl ?_
    refine OpsE.no rfl ?_
    refine OpsE.val (x_pickT rfl rfl) ?_
    refine OpsE.nil ?_
    refine Then.normal ?_
    refine WP.cond_t rfl rfl ?_
    refine WP.seq ?_
    refine WP.region ?_
    refine OpsE.val (x_assign (v := .bool _) rfl) ?_
    refine OpsE.nil ?_
    refine Then.normal ?_
    refine WP.ret ?_
    refine Then.ret ?_
    refine Leave0.ret (v := .bool _) rfl ?_
    exact ⟨rfl, H⟩
end Go.Proofs.Ytbhbdpbhhfemhaa

/-
  The arguments of a law, opened: a row of numbers.
-/
namespace Go.Proofs.Ytbhbdpbhhfemhaa
open Go Go.Proofs
open Go.ChangeShapes Go.WideShapes Go.ChangeAt Go.RowKit
set_option maxRecDepth 100000
set_option maxHeartbeats 4000000
set_option linter.unusedVariables false

structure IntsOk (a : Option Addr) (n c : Nat) (zs : List Int) (W : World) : Prop where
  row : RIn intc TIn [init W] a n c zs
  bd : ∀ z ∈ zs, -9223372036854775808 ≤ z ∧ z ≤ 9223372036854775807
  n : n ≤ reachBytes
theorem open_is {H : Type} {enc : TypeId × Value → H} {W : World} {n : Nat} {cs : List Value} {x : DataW H × List MemPlace} (h : DataW.trod enc Try.prog W 0 (fun _ => true) true n 64 cs = some x) : ∃ (a : Option Addr) (m c : Nat) (zs : List Int), cs = [.slice a m c] ∧ (okL (x.1.weights Try.prog 64) → IntsOk a m c zs W) := by
  obtain ⟨a, m, c, xs, ds, sp, rfl, hr, hdl, hg, hx⟩ := open_slice (f := intc) (S := 1) (T := TIn) (Good := fun (d : DataW H) (z : Int) => -9223372036854775808 ≤ z ∧ z ≤ 9223372036854775807) intc_len (by decide) Try.underlying64 (by kernel_rfl) (fun n cs x h => by
    obtain ⟨z, rfl, rfl, hw⟩ := DataW.trod_int Try.underlying3 h
    exact ⟨z, rfl, by simpa [Lit.wf, IntKind.min, IntKind.max, IntKind.signed, IntKind.bits] using hw⟩) h
  refine ⟨a, m, c, xs, rfl, fun hw => ⟨hr, fun z hz => ?_, ?_⟩⟩
  · obtain ⟨d, _, h2⟩ := hg z hz; exact h2
  · obtain ⟨h1, h2⟩ := weights_elem Try.underlying64 hx hw
    have hb : Try.prog.bytesOf 3 = 8 := by kernel_rfl
    rw [hb] at h2
    rcases h2 with h2 | h2
    · rw [← hdl, h2]; exact Nat.zero_le _
    · omega
end Go.Proofs.Ytbhbdpbhhfemhaa
