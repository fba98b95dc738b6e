/-
  Parts of the proof, joined in one file: Base, Since, Free, Sort1, Sort2, Maps3, Sorted, Some, LawL, LawA, StoreP, Leavc, Shows, SomeP.
-/
import Derived.Test.YtbhbdpbhhfemhaaQ3
import Derived.Sort.AssemblyPlain
import Derived.Test.YtbhbdpbhhfemhaaQ2
set_option linter.unusedSimpArgs false
set_option linter.unusedVariables false
/-
  The store: Base.
-/
namespace Go.Proofs.Ytbhbdpbhhfemhaa
open Go Go.Proofs
set_option maxRecDepth 100000
set_option maxHeartbeats 8000000
set_option linter.unusedVariables false

/-- what belonged to all keys behind a commit -/
def baseL (ks : List KVs) (q : Int) : List Wr := ks.filterMap fun k => (atv k.2 q).map fun s => ⟨k.1, s, false⟩
theorem rgE_all (es : List Ent) : rgE ⟨#[]⟩ ⟨#[]⟩ es = es := by
  unfold rgE
  rw [List.filter_eq_self.2 fun e _ => by rw [show slt e.key ⟨#[]⟩ = false from slt_empty e.key]; rfl]
  have h : ∀ l : List Ent, (l.takeWhile fun e => decide ((⟨#[]⟩ : ByteArray) = ByteArray.empty) || slt e.key ⟨#[]⟩) = l := by
    intro l
    induction l with
    | nil => rfl
    | cons e l ih => rw [List.takeWhile_cons, show (decide ((⟨#[]⟩ : ByteArray) = ByteArray.empty) || slt e.key ⟨#[]⟩) = true by rw [decide_eq_true (show (⟨#[]⟩ : ByteArray) = ByteArray.empty from rfl)]; rfl, if_pos rfl, ih]
  exact h es
def yw (w : Wr) : List Value := [.string w.key, .string w.val]
theorem shE_base (es : List Ent) (q : Int) : (rgE ⟨#[]⟩ ⟨#[]⟩ es).filterMap (shE q) = (baseL (ek es) q).map yw := by
  rw [rgE_all]
  unfold baseL ek
  induction es with
  | nil => rfl
  | cons e es ih =>
    rw [List.map_cons, List.filterMap_cons, List.filterMap_cons]
    cases h : atv e.vs q with
    | none =>
      rw [show shE q e = none by unfold shE; rw [h]; rfl]
      simp only [h, Option.map_none]
      exact ih
    | some v =>
      rw [show shE q e = some [.string e.key, .string v] by unfold shE; rw [h]; rfl]
      simp only [h, Option.map_some, List.map_cons]
      rw [ih]; rfl
def BaseC (bs : List Wr) (b5 : Nat) (i : Nat) : HP := ex fun g : Rw Wr => HP.sep (lift (g.xs = bs.take i ∧ g.Ok 3)) (HP.sep (pt b5 (.cells [g.val].toArray 22 (0, 0))) (g.own wrc TWr))
theorem baseC_open {w : World} {bs : List Wr} {b5 i : Nat} {l : List HP} : Sat w (BaseC bs b5 i :: l) ↔ ∃ g : Rw Wr, (g.xs = bs.take i ∧ g.Ok 3) ∧ Sat w (pt b5 (.cells [g.val].toArray 22 (0, 0)) :: g.own wrc TWr :: l) := by
  unfold BaseC
  rw [sat_ex]
  constructor
  · rintro ⟨g, H⟩
    obtain ⟨h, H⟩ := sat_lift.1 (sat_sep.1 H)
    exact ⟨g, h, sat_sep.1 H⟩
  · rintro ⟨g, h, H⟩
    exact ⟨g, sat_sep.2 (sat_lift.2 ⟨h, sat_sep.2 H⟩)⟩
theorem baseL_len (es : List Ent) (q : Int) : (baseL (ek es) q).length ≤ es.length := by
  unfold baseL ek
  refine Nat.le_trans (List.length_filterMap_le _ _) ?_
  rw [List.length_map]; exact Nat.le_refl _
theorem Base_spec {w : World} {l : List HP} {b N : Nat} {S : SC} {q : Int} (H : Sat w (StP b S :: l)) (ok : S.Ok N) :
    Calls Try.prog 29 #[.pointer (some ⟨b, 0, none⟩), .int .i64 q] w (Ret fun v w' => ∃ g : Rw Wr, v = g.val ∧ g.xs = baseL (ek S.es) q ∧ g.Ok 3 ∧ Sat w' (g.own wrc TWr :: StP b S :: l)) := by
  replace H := StP.open.1 H
  have hNN := ok.N
  have hnum := ok.num
  obtain ⟨bs, hbs⟩ : ∃ bs, baseL (ek S.es) q = bs := ⟨_, rfl⟩
  have hbl : bs.length ≤ 500000 := by have := baseL_len S.es q; rw [hbs] at this; omega
  rw [hbs]
  refine Calls.of_wp_marks Try.func29 rfl Try.ntmps29 Try.results29 (Nat.le_of_ble_eq_true rfl) ?_
  refine WP.seq ?_
  refine WP.region ?_
  refine OpsE.val (x_assign (v := .slice _ _ _) rfl) ?_
  refine OpsE.nil ?_
  refine Then.normal ?_
  refine WP.seq ?_
  refine WP.region ?_
  refine OpsE.alloc1 Try.zeroValue22 rfl H ?_
  intro b5 w H
  refine OpsE.nil ?_
  refine Then.normal ?_
  refine WP.seq ?_
  refine WP.seq ?_
  refine WP.region ?_
  refine OpsE.val (x_move (v := .pointer _) rfl) ?_
  refine OpsE.val (x_move (v := .int .i64 _) rfl) ?_
  refine OpsE.call (x_call (vl := [.pointer _, .string _, .string _, .int .i64 _]) rfl Try.call32) (SRange_spec H) ?_
  rintro _ w ⟨c2, c3, c4, c5, rfl, H⟩
  refine OpsE.nil ?_
  refine Then.normal ?_
  refine WP.block ?_
  refine WP.rangeFunc (fun i => BaseC bs b5 i) (fun i e => lift False) rfl (SRange1_seq (b2 := c2) (b3 := c3) (b4 := c4) (b5 := c5) (x := ⟨#[]⟩) (y := ⟨#[]⟩) (q := q) (b := b) (r := S.h5 :: S.h6 :: l) ok) (fun args h => by rw [shE_base] at h; obtain ⟨_, _, rfl⟩ := List.mem_map.1 h; rfl) (baseC_open.2 ⟨⟨[], none⟩, ⟨rfl, Rw.empty_ok⟩, H.perm (by
    show _ = stars (pt b5 (.cells [(⟨[], none⟩ : Rw Wr).val].toArray 22 (0, 0)) :: HP.one :: bQ c2 b :: TC.bS c3 ⟨#[]⟩ :: TC.bS c4 ⟨#[]⟩ :: bI c5 q :: S.h1 b :: S.t.ap :: TC.Lvs S.t.lv :: S.h4 :: S.h5 :: S.h6 :: l)
    simp only [stars_cons]; ac_rfl)⟩) ?_ ?_ ?_
  · intro i args lp w hxi
    rw [shE_base, hbs] at hxi
    obtain ⟨x, hx, rfl⟩ : ∃ x, bs[i]? = some x ∧ yw x = args := by simpa using hxi
    refine WP.seq ?_
    refine WP.region ?_
    refine OpsE.val (x_assign (v := .string _) rfl) ?_
    refine OpsE.nil ?_
    refine Then.normal ?_
    refine WP.region ?_
    refine OpsE.val (x_assign (v := .string _) rfl) ?_
    refine OpsE.nil ?_
    refine ⟨rfl, rfl, rfl, fun w Fr H => ?_⟩
    obtain ⟨g, ⟨hg1, hg2⟩, H2⟩ := baseC_open.1 H.swap
    replace H := H2
    refine WP.block ?_
    refine WP.region ?_
    refine OpsE.val (x_load (v := g.val) rfl Try.isAgg22 (H.look _) rfl) ?_
    refine OpsE.val (x_move (v := .string _) rfl) ?_
    refine OpsE.val (x_move (v := .string _) rfl) ?_
    refine OpsE.val (x_build3_2 (vl := [.string _, .string _]) rfl Try.zeroValue26 Try.runUnderlying26 Try.sizeOf9 Try.sizeOf9 Try.sizeOf4 rfl) ?_
    refine OpsE.buildSlice1 (vs := wrc ⟨x.key, x.val, false⟩) KW (by decide) rfl rfl rfl (by decide) H ?_
    intro sg w H
    have hgl : g.xs.length ≤ 500000 := by rw [hg1, List.length_take]; omega
    refine OpsE.append_rw (f := wrc) (r := g) (ys := [⟨x.key, x.val, false⟩]) rfl KW wrc_len wrc_one rfl rfl H hg2 (H.look sg) rfl rfl (by decide) (by omega) (by omega) ?_
    intro g' w hh1 hh2 hh3 H
    refine OpsE.store (v := .slice _ _ _) rfl rfl rfl rfl Try.sizeOf22 H (by simp) ?_
    intro w H
    simp only [List.set_cons_zero, List.set_cons_succ] at H
    refine OpsE.nil ?_
    refine InBlock.normal ?_
    show Sat w (Fr :: BaseC _ _ _ :: _)
    have hxg : x.gone = false := by
      have h1 : x ∈ bs := List.mem_of_getElem? hx
      rw [← hbs] at h1
      obtain ⟨k, _, hk⟩ := List.mem_filterMap.1 h1
      cases hc : atv k.2 q with
      | none => rw [hc] at hk; cases hk
      | some v => rw [hc] at hk; cases hk; rfl
    have hx2 : (⟨x.key, x.val, false⟩ : Wr) = x := by rw [← hxg]
    refine Sat.swap (baseC_open.2 ⟨g', ⟨by rw [hh1, hg1, hx2, List.take_add_one, hx]; rfl, hh2⟩, ?_⟩)
    exact (H.take (pt sg (.cells (wrc ⟨x.key, x.val, false⟩).toArray TWr (0, 0)))).tail
  · intro bm w H
    rw [shE_base, hbs, List.length_map] at H
    obtain ⟨g, ⟨hg1, hg2⟩, H2⟩ := baseC_open.1 H.swap
    replace H := H2
    refine InBlock.normal ?_
    refine Then.normal ?_
    refine WP.seq ?_
    refine WP.region ?_
    refine OpsE.val (x_load (v := g.val) rfl Try.isAgg22 (H.look _) rfl) ?_
    refine OpsE.val (x_assign (v := .slice _ _ _) rfl) ?_
    refine OpsE.nil ?_
    refine Then.normal ?_
    refine WP.ret ?_
    refine Leave.ret (v := .slice _ _ _) rfl ?_
    refine ⟨[bm], rfl, (pt b5 (.cells [g.val].toArray 22 (0, 0)) :: bQ c2 b :: TC.bS c3 ⟨#[]⟩ :: TC.bS c4 ⟨#[]⟩ :: bI c5 q :: g.own wrc TWr :: S.h1 b :: S.t.ap :: TC.Lvs S.t.lv :: S.h4 :: S.h5 :: S.h6 :: l), ?_, fun w' H' => ⟨g, rfl, by rw [hg1, List.take_length], hg2, ?_⟩⟩
    · refine H.perm ?_
      show stars (pt b5 (.cells [g.val].toArray 22 (0, 0)) :: g.own wrc TWr :: pt bm (.deferred (some [])) :: bQ c2 b :: TC.bS c3 ⟨#[]⟩ :: TC.bS c4 ⟨#[]⟩ :: bI c5 q :: S.h1 b :: S.t.ap :: TC.Lvs S.t.lv :: S.h4 :: S.h5 :: S.h6 :: l) = stars (pt bm (.deferred (some [])) :: pt b5 (.cells [g.val].toArray 22 (0, 0)) :: bQ c2 b :: TC.bS c3 ⟨#[]⟩ :: TC.bS c4 ⟨#[]⟩ :: bI c5 q :: g.own wrc TWr :: S.h1 b :: S.t.ap :: TC.Lvs S.t.lv :: S.h4 :: S.h5 :: S.h6 :: l)
      simp only [stars_cons]; ac_rfl
    · exact ((StP.open (l := g.own wrc TWr :: l)).2 (H'.tail.tail.tail.tail.tail.perm (by simp only [stars_cons]; ac_rfl))).swap
  · intro bm i e c w hi hj H
    cases e with
    | ret =>
      exact (sat_lift.1 H.swap).1.elim
    | exit id =>
      exact (sat_lift.1 H.swap).1.elim
    | _ => cases hj
end Go.Proofs.Ytbhbdpbhhfemhaa

/-
  The store: Since.
-/
namespace Go.Proofs.Ytbhbdpbhhfemhaa
open Go Go.Proofs
set_option maxRecDepth 100000
set_option maxHeartbeats 8000000
set_option linter.unusedVariables false

theorem Sat.only {w : World} {A : HP} {l : List HP} (H : Sat w (A :: l)) : Sat w [A] := Sat.left (l := [A]) (m := l) H

/-- the writes of a commit of a list, read -/
theorem cm_at {w : World} {xs : List Cm} {l : List HP} {c : Cm} {p : Nat × Nat × List Value} (hc : c ∈ xs) (H : Sat w (stars (xs.map cmH) :: l)) (hp : c.w.arr = some p) : w.heap[p.1]? = some (.cells (c.w.xs.flatMap wrc ++ p.2.2).toArray TWr (0, 0)) := by
  obtain ⟨i, hi, rfl⟩ := List.mem_iff_getElem.1 hc
  have h1 := H.star_out (f := cmH) (k := i) (y := xs[i]) (by simp)
  unfold cmH Rw.ror at h1
  rw [hp] at h1
  exact h1.ro_get
theorem rin_cm {l m : List HP} {xs : List Cm} {c : Cm} (hc : c ∈ xs) (ok : c.w.Ok 3) [t : Take l (stars (xs.map cmH)) m] : RIn wrc TWr l c.w.ad c.w.xs.length c.w.cp c.w.xs :=
  c.w.rin_of ok fun w p H hp => cm_at hc (H.take (stars (xs.map cmH))) hp
theorem cmH_dup (xs : List Cm) : Dup (stars (xs.map cmH)) := stars_dup fun A hA => by
  obtain ⟨c, _, rfl⟩ := List.mem_map.1 hA
  exact Rw.ror_dup _

theorem Since_spec {w : World} {l : List HP} {b N : Nat} {S : SC} {q : Int} (H : Sat w (StP b S :: l)) (ok : S.Ok N) (hhl : S.hist.xs.length ≤ 1000000) (hwl : ∀ c ∈ S.hist.xs, c.w.xs.length ≤ 1000) :
    Calls Try.prog 38 #[.pointer (some ⟨b, 0, none⟩), .int .i64 q] w (Ret fun v w' =>
      (q < S.low ∧ v = .tuple #[.slice none 0 0, .int .i64 12] ∧ Sat w' (StP b S :: l)) ∨ (S.low ≤ q ∧ S.last < q ∧ v = .tuple #[.slice none 0 0, .int .i64 13] ∧ Sat w' (StP b S :: l)) ∨
      (S.low ≤ q ∧ q ≤ S.last ∧ ∃ r : Rw Cm, v = .tuple #[r.val, .int .i64 0] ∧ r.xs.map cma = (S.hist.xs.map cma).drop (q - S.low).toNat ∧ r.Ok 3 ∧ (∀ c ∈ r.xs, c.w.Ok 3) ∧ Sat w' (r.own cmc TCm :: stars (r.xs.map cmH) :: StP b S :: l))) := by
  have hlow := ok.low
  have hlast := ok.last
  replace H := StP.open.1 H
  refine Calls.of_wp Try.func38 rfl Try.ntmps38 Try.results38 (Nat.le_of_ble_eq_true rfl) ?_
  refine WP.seq ?_
  refine WP.region ?_
  refine OpsE.val (x_assign (v := .slice _ _ _) rfl) ?_
  refine OpsE.val (x_assign (v := .int .i64 _) rfl) ?_
  refine OpsE.nil ?_
  refine Then.normal ?_
  refine WP.seq ?_
  refine WP.block ?_
  refine WP.seq ?_
  refine WP.region ?_
  refine OpsE.val (x_move (v := .int .i64 _) rfl) ?_
  refine OpsE.val (x_move (v := .pointer _) rfl) ?_
  refine OpsE.call (x_call (vl := [.pointer _]) rfl Try.call17) (SLow_spec H (fun w H => H.look b) ok) ?_
  rintro _ w ⟨rfl, H⟩
  refine OpsE.val (x_lt rfl rfl) ?_
  by_cases c1 : q < S.low
  · rw [decide_eq_true c1]
    refine OpsE.val (x_assign (v := .bool _) rfl) ?_
    refine OpsE.nil ?_
    refine Then.normal ?_
    refine WP.cond_t rfl rfl ?_
    refine WP.seq ?_
    refine WP.region ?_
    refine OpsE.val (x_assign (v := .slice _ _ _) rfl) ?_
    refine OpsE.val (x_assign (v := .int .i64 _) rfl) ?_
    refine OpsE.nil ?_
    refine Then.normal ?_
    refine WP.ret ?_
    refine InBlock.ret ?_
    refine Then.ret ?_
    refine Leave0.ret (v := .tuple #[.slice _ _ _, .int .i64 _]) rfl ?_
    exact .inl ⟨c1, rfl, StP.open.2 H⟩
  · rw [decide_eq_false c1]
    refine OpsE.val (x_assign (v := .bool _) rfl) ?_
    refine OpsE.nil ?_
    refine Then.normal ?_
    refine WP.cond_f rfl rfl ?_
    refine WP.seq ?_
    refine WP.region ?_
    refine OpsE.val (x_move (v := .int .i64 _) rfl) ?_
    refine OpsE.val (x_move (v := .pointer _) rfl) ?_
    refine OpsE.call (x_call (vl := [.pointer _]) rfl Try.call16) (SLast_spec H (fun w H => H.look b) ok) ?_
    rintro _ w ⟨rfl, H⟩
    refine OpsE.val (x_gt rfl rfl) ?_
    by_cases c2 : q > S.last
    · rw [decide_eq_true c2]
      refine OpsE.val (x_assign (v := .bool _) rfl) ?_
      refine OpsE.nil ?_
      refine Then.normal ?_
      refine WP.cond_t rfl rfl ?_
      refine WP.seq ?_
      refine WP.region ?_
      refine OpsE.val (x_assign (v := .slice _ _ _) rfl) ?_
      refine OpsE.val (x_assign (v := .int .i64 _) rfl) ?_
      refine OpsE.nil ?_
      refine Then.normal ?_
      refine WP.ret ?_
      refine InBlock.ret ?_
      refine Then.ret ?_
      refine Leave0.ret (v := .tuple #[.slice _ _ _, .int .i64 _]) rfl ?_
      exact .inr (.inl ⟨by omega, by omega, rfl, StP.open.2 H⟩)
    · rw [decide_eq_false c2]
      refine OpsE.val (x_assign (v := .bool _) rfl) ?_
      refine OpsE.nil ?_
      refine Then.normal ?_
      refine WP.cond_f rfl rfl ?_
      refine WP.skip ?_
      refine InBlock.normal ?_
      refine Then.normal ?_
      refine WP.seq ?_
      refine WP.region ?_
      refine OpsE.val (x_assign (v := .slice _ _ _) rfl) ?_
      refine OpsE.nil ?_
      refine Then.normal ?_
      refine WP.seq ?_
      refine WP.seq ?_
      refine WP.region ?_
      refine OpsE.val (x_move (v := .pointer _) rfl) ?_
      refine OpsE.val (x_nePs rfl rfl Try.runUnderlying28) ?_
      refine OpsE.nil ?_
      refine Then.normal ?_
      refine WP.cond_t rfl rfl ?_
      refine WP.seq ?_
      obtain ⟨dn, hdn⟩ : ∃ dn : Nat, (q - S.low).toNat = dn := ⟨_, rfl⟩
      have hdl : dn ≤ S.hist.xs.length := by unfold SC.last at c2; omega
      have hdz : (dn : Int) = q - S.low := by omega
      have hrh : RIn cmc TCm [S.hist.own cmc TCm] S.hist.ad S.hist.xs.length S.hist.cp S.hist.xs := Rw.rin_own S.hist ok.hist
      refine WP.draw (fun w => Sat w _) (by kernel_rfl) (by kernel_rfl) (H.heap rfl) ?_
      refine QuietE.val (fun w H => x_move (v := .pointer _) rfl) ?_
      refine QuietE.val (fun w H => x_nilCheck rfl) ?_
      refine QuietE.val (fun w H => x_fieldAddr (o := 3) rfl Try.runUnderlying82 rfl rfl Try.sizeOf38) ?_
      refine QuietE.val (fun w H => x_load (v := S.hist.val) rfl Try.isAgg38 (H.look _) rfl) ?_
      refine QuietE.val (fun w H => x_move (v := .int .i64 _) rfl) ?_
      refine QuietE.val (fun w H => x_move (v := .pointer _) rfl) ?_
      refine QuietE.val (fun w H => x_nilCheck rfl) ?_
      refine QuietE.val (fun w H => x_fieldAddr (o := 2) rfl Try.runUnderlying82 rfl rfl Try.sizeOf3) ?_
      refine QuietE.val (fun w H => x_load (v := .int .i64 S.low) rfl Try.isAgg3 (H.look _) rfl) ?_
      refine QuietE.val (fun w H => x_sub (z := (dn : Int)) rfl rfl (by rw [i64n (by omega) (by omega)]; omega)) ?_
      obtain ⟨ad', hsl, hrin⟩ := rin_slice (P := Try.prog) (f := cmc) (T := 38) cmc_len hrh Try.runUnderlying38 Try.sizeOf33 hdl
      refine QuietE.val (fun w H => hsl _ _ _ _ .i64 w rfl rfl) ?_
      refine QuietE.val (fun w H => x_lenL rfl rfl Try.runUnderlying38) ?_
      refine QuietE.val (fun w H => x_move (v := .int .i64 _) rfl) ?_
      refine QuietE.nil ?_
      intro w H
      refine Then.normal ?_
      refine WP.block ?_
      have H0 : Sat w ((⟨[], none⟩ : Rw Cm).own cmc TCm :: stars (([] : List Cm).map cmH) :: StP b S :: l) := (StP.open.2 H).perm (by show _ = stars (HP.one :: HP.one :: StP b S :: l); simp only [stars_cons]; rw [HP.sep_comm HP.one, HP.sep_one, HP.sep_comm HP.one, HP.sep_one])
      refine WP.loopS [6, 8, 33, 34, 35, 36, 37, 38, 39, 40, 41, 42, 43, 44, 45] (fun (i : Nat) E w => ∃ r : Rw Cm, E 33 = .int .i64 (i : Int) ∧ E 6 = r.val ∧ i ≤ S.hist.xs.length - dn ∧ r.xs.map cma = ((S.hist.xs.drop dn).take i).map cma ∧ r.Ok 3 ∧ (∀ c ∈ r.xs, c.w.Ok 3) ∧ Sat w (r.own cmc TCm :: stars (r.xs.map cmH) :: StP b S :: l)) (fun i => S.hist.xs.length - dn - i) 0 ⟨⟨[], none⟩, rfl, rfl, Nat.zero_le _, rfl, Rw.empty_ok, (fun _ h => by cases h), H0⟩ ?_
      clear H H0
      rintro i E1 w hs ⟨r, e33, e6, hin, hrx, hro, hrw, H⟩
      refine WP.seq ?_
      refine WP.region ?_
      refine OpsE.val (x_lt e33 (hs 32 rfl)) ?_
      by_cases hlt : (i : Int) < ((S.hist.xs.length - dn : Nat) : Int)
      · rw [decide_eq_true hlt]
        refine OpsE.nil ?_
        refine Then.normal ?_
        refine WP.seq ?_
        refine WP.cond_t rfl rfl ?_
        refine WP.skip ?_
        refine Then.normal ?_
        refine WP.seq ?_
        refine WP.block ?_
        refine WP.seq ?_
        obtain ⟨bb, off, B, fz, pre, post, rfl, hB, hBl, hpo⟩ := hrin.some (by omega)
        obtain ⟨c, hc⟩ : ∃ c, (S.hist.xs.drop dn)[i]? = some c := ⟨_, List.getElem?_eq_getElem (by rw [List.length_drop]; omega)⟩
        have hcm : c ∈ S.hist.xs := List.mem_of_mem_drop (List.mem_of_getElem? hc)
        have hcl := hwl c hcm
        have hco := ok.ws c hcm
        have hrl : r.xs.length = i := by have := congrArg List.length hrx; rw [List.length_map, List.length_map, List.length_take, List.length_drop] at this; omega
        replace H := StP.open.1 (H.take (StP b S))
        refine WP.region ?_
        refine OpsE.val (x_indexAddro (i := i) (hs 31 rfl) e33 Try.runUnderlying38 Try.sizeOf33 rfl (by omega)) ?_
        refine OpsE.val (x_loadA (vs := cmc c) rfl Try.isAgg33 Try.sizeOf33 (hB w (H.take S.h5).only) (row_el cmc_len hBl hpo hc) rfl) ?_
        refine OpsE.allocA Try.zeroValue33 H ?_
        intro b8 w H
        refine OpsE.storeA (vs := cmc c) rfl rfl Try.sizeOf33 H (cmc_one c) (Nat.le_refl _) ?_
        intro w H
        refine OpsE.nil ?_
        refine Then.normal ?_
        refine WP.seq ?_
        refine WP.region ?_
        refine OpsE.val (x_fieldAddr (o := 2) rfl Try.runUnderlying33 rfl rfl Try.sizeOf22) ?_
        refine OpsE.val (x_load (v := c.w.val) rfl Try.isAgg22 (H.look _) rfl) ?_
        refine OpsE.call (x_call (vl := [.slice _ _ _]) rfl Try.call44) (CW.Clone_rin wrc_len wrc_one H (rin_cm hcm hco) (by omega)) ?_
        rintro _ w ⟨r', rfl, hxs, hrO, H⟩
        refine OpsE.val (x_fieldAddr (o := 2) rfl Try.runUnderlying33 rfl rfl Try.sizeOf22) ?_
        refine OpsE.store (v := .slice _ _ _) rfl rfl rfl rfl Try.sizeOf22 H (by show 2 < 3; decide) ?_
        intro w H
        refine OpsE.nil ?_
        refine Then.normal ?_
        obtain ⟨cm, hcm2⟩ : ∃ cm : Cm, cm = ⟨c.seq, c.time, r'⟩ := ⟨_, rfl⟩
        have H0 : Sat w (r.own cmc TCm :: pt b8 (.cells (cmc cm).toArray TCm (0, 0)) :: r'.own wrc TWr :: stars (r.xs.map cmH) :: S.h1 b :: S.t.ap :: TC.Lvs S.t.lv :: S.h4 :: S.h5 :: S.h6 :: l) := by
          have h1 : Sat w (pt b8 (.cells (cmc cm).toArray TCm (0, 0)) :: r'.own wrc TWr :: S.h1 b :: S.t.ap :: TC.Lvs S.t.lv :: S.h4 :: S.h5 :: S.h6 :: r.own cmc TCm :: stars (r.xs.map cmH) :: l) := by rw [hcm2]; exact H
          exact h1.perm (by simp only [stars_cons]; ac_rfl)
        replace H := H0
        refine WP.region ?_
        refine OpsE.val (x_move (v := .slice _ _ _) e6) ?_
        refine OpsE.val (x_loadA (vs := cmc cm) rfl Try.isAgg33 Try.sizeOf33 (H.look _) rfl rfl) ?_
        refine OpsE.buildSlice1 (vs := cmc cm) CM.K (by decide) rfl rfl rfl (by decide) H ?_
        intro g w H
        refine OpsE.append_rw (f := cmc) (r := r) (ys := [cm]) rfl CM.K cmc_len cmc_one rfl rfl H hro (H.look g) (by simp) rfl (by decide) (by have := ok.hl; omega) (by have := ok.hl; omega) ?_
        intro r2 w hh1 hh2 hh3 H
        refine OpsE.val (x_assign (v := .slice _ _ _) rfl) ?_
        refine OpsE.nil ?_
        refine InBlock.normal ?_
        refine Then.normal ?_
        refine WP.region ?_
        refine OpsE.val (x_add (z := ((i + 1 : Nat) : Int)) e33 rfl (by rw [i64n (by omega) (by omega)]; omega)) ?_
        refine OpsE.val (x_move (v := .int .i64 _) rfl) ?_
        refine OpsE.nil ?_
        refine Then.normal ?_
        refine ⟨rfl, (by repeat (first | exact hs | refine Same.upd ?_ rfl)), i + 1, by omega, r2, rfl, rfl, by omega, ?_, hh2, fun c' hc' => ?_, ?_⟩
        · rw [hh1, List.take_add_one, hc, List.map_append, List.map_append, hrx, hcm2]
          show _ ++ [(c.seq, c.time, r'.xs)] = _ ++ [cma c]
          rw [hxs]; rfl
        · rw [hh1] at hc'
          rcases List.mem_append.1 hc' with h | h
          · exact hrw c' h
          · rcases List.mem_singleton.1 h with rfl
            rw [hcm2]; exact hrO
        · have h1 := (H.take (pt g (.cells (cmc cm).toArray TCm (0, 0)))).tail
          have h2 := (h1.take (pt b8 (.cells (cmc cm).toArray TCm (0, 0)))).tail
          have h3 := Rw.freeze (h2.take (r'.own wrc TWr))
          have h4 : Sat w (S.h1 b :: S.t.ap :: TC.Lvs S.t.lv :: S.h4 :: S.h5 :: S.h6 :: r2.own cmc TCm :: stars (r2.xs.map cmH) :: l) := h3.perm (by
            have e1 : stars (r2.xs.map cmH) = HP.sep (stars (r.xs.map cmH)) (r'.ror wrc TWr) := by
              rw [hh1, List.map_append, stars_append, show stars ([cm].map cmH) = HP.sep (cmH cm) HP.one from rfl, HP.sep_one, hcm2]; rfl
            simp only [stars_cons]
            rw [e1]
            ac_rfl)
          exact (StP.open.2 h4).perm (by simp only [stars_cons]; ac_rfl)
      · rw [decide_eq_false hlt]
        refine OpsE.nil ?_
        refine Then.normal ?_
        refine WP.seq ?_
        refine WP.cond_f rfl rfl ?_
        refine WP.exit ?_
        refine Then.exit ?_
        refine Then.exit ?_
        refine InBlock.hit ?_
        refine Then.normal ?_
        refine WP.seq ?_
        refine WP.region ?_
        refine OpsE.val (x_move (v := .slice _ _ _) e6) ?_
        refine OpsE.val (x_assign (v := .slice _ _ _) rfl) ?_
        refine OpsE.val (x_assign (v := .int .i64 _) rfl) ?_
        refine OpsE.nil ?_
        refine Then.normal ?_
        refine WP.ret ?_
        refine Leave0.ret (v := .tuple #[.slice _ _ _, .int .i64 _]) rfl ?_
        have hie : i = S.hist.xs.length - dn := by omega
        refine .inr (.inr ⟨by omega, by omega, r, rfl, ?_, hro, hrw, H⟩)
        rw [hrx, hdn, List.take_of_length_le (by rw [List.length_drop]; omega), List.map_drop]
end Go.Proofs.Ytbhbdpbhhfemhaa

/-
  The store: Free.
-/
namespace Go.Proofs.Ytbhbdpbhhfemhaa
open Go Go.Proofs
set_option maxRecDepth 100000
set_option maxHeartbeats 8000000
set_option linter.unusedVariables false

abbrev fnV (f : FuncId) (caps : List Value) : Value := .func (.func f) #[] caps.toArray
theorem IndexFunc_spec {w : World} {l : List HP} {a : Option Addr} {n c : Nat} {ws : List Wr} {g : FuncId} {caps : List Value} {p : Wr → Bool} (H : Sat w l) (hr : RIn wrc TWr l a n c ws) (hn : n ≤ 1000000) (hc : ∀ args w, (callFunc g args).run Try.prog w = .ok (.enter g args) w)
    (hg : ∀ x ∈ ws, ∀ w, Sat w l → Calls Try.prog g ([Value.agg (wrc x).toArray] ++ caps).toArray w (Ret fun v w' => v = .bool (p x) ∧ Sat w' l)) :
    Calls Try.prog 74 #[.slice a n c, fnV g caps] w (Ret fun v w' => ∃ z : Int, v = .int .i64 z ∧ (0 ≤ z ↔ ws.any p = true) ∧ Sat w' l) := by
  have hlen := hr.len
  refine Calls.of_wp Try.func74 rfl Try.ntmps74 Try.results74 (Nat.le_of_ble_eq_true rfl) ?_
  refine WP.seq ?_
  refine WP.region ?_
  refine OpsE.val (x_assign (v := .int .i64 _) rfl) ?_
  refine OpsE.nil ?_
  refine Then.normal ?_
  refine WP.seq ?_
  refine WP.seq ?_
  refine WP.region ?_
  refine OpsE.val (x_move (v := .slice _ _ _) rfl) ?_
  refine OpsE.val (x_lenL rfl rfl Try.runUnderlying22) ?_
  refine OpsE.val (x_move (v := .int .i64 _) rfl) ?_
  refine OpsE.nil ?_
  refine Then.normal ?_
  refine WP.block ?_
  refine WP.loopS [4, 5, 8, 9, 10, 11, 12, 13, 14, 15, 16, 17, 18] (fun (i : Nat) E w => E 8 = .int .i64 (i : Int) ∧ i ≤ n ∧ (∀ x ∈ ws.take i, p x = false) ∧ Sat w l) (fun i => n - i) 0 ⟨rfl, Nat.zero_le _, (fun _ h => by cases h), H⟩ ?_
  clear H
  rintro i E1 w hs ⟨e8, hin, hno, H⟩
  refine WP.seq ?_
  refine WP.region ?_
  refine OpsE.val (x_lt e8 (hs 7 rfl)) ?_
  by_cases hlt : (i : Int) < (n : Int)
  · rw [decide_eq_true hlt]
    refine OpsE.nil ?_
    refine Then.normal ?_
    refine WP.seq ?_
    refine WP.cond_t rfl rfl ?_
    refine WP.skip ?_
    refine Then.normal ?_
    refine WP.seq ?_
    refine WP.block ?_
    refine WP.seq ?_
    refine WP.region ?_
    refine OpsE.val (x_move (v := .int .i64 _) e8) ?_
    refine OpsE.val (x_assign (v := .int .i64 _) rfl) ?_
    refine OpsE.nil ?_
    refine Then.normal ?_
    refine WP.seq ?_
    obtain ⟨bb, off, B, fz, pre, post, rfl, hB, hBl, hpo⟩ := hr.some (by omega)
    obtain ⟨x, hx⟩ : ∃ x, ws[i]? = some x := ⟨_, List.getElem?_eq_getElem (by omega)⟩
    refine WP.region ?_
    refine OpsE.val (x_move (v := fnV g caps) (hs 1 rfl)) ?_
    refine OpsE.val (x_move (v := .slice _ _ _) (hs 0 rfl)) ?_
    refine OpsE.val (x_move (v := .int .i64 _) rfl) ?_
    refine OpsE.val (x_indexAddro (i := i) rfl rfl Try.runUnderlying22 Try.sizeOf26 rfl (by omega)) ?_
    refine OpsE.val (x_loadA (vs := wrc x) rfl Try.isAgg26 Try.sizeOf26 (hB w H) (row_el wrc_len hBl hpo hx) rfl) ?_
    refine OpsE.call (x_callV (cl := caps) (vl := [.agg (wrc x).toArray]) rfl rfl hc) (hg x (List.mem_of_getElem? hx) w H) ?_
    rintro _ w ⟨rfl, H⟩
    refine OpsE.nil ?_
    refine Then.normal ?_
    refine WP.cond rfl (fun hp => ?_) (fun hp => ?_)
    · skip
      refine WP.seq ?_
      refine WP.region ?_
      refine OpsE.val (x_move (v := .int .i64 _) rfl) ?_
      refine OpsE.val (x_assign (v := .int .i64 _) rfl) ?_
      refine OpsE.nil ?_
      refine Then.normal ?_
      refine WP.ret ?_
      refine InBlock.ret ?_
      refine Then.ret ?_
      refine Then.ret ?_
      refine InBlock.ret ?_
      refine Then.ret ?_
      refine Leave0.ret (v := .int .i64 _) rfl ?_
      refine ⟨(i : Int), rfl, ⟨fun _ => List.any_eq_true.2 ⟨x, List.mem_of_getElem? hx, hp⟩, fun _ => by omega⟩, H⟩
    · skip
      refine WP.skip ?_
      refine InBlock.normal ?_
      refine Then.normal ?_
      refine WP.region ?_
      refine OpsE.val (x_add (z := ((i + 1 : Nat) : Int)) e8 rfl (by rw [i64n (by omega) (by omega)]; omega)) ?_
      refine OpsE.val (x_move (v := .int .i64 _) rfl) ?_
      refine OpsE.nil ?_
      refine Then.normal ?_
      refine ⟨rfl, (by repeat (first | exact hs | refine Same.upd ?_ rfl)), i + 1, by omega, rfl, by omega, fun y hy => ?_, H⟩
      rw [List.take_add_one, hx] at hy
      rcases List.mem_append.1 hy with h | h
      · exact hno y h
      · rcases List.mem_singleton.1 h with rfl; exact hp
  · rw [decide_eq_false hlt]
    refine OpsE.nil ?_
    refine Then.normal ?_
    refine WP.seq ?_
    refine WP.cond_f rfl rfl ?_
    refine WP.exit ?_
    refine Then.exit ?_
    refine Then.exit ?_
    refine InBlock.hit ?_
    refine Then.normal ?_
    refine WP.seq ?_
    refine WP.region ?_
    refine OpsE.val (x_assign (v := .int .i64 _) rfl) ?_
    refine OpsE.nil ?_
    refine Then.normal ?_
    refine WP.ret ?_
    refine Leave0.ret (v := .int .i64 _) rfl ?_
    refine ⟨-1, rfl, ⟨fun h => by omega, fun h => ?_⟩, H⟩
    obtain ⟨y, hy, hpy⟩ := List.any_eq_true.1 h
    rw [show i = ws.length by omega, List.take_length] at hno
    rw [hno y hy] at hpy; cases hpy
theorem ContainsFunc_spec {w : World} {l : List HP} {a : Option Addr} {n c : Nat} {ws : List Wr} {g : FuncId} {caps : List Value} {p : Wr → Bool} (H : Sat w l) (hr : RIn wrc TWr l a n c ws) (hn : n ≤ 1000000) (hc : ∀ args w, (callFunc g args).run Try.prog w = .ok (.enter g args) w)
    (hg : ∀ x ∈ ws, ∀ w, Sat w l → Calls Try.prog g ([Value.agg (wrc x).toArray] ++ caps).toArray w (Ret fun v w' => v = .bool (p x) ∧ Sat w' l)) :
    Calls Try.prog 57 #[.slice a n c, fnV g caps] w (Ret fun v w' => v = .bool (ws.any p) ∧ Sat w' l) := by
  refine Calls.of_wp Try.func57 rfl Try.ntmps57 Try.results57 (Nat.le_of_ble_eq_true rfl) ?_
  refine WP.seq ?_
  refine WP.region ?_
  refine OpsE.val (x_assign (v := .bool _) rfl) ?_
  refine OpsE.nil ?_
  refine Then.normal ?_
  refine WP.seq ?_
  refine WP.region ?_
  refine OpsE.val (x_move (v := .slice _ _ _) rfl) ?_
  refine OpsE.val (x_move (v := fnV g caps) rfl) ?_
  refine OpsE.call (x_call (vl := [.slice _ _ _, fnV g caps]) rfl Try.call74) (IndexFunc_spec H hr hn hc hg) ?_
  rintro _ w ⟨z, rfl, hz, H⟩
  refine OpsE.val (x_ge rfl rfl) ?_
  refine OpsE.val (x_assign (v := .bool _) rfl) ?_
  refine OpsE.nil ?_
  refine Then.normal ?_
  refine WP.ret ?_
  refine Leave0.ret (v := .bool _) rfl ?_
  refine ⟨?_, H⟩
  rw [Bool.eq_iff_iff.2 (show decide (z ≥ 0) = true ↔ ws.any p = true from decide_eq_true_iff.trans hz)]
theorem Free1_spec {w : World} {l : List HP} {b c3 c5 N : Nat} {S : SC} {q : Int} {x : Wr} (H : Sat w (bQ c3 b :: bI c5 q :: S.h1 b :: S.t.ap :: TC.Lvs S.t.lv :: S.h4 :: l)) (ok : S.Ok N) :
    Calls Try.prog 58 #[.agg (wrc x).toArray, .pointer (some ⟨c3, 0, none⟩), .pointer (some ⟨c5, 0, none⟩)] w (Ret fun v w' => v = .bool (decide (lastI (vsOf S.es x.key) > q)) ∧ Sat w' (bQ c3 b :: bI c5 q :: S.h1 b :: S.t.ap :: TC.Lvs S.t.lv :: S.h4 :: l)) := by
  refine Calls.of_wp Try.func58 rfl Try.ntmps58 Try.results58 (Nat.le_of_ble_eq_true rfl) ?_
  refine WP.seq ?_
  refine WP.region ?_
  refine OpsE.boxA (cs := wrc x) rfl H ?_
  intro b3 w H
  refine OpsE.val (x_assign (v := .bool _) rfl) ?_
  refine OpsE.nil ?_
  refine Then.normal ?_
  refine WP.seq ?_
  replace H := H.take3 (S.h1 b) S.t.ap (TC.Lvs S.t.lv)
  refine WP.draw (fun w => Sat w _) (by kernel_rfl) (by kernel_rfl) (H.heap rfl) ?_
  refine QuietE.val (fun w H => x_load (v := .pointer (some ⟨b, 0, none⟩)) rfl Try.isAgg28 (H.look _) rfl) ?_
  refine QuietE.val (fun w H => x_nilCheck rfl) ?_
  refine QuietE.val (fun w H => x_fieldAddr0 rfl Try.runUnderlying82 rfl rfl Try.sizeOf80) ?_
  refine QuietE.val (fun w H => x_fieldAddr0 rfl Try.runUnderlying26 rfl rfl Try.sizeOf9) ?_
  refine QuietE.val (fun w H => x_load (v := .string x.key) rfl Try.isAgg9 (H.look _) rfl) ?_
  refine QuietE.call (fun w H => x_call (vl := [.pointer _, .string _]) rfl Try.call45) (fun w H => TGet_spec H ok) ?_
  refine QuietE.val (fun w H => x_move (v := .tuple _) rfl) ?_
  refine QuietE.val (fun w H => x_extract (v := .slice _ _ _) rfl rfl) ?_
  refine QuietE.val (fun w H => x_extract (v := .bool _) rfl rfl) ?_
  refine QuietE.val (fun w H => x_assign (v := .slice _ _ _) rfl) ?_
  refine QuietE.val (fun w H => x_assign (v := .bool _) rfl) ?_
  refine QuietE.nil ?_
  intro w H
  refine Then.normal ?_
  refine WP.seq ?_
  refine WP.draw (fun w => Sat w _) (by kernel_rfl) (by kernel_rfl) (H.heap rfl) ?_
  refine QuietE.val (fun w H => x_move (v := TC.tvv (tvOf S.es x.key)) rfl) ?_
  refine QuietE.call (fun w H => x_call (vl := [TC.tvv (tvOf S.es x.key)]) rfl Try.call59) (fun w H => Last_spec (v := tvOf S.es x.key) (vs := vsOf S.es x.key) H (cval_of ok x.key)) ?_
  refine QuietE.val (fun w H => x_load (v := .int .i64 q) rfl Try.isAgg3 (H.look _) rfl) ?_
  refine QuietE.val (fun w H => x_gt rfl rfl) ?_
  by_cases c1 : lastI (vsOf S.es x.key) > q
  · rw [decide_eq_true c1]
    refine QuietE.val (fun w H => x_assign (v := .bool _) rfl) ?_
    refine QuietE.nil ?_
    intro w H
    refine Then.normal ?_
    refine WP.ret ?_
    refine Leave0.ret (v := .bool _) rfl ?_
    have h1 := (H.take (pt b3 (.cells (wrc x).toArray TWr (0, 0)))).tail
    refine ⟨rfl, h1.perm ?_⟩
    simp only [stars_cons]; ac_rfl
  · rw [decide_eq_false c1]
    refine QuietE.val (fun w H => x_assign (v := .bool _) rfl) ?_
    refine QuietE.nil ?_
    intro w H
    refine Then.normal ?_
    refine WP.ret ?_
    refine Leave0.ret (v := .bool _) rfl ?_
    have h1 := (H.take (pt b3 (.cells (wrc x).toArray TWr (0, 0)))).tail
    refine ⟨rfl, h1.perm ?_⟩
    simp only [stars_cons]; ac_rfl
theorem Free_spec {w : World} {l : List HP} {b N : Nat} {S : SC} {q : Int} {a : Option Addr} {n c : Nat} {ws : List Wr} (H : Sat w (StP b S :: l)) (ok : S.Ok N) (hr : RIn wrc TWr l a n c ws) (hn : n ≤ 1000000) :
    Calls Try.prog 39 #[.pointer (some ⟨b, 0, none⟩), .slice a n c, .int .i64 q] w (Ret fun v w' => v = .bool (!(ws.any fun x => decide (lastI (vsOf S.es x.key) > q))) ∧ Sat w' (StP b S :: l)) := by
  replace H := StP.open.1 H
  refine Calls.of_wp Try.func39 rfl Try.ntmps39 Try.results39 (Nat.le_of_ble_eq_true rfl) ?_
  refine WP.seq ?_
  refine WP.region ?_
  refine OpsE.box1 (v := .pointer _) rfl rfl H ?_
  intro b3 w H
  refine OpsE.box1 (v := .int .i64 _) rfl rfl H ?_
  intro b5 w H
  refine OpsE.val (x_assign (v := .bool _) rfl) ?_
  refine OpsE.nil ?_
  refine Then.normal ?_
  refine WP.seq ?_
  refine WP.seq ?_
  refine WP.region ?_
  refine OpsE.val (x_load (v := .pointer (some ⟨b, 0, none⟩)) rfl Try.isAgg28 (H.look _) rfl) ?_
  refine OpsE.val (x_eqPs rfl rfl Try.runUnderlying28) ?_
  refine OpsE.nil ?_
  refine Then.normal ?_
  refine WP.cond_f rfl rfl ?_
  refine WP.skip ?_
  refine Then.normal ?_
  refine WP.seq ?_
  refine WP.region ?_
  refine OpsE.val (x_move (v := .slice _ _ _) rfl) ?_
  refine OpsE.val (x_makeFunc (vl := [.pointer (some ⟨b3, 0, none⟩), .pointer (some ⟨b5, 0, none⟩)]) rfl) ?_
  have H1 : Sat w (bQ b3 b :: bI b5 q :: S.h1 b :: S.t.ap :: TC.Lvs S.t.lv :: S.h4 :: S.h5 :: S.h6 :: l) := H.swap
  have hr1 : RIn wrc TWr (bQ b3 b :: bI b5 q :: S.h1 b :: S.t.ap :: TC.Lvs S.t.lv :: S.h4 :: S.h5 :: S.h6 :: l) a n c ws := hr.more.more.more.more.more.more.more.more
  refine OpsE.call (x_call (vl := [.slice _ _ _, fnV 58 [.pointer (some ⟨b3, 0, none⟩), .pointer (some ⟨b5, 0, none⟩)]]) rfl Try.call57) (ContainsFunc_spec (p := fun x => decide (lastI (vsOf S.es x.key) > q)) H1 hr1 hn Try.call58 (fun x _ w H => Free1_spec H ok)) ?_
  rintro _ w ⟨rfl, H⟩
  refine OpsE.val (x_not rfl) ?_
  refine OpsE.val (x_assign (v := .bool _) rfl) ?_
  refine OpsE.nil ?_
  refine Then.normal ?_
  refine WP.ret ?_
  refine Leave0.ret (v := .bool _) rfl ?_
  exact ⟨rfl, StP.open.2 H.tail.tail⟩
end Go.Proofs.Ytbhbdpbhhfemhaa

/-
  Writes sorted: the comparison, insertionSortCmpFunc. The plain functions are the library's (Derived.Sort.Defs).
-/
namespace Go.Proofs.Ytbhbdpbhhfemhaa
open Go Go.Proofs
set_option maxRecDepth 100000
set_option maxHeartbeats 8000000
set_option linter.unusedVariables false

instance : Inhabited Wr := ⟨⟨⟨#[]⟩, ⟨#[]⟩, false⟩⟩
def ltW (x y : Wr) : Bool := slt x.key y.key
theorem ltW_swo : Go.Sort.SWO ltW := by
  refine ⟨fun x => slt_irrefl _, fun x y z h1 h2 => slt_trans h1 h2, fun x y z h1 h2 => ?_⟩
  have h3 : sle y.key x.key := h1
  have h4 : sle z.key y.key := h2
  cases h : ltW x z with
  | false => rfl
  | true =>
    have := lt_of_le_of_lt h3 (show slt x.key z.key = true from h)
    rw [show slt y.key z.key = false from h4] at this; cases this
/-- an array of writes in a block -/
abbrev AW (b : Nat) (d : Array Wr) (tl : List Value) : HP := pt b (.cells (d.toList.flatMap wrc ++ tl).toArray TWr (0, 0))
abbrev cmpV : Value := fnV 42 []
theorem Cmp_spec {w : World} {l : List HP} {x y : Wr} (H : Sat w l) : Calls Try.prog 42 #[.agg (wrc x).toArray, .agg (wrc y).toArray] w (Ret fun v w' => v = .int .i64 (cmpS x.key y.key) ∧ Sat w' l) := by
  refine Calls.of_wp Try.func42 rfl Try.ntmps42 Try.results42 (Nat.le_of_ble_eq_true rfl) ?_
  refine WP.seq ?_
  refine WP.region ?_
  refine OpsE.boxA (cs := wrc x) rfl H ?_
  intro b2 w H
  refine OpsE.boxA (cs := wrc y) rfl H ?_
  intro b3 w H
  refine OpsE.val (x_assign (v := .int .i64 _) rfl) ?_
  refine OpsE.nil ?_
  refine Then.normal ?_
  refine WP.seq ?_
  refine WP.region ?_
  refine OpsE.val (x_fieldAddr0 rfl Try.runUnderlying26 rfl rfl Try.sizeOf9) ?_
  refine OpsE.val (x_load (v := .string x.key) rfl Try.isAgg9 (H.look _) rfl) ?_
  refine OpsE.val (x_fieldAddr0 rfl Try.runUnderlying26 rfl rfl Try.sizeOf9) ?_
  refine OpsE.val (x_load (v := .string y.key) rfl Try.isAgg9 (H.look _) rfl) ?_
  refine OpsE.call (x_call (vl := [.string _, .string _]) rfl Try.call43) (Compare_spec x.key y.key H) ?_
  rintro _ w ⟨rfl, H⟩
  refine OpsE.val (x_assign (v := .int .i64 _) rfl) ?_
  refine OpsE.nil ?_
  refine Then.normal ?_
  refine WP.ret ?_
  refine Leave0.ret (v := .int .i64 _) rfl ?_
  exact ⟨rfl, H.tail.tail⟩

theorem arr_get {d : Array Wr} {j : Nat} (h : j < d.size) : d.toList[j]? = some d[j]! := by
  rw [Array.getElem?_toList, Array.getElem?_eq_getElem h, getElem!_pos d j h]
theorem aw_el {d : Array Wr} {j : Nat} {tl : List Value} (h : j < d.size) : ((d.toList.flatMap wrc ++ tl).toArray.toList.drop (j * 3)).take 3 = wrc d[j]! := flat_take (f := wrc) wrc_len tl (arr_get h)
theorem aw_set {d : Array Wr} {j : Nat} {tl : List Value} {x : Wr} (h : j < d.size) : (d.toList.flatMap wrc ++ tl).take (j * 3) ++ wrc x ++ (d.toList.flatMap wrc ++ tl).drop (j * 3 + (wrc x).length) = (d.setIfInBounds j x).toList.flatMap wrc ++ tl := by
  have hj : j < d.toList.length := by simpa using h
  have e1 : d.toList = d.toList.take j ++ d.toList[j] :: d.toList.drop (j + 1) := by rw [← List.drop_eq_getElem_cons hj, List.take_append_drop]
  have e2 : (d.setIfInBounds j x).toList = d.toList.take j ++ x :: d.toList.drop (j + 1) := by
    rw [Array.toList_setIfInBounds]
    conv => lhs; rw [e1]
    rw [List.set_append_right _ _ (by rw [List.length_take]; omega), List.length_take, Nat.min_eq_left (by omega), Nat.sub_self, List.set_cons_zero]
  have hl : ((d.toList.take j).flatMap wrc).length = j * 3 := by rw [flat_len wrc_len, List.length_take, Nat.min_eq_left (by omega)]
  rw [e2]
  conv => lhs; rw [e1]
  rw [List.flatMap_append, List.flatMap_cons, List.flatMap_append, List.flatMap_cons]
  generalize (d.toList.take j).flatMap wrc = A at hl
  generalize (d.toList.drop (j + 1)).flatMap wrc = C
  have h1 : (wrc d.toList[j]).length = 3 := rfl
  have h2 : (wrc x).length = 3 := rfl
  rw [h2]
  have e3 : A ++ (wrc d.toList[j] ++ C) ++ tl = A ++ (wrc d.toList[j] ++ (C ++ tl)) := by simp only [List.append_assoc]
  rw [e3, List.take_append_of_le_length (by omega), List.take_of_length_le (by omega)]
  have e4 : (A ++ (wrc d.toList[j] ++ (C ++ tl))).drop (j * 3 + 3) = C ++ tl := by
    rw [← List.append_assoc, List.drop_append_of_le_length (by rw [List.length_append, hl, h1]; exact Nat.le_refl _), List.drop_of_length_le (by rw [List.length_append, hl, h1]; exact Nat.le_refl _)]; rfl
  rw [e4]; simp only [List.append_assoc]
theorem aw_len {d : Array Wr} {tl : List Value} {j : Nat} (h : j < d.size) (x : Wr) : j * 3 + (wrc x).length ≤ (d.toList.flatMap wrc ++ tl).length := by
  rw [List.length_append, flat_len wrc_len]
  have h3 : d.toList.length = d.size := by simp
  show j * 3 + 3 ≤ d.toList.length * 3 + tl.length
  omega
theorem swp_size (d : Array Wr) (i j : Nat) : (Go.Sort.swp d i j).size = d.size := by simp [Go.Sort.swp]

theorem InsSort_spec {w : World} {l : List HP} {b n c a e : Nat} {d : Array Wr} {tl : List Value} (H : Sat w (AW b d tl :: l)) (hn : d.size = n) (hb : n ≤ 1000000) (ha : a ≤ n) (he : e ≤ n) :
    Calls Try.prog 75 #[.slice (some ⟨b, 0, none⟩) n c, .int .i64 (a : Int), .int .i64 (e : Int), cmpV] w (Ret fun v w' => Sat w' (AW b (Go.Sort.insertionSort ltW d a e) tl :: l)) := by
  refine Calls.of_wp Try.func75 rfl Try.ntmps75 Try.results75 (Nat.le_of_ble_eq_true rfl) ?_
  refine WP.seq ?_
  refine WP.region ?_
  refine OpsE.val (x_move (v := .int .i64 _) rfl) ?_
  refine OpsE.val (x_add (z := ((a + 1 : Nat) : Int)) rfl rfl (by rw [i64n (by omega) (by omega)]; omega)) ?_
  refine OpsE.val (x_assign (v := .int .i64 _) rfl) ?_
  refine OpsE.nil ?_
  refine Then.normal ?_
  refine WP.block ?_
  refine WP.loopS [8, 9, 12, 13, 14, 15, 16, 17, 18, 19, 20, 21, 22, 23, 24, 25, 26, 27, 28, 29, 30, 31, 32, 33, 34, 35, 36, 37, 38, 39, 40, 41, 42, 43, 44, 45, 46, 47, 48, 49, 50, 51, 52] (fun (i : Nat) E w => ∃ di : Array Wr, E 8 = .int .i64 (i : Int) ∧ a + 1 ≤ i ∧ (i ≤ e ∨ i = a + 1) ∧ di.size = n ∧ Go.Sort.insOuter ltW a e i di = Go.Sort.insertionSort ltW d a e ∧ Sat w (AW b di tl :: l)) (fun i => e - i) (a + 1) ⟨d, rfl, Nat.le_refl _, .inr rfl, hn, rfl, H⟩ ?_
  clear H
  rintro i E1 w hs ⟨di, e8, hia, hie, hdi, heq, H⟩
  refine WP.seq ?_
  refine WP.seq ?_
  refine WP.region ?_
  refine OpsE.val (x_move (v := .int .i64 _) e8) ?_
  refine OpsE.val (x_move (v := .int .i64 _) (hs 2 rfl)) ?_
  refine OpsE.val (x_lt rfl rfl) ?_
  by_cases hlt : (i : Int) < (e : Int)
  · rw [decide_eq_true hlt]
    refine OpsE.nil ?_
    refine Then.normal ?_
    refine WP.cond_t rfl rfl ?_
    refine WP.skip ?_
    refine Then.normal ?_
    refine WP.seq ?_
    refine WP.block ?_
    refine WP.seq ?_
    refine WP.region ?_
    refine OpsE.val (x_move (v := .int .i64 _) e8) ?_
    refine OpsE.val (x_assign (v := .int .i64 _) rfl) ?_
    refine OpsE.nil ?_
    refine Then.normal ?_
    refine WP.block ?_
    refine WP.loopS [9, 18, 19, 20, 21, 22, 23, 24, 25, 26, 27, 28, 29, 30, 31, 32, 33, 34, 35, 36, 37, 38, 39, 40, 41, 42, 43, 44, 45, 46, 47, 48, 49, 50, 51, 52] (fun (j : Nat) E w => ∃ dj : Array Wr, E 9 = .int .i64 (j : Int) ∧ a ≤ j ∧ j ≤ i ∧ dj.size = n ∧ Go.Sort.insInner ltW a j dj = Go.Sort.insInner ltW a i di ∧ Sat w (AW b dj tl :: l)) (fun j => j) i ⟨di, rfl, by omega, Nat.le_refl _, hdi, rfl, H⟩ ?_
    clear H
    rintro j E2 w hs2 ⟨dj, e9, hja, hji, hdj, heqj, H⟩
    refine WP.seq ?_
    refine WP.seq ?_
    refine WP.draw (fun w => Sat w _) (by kernel_rfl) (by kernel_rfl) (H.heap rfl) ?_
    refine QuietE.val (fun w H => x_move (v := .int .i64 _) e9) ?_
    refine QuietE.val (fun w H => x_move (v := .int .i64 _) ((hs2 1 rfl).trans (hs 1 rfl))) ?_
    refine QuietE.val (fun w H => x_gt rfl rfl) ?_
    by_cases c1 : (j : Int) > (a : Int)
    · rw [decide_eq_true c1]
      refine QuietE.val (fun w H => x_move (v := .bool _) rfl) ?_
      refine QuietE.yes rfl ?_
      refine QuietE.val (fun w H => x_move (v := cmpV) ((hs2 3 rfl).trans (hs 3 rfl))) ?_
      refine QuietE.yes rfl ?_
      refine QuietE.val (fun w H => x_move (v := .slice _ _ _) ((hs2 0 rfl).trans (hs 0 rfl))) ?_
      refine QuietE.yes rfl ?_
      refine QuietE.val (fun w H => x_move (v := .int .i64 _) e9) ?_
      refine QuietE.yes rfl ?_
      obtain ⟨k, rfl⟩ : ∃ k, j = k + 1 := ⟨j - 1, by omega⟩
      refine QuietE.val (fun w H => x_indexAddr (i := k + 1) rfl rfl Try.runUnderlying22 Try.sizeOf26 rfl (by omega)) ?_
      refine QuietE.yes rfl ?_
      refine QuietE.val (fun w H => x_loadA (vs := wrc dj[k + 1]!) rfl Try.isAgg26 Try.sizeOf26 (H.look _) (aw_el (by omega)) rfl) ?_
      refine QuietE.yes rfl ?_
      refine QuietE.val (fun w H => x_move (v := .slice _ _ _) ((hs2 0 rfl).trans (hs 0 rfl))) ?_
      refine QuietE.yes rfl ?_
      refine QuietE.val (fun w H => x_move (v := .int .i64 _) e9) ?_
      refine QuietE.yes rfl ?_
      refine QuietE.val (fun w H => x_sub (z := (k : Int)) rfl rfl (by rw [i64n (by omega) (by omega)]; omega)) ?_
      refine QuietE.yes rfl ?_
      refine QuietE.val (fun w H => x_indexAddr (i := k) rfl rfl Try.runUnderlying22 Try.sizeOf26 rfl (by omega)) ?_
      refine QuietE.yes rfl ?_
      refine QuietE.val (fun w H => x_loadA (vs := wrc dj[k]!) rfl Try.isAgg26 Try.sizeOf26 (H.look _) (aw_el (by omega)) rfl) ?_
      refine QuietE.yes rfl ?_
      refine QuietE.call (fun w H => x_callV (cl := []) (vl := [.agg _, .agg _]) rfl rfl Try.call42) (fun w H => Cmp_spec (x := dj[k + 1]!) (y := dj[k]!) H) ?_
      refine QuietE.yes rfl ?_
      refine QuietE.val (fun w H => x_lt rfl rfl) ?_
      by_cases c2 : cmpS (dj[k + 1]!).key (dj[k]!).key < 0
      · rw [decide_eq_true c2]
        refine QuietE.val (fun w H => x_pickT rfl rfl) ?_
        refine QuietE.nil ?_
        intro w H
        refine Then.normal ?_
        refine WP.cond_t rfl rfl ?_
        refine WP.skip ?_
        refine Then.normal ?_
        refine WP.seq ?_
        refine WP.block ?_
        refine WP.mix (kdOf [3, 3, 3, 3, 3, 3, 3, 3, 3, 0, 3, 3, 3, 0, 3, 4]) (fun w => Sat w _) (by kernel_rfl) (by kernel_rfl) (fun w hw => Sat.heap (H) hw) ?_
        intro w hw; replace H := H.heap hw; clear hw
        refine MixE.p rfl (fun w => x_move (v := .slice _ _ _) ((hs2 0 rfl).trans (hs 0 rfl))) ?_
        refine MixE.p rfl (fun w => x_move (v := .int .i64 _) e9) ?_
        refine MixE.p rfl (fun w => x_move (v := .slice _ _ _) ((hs2 0 rfl).trans (hs 0 rfl))) ?_
        refine MixE.p rfl (fun w => x_move (v := .int .i64 _) e9) ?_
        refine MixE.p rfl (fun w => x_sub (z := (k : Int)) rfl rfl (by rw [i64n (by omega) (by omega)]; omega)) ?_
        refine MixE.p rfl (fun w => x_move (v := .slice _ _ _) ((hs2 0 rfl).trans (hs 0 rfl))) ?_
        refine MixE.p rfl (fun w => x_move (v := .int .i64 _) e9) ?_
        refine MixE.p rfl (fun w => x_sub (z := (k : Int)) rfl rfl (by rw [i64n (by omega) (by omega)]; omega)) ?_
        refine MixE.p rfl (fun w => x_indexAddr (i := k) rfl rfl Try.runUnderlying22 Try.sizeOf26 rfl (by omega)) ?_
        refine MixE.q rfl (fun w H => x_loadA (vs := wrc dj[k]!) rfl Try.isAgg26 Try.sizeOf26 (H.look _) (aw_el (by omega)) rfl) ?_
        refine MixE.p rfl (fun w => x_move (v := .slice _ _ _) ((hs2 0 rfl).trans (hs 0 rfl))) ?_
        refine MixE.p rfl (fun w => x_move (v := .int .i64 _) e9) ?_
        refine MixE.p rfl (fun w => x_indexAddr (i := k + 1) rfl rfl Try.runUnderlying22 Try.sizeOf26 rfl (by omega)) ?_
        refine MixE.q rfl (fun w H => x_loadA (vs := wrc dj[k + 1]!) rfl Try.isAgg26 Try.sizeOf26 (H.look _) (aw_el (by omega)) rfl) ?_
        refine MixE.p rfl (fun w => x_indexAddr (i := k + 1) rfl rfl Try.runUnderlying22 Try.sizeOf26 rfl (by omega)) ?_
        refine MixE.four rfl ?_
        refine OpsE.storeA (vs := wrc dj[k]!) rfl rfl Try.sizeOf26 H (wrc_one _) (aw_len (by omega) _) ?_
        intro w H
        refine OpsE.nil ⟨rfl, rfl, ?_⟩
        refine MixE.two _ (fun k _ => kdOf_ge (Nat.le_add_right _ _)) ?_
        rw [aw_set (by omega)] at H
        refine OpsE.val (x_indexAddr (i := k) rfl rfl Try.runUnderlying22 Try.sizeOf26 rfl (by omega)) ?_
        refine OpsE.storeA (vs := wrc dj[k + 1]!) rfl rfl Try.sizeOf26 H (wrc_one _) (aw_len (by simp; omega) _) ?_
        intro w H
        refine OpsE.nil ?_
        refine InBlock.normal ?_
        refine Then.normal ?_
        refine WP.region ?_
        refine OpsE.val (x_move (v := .int .i64 _) e9) ?_
        refine OpsE.val (x_sub (z := (k : Int)) rfl rfl (by rw [i64n (by omega) (by omega)]; omega)) ?_
        refine OpsE.val (x_assign (v := .int .i64 _) rfl) ?_
        refine OpsE.nil ?_
        refine Then.normal ?_
        rw [aw_set (by simp; omega)] at H
        refine ⟨rfl, (by repeat (first | exact hs2 | refine Same.upd ?_ rfl)), k, by omega, Go.Sort.swp dj (k + 1) k, rfl, by omega, by omega, by rw [swp_size]; exact hdj, ?_, H⟩
        rw [← heqj]
        conv => rhs; unfold Go.Sort.insInner
        rw [if_pos (by rw [Bool.and_eq_true]; exact ⟨decide_eq_true (by omega), (cmpS_lt _ _).1 c2⟩)]
      · rw [decide_eq_false c2]
        refine QuietE.val (fun w H => x_pickT rfl rfl) ?_
        refine QuietE.nil ?_
        intro w H
        refine Then.normal ?_
        refine WP.cond_f rfl rfl ?_
        refine WP.exit ?_
        refine Then.exit ?_
        refine Then.exit ?_
        refine InBlock.hit ?_
        refine InBlock.normal ?_
        refine Then.normal ?_
        refine WP.region ?_
        refine OpsE.val (x_move (v := .int .i64 _) ((hs2 8 rfl).trans e8)) ?_
        refine OpsE.val (x_add (z := ((i + 1 : Nat) : Int)) rfl rfl (by rw [i64n (by omega) (by omega)]; omega)) ?_
        refine OpsE.val (x_assign (v := .int .i64 _) rfl) ?_
        refine OpsE.nil ?_
        refine Then.normal ?_
        refine ⟨rfl, (by repeat (first | exact hs | refine Same.upd ?_ rfl | refine Same.sub hs2 ?_ rfl)), i + 1, by omega, dj, rfl, by omega, by omega, hdj, ?_, H⟩
        rw [← heq]
        conv => rhs; unfold Go.Sort.insOuter
        rw [if_pos (by omega), ← heqj]
        unfold Go.Sort.insInner
        rw [if_neg (by rw [Bool.and_eq_true]; exact fun h => c2 ((cmpS_lt _ _).2 h.2))]
    · rw [decide_eq_false c1]
      refine QuietE.val (fun w H => x_move (v := .bool _) rfl) ?_
      refine QuietE.no rfl ?_
      refine QuietE.no rfl ?_
      refine QuietE.no rfl ?_
      refine QuietE.no rfl ?_
      refine QuietE.no rfl ?_
      refine QuietE.no rfl ?_
      refine QuietE.no rfl ?_
      refine QuietE.no rfl ?_
      refine QuietE.no rfl ?_
      refine QuietE.no rfl ?_
      refine QuietE.no rfl ?_
      refine QuietE.no rfl ?_
      refine QuietE.val (fun w H => x_pickF rfl rfl) ?_
      refine QuietE.nil ?_
      intro w H
      refine Then.normal ?_
      refine WP.cond_f rfl rfl ?_
      refine WP.exit ?_
      refine Then.exit ?_
      refine Then.exit ?_
      refine InBlock.hit ?_
      refine InBlock.normal ?_
      refine Then.normal ?_
      refine WP.region ?_
      refine OpsE.val (x_move (v := .int .i64 _) ((hs2 8 rfl).trans e8)) ?_
      refine OpsE.val (x_add (z := ((i + 1 : Nat) : Int)) rfl rfl (by rw [i64n (by omega) (by omega)]; omega)) ?_
      refine OpsE.val (x_assign (v := .int .i64 _) rfl) ?_
      refine OpsE.nil ?_
      refine Then.normal ?_
      refine ⟨rfl, (by repeat (first | exact hs | refine Same.upd ?_ rfl | refine Same.sub hs2 ?_ rfl)), i + 1, by omega, dj, rfl, by omega, by omega, hdj, ?_, H⟩
      rw [← heq]
      conv => rhs; unfold Go.Sort.insOuter
      rw [if_pos (by omega), ← heqj]
      obtain rfl : j = a := by omega
      cases j with
      | zero => rfl
      | succ k =>
        unfold Go.Sort.insInner
        rw [if_neg (by rw [Bool.and_eq_true]; exact fun h => by have := of_decide_eq_true h.1; omega)]
  · rw [decide_eq_false hlt]
    refine OpsE.nil ?_
    refine Then.normal ?_
    refine WP.cond_f rfl rfl ?_
    refine WP.exit ?_
    refine Then.exit ?_
    refine Then.exit ?_
    refine InBlock.hit ?_
    refine Leave0.normal (v := .tuple #[]) rfl ?_
    rw [← heq]
    unfold Go.Sort.insOuter
    rw [if_neg (by omega)]
    exact H
end Go.Proofs.Ytbhbdpbhhfemhaa

/-
  Writes sorted: SortFunc of twelve writes at most.
-/
namespace Go.Proofs.Ytbhbdpbhhfemhaa
open Go Go.Proofs
set_option maxRecDepth 100000
set_option maxHeartbeats 8000000
set_option linter.unusedVariables false

theorem u8n {z : Int} (h1 : 0 ≤ z) (h2 : z ≤ 255) : IntKind.u8.wrap z = z := by
  have e : IntKind.u8.wrap z = z % 256 := by simp [IntKind.wrap, IntKind.bits, IntKind.signed]
  rw [e]; omega
theorem OpsE.indexStr {P : Program} {N : Nat} {ops : Array Oper} {Q : Post} {rest : List Oper} {E : Env} {ds : List Deferred} {w : World} {ty T : TypeId} {x y : Operand} {d : Nat} {pos : String} {af : Array Edge} {s : ByteArray} {k : IntKind} {i : Nat} {z : Int}
    (hx : evE E x = .string s) (hy : evE E y = .int k z) (hu : ∀ w, (underlying T).run P w = .ok .string w) (hz : z = (i : Int)) (hs : i < s.size) (k' : ∀ c : UInt8, OpsE P N ops Q rest (upd N E d (.int .u8 (c.toNat : Int))) ds w) :
    OpsE P N ops Q (⟨some d, .index T x y, ty, pos, af, none⟩ :: rest) E ds w :=
  OpsE.val (x_indexStr (c := s[i]) hx hy hu hz (by simp [hs])) (k' _)
theorem Len64_spec {w : World} {l : List HP} {n : Nat} (H : Sat w l) (hn : n ≤ 255) : Calls Try.prog 84 #[.int .u64 (n : Int)] w (Ret fun v w' => ∃ k : Nat, v = .int .i64 (k : Int) ∧ k ≤ 255 ∧ Sat w' l) := by
  refine Calls.of_wp Try.func84 rfl Try.ntmps84 Try.results84 (Nat.le_of_ble_eq_true rfl) ?_
  refine WP.seq ?_
  refine WP.region ?_
  refine OpsE.val (x_assign (v := .int .i64 _) rfl) ?_
  refine OpsE.nil ?_
  refine Then.normal ?_
  refine WP.seq ?_
  refine WP.seq ?_
  refine WP.region ?_
  refine OpsE.val (x_move (v := .int .u64 _) rfl) ?_
  refine OpsE.val (x_ge rfl rfl) ?_
  rw [decide_eq_false (by omega)]
  refine OpsE.nil ?_
  refine Then.normal ?_
  refine WP.cond_f rfl rfl ?_
  refine WP.skip ?_
  refine Then.normal ?_
  refine WP.seq ?_
  refine WP.seq ?_
  refine WP.region ?_
  refine OpsE.val (x_move (v := .int .u64 _) rfl) ?_
  refine OpsE.val (x_ge rfl rfl) ?_
  rw [decide_eq_false (by omega)]
  refine OpsE.nil ?_
  refine Then.normal ?_
  refine WP.cond_f rfl rfl ?_
  refine WP.skip ?_
  refine Then.normal ?_
  refine WP.seq ?_
  refine WP.seq ?_
  refine WP.region ?_
  refine OpsE.val (x_move (v := .int .u64 _) rfl) ?_
  refine OpsE.val (x_ge rfl rfl) ?_
  rw [decide_eq_false (by omega)]
  refine OpsE.nil ?_
  refine Then.normal ?_
  refine WP.cond_f rfl rfl ?_
  refine WP.skip ?_
  refine Then.normal ?_
  refine WP.seq ?_
  refine WP.region ?_
  refine OpsE.val (x_move (v := .int .i64 _) rfl) ?_
  refine OpsE.val (x_move (v := .int .u64 _) rfl) ?_
  refine OpsE.val (x_convI (z := (n : Int)) rfl Try.runUnderlying135 Try.runUnderlying5 (u8n (by omega) (by omega))) ?_
  refine OpsE.indexStr (i := n) rfl rfl Try.runUnderlying9 rfl (Nat.lt_of_lt_of_le (show n < 256 by omega) (Nat.le_of_ble_eq_true (by kernel_rfl))) ?_
  intro c
  have hc : c.toNat ≤ 255 := by have := c.toNat_lt; omega
  refine OpsE.val (x_convI (z := (c.toNat : Int)) rfl Try.runUnderlying5 Try.runUnderlying3 (i64n (by omega) (by omega))) ?_
  refine OpsE.val (x_add (z := (c.toNat : Int)) rfl rfl (by rw [i64n (by omega) (by omega)]; omega)) ?_
  refine OpsE.val (x_assign (v := .int .i64 _) rfl) ?_
  refine OpsE.nil ?_
  refine Then.normal ?_
  refine WP.ret ?_
  refine Leave0.ret (v := .int .i64 _) rfl ?_
  exact ⟨c.toNat, rfl, hc, H⟩
theorem Len_spec {w : World} {l : List HP} {n : Nat} (H : Sat w l) (hn : n ≤ 255) : Calls Try.prog 61 #[.int .u64 (n : Int)] w (Ret fun v w' => ∃ k : Nat, v = .int .i64 (k : Int) ∧ k ≤ 255 ∧ Sat w' l) := by
  refine Calls.of_wp Try.func61 rfl Try.ntmps61 Try.results61 (Nat.le_of_ble_eq_true rfl) ?_
  refine WP.seq ?_
  refine WP.region ?_
  refine OpsE.val (x_assign (v := .int .i64 _) rfl) ?_
  refine OpsE.nil ?_
  refine Then.normal ?_
  refine WP.seq ?_
  refine WP.cond_f rfl rfl ?_
  refine WP.skip ?_
  refine Then.normal ?_
  refine WP.seq ?_
  refine WP.region ?_
  refine OpsE.val (x_move (v := .int .u64 _) rfl) ?_
  refine OpsE.call (x_call (vl := [.int .u64 _]) rfl Try.call84) (Len64_spec H hn) ?_
  rintro _ w ⟨k, rfl, hk, H⟩
  refine OpsE.val (x_assign (v := .int .i64 _) rfl) ?_
  refine OpsE.nil ?_
  refine Then.normal ?_
  refine WP.ret ?_
  refine Leave0.ret (v := .int .i64 _) rfl ?_
  exact ⟨k, rfl, hk, H⟩
theorem InsSort_nil {w : World} {l : List HP} (H : Sat w l) : Calls Try.prog 75 #[.slice none 0 0, .int .i64 0, .int .i64 0, cmpV] w (Ret fun v w' => Sat w' l) := by
  refine Calls.of_wp Try.func75 rfl Try.ntmps75 Try.results75 (Nat.le_of_ble_eq_true rfl) ?_
  refine WP.seq ?_
  refine WP.region ?_
  refine OpsE.val (x_move (v := .int .i64 _) rfl) ?_
  refine OpsE.val (x_add (z := 1) rfl rfl (by decide)) ?_
  refine OpsE.val (x_assign (v := .int .i64 _) rfl) ?_
  refine OpsE.nil ?_
  refine Then.normal ?_
  refine WP.block ?_
  refine WP.loopS [8, 9, 12, 13, 14, 15, 16, 17, 18, 19, 20, 21, 22, 23, 24, 25, 26, 27, 28, 29, 30, 31, 32, 33, 34, 35, 36, 37, 38, 39, 40, 41, 42, 43, 44, 45, 46, 47, 48, 49, 50, 51, 52] (fun (i : Nat) E w => E 8 = .int .i64 1 ∧ Sat w l) (fun i => 0) 0 ⟨rfl, H⟩ ?_
  clear H
  rintro i E1 w hs ⟨e8, H⟩
  refine WP.seq ?_
  refine WP.seq ?_
  refine WP.region ?_
  refine OpsE.val (x_move (v := .int .i64 _) e8) ?_
  refine OpsE.val (x_move (v := .int .i64 _) (hs 2 rfl)) ?_
  refine OpsE.val (x_lt rfl rfl) ?_
  rw [decide_eq_false (by decide)]
  refine OpsE.nil ?_
  refine Then.normal ?_
  refine WP.cond_f rfl rfl ?_
  refine WP.exit ?_
  refine Then.exit ?_
  refine Then.exit ?_
  refine InBlock.hit ?_
  refine Leave0.normal (v := .tuple #[]) rfl ?_
  exact H
theorem Pdq12_spec {w : World} {l : List HP} {b n c : Nat} {lim : Int} {d : Array Wr} {tl : List Value} (H : Sat w (AW b d tl :: l)) (hn : d.size = n) (hb : n ≤ 12) :
    Calls Try.prog 60 #[.slice (some ⟨b, 0, none⟩) n c, .int .i64 0, .int .i64 (n : Int), .int .i64 lim, cmpV] w (Ret fun v w' => Sat w' (AW b (Go.Sort.insertionSort ltW d 0 n) tl :: l)) := by
  refine Calls.of_wp Try.func60 rfl Try.ntmps60 Try.results60 (Nat.le_of_ble_eq_true rfl) ?_
  refine WP.seq ?_
  refine WP.region ?_
  refine OpsE.val (x_assign (v := .bool _) rfl) ?_
  refine OpsE.nil ?_
  refine Then.normal ?_
  refine WP.seq ?_
  refine WP.region ?_
  refine OpsE.val (x_assign (v := .bool _) rfl) ?_
  refine OpsE.nil ?_
  refine Then.normal ?_
  refine WP.block ?_
  refine WP.loopS [1, 2, 3, 10, 11, 12, 13, 14, 15, 16, 17, 18, 19, 20, 21, 22, 23, 24, 25, 26, 27, 28, 29, 30, 31, 32, 33, 34, 35, 36, 37, 38, 39, 40, 41, 42, 43, 44, 45, 46, 47, 48, 49, 50, 51, 52, 53, 54, 55, 56, 57, 58, 59, 60, 61, 62, 63, 64, 65, 66, 67, 68, 69, 70, 71, 72, 73, 74, 75, 76, 77, 78, 79, 80, 81, 82, 83, 84, 85, 86, 87, 88, 89, 90, 91, 92, 93, 94, 95, 96, 97, 98, 99, 100, 101, 102, 103, 104, 105, 106, 107, 108, 109, 110, 111, 112, 113, 114, 115, 116, 117, 118, 119, 120, 121, 122, 123, 124, 125, 126, 127, 128, 129, 130, 131, 132, 133, 134, 135, 136, 137, 138, 139, 140, 141, 142, 143, 144, 145, 146, 147] (fun (i : Nat) E w => E 1 = .int .i64 0 ∧ E 2 = .int .i64 (n : Int) ∧ Sat w (AW b d tl :: l)) (fun i => 0) 0 ⟨rfl, rfl, H⟩ ?_
  clear H
  rintro i E1 w hs ⟨e1, e2, H⟩
  refine WP.block ?_
  refine WP.seq ?_
  refine WP.region ?_
  refine OpsE.val (x_move (v := .int .i64 _) e2) ?_
  refine OpsE.val (x_move (v := .int .i64 _) e1) ?_
  refine OpsE.val (x_sub (z := (n : Int)) rfl rfl (by rw [i64n (by omega) (by omega)]; omega)) ?_
  refine OpsE.val (x_assign (v := .int .i64 _) rfl) ?_
  refine OpsE.nil ?_
  refine Then.normal ?_
  refine WP.seq ?_
  refine WP.seq ?_
  refine WP.region ?_
  refine OpsE.val (x_move (v := .int .i64 _) rfl) ?_
  refine OpsE.val (x_le rfl rfl) ?_
  rw [decide_eq_true (by omega)]
  refine OpsE.nil ?_
  refine Then.normal ?_
  refine WP.cond_t rfl rfl ?_
  refine WP.seq ?_
  refine WP.region ?_
  refine OpsE.val (x_move (v := .slice _ _ _) (hs 0 rfl)) ?_
  refine OpsE.val (x_move (v := .int .i64 _) e1) ?_
  refine OpsE.val (x_move (v := .int .i64 _) e2) ?_
  refine OpsE.val (x_move (v := cmpV) (hs 4 rfl)) ?_
  refine OpsE.call (x_call (vl := [.slice _ _ _, .int .i64 _, .int .i64 _, cmpV]) rfl Try.call75) (InsSort_spec (a := 0) (e := n) H hn (by omega) (by omega) (by omega)) ?_
  rintro _ w H
  refine OpsE.nil ?_
  refine Then.normal ?_
  refine WP.ret ?_
  refine Then.ret ?_
  refine InBlock.ret ?_
  refine Then.ret ?_
  refine InBlock.ret ?_
  refine Leave0.ret (v := .tuple #[]) rfl ?_
  exact H
theorem Pdq_nil {w : World} {l : List HP} {lim : Int} (H : Sat w l) :
    Calls Try.prog 60 #[.slice none 0 0, .int .i64 0, .int .i64 0, .int .i64 lim, cmpV] w (Ret fun v w' => Sat w' l) := by
  refine Calls.of_wp Try.func60 rfl Try.ntmps60 Try.results60 (Nat.le_of_ble_eq_true rfl) ?_
  refine WP.seq ?_
  refine WP.region ?_
  refine OpsE.val (x_assign (v := .bool _) rfl) ?_
  refine OpsE.nil ?_
  refine Then.normal ?_
  refine WP.seq ?_
  refine WP.region ?_
  refine OpsE.val (x_assign (v := .bool _) rfl) ?_
  refine OpsE.nil ?_
  refine Then.normal ?_
  refine WP.block ?_
  refine WP.loopS [1, 2, 3, 10, 11, 12, 13, 14, 15, 16, 17, 18, 19, 20, 21, 22, 23, 24, 25, 26, 27, 28, 29, 30, 31, 32, 33, 34, 35, 36, 37, 38, 39, 40, 41, 42, 43, 44, 45, 46, 47, 48, 49, 50, 51, 52, 53, 54, 55, 56, 57, 58, 59, 60, 61, 62, 63, 64, 65, 66, 67, 68, 69, 70, 71, 72, 73, 74, 75, 76, 77, 78, 79, 80, 81, 82, 83, 84, 85, 86, 87, 88, 89, 90, 91, 92, 93, 94, 95, 96, 97, 98, 99, 100, 101, 102, 103, 104, 105, 106, 107, 108, 109, 110, 111, 112, 113, 114, 115, 116, 117, 118, 119, 120, 121, 122, 123, 124, 125, 126, 127, 128, 129, 130, 131, 132, 133, 134, 135, 136, 137, 138, 139, 140, 141, 142, 143, 144, 145, 146, 147] (fun (i : Nat) E w => E 1 = .int .i64 0 ∧ E 2 = .int .i64 0 ∧ Sat w l) (fun i => 0) 0 ⟨rfl, rfl, H⟩ ?_
  clear H
  rintro i E1 w hs ⟨e1, e2, H⟩
  refine WP.block ?_
  refine WP.seq ?_
  refine WP.region ?_
  refine OpsE.val (x_move (v := .int .i64 _) e2) ?_
  refine OpsE.val (x_move (v := .int .i64 _) e1) ?_
  refine OpsE.val (x_sub (z := 0) rfl rfl (by decide)) ?_
  refine OpsE.val (x_assign (v := .int .i64 _) rfl) ?_
  refine OpsE.nil ?_
  refine Then.normal ?_
  refine WP.seq ?_
  refine WP.seq ?_
  refine WP.region ?_
  refine OpsE.val (x_move (v := .int .i64 _) rfl) ?_
  refine OpsE.val (x_le rfl rfl) ?_
  rw [decide_eq_true (by decide)]
  refine OpsE.nil ?_
  refine Then.normal ?_
  refine WP.cond_t rfl rfl ?_
  refine WP.seq ?_
  refine WP.region ?_
  refine OpsE.val (x_move (v := .slice _ _ _) (hs 0 rfl)) ?_
  refine OpsE.val (x_move (v := .int .i64 _) e1) ?_
  refine OpsE.val (x_move (v := .int .i64 _) e2) ?_
  refine OpsE.val (x_move (v := cmpV) (hs 4 rfl)) ?_
  refine OpsE.call (x_call (vl := [.slice _ _ _, .int .i64 _, .int .i64 _, cmpV]) rfl Try.call75) (InsSort_nil H) ?_
  rintro _ w H
  refine OpsE.nil ?_
  refine Then.normal ?_
  refine WP.ret ?_
  refine Then.ret ?_
  refine InBlock.ret ?_
  refine Then.ret ?_
  refine InBlock.ret ?_
  refine Leave0.ret (v := .tuple #[]) rfl ?_
  exact H
theorem SortFunc_nil {w : World} {l : List HP} (H : Sat w l) :
    Calls Try.prog 41 #[.slice none 0 0, cmpV] w (Ret fun v w' => Sat w' l) := by
  refine Calls.of_wp Try.func41 rfl Try.ntmps41 Try.results41 (Nat.le_of_ble_eq_true rfl) ?_
  refine WP.seq ?_
  refine WP.region ?_
  refine OpsE.val (x_move (v := .slice _ _ _) rfl) ?_
  refine OpsE.val (x_lenL rfl rfl Try.runUnderlying22) ?_
  refine OpsE.val (x_assign (v := .int .i64 _) rfl) ?_
  refine OpsE.nil ?_
  refine Then.normal ?_
  refine WP.region ?_
  refine OpsE.val (x_move (v := .slice _ _ _) rfl) ?_
  refine OpsE.val (x_move (v := .int .i64 _) rfl) ?_
  refine OpsE.val (x_move (v := .int .i64 _) rfl) ?_
  refine OpsE.val (x_convI (z := ((0 : Nat) : Int)) rfl Try.runUnderlying3 Try.runUnderlying108 (by decide)) ?_
  refine OpsE.call (x_call (vl := [.int .u64 _]) rfl Try.call61) (Len_spec H (by decide)) ?_
  rintro _ w ⟨k, rfl, hk, H⟩
  refine OpsE.val (x_move (v := cmpV) rfl) ?_
  refine OpsE.call (x_call (vl := [.slice _ _ _, .int .i64 _, .int .i64 _, .int .i64 _, cmpV]) rfl Try.call60) (Pdq_nil H) ?_
  rintro _ w H
  refine OpsE.nil ?_
  refine Leave0.normal (v := .tuple #[]) rfl ?_
  exact H
/-- SortFunc sorts so many writes -/
def SortC (m : Nat) : Prop := ∀ (w : World) (l : List HP) (b n c : Nat) (d : Array Wr) (tl : List Value), Sat w (AW b d tl :: l) → d.size = n → n ≤ m →
  Calls Try.prog 41 #[.slice (some ⟨b, 0, none⟩) n c, cmpV] w (Ret fun v w' => ∃ d' : Array Wr, Go.Sort.PermIn 0 n d d' ∧ Go.Sort.SortedIn ltW 0 n d' ∧ Sat w' (AW b d' tl :: l))
theorem sortC12 : SortC 12 := by
  intro w l b n c d tl H hn hb
  refine Calls.of_wp Try.func41 rfl Try.ntmps41 Try.results41 (Nat.le_of_ble_eq_true rfl) ?_
  refine WP.seq ?_
  refine WP.region ?_
  refine OpsE.val (x_move (v := .slice _ _ _) rfl) ?_
  refine OpsE.val (x_lenL rfl rfl Try.runUnderlying22) ?_
  refine OpsE.val (x_assign (v := .int .i64 _) rfl) ?_
  refine OpsE.nil ?_
  refine Then.normal ?_
  refine WP.region ?_
  refine OpsE.val (x_move (v := .slice _ _ _) rfl) ?_
  refine OpsE.val (x_move (v := .int .i64 _) rfl) ?_
  refine OpsE.val (x_move (v := .int .i64 _) rfl) ?_
  refine OpsE.val (x_convI (z := (n : Int)) rfl Try.runUnderlying3 Try.runUnderlying108 (u64n (by omega) (by omega))) ?_
  refine OpsE.call (x_call (vl := [.int .u64 _]) rfl Try.call61) (Len_spec H (by omega)) ?_
  rintro _ w ⟨k, rfl, hk, H⟩
  refine OpsE.val (x_move (v := cmpV) rfl) ?_
  refine OpsE.call (x_call (vl := [.slice _ _ _, .int .i64 _, .int .i64 _, .int .i64 _, cmpV]) rfl Try.call60) (Pdq12_spec H hn hb) ?_
  rintro _ w H
  refine OpsE.nil ?_
  refine Leave0.normal (v := .tuple #[]) rfl ?_
  have h1 := Go.Sort.insertionSort_holds ltW_swo d 0 n (Nat.zero_le _) (by omega)
  exact ⟨_, h1.1, h1.2, H⟩
end Go.Proofs.Ytbhbdpbhhfemhaa

/-
  Maps whose keys are strings: what a range over one has seen; the number of keys. Nothing of the program.
-/
namespace Go.Proofs.Ytbhbdpbhhfemhaa
open Go
set_option linter.unusedVariables false

theorem MOk.nil : MOk [] 0 := ⟨List.Pairwise.nil, List.Pairwise.nil, fun _ h => by cases h⟩
theorem left_lt1 {es vis : List Me} {e : Me} (h : e ∈ leftM es vis) : (leftM es (vis ++ [e])).length + 1 ≤ (leftM es vis).length := by
  have e1 : leftM es (vis ++ [e]) = (leftM es vis).filter fun x => !(x.born == e.born) := by
    unfold leftM
    rw [List.filter_filter]
    apply List.filter_congr
    intro x _
    rw [List.map_append, List.contains_append]
    simp [Bool.not_or, Bool.and_comm]
    rfl
  rw [e1]
  exact List.length_filter_lt_length_iff_exists.2 ⟨e, h, by simp⟩
theorem mem_left {es vis : List Me} {e : Me} (h : e ∈ leftM es vis) : e ∈ es ∧ ∀ x ∈ vis, x.born ≠ e.born := by
  obtain ⟨h1, h2⟩ := List.mem_filter.1 h
  refine ⟨h1, fun x hx hb => ?_⟩
  have : (vis.map Me.born).contains e.born = true := by rw [List.contains_iff_mem]; exact List.mem_map.2 ⟨x, hx, hb⟩
  rw [this] at h2; cases h2
theorem born_inj {es : List Me} {ck : Nat} (ok : MOk es ck) {x y : Me} (hx : x ∈ es) (hy : y ∈ es) (h : x.born = y.born) : x = y := by
  obtain ⟨i, hi, rfl⟩ := List.mem_iff_getElem.1 hx
  obtain ⟨j, hj, rfl⟩ := List.mem_iff_getElem.1 hy
  rcases Nat.lt_trichotomy i j with h1 | h1 | h1
  · have := List.pairwise_iff_getElem.1 ok.born i j hi hj h1; omega
  · subst h1; rfl
  · have := List.pairwise_iff_getElem.1 ok.born j i hj hi h1; omega
theorem mkey_inj {es : List Me} {ck : Nat} (ok : MOk es ck) {x y : Me} (hx : x ∈ es) (hy : y ∈ es) (h : x.key = y.key) : x = y := by
  obtain ⟨i, hi, rfl⟩ := List.mem_iff_getElem.1 hx
  obtain ⟨j, hj, rfl⟩ := List.mem_iff_getElem.1 hy
  rcases Nat.lt_trichotomy i j with h1 | h1 | h1
  · exact absurd h (List.pairwise_iff_getElem.1 ok.keys i j hi hj h1)
  · subst h1; rfl
  · exact absurd h.symm (List.pairwise_iff_getElem.1 ok.keys j i hj hi h1)
theorem left_done {es vis : List Me} {ck : Nat} (ok : MOk es ck) (hv : ∀ x ∈ vis, x ∈ es) (h : leftM es vis = []) : ∀ e ∈ es, e ∈ vis := by
  intro e he
  have h1 := List.filter_eq_nil_iff.1 h e he
  have h2 : (vis.map Me.born).contains e.born = true := by simpa using h1
  rw [List.contains_iff_mem] at h2
  obtain ⟨x, hx, hb⟩ := List.mem_map.1 h2
  rw [← born_inj ok (hv x hx) he hb]; exact hx
theorem getM_mem {es : List Me} {ck : Nat} (ok : MOk es ck) {e : Me} (he : e ∈ es) : getM es e.key = some e.val := by
  unfold getM
  cases h : es.find? fun x => decide (x.key = e.key) with
  | none => have := List.find?_eq_none.1 h e he; simp at this
  | some y =>
    have h1 := List.mem_of_find?_eq_some h
    have h2 : y.key = e.key := by simpa using List.find?_some h
    rw [mkey_inj ok h1 he h2]; rfl
theorem getM_some {es : List Me} {k : ByteArray} {v : Value} (h : getM es k = some v) : ∃ e ∈ es, e.key = k ∧ e.val = v := by
  unfold getM at h
  cases h1 : es.find? fun x => decide (x.key = k) with
  | none => rw [h1] at h; cases h
  | some y => rw [h1] at h; cases h; exact ⟨y, List.mem_of_find?_eq_some h1, by simpa using List.find?_some h1, rfl⟩

/-- a list without repetitions inside another one is no longer -/
theorem nodup_le {α : Type} : ∀ {l m : List α}, l.Pairwise (· ≠ ·) → (∀ x ∈ l, x ∈ m) → l.length ≤ m.length
  | [], _, _, _ => Nat.zero_le _
  | a :: l, m, h, hs => by
    obtain ⟨h1, h2⟩ := List.pairwise_cons.1 h
    obtain ⟨s, t, rfl⟩ := List.append_of_mem (hs a (by simp))
    have ih := nodup_le (m := s ++ t) h2 fun x hx => by
      have h3 := hs x (by simp [hx])
      rcases List.mem_append.1 h3 with h4 | h4
      · exact List.mem_append.2 (.inl h4)
      · rcases List.mem_cons.1 h4 with rfl | h4
        · exact absurd rfl (h1 x hx)
        · exact List.mem_append.2 (.inr h4)
    simp only [List.length_append, List.length_cons] at ih ⊢
    omega
theorem nodup_len {α : Type} {l m : List α} (h : l.Pairwise (· ≠ ·)) (h' : m.Pairwise (· ≠ ·)) (hs : ∀ x, x ∈ l ↔ x ∈ m) : l.length = m.length :=
  Nat.le_antisymm (nodup_le h fun x hx => (hs x).1 hx) (nodup_le h' fun x hx => (hs x).2 hx)
theorem updM_len (es : List Me) (ck : Nat) (k : ByteArray) (v : Value) : (updM es ck k v).1.length ≤ es.length + 1 := by
  unfold updM
  cases findM k es 0 with
  | none => simp
  | some p =>
    have := congrArg List.length (setM_keys k v es)
    rw [List.length_map, List.length_map] at this
    show (setM k v es).length ≤ _; omega
end Go.Proofs.Ytbhbdpbhhfemhaa

/-
  store.Sorted.
-/
namespace Go.Proofs.Ytbhbdpbhhfemhaa
open Go Go.Proofs
set_option maxRecDepth 100000
set_option maxHeartbeats 8000000
set_option linter.unusedVariables false

def lastW (ws : List Wr) (k : ByteArray) : Option Wr := ws.foldl (fun o x => if x.key = k then some x else o) none
theorem lastW_snoc (ws : List Wr) (x : Wr) (k : ByteArray) : lastW (ws ++ [x]) k = if x.key = k then some x else lastW ws k := by
  unfold lastW; rw [List.foldl_append]; rfl
theorem lastW_some {ws : List Wr} {k : ByteArray} {x : Wr} (h : lastW ws k = some x) : x.key = k ∧ x ∈ ws := by
  have key : ∀ (l : List Wr) (o : Option Wr), l.foldl (fun o x => if x.key = k then some x else o) o = some x → o = some x ∨ (x.key = k ∧ x ∈ l) := by
    intro l
    induction l with
    | nil => exact fun o h => .inl h
    | cons y l ih =>
      intro o h
      rcases ih _ h with h1 | ⟨h1, h2⟩
      · dsimp only at h1
        by_cases hy : y.key = k
        · rw [if_pos hy] at h1; cases h1; exact .inr ⟨hy, by simp⟩
        · rw [if_neg hy] at h1; exact .inl h1
      · exact .inr ⟨h1, by simp [h2]⟩
  rcases key ws none h with h | h
  · cases h
  · exact h
/-- the list of the last writes of all keys, in order -/
def SortedOf (ws L : List Wr) : Prop := Srt Wr.key L ∧ ∀ x, x ∈ L ↔ lastW ws x.key = some x
def wOf : Value → Wr
  | .agg a => match a.toList with
    | [.string k, .string v, .bool g] => ⟨k, v, g⟩
    | _ => default
  | _ => default
abbrev agW (x : Wr) : Value := .agg (wrc x).toArray
theorem wOf_ag (x : Wr) : wOf (agW x) = x := rfl

theorem sortedOf_of {es vis : List Me} {ck : Nat} {ws L : List Wr} (ok : MOk es ck) (hg : ∀ k, getM es k = (lastW ws k).map agW) (hv : ∀ e ∈ vis, e ∈ es) (hd : leftM es vis = []) (hn : vis.Pairwise (fun a b => a.born ≠ b.born)) (hp : L.Perm (vis.map fun e => wOf e.val))
    (hs : ∀ (i j : Nat) (x y : Wr), i < j → L[i]? = some x → L[j]? = some y → ltW y x = false) : SortedOf ws L := by
  have hent : ∀ e ∈ es, ∃ x, lastW ws e.key = some x ∧ e.val = agW x ∧ x.key = e.key := by
    intro e he
    have h1 := getM_mem ok he
    rw [hg] at h1
    cases h2 : lastW ws e.key with
    | none => rw [h2] at h1; cases h1
    | some x => rw [h2] at h1; exact ⟨x, rfl, (Option.some.inj h1).symm, (lastW_some h2).1⟩
  have hmem : ∀ x, x ∈ L ↔ lastW ws x.key = some x := by
    intro x
    rw [hp.mem_iff, List.mem_map]
    constructor
    · rintro ⟨e, he, rfl⟩
      obtain ⟨x, h1, h2, h3⟩ := hent e (hv e he)
      rw [h2, wOf_ag, h3]; exact h1
    · intro h
      have h1 := hg x.key
      rw [h] at h1
      obtain ⟨e, he, h2, h3⟩ := getM_some h1
      exact ⟨e, left_done ok hv hd e he, by rw [h3]; rfl⟩
  have hne : L.Pairwise (fun a b => a.key ≠ b.key) := by
    refine (hp.pairwise_iff (fun {x y} h => h.symm)).2 (List.pairwise_map.2 ?_)
    refine List.Pairwise.imp_of_mem (fun {a b} ha hb hab => ?_) hn
    obtain ⟨x, _, h2, h3⟩ := hent a (hv a ha)
    obtain ⟨y, _, h5, h6⟩ := hent b (hv b hb)
    rw [h2, h5, wOf_ag, wOf_ag, h3, h6]
    exact fun h => hab (congrArg Me.born (mkey_inj ok (hv a ha) (hv b hb) h))
  refine ⟨List.pairwise_iff_getElem.2 fun i j hi hj hij => ?_, hmem⟩
  have h1 := hs i j L[i] L[j] hij (by simp) (by simp)
  have h2 := List.pairwise_iff_getElem.1 hne i j hi hj hij
  rcases slt_tri (L[i]).key (L[j]).key with h | h | h
  · exact h
  · exact absurd h h2
  · rw [show slt (L[j]).key (L[i]).key = false from h1] at h; cases h

theorem SortFunc_rw {m : Nat} (hS : SortC m) {w : World} {l : List HP} {g : Rw Wr} (H : Sat w (g.own wrc TWr :: l)) (ok : g.Ok 3) (hm : g.xs.length ≤ m) :
    Calls Try.prog 41 #[.slice g.ad g.xs.length g.cp, cmpV] w (Ret fun v w' => ∃ g' : Rw Wr, g'.val = g.val ∧ g'.xs.Perm g.xs ∧ (∀ (i j : Nat) (x y : Wr), i < j → g'.xs[i]? = some x → g'.xs[j]? = some y → ltW y x = false) ∧ g'.Ok 3 ∧ Sat w' (g'.own wrc TWr :: l)) := by
  obtain ⟨xs, arr⟩ := g
  cases arr with
  | none =>
    have hxs : xs = [] := ok.nil rfl
    subst hxs
    refine Calls.ret (SortFunc_nil H) ?_
    rintro v w' H'
    exact ⟨⟨[], none⟩, rfl, List.Perm.refl _, (fun i j x y _ h => by simp at h), ok, H'⟩
  | some p =>
    obtain ⟨b, c, tl⟩ := p
    have H1 : Sat w (AW b xs.toArray tl :: l) := H
    refine Calls.ret (hS w l b xs.length c xs.toArray tl H1 (by simp) hm) ?_
    rintro v w' ⟨d', ⟨h1, h2, h3⟩, h4, H'⟩
    have hsz : d'.size = xs.length := by simpa using h1
    have hp : d'.toList.Perm xs := by
      rw [← hsz, Array.extract_size] at h3
      have e2 : (xs.toArray.extract 0 d'.size).toList = xs := by
        rw [show d'.size = xs.toArray.size by simpa using hsz, Array.extract_size]
      rw [e2] at h3; exact h3
    have hl : d'.toList.length = xs.length := by simpa using hsz
    refine ⟨⟨d'.toList, some (b, c, tl)⟩, ?_, hp, ?_, ⟨fun h => (by cases h), fun p hp => ?_⟩, H'⟩
    · show Value.slice _ d'.toList.length _ = Value.slice _ xs.length _; rw [hl]; rfl
    · intro i j x y hij hx hy
      obtain ⟨hi, ex⟩ := List.getElem?_eq_some_iff.1 hx
      obtain ⟨hj, ey⟩ := List.getElem?_eq_some_iff.1 hy
      dsimp only at hi hj
      have := h4 i j (Nat.zero_le _) hij (by omega)
      rw [getElem!_pos d' i (by simpa using hi), getElem!_pos d' j (by simpa using hj)] at this
      rw [← ex, ← ey]; simpa using this
    · cases hp
      obtain ⟨h5, h6⟩ := ok.fit _ rfl
      exact ⟨by show d'.toList.length ≤ c; rw [hl]; exact h5, by show d'.toList.length * 3 + tl.length = c * 3; rw [hl]; exact h6⟩

theorem Sorted_spec {m : Nat} (hS : SortC m) {w : World} {l : List HP} {a : Option Addr} {n c : Nat} {ws : List Wr} (H : Sat w l) (hr : RIn wrc TWr l a n c ws) (hn : n ≤ m) (hm : m ≤ 400000) :
    Calls Try.prog 15 #[.slice a n c] w (Ret fun v w' => ∃ r : Rw Wr, v = r.val ∧ SortedOf ws r.xs ∧ r.Ok 3 ∧ r.xs.length ≤ n ∧ Sat w' (r.own wrc TWr :: l)) := by
  have hlen := hr.len
  refine Calls.of_wp Try.func15 rfl Try.ntmps15 Try.results15 (Nat.le_of_ble_eq_true rfl) ?_
  refine WP.seq ?_
  refine WP.region ?_
  refine OpsE.val (x_assign (v := .slice _ _ _) rfl) ?_
  refine OpsE.nil ?_
  refine Then.normal ?_
  refine WP.seq ?_
  refine WP.region ?_
  refine OpsE.makeMap H ?_
  intro m9 w H
  refine OpsE.val (x_assign (v := .map _) rfl) ?_
  refine OpsE.nil ?_
  refine Then.normal ?_
  refine WP.seq ?_
  refine WP.seq ?_
  refine WP.region ?_
  refine OpsE.val (x_move (v := .slice _ _ _) rfl) ?_
  refine OpsE.val (x_lenL rfl rfl Try.runUnderlying22) ?_
  refine OpsE.val (x_move (v := .int .i64 _) rfl) ?_
  refine OpsE.nil ?_
  refine Then.normal ?_
  refine WP.block ?_
  refine WP.loopS [5, 12, 13, 14, 15, 16, 17, 18, 19, 20] (fun (i : Nat) E w => ∃ (es : List Me) (ck : Nat), E 12 = .int .i64 (i : Int) ∧ i ≤ n ∧ MOk es ck ∧ es.length ≤ i ∧ (∀ k, getM es k = (lastW (ws.take i) k).map agW) ∧ Sat w (pt m9 (mapO es ck) :: l)) (fun i => n - i) 0 ⟨[], 0, rfl, Nat.zero_le _, MOk.nil, Nat.zero_le _, fun _ => rfl, H⟩ ?_
  clear H
  rintro i E1 w hs ⟨es, ck, e12, hin, hok, hes, hget, H⟩
  refine WP.seq ?_
  refine WP.region ?_
  refine OpsE.val (x_lt e12 (hs 11 rfl)) ?_
  by_cases hlt : (i : Int) < (n : Int)
  · rw [decide_eq_true hlt]
    refine OpsE.nil ?_
    refine Then.normal ?_
    refine WP.seq ?_
    refine WP.cond_t rfl rfl ?_
    refine WP.skip ?_
    refine Then.normal ?_
    refine WP.seq ?_
    refine WP.block ?_
    refine WP.seq ?_
    obtain ⟨bb, off, B, fz, pre, post, rfl, hB, hBl, hpo⟩ := hr.some (by omega)
    obtain ⟨x, hx⟩ : ∃ x, ws[i]? = some x := ⟨_, List.getElem?_eq_getElem (by omega)⟩
    refine WP.region ?_
    refine OpsE.val (x_indexAddro (i := i) (hs 10 rfl) e12 Try.runUnderlying22 Try.sizeOf26 rfl (by omega)) ?_
    refine OpsE.val (x_loadA (vs := wrc x) rfl Try.isAgg26 Try.sizeOf26 (hB w H.tail) (row_el wrc_len hBl hpo hx) rfl) ?_
    refine OpsE.allocA Try.zeroValue26 H ?_
    intro b5 w H
    refine OpsE.storeA (vs := wrc x) rfl rfl Try.sizeOf26 H (wrc_one x) (Nat.le_refl _) ?_
    intro w H
    refine OpsE.nil ?_
    refine Then.normal ?_
    refine WP.region ?_
    refine OpsE.val (x_move (v := .map _) (hs 3 rfl)) ?_
    refine OpsE.val (x_fieldAddr0 rfl Try.runUnderlying26 rfl rfl Try.sizeOf9) ?_
    refine OpsE.val (x_load (v := .string x.key) rfl Try.isAgg9 (H.look _) rfl) ?_
    refine OpsE.val (x_loadA (vs := wrc x) rfl Try.isAgg26 Try.sizeOf26 (H.look _) rfl rfl) ?_
    refine OpsE.mapUpdate (k := x.key) (v := agW x) Try.underlying24 Try.underlying9 rfl rfl rfl H ?_
    intro w H
    refine OpsE.nil ?_
    refine InBlock.normal ?_
    refine Then.normal ?_
    refine WP.region ?_
    refine OpsE.val (x_add (z := ((i + 1 : Nat) : Int)) e12 rfl (by rw [i64n (by omega) (by omega)]; omega)) ?_
    refine OpsE.val (x_move (v := .int .i64 _) rfl) ?_
    refine OpsE.nil ?_
    refine Then.normal ?_
    refine ⟨rfl, (by repeat (first | exact hs | refine Same.upd ?_ rfl)), i + 1, by omega, (updM es ck x.key (agW x)).1, (updM es ck x.key (agW x)).2, rfl, by omega, hok.upd _ _, by have := updM_len es ck x.key (agW x); omega, fun k => ?_, H.swap.tail⟩
    rw [getM_upd, List.take_add_one, hx, Option.toList_some, lastW_snoc]
    by_cases hk : k = x.key
    · rw [if_pos hk, if_pos hk.symm]; rfl
    · rw [if_neg hk, if_neg (fun h => hk h.symm)]; exact hget k
  · rw [decide_eq_false hlt]
    refine OpsE.nil ?_
    refine Then.normal ?_
    refine WP.seq ?_
    refine WP.cond_f rfl rfl ?_
    refine WP.exit ?_
    refine Then.exit ?_
    refine Then.exit ?_
    refine InBlock.hit ?_
    refine Then.normal ?_
    refine WP.seq ?_
    refine WP.region ?_
    refine OpsE.val (x_assign (v := .slice _ _ _) rfl) ?_
    refine OpsE.nil ?_
    refine Then.normal ?_
    refine WP.seq ?_
    refine WP.seq ?_
    refine WP.region ?_
    refine OpsE.val (x_move (v := .map _) (hs 3 rfl)) ?_
    refine OpsE.range (es := es) (ck := ck) Try.underlying24 rfl H ?_
    intro it22 w H
    refine OpsE.nil ?_
    refine Then.normal ?_
    refine WP.block ?_
    have hie : i = ws.length := by omega
    rw [hie, List.take_length] at hget
    have H0 : Sat w (pt it22 (seenO m9 ck []) :: pt m9 (mapO es ck) :: (⟨[], none⟩ : Rw Wr).own wrc TWr :: l) := H.perm (by show _ = stars (pt it22 (.mapIter (some m9) ck #[] ck) :: pt m9 (mapO es ck) :: HP.one :: l); simp only [stars_cons]; rw [HP.sep_comm HP.one, HP.sep_one])
    refine WP.loopS [6, 8, 23, 24, 25, 26, 27, 28, 29, 30] (fun (vis : List Me) E w => ∃ g : Rw Wr, E 6 = g.val ∧ g.xs = vis.map (fun e => wOf e.val) ∧ g.Ok 3 ∧ (∀ e ∈ vis, e ∈ es) ∧ vis.Pairwise (fun a b => a.born ≠ b.born) ∧ vis.length + (leftM es vis).length ≤ es.length ∧ Sat w (pt it22 (seenO m9 ck vis) :: pt m9 (mapO es ck) :: g.own wrc TWr :: l)) (fun vis => (leftM es vis).length) [] ⟨⟨[], none⟩, rfl, rfl, Rw.empty_ok, (fun _ h => by cases h), List.Pairwise.nil, (by have : (leftM es []).length ≤ es.length := List.length_filter_le _ _; simpa using this), H0⟩ ?_
    clear H H0
    rintro vis E2 w hs2 ⟨g, e6, hgx, hgo, hve, hvp, hvl, H⟩
    refine WP.seq ?_
    refine WP.region ?_
    refine OpsE.next (es := es) (vis := vis) (ck := ck) (hs2 22 rfl) H (hok) ?_ ?_
    · intro hnend w H
      refine OpsE.val (x_extract (v := .bool _) rfl rfl) ?_
      refine OpsE.nil ?_
      refine Then.normal ?_
      refine WP.seq ?_
      refine WP.cond_f rfl rfl ?_
      refine WP.exit ?_
      refine Then.exit ?_
      refine Then.exit ?_
      refine InBlock.hit ?_
      refine Then.normal ?_
      refine WP.seq ?_
      refine WP.region ?_
      refine OpsE.val (x_move (v := .slice g.ad g.xs.length g.cp) e6) ?_
      refine OpsE.call (x_call (vl := [.slice _ _ _, cmpV]) rfl Try.call41) (SortFunc_rw hS (H.take (g.own wrc TWr)) hgo (by rw [hgx, List.length_map]; omega)) ?_
      rintro _ w ⟨g', hg1, hg2, hg3, hg4, H⟩
      refine OpsE.nil ?_
      refine Then.normal ?_
      refine WP.seq ?_
      refine WP.region ?_
      refine OpsE.val (x_move (v := g'.val) (e6.trans hg1.symm)) ?_
      refine OpsE.val (x_assign (v := .slice _ _ _) rfl) ?_
      refine OpsE.nil ?_
      refine Then.normal ?_
      refine WP.ret ?_
      refine Leave0.ret (v := .slice _ _ _) rfl ?_
      refine ⟨g', rfl, sortedOf_of hok hget hve hnend hvp (by rw [← hgx]; exact hg2) hg3, hg4, ?_, ?_⟩
      · rw [hg2.length_eq, hgx, List.length_map]; omega
      · have h1 := (H.take (pt it22 (seenO m9 ck vis))).tail
        exact (h1.take (pt m9 (mapO es ck))).tail
    · intro ne hne w H
      refine OpsE.val (x_extract (v := .bool _) rfl rfl) ?_
      refine OpsE.nil ?_
      refine Then.normal ?_
      refine WP.seq ?_
      refine WP.cond_t rfl rfl ?_
      refine WP.skip ?_
      refine Then.normal ?_
      refine WP.block ?_
      refine WP.seq ?_
      obtain ⟨x, hxe⟩ : ∃ x : Wr, ne.key = x.key ∧ ne.val = agW x := by
        have h1 := getM_mem hok (mem_left hne).1
        rw [hget] at h1
        cases h2 : lastW ws ne.key with
        | none => rw [h2] at h1; cases h1
        | some x => rw [h2] at h1; exact ⟨x, (lastW_some h2).1.symm, (Option.some.inj h1).symm⟩
      have hgl : g.xs.length ≤ n := by rw [hgx, List.length_map]; omega
      obtain ⟨nk, nv, nb⟩ := ne
      obtain ⟨hxk, hxv⟩ := hxe
      dsimp only at hxk hxv
      subst hxk; subst hxv
      refine WP.region ?_
      refine OpsE.val (x_entry (e := ⟨x.key, agW x, nb⟩) (hs2 22 rfl) (H.look _) (H.look _) (hok) ((mem_left hne).1)) ?_
      refine OpsE.val (x_extract (v := agW x) rfl rfl) ?_
      refine OpsE.allocA Try.zeroValue26 H ?_
      intro b8 w H
      refine OpsE.storeA (vs := wrc x) rfl rfl Try.sizeOf26 H (wrc_one x) (Nat.le_refl _) ?_
      intro w H
      refine OpsE.nil ?_
      refine Then.normal ?_
      refine WP.region ?_
      refine OpsE.val (x_move (v := .slice _ _ _) e6) ?_
      refine OpsE.val (x_loadA (vs := wrc x) rfl Try.isAgg26 Try.sizeOf26 (H.look _) rfl rfl) ?_
      refine OpsE.buildSlice1 (vs := wrc x) KW (by decide) rfl rfl rfl (by decide) H ?_
      intro sg w H
      refine OpsE.append_rw (f := wrc) (r := g) (ys := [x]) rfl KW wrc_len wrc_one rfl rfl H hgo (H.look sg) (by simp) rfl (by decide) (by omega) (by omega) ?_
      intro g' w hh1 hh2 hh3 H
      refine OpsE.val (x_assign (v := .slice _ _ _) rfl) ?_
      refine OpsE.nil ?_
      refine InBlock.normal ?_
      refine Then.normal ?_
      have hl1 := left_lt1 hne
      refine ⟨rfl, (by repeat (first | exact hs2 | refine Same.upd ?_ rfl)), vis ++ [⟨x.key, agW x, nb⟩], by omega, g', rfl, ?_, hh2, fun e he => ?_, ?_, ?_, ?_⟩
      · rw [hh1, hgx, List.map_append]; rfl
      · rcases List.mem_append.1 he with h | h
        · exact hve e h
        · rcases List.mem_singleton.1 h with rfl; exact (mem_left hne).1
      · exact List.pairwise_append.2 ⟨hvp, List.pairwise_singleton _ _, fun a ha b hb => by rcases List.mem_singleton.1 hb with rfl; exact (mem_left hne).2 a ha⟩
      · rw [List.length_append]; simp only [List.length_cons, List.length_nil]; omega
      · have h0 : Sat w (g'.own wrc TWr :: pt sg (.cells (wrc x).toArray TWr (0, 0)) :: pt b8 (.cells (wrc x).toArray TWr (0, 0)) :: pt it22 (seenO m9 ck (vis ++ [⟨x.key, agW x, nb⟩])) :: pt m9 (mapO es ck) :: l) := H
        have h1 := (h0.take (pt sg (.cells (wrc x).toArray TWr (0, 0)))).tail
        have h2 := (h1.take (pt b8 (.cells (wrc x).toArray TWr (0, 0)))).tail
        exact h2.perm (by simp only [stars_cons]; ac_rfl)
end Go.Proofs.Ytbhbdpbhhfemhaa

/-
  The laws' own functions: few, there, Some.
-/
namespace Go.Proofs.Ytbhbdpbhhfemhaa
open Go Go.Proofs
set_option maxRecDepth 100000
set_option maxHeartbeats 8000000
set_option linter.unusedVariables false

theorem few_spec {w : World} {l : List HP} {a : Option Addr} {n c : Nat} (H : Sat w l) : Calls Try.prog 21 #[.slice a n c] w (Ret fun v w' => v = .bool (decide ((n : Int) ≤ 30)) ∧ Sat w' l) := by
  refine Calls.of_wp Try.func21 rfl Try.ntmps21 Try.results21 (Nat.le_of_ble_eq_true rfl) ?_
  refine WP.seq ?_
  refine WP.region ?_
  refine OpsE.val (x_assign (v := .bool _) rfl) ?_
  refine OpsE.nil ?_
  refine Then.normal ?_
  refine WP.seq ?_
  refine WP.region ?_
  refine OpsE.val (x_move (v := .slice _ _ _) rfl) ?_
  refine OpsE.val (x_lenL rfl rfl Try.runUnderlying36) ?_
  refine OpsE.val (x_le rfl rfl) ?_
  refine OpsE.val (x_assign (v := .bool _) rfl) ?_
  refine OpsE.nil ?_
  refine Then.normal ?_
  refine WP.ret ?_
  refine Leave0.ret (v := .bool _) rfl ?_
  exact ⟨rfl, H⟩
theorem there_spec {w : World} {l : List HP} {a : Option Addr} {n c : Nat} {ws : List Wr} (H : Sat w l) (hr : RIn wrc TWr l a n c ws) (hn : n ≤ 1000000) :
    Calls Try.prog 30 #[.slice a n c] w (Ret fun v w' => ∃ r : Rw Wr, v = r.val ∧ r.xs = ws.filter (fun x => !x.gone) ∧ r.Ok 3 ∧ Sat w' (r.own wrc TWr :: l)) := by
  have hlen := hr.len
  refine Calls.of_wp Try.func30 rfl Try.ntmps30 Try.results30 (Nat.le_of_ble_eq_true rfl) ?_
  refine WP.seq ?_
  refine WP.region ?_
  refine OpsE.val (x_assign (v := .slice _ _ _) rfl) ?_
  refine OpsE.nil ?_
  refine Then.normal ?_
  refine WP.seq ?_
  refine WP.region ?_
  refine OpsE.buildSlice0 KW H ?_
  intro g0 w H
  refine OpsE.val (x_assign (v := .slice _ _ _) rfl) ?_
  refine OpsE.nil ?_
  refine Then.normal ?_
  refine WP.seq ?_
  refine WP.seq ?_
  refine WP.region ?_
  refine OpsE.val (x_move (v := .slice _ _ _) rfl) ?_
  refine OpsE.val (x_lenL rfl rfl Try.runUnderlying22) ?_
  refine OpsE.val (x_move (v := .int .i64 _) rfl) ?_
  refine OpsE.nil ?_
  refine Then.normal ?_
  refine WP.block ?_
  have H0 : Sat w ((⟨[], some (g0, 0, [])⟩ : Rw Wr).own wrc TWr :: l) := H
  refine WP.loopS [3, 5, 9, 10, 11, 12, 13, 14, 15, 16, 17, 18, 19, 20] (fun (i : Nat) E w => ∃ r : Rw Wr, E 9 = .int .i64 (i : Int) ∧ E 3 = r.val ∧ i ≤ n ∧ r.xs = (ws.take i).filter (fun x => !x.gone) ∧ r.Ok 3 ∧ Sat w (r.own wrc TWr :: l)) (fun i => n - i) 0 ⟨⟨[], some (g0, 0, [])⟩, rfl, rfl, Nat.zero_le _, rfl, ⟨fun h => (by cases h), fun p h => by cases h; exact ⟨Nat.le_refl _, rfl⟩⟩, H0⟩ ?_
  clear H H0
  rintro i E1 w hs ⟨r, e9, e3, hin, hrx, hro, H⟩
  refine WP.seq ?_
  refine WP.region ?_
  refine OpsE.val (x_lt e9 (hs 8 rfl)) ?_
  by_cases hlt : (i : Int) < (n : Int)
  · rw [decide_eq_true hlt]
    refine OpsE.nil ?_
    refine Then.normal ?_
    refine WP.seq ?_
    refine WP.cond_t rfl rfl ?_
    refine WP.skip ?_
    refine Then.normal ?_
    refine WP.seq ?_
    refine WP.block ?_
    refine WP.seq ?_
    obtain ⟨bb, off, B, fz, pre, post, rfl, hB, hBl, hpo⟩ := hr.some (by omega)
    obtain ⟨x, hx⟩ : ∃ x, ws[i]? = some x := ⟨_, List.getElem?_eq_getElem (by omega)⟩
    refine WP.region ?_
    refine OpsE.val (x_indexAddro (i := i) (hs 7 rfl) e9 Try.runUnderlying22 Try.sizeOf26 rfl (by omega)) ?_
    refine OpsE.val (x_loadA (vs := wrc x) rfl Try.isAgg26 Try.sizeOf26 (hB w H.tail) (row_el wrc_len hBl hpo hx) rfl) ?_
    refine OpsE.allocA Try.zeroValue26 H ?_
    intro b5 w H
    refine OpsE.storeA (vs := wrc x) rfl rfl Try.sizeOf26 H (wrc_one x) (Nat.le_refl _) ?_
    intro w H
    refine OpsE.nil ?_
    refine Then.normal ?_
    refine WP.seq ?_
    refine WP.region ?_
    refine OpsE.val (x_fieldAddr (o := 2) rfl Try.runUnderlying26 rfl rfl Try.sizeOf4) ?_
    refine OpsE.val (x_load (v := .bool x.gone) rfl Try.isAgg4 (H.look _) rfl) ?_
    refine OpsE.val (x_not rfl) ?_
    refine OpsE.nil ?_
    refine Then.normal ?_
    refine WP.cond rfl (fun hg => ?_) (fun hg => ?_)
    · skip
      refine WP.region ?_
      refine OpsE.val (x_move (v := .slice _ _ _) e3) ?_
      refine OpsE.val (x_loadA (vs := wrc x) rfl Try.isAgg26 Try.sizeOf26 (H.look _) rfl rfl) ?_
      refine OpsE.buildSlice1 (vs := wrc x) KW (by decide) rfl rfl rfl (by decide) H ?_
      intro sg w H
      have hrl : r.xs.length ≤ i := by rw [hrx]; exact Nat.le_trans (List.length_filter_le _ _) (by rw [List.length_take]; omega)
      refine OpsE.append_rw (f := wrc) (r := r) (ys := [x]) rfl KW wrc_len wrc_one rfl rfl H hro (H.look sg) (by simp) rfl (by decide) (by omega) (by omega) ?_
      intro g' w hh1 hh2 hh3 H
      refine OpsE.val (x_assign (v := .slice _ _ _) rfl) ?_
      refine OpsE.nil ?_
      refine InBlock.normal ?_
      refine Then.normal ?_
      refine WP.region ?_
      refine OpsE.val (x_add (z := ((i + 1 : Nat) : Int)) e9 rfl (by rw [i64n (by omega) (by omega)]; omega)) ?_
      refine OpsE.val (x_move (v := .int .i64 _) rfl) ?_
      refine OpsE.nil ?_
      refine Then.normal ?_
      refine ⟨rfl, (by repeat (first | exact hs | refine Same.upd ?_ rfl)), i + 1, by omega, g', rfl, rfl, by omega, ?_, hh2, ?_⟩
      · rw [hh1, hrx, List.take_add_one, hx, List.filter_append]
        simp only [Option.toList_some, List.filter_cons, hg, if_true, List.filter_nil]
      · have h0 : Sat w (g'.own wrc TWr :: pt sg (.cells (wrc x).toArray TWr (0, 0)) :: pt b5 (.cells (wrc x).toArray TWr (0, 0)) :: l) := H
        exact (h0.swap.tail).swap.tail
    · skip
      refine WP.skip ?_
      refine InBlock.normal ?_
      refine Then.normal ?_
      refine WP.region ?_
      refine OpsE.val (x_add (z := ((i + 1 : Nat) : Int)) e9 rfl (by rw [i64n (by omega) (by omega)]; omega)) ?_
      refine OpsE.val (x_move (v := .int .i64 _) rfl) ?_
      refine OpsE.nil ?_
      refine Then.normal ?_
      refine ⟨rfl, (by repeat (first | exact hs | refine Same.upd ?_ rfl)), i + 1, by omega, r, rfl, e3, by omega, ?_, hro, ?_⟩
      · rw [hrx, List.take_add_one, hx, List.filter_append]
        simp only [Option.toList_some, List.filter_cons, hg, List.filter_nil]
        simp
      · exact H.tail
  · rw [decide_eq_false hlt]
    refine OpsE.nil ?_
    refine Then.normal ?_
    refine WP.seq ?_
    refine WP.cond_f rfl rfl ?_
    refine WP.exit ?_
    refine Then.exit ?_
    refine Then.exit ?_
    refine InBlock.hit ?_
    refine Then.normal ?_
    refine WP.seq ?_
    refine WP.region ?_
    refine OpsE.val (x_move (v := .slice _ _ _) e3) ?_
    refine OpsE.val (x_assign (v := .slice _ _ _) rfl) ?_
    refine OpsE.nil ?_
    refine Then.normal ?_
    refine WP.ret ?_
    refine Leave0.ret (v := .slice _ _ _) rfl ?_
    refine ⟨r, rfl, ?_, hro, H⟩
    rw [hrx, List.take_of_length_le (by omega)]

/-- a write like it that is right -/
def cutS (s : ByteArray) (n : Nat) : ByteArray := if n < s.size then s.extract 0 n else s
def trimK (k : ByteArray) : ByteArray := cutS (⟨#[107]⟩ ++ k) 20
def goneV (x : Wr) : ByteArray := if x.gone then ⟨#[]⟩ else x.val
def trimW (x : Wr) : Wr := ⟨trimK x.key, cutS (goneV x) 40, x.gone⟩
def SomeOf (ws L : List Wr) : Prop := SortedOf ((ws.take 12).map trimW) L
abbrev wcl (k v : ByteArray) (g : Bool) : List Value := [.string k, .string v, .bool g]

theorem Some_spec {w : World} {l : List HP} {a : Option Addr} {n c : Nat} {ws : List Wr} (H : Sat w l) (hr : RIn wrc TWr l a n c ws) (hk : ∀ x ∈ ws, x.key.size ≤ 4611686018427387904) (hn : n ≤ 4611686018427387904) :
    Calls Try.prog 31 #[.slice a n c] w (Ret fun v w' => ∃ r : Rw Wr, v = r.val ∧ SomeOf ws r.xs ∧ r.Ok 3 ∧ r.xs.length ≤ 12 ∧ Sat w' (r.own wrc TWr :: l)) := by
  have hlen := hr.len
  refine Calls.of_wp Try.func31 rfl Try.ntmps31 Try.results31 (Nat.le_of_ble_eq_true rfl) ?_
  refine WP.seq ?_
  refine WP.region ?_
  refine OpsE.val (x_assign (v := .slice _ _ _) rfl) ?_
  refine OpsE.nil ?_
  refine Then.normal ?_
  refine WP.seq ?_
  refine WP.region ?_
  refine OpsE.buildSlice0 KW H ?_
  intro g0 w H
  refine OpsE.val (x_assign (v := .slice _ _ _) rfl) ?_
  refine OpsE.nil ?_
  refine Then.normal ?_
  refine WP.seq ?_
  refine WP.seq ?_
  refine WP.region ?_
  refine OpsE.val (x_move (v := .slice _ _ _) rfl) ?_
  refine OpsE.val (x_lenL rfl rfl Try.runUnderlying22) ?_
  refine OpsE.val (x_move (v := .int .i64 _) rfl) ?_
  refine OpsE.nil ?_
  refine Then.normal ?_
  refine WP.block ?_
  have H0 : Sat w ((⟨[], some (g0, 0, [])⟩ : Rw Wr).own wrc TWr :: l) := H
  refine WP.loopS [3, 5, 6, 10, 11, 12, 13, 14, 15, 16, 17, 18, 19, 20, 21, 22, 23, 24, 25, 26, 27, 28, 29, 30, 31, 32, 33, 34, 35, 36, 37, 38, 39, 40, 41, 42, 43, 44, 45, 46, 47, 48] (fun (i : Nat) E w => ∃ r : Rw Wr, E 10 = .int .i64 (i : Int) ∧ E 3 = r.val ∧ i ≤ n ∧ i ≤ 12 ∧ r.xs = (ws.take i).map trimW ∧ r.Ok 3 ∧ Sat w (r.own wrc TWr :: l)) (fun i => n - i) 0 ⟨⟨[], some (g0, 0, [])⟩, rfl, rfl, Nat.zero_le _, Nat.zero_le _, rfl, ⟨fun h => (by cases h), fun p h => by cases h; exact ⟨Nat.le_refl _, rfl⟩⟩, H0⟩ ?_
  clear H H0
  rintro i E1 w hs ⟨r, e10, e3, hin, hi12, hrx, hro, H⟩
  have hrl : r.xs.length = i := by rw [hrx, List.length_map, List.length_take]; omega
  refine WP.seq ?_
  refine WP.region ?_
  refine OpsE.val (x_lt e10 (hs 9 rfl)) ?_
  by_cases hlt : (i : Int) < (n : Int)
  · rw [decide_eq_true hlt]
    refine OpsE.nil ?_
    refine Then.normal ?_
    refine WP.seq ?_
    refine WP.cond_t rfl rfl ?_
    refine WP.skip ?_
    refine Then.normal ?_
    refine WP.seq ?_
    refine WP.block ?_
    refine WP.seq ?_
    obtain ⟨bb, off, B, fz, pre, post, rfl, hB, hBl, hpo⟩ := hr.some (by omega)
    obtain ⟨x, hx⟩ : ∃ x, ws[i]? = some x := ⟨_, List.getElem?_eq_getElem (by omega)⟩
    have hkx := hk x (List.mem_of_getElem? hx)
    refine WP.region ?_
    refine OpsE.val (x_indexAddro (i := i) (hs 8 rfl) e10 Try.runUnderlying22 Try.sizeOf26 rfl (by omega)) ?_
    refine OpsE.val (x_loadA (vs := wrc x) rfl Try.isAgg26 Try.sizeOf26 (hB w H.tail) (row_el wrc_len hBl hpo hx) rfl) ?_
    refine OpsE.allocA Try.zeroValue26 H ?_
    intro b5 w H
    refine OpsE.storeA (vs := wrc x) rfl rfl Try.sizeOf26 H (wrc_one x) (Nat.le_refl _) ?_
    intro w H
    refine OpsE.nil ?_
    refine Then.normal ?_
    refine WP.seq ?_
    refine WP.seq ?_
    refine WP.region ?_
    refine OpsE.val (x_move (v := .slice _ _ _) e3) ?_
    refine OpsE.val (x_lenL rfl rfl Try.runUnderlying22) ?_
    refine OpsE.val (x_ge rfl rfl) ?_
    by_cases hfull : (r.xs.length : Int) ≥ 12
    · rw [decide_eq_true hfull]
      refine OpsE.nil ?_
      refine Then.normal ?_
      refine WP.cond_t rfl rfl ?_
      refine WP.exit ?_
      refine Then.exit ?_
      refine InBlock.miss rfl ?_
      refine Then.exit ?_
      refine Then.exit ?_
      refine InBlock.hit ?_
      refine Then.normal ?_
      refine WP.seq ?_
      refine WP.region ?_
      refine OpsE.val (x_move (v := .slice r.ad r.xs.length r.cp) e3) ?_
      refine OpsE.call (x_call (vl := [.slice _ _ _]) rfl Try.call15) (Sorted_spec sortC12 H (Rw.rin_own r hro).more (by omega) (by decide)) ?_
      rintro _ w ⟨r2, rfl, hso, hro2, hrl2, H⟩
      refine OpsE.val (x_assign (v := .slice _ _ _) rfl) ?_
      refine OpsE.nil ?_
      refine Then.normal ?_
      refine WP.ret ?_
      refine Leave0.ret (v := .slice _ _ _) rfl ?_
      refine ⟨r2, rfl, ?_, hro2, by omega, H.swap.tail.swap.tail⟩
      unfold SomeOf
      obtain rfl : i = 12 := by omega
      rw [hrx] at hso
      exact hso
    · rw [decide_eq_false hfull]
      refine OpsE.nil ?_
      refine Then.normal ?_
      refine WP.cond_f rfl rfl ?_
      refine WP.skip ?_
      refine Then.normal ?_
      refine WP.seq ?_
      replace H : Sat w (pt b5 (.cells (wrc x).toArray TWr (0, 0)) :: r.own wrc TWr :: l) := H
      refine WP.region ?_
      refine OpsE.val (x_fieldAddr0 rfl Try.runUnderlying26 rfl rfl Try.sizeOf9) ?_
      refine OpsE.val (x_load (v := .string x.key) rfl Try.isAgg9 (H.look _) rfl) ?_
      refine OpsE.val (x_cat rfl rfl (by show 1 + x.key.size ≤ _; omega)) ?_
      refine OpsE.val (x_fieldAddr (o := 1) rfl Try.runUnderlying26 rfl rfl Try.sizeOf9) ?_
      refine OpsE.val (x_load (v := .string x.val) rfl Try.isAgg9 (H.look _) rfl) ?_
      refine OpsE.val (x_fieldAddr (o := 2) rfl Try.runUnderlying26 rfl rfl Try.sizeOf4) ?_
      refine OpsE.val (x_load (v := .bool x.gone) rfl Try.isAgg4 (H.look _) rfl) ?_
      refine OpsE.val (x_build3 (vl := [.string _, .string _, .bool _]) rfl Try.zeroValue26 Try.runUnderlying26 Try.sizeOf9 Try.sizeOf9 Try.sizeOf4 rfl) ?_
      refine OpsE.allocA Try.zeroValue26 H ?_
      intro b6 w H
      refine OpsE.storeA (vs := wcl (⟨#[107]⟩ ++ x.key) x.val x.gone) rfl rfl Try.sizeOf26 H (wrc_one ⟨_, _, _⟩) (Nat.le_refl _) ?_
      intro w H
      refine OpsE.nil ?_
      refine Then.normal ?_
      refine WP.cutS [25, 26, 27, 28, 29, 30, 31, 32] (fun E w => Sat w (pt b6 (.cells (wcl (trimK x.key) x.val x.gone).toArray TWr (0, 0)) :: pt b5 (.cells (wrc x).toArray TWr (0, 0)) :: r.own wrc TWr :: l)) ?_ ?_
      · skip
        refine WP.seq ?_
        replace H : Sat w (pt b6 (.cells (wcl (⟨#[107]⟩ ++ x.key) x.val x.gone).toArray TWr (0, 0)) :: pt b5 (.cells (wrc x).toArray TWr (0, 0)) :: r.own wrc TWr :: l) := H
        refine WP.region ?_
        refine OpsE.val (x_fieldAddr0 rfl Try.runUnderlying26 rfl rfl Try.sizeOf9) ?_
        refine OpsE.val (x_load (v := .string (⟨#[107]⟩ ++ x.key)) rfl Try.isAgg9 (H.look _) rfl) ?_
        refine OpsE.val (x_lenS rfl rfl Try.runUnderlying9) ?_
        refine OpsE.val (x_gt rfl rfl) ?_
        by_cases c1 : ((⟨#[107]⟩ ++ x.key : ByteArray).size : Int) > 20
        · rw [decide_eq_true c1]
          refine OpsE.nil ?_
          refine Then.normal ?_
          refine WP.cond_t rfl rfl ?_
          refine WP.region ?_
          refine OpsE.val (x_fieldAddr0 rfl Try.runUnderlying26 rfl rfl Try.sizeOf9) ?_
          refine OpsE.val (x_load (v := .string (⟨#[107]⟩ ++ x.key)) rfl Try.isAgg9 (H.look _) rfl) ?_
          refine OpsE.val (x_strHi (h := 20) rfl rfl Try.runUnderlying9 rfl (by omega)) ?_
          refine OpsE.val (x_fieldAddr0 rfl Try.runUnderlying26 rfl rfl Try.sizeOf9) ?_
          refine OpsE.store (v := .string _) rfl rfl rfl rfl Try.sizeOf9 H (by simp) ?_
          intro w H
          simp only [List.set_cons_zero, List.set_cons_succ] at H
          refine OpsE.nil ?_
          refine Then.normal ?_
          refine ⟨rfl, (by repeat (first | exact Same.refl _ _ | refine Same.upd ?_ rfl)), ?_⟩
          unfold trimK cutS; rw [if_pos (by omega)]; exact H
        · rw [decide_eq_false c1]
          refine OpsE.nil ?_
          refine Then.normal ?_
          refine WP.cond_f rfl rfl ?_
          refine WP.skip ?_
          refine Then.normal ?_
          refine ⟨rfl, (by repeat (first | exact Same.refl _ _ | refine Same.upd ?_ rfl)), ?_⟩
          unfold trimK cutS; rw [if_neg (by omega)]; exact H
      · skip
        rintro E2 w hs2 H
        refine WP.cutS [33, 34, 35] (fun E w => Sat w (pt b6 (.cells (wcl (trimK x.key) (goneV x) x.gone).toArray TWr (0, 0)) :: pt b5 (.cells (wrc x).toArray TWr (0, 0)) :: r.own wrc TWr :: l)) ?_ ?_
        · skip
          refine WP.seq ?_
          refine WP.region ?_
          refine OpsE.val (x_fieldAddr (o := 2) (hs2 6 rfl) Try.runUnderlying26 rfl rfl Try.sizeOf4) ?_
          refine OpsE.val (x_load (v := .bool x.gone) rfl Try.isAgg4 (H.look _) rfl) ?_
          refine OpsE.nil ?_
          refine Then.normal ?_
          refine WP.cond rfl (fun c2 => ?_) (fun c2 => ?_)
          · skip
            refine WP.region ?_
            refine OpsE.val (x_fieldAddr (o := 1) (hs2 6 rfl) Try.runUnderlying26 rfl rfl Try.sizeOf9) ?_
            refine OpsE.store (v := .string _) rfl rfl rfl rfl Try.sizeOf9 H (by simp) ?_
            intro w H
            simp only [List.set_cons_zero, List.set_cons_succ] at H
            refine OpsE.nil ?_
            refine Then.normal ?_
            refine ⟨rfl, (by repeat (first | exact Same.refl _ _ | refine Same.upd ?_ rfl)), ?_⟩
            unfold goneV; rw [if_pos c2]; exact H
          · skip
            refine WP.skip ?_
            refine Then.normal ?_
            refine ⟨rfl, (by repeat (first | exact Same.refl _ _ | refine Same.upd ?_ rfl)), ?_⟩
            unfold goneV; rw [if_neg (by rw [c2]; simp)]; exact H
        · skip
          rintro E3 w hs3 H
          refine WP.cutS [36, 37, 38, 39, 40, 41, 42, 43] (fun E w => Sat w (pt b6 (.cells (wrc (trimW x)).toArray TWr (0, 0)) :: pt b5 (.cells (wrc x).toArray TWr (0, 0)) :: r.own wrc TWr :: l)) ?_ ?_
          · skip
            refine WP.seq ?_
            refine WP.region ?_
            refine OpsE.val (x_fieldAddr (o := 1) ((hs3 6 rfl).trans (hs2 6 rfl)) Try.runUnderlying26 rfl rfl Try.sizeOf9) ?_
            refine OpsE.val (x_load (v := .string (goneV x)) rfl Try.isAgg9 (H.look _) rfl) ?_
            refine OpsE.val (x_lenS rfl rfl Try.runUnderlying9) ?_
            refine OpsE.val (x_gt rfl rfl) ?_
            by_cases c3 : ((goneV x).size : Int) > 40
            · rw [decide_eq_true c3]
              refine OpsE.nil ?_
              refine Then.normal ?_
              refine WP.cond_t rfl rfl ?_
              refine WP.region ?_
              refine OpsE.val (x_fieldAddr (o := 1) ((hs3 6 rfl).trans (hs2 6 rfl)) Try.runUnderlying26 rfl rfl Try.sizeOf9) ?_
              refine OpsE.val (x_load (v := .string (goneV x)) rfl Try.isAgg9 (H.look _) rfl) ?_
              refine OpsE.val (x_strHi (h := 40) rfl rfl Try.runUnderlying9 rfl (by omega)) ?_
              refine OpsE.val (x_fieldAddr (o := 1) ((hs3 6 rfl).trans (hs2 6 rfl)) Try.runUnderlying26 rfl rfl Try.sizeOf9) ?_
              refine OpsE.store (v := .string _) rfl rfl rfl rfl Try.sizeOf9 H (by simp) ?_
              intro w H
              simp only [List.set_cons_zero, List.set_cons_succ] at H
              refine OpsE.nil ?_
              refine Then.normal ?_
              refine ⟨rfl, (by repeat (first | exact Same.refl _ _ | refine Same.upd ?_ rfl)), ?_⟩
              have e1 : wrc (trimW x) = wcl (trimK x.key) ((goneV x).extract 0 40) x.gone := by unfold trimW cutS; rw [if_pos (by omega)]; rfl
              rw [e1]; exact H
            · rw [decide_eq_false c3]
              refine OpsE.nil ?_
              refine Then.normal ?_
              refine WP.cond_f rfl rfl ?_
              refine WP.skip ?_
              refine Then.normal ?_
              refine ⟨rfl, (by repeat (first | exact Same.refl _ _ | refine Same.upd ?_ rfl)), ?_⟩
              have e1 : wrc (trimW x) = wcl (trimK x.key) (goneV x) x.gone := by unfold trimW cutS; rw [if_neg (by omega)]; rfl
              rw [e1]; exact H
          · skip
            rintro E4 w hs4 H
            refine WP.region ?_
            refine OpsE.val (x_move (v := .slice _ _ _) ((hs4 3 rfl).trans ((hs3 3 rfl).trans ((hs2 3 rfl).trans e3)))) ?_
            refine OpsE.val (x_loadA (vs := wrc (trimW x)) ((hs4 6 rfl).trans ((hs3 6 rfl).trans (hs2 6 rfl))) Try.isAgg26 Try.sizeOf26 (H.look _) rfl rfl) ?_
            refine OpsE.buildSlice1 (vs := wrc (trimW x)) KW (by decide) rfl rfl rfl (by decide) H ?_
            intro sg w H
            refine OpsE.append_rw (f := wrc) (r := r) (ys := [trimW x]) rfl KW wrc_len wrc_one rfl rfl H hro (H.look sg) (by simp) rfl (by decide) (by omega) (by omega) ?_
            intro g' w hh1 hh2 hh3 H
            refine OpsE.val (x_assign (v := .slice _ _ _) rfl) ?_
            refine OpsE.nil ?_
            refine InBlock.normal ?_
            refine Then.normal ?_
            refine WP.region ?_
            refine OpsE.val (x_add (z := ((i + 1 : Nat) : Int)) ((hs4 10 rfl).trans ((hs3 10 rfl).trans ((hs2 10 rfl).trans e10))) rfl (by rw [i64n (by omega) (by omega)]; omega)) ?_
            refine OpsE.val (x_move (v := .int .i64 _) rfl) ?_
            refine OpsE.nil ?_
            refine Then.normal ?_
            refine ⟨rfl, (by repeat (first | exact hs | refine Same.upd ?_ rfl | refine Same.sub hs4 ?_ rfl | refine Same.sub hs3 ?_ rfl | refine Same.sub hs2 ?_ rfl)), i + 1, by omega, g', rfl, rfl, by omega, by omega, ?_, hh2, ?_⟩
            · rw [hh1, hrx, List.take_add_one, hx, List.map_append]; rfl
            · have h0 : Sat w (g'.own wrc TWr :: pt sg (.cells (wrc (trimW x)).toArray TWr (0, 0)) :: pt b6 (.cells (wrc (trimW x)).toArray TWr (0, 0)) :: pt b5 (.cells (wrc x).toArray TWr (0, 0)) :: l) := H
              exact ((h0.swap.tail).swap.tail).swap.tail
  · rw [decide_eq_false hlt]
    refine OpsE.nil ?_
    refine Then.normal ?_
    refine WP.seq ?_
    refine WP.cond_f rfl rfl ?_
    refine WP.exit ?_
    refine Then.exit ?_
    refine Then.exit ?_
    refine InBlock.hit ?_
    refine Then.normal ?_
    refine WP.seq ?_
    refine WP.region ?_
    refine OpsE.val (x_move (v := .slice r.ad r.xs.length r.cp) e3) ?_
    refine OpsE.call (x_call (vl := [.slice _ _ _]) rfl Try.call15) (Sorted_spec sortC12 H (Rw.rin_own r hro) (by omega) (by decide)) ?_
    rintro _ w ⟨r2, rfl, hso, hro2, hrl2, H⟩
    refine OpsE.val (x_assign (v := .slice _ _ _) rfl) ?_
    refine OpsE.nil ?_
    refine Then.normal ?_
    refine WP.ret ?_
    refine Leave0.ret (v := .slice _ _ _) rfl ?_
    refine ⟨r2, rfl, ?_, hro2, by omega, H.swap.tail⟩
    unfold SomeOf
    rw [List.take_of_length_le (by omega)]
    rw [hrx, List.take_of_length_le (by omega)] at hso
    exact hso
end Go.Proofs.Ytbhbdpbhhfemhaa

/-
  The laws' own functions: List, made.
-/
namespace Go.Proofs.Ytbhbdpbhhfemhaa
open Go Go.Proofs
set_option maxRecDepth 100000
set_option maxHeartbeats 8000000
set_option linter.unusedVariables false

abbrev Cmt := Int × Int × List Wr
/-- a slice of writes, and what it reads -/
structure Sl where
  a : Option Addr
  n : Nat
  c : Nat
  ws : List Wr
def slc (s : Sl) : List Value := [.slice s.a s.n s.c]
theorem slc_len (s : Sl) : (slc s).length = 1 := rfl
abbrev TSl : TypeId := 22
structure SlIn (l : List HP) (a : Option Addr) (n c : Nat) (xs : List Sl) : Prop where
  row : RIn slc TSl l a n c xs
  ws : ∀ x ∈ xs, RIn wrc TWr l x.a x.n x.c x.ws
  sz : ∀ x ∈ xs, x.n ≤ 4611686018427387904 ∧ ∀ y ∈ x.ws, y.key.size ≤ 4611686018427387904
theorem SlIn.more {A : HP} {l : List HP} {a : Option Addr} {n c : Nat} {xs : List Sl} (h : SlIn l a n c xs) : SlIn (A :: l) a n c xs := ⟨h.row.more, fun x hx => (h.ws x hx).more, h.sz⟩
/-- a commit whose writes lie somewhere -/
structure CmV where
  seq : Int
  time : Int
  a : Option Addr
  n : Nat
  c : Nat
  ws : List Wr
def cvc (x : CmV) : List Value := [.int .i64 x.seq, .int .i64 x.time, .slice x.a x.n x.c]
theorem cvc_len (x : CmV) : (cvc x).length = 3 := rfl
theorem cvc_one (c : CmV) : ∀ u ∈ cvc c, u.oneCell' = true := by
  intro u hu
  simp only [cvc, List.mem_cons, List.not_mem_nil, or_false] at hu
  rcases hu with rfl | rfl | rfl <;> rfl
def CmV.ab (x : CmV) : Cmt := (x.seq, x.time, x.ws)
def Cm.v (c : Cm) : CmV := ⟨c.seq, c.time, c.w.ad, c.w.xs.length, c.w.cp, c.w.xs⟩
theorem cvc_v (c : Cm) : cvc c.v = cmc c := rfl
theorem cm_ab (xs : List Cm) : (xs.map Cm.v).map CmV.ab = xs.map cma := by rw [List.map_map]; rfl
theorem cvc_flat (xs : List Cm) : (xs.map Cm.v).flatMap cvc = xs.flatMap cmc := by
  induction xs with
  | nil => rfl
  | cons x xs ih => rw [List.map_cons, List.flatMap_cons, List.flatMap_cons, ih, cvc_v]
structure CIn (l : List HP) (a : Option Addr) (n c : Nat) (xs : List CmV) : Prop where
  row : RIn cvc TCm l a n c xs
  ws : ∀ x ∈ xs, RIn wrc TWr l x.a x.n x.c x.ws
theorem CIn.more {A : HP} {l : List HP} {a : Option Addr} {n c : Nat} {xs : List CmV} (h : CIn l a n c xs) : CIn (A :: l) a n c xs := ⟨h.row.more, fun x hx => (h.ws x hx).more⟩
/-- for whoever holds more -/
theorem RIn.sub {α : Type} {f : α → List Value} {T : TypeId} {l m : List HP} {a : Option Addr} {n c : Nat} {xs : List α} (h : RIn f T l a n c xs) (hm : ∀ w, Sat w m → Sat w l) : RIn f T m a n c xs :=
  ⟨h.len, h.cap, h.mem.imp id fun ⟨b, off, B, fz, pre, post, h1, h2, h3⟩ => ⟨b, off, B, fz, pre, post, h1, fun w H => h2 w (hm w H), h3⟩⟩
theorem CIn.sub {l m : List HP} {a : Option Addr} {n c : Nat} {xs : List CmV} (h : CIn l a n c xs) (hm : ∀ w, Sat w m → Sat w l) : CIn m a n c xs := ⟨h.row.sub hm, fun x hx => (h.ws x hx).sub hm⟩
theorem SlIn.sub {l m : List HP} {a : Option Addr} {n c : Nat} {xs : List Sl} (h : SlIn l a n c xs) (hm : ∀ w, Sat w m → Sat w l) : SlIn m a n c xs := ⟨h.row.sub hm, fun x hx => (h.ws x hx).sub hm, h.sz⟩
theorem CIn.nil {l : List HP} : CIn l none 0 0 [] := ⟨RIn.nil, fun _ h => by cases h⟩
theorem RIn.mapf {α β : Type} {f : α → List Value} {g : β → List Value} {T : TypeId} {l : List HP} {a : Option Addr} {n c : Nat} {xs : List α} {ys : List β} (h : RIn f T l a n c xs) (hf : ys.flatMap g = xs.flatMap f) (hl : ys.length = xs.length) : RIn g T l a n c ys :=
  ⟨h.len.trans hl.symm, h.cap, h.mem.imp (fun ⟨h2, h3⟩ => ⟨List.length_eq_zero_iff.1 (by rw [hl, h2]; rfl), h3⟩) fun ⟨b, off, B, fz, pre, post, h1, h2, h3, h4⟩ => ⟨b, off, B, fz, pre, post, h1, h2, by rw [hf]; exact h3, h4⟩⟩
/-- an owned list of commits -/
theorem CIn.of_rw {r : Rw Cm} (ok : r.Ok 3) (hw : ∀ c ∈ r.xs, c.w.Ok 3) {l m m2 : List HP} [t : Take l (r.own cmc TCm) m] [t2 : Take l (stars (r.xs.map cmH)) m2] : CIn l r.ad r.xs.length r.cp (r.xs.map Cm.v) :=
  ⟨(Rw.rin_own r ok).mapf (cvc_flat _) (by rw [List.length_map]), fun x hx => by
    obtain ⟨c, hc, rfl⟩ := List.mem_map.1 hx
    exact rin_cm hc (hw c hc)⟩

/-- commits one behind the other -/
def ListOf (first : Int) (wss : List (List Wr)) (cms : List Cmt) : Prop := cms.length = wss.length ∧ ∀ (i : Nat) (c : Cmt) (ws : List Wr), cms[i]? = some c → wss[i]? = some ws → c.1 = first + i ∧ c.2.1 = 10 * i ∧ SomeOf ws c.2.2

theorem List_spec {w : World} {l : List HP} {first : Int} {a : Option Addr} {n c : Nat} {xs : List Sl} (H : Sat w l) (hr : SlIn l a n c xs) (hn : n ≤ 1000) (hf : 0 ≤ first ∧ first ≤ 1099511627776) :
    Calls Try.prog 22 #[.int .i64 first, .slice a n c] w (Ret fun v w' => ∃ r : Rw Cm, v = r.val ∧ ListOf first (xs.map Sl.ws) (r.xs.map cma) ∧ r.Ok 3 ∧ (∀ c ∈ r.xs, c.w.Ok 3) ∧ Sat w' (r.own cmc TCm :: stars (r.xs.map cmH) :: l)) := by
  have hlen := hr.row.len
  refine Calls.of_wp Try.func22 rfl Try.ntmps22 Try.results22 (Nat.le_of_ble_eq_true rfl) ?_
  refine WP.seq ?_
  refine WP.region ?_
  refine OpsE.val (x_assign (v := .slice _ _ _) rfl) ?_
  refine OpsE.nil ?_
  refine Then.normal ?_
  refine WP.seq ?_
  refine WP.region ?_
  refine OpsE.buildSlice0 CM.K H ?_
  intro g0 w H
  refine OpsE.val (x_assign (v := .slice _ _ _) rfl) ?_
  refine OpsE.nil ?_
  refine Then.normal ?_
  refine WP.seq ?_
  refine WP.seq ?_
  refine WP.region ?_
  refine OpsE.val (x_move (v := .slice _ _ _) rfl) ?_
  refine OpsE.val (x_lenL rfl rfl Try.runUnderlying36) ?_
  refine OpsE.val (x_move (v := .int .i64 _) rfl) ?_
  refine OpsE.nil ?_
  refine Then.normal ?_
  refine WP.block ?_
  have H0 : Sat w ((⟨[], some (g0, 0, [])⟩ : Rw Cm).own cmc TCm :: stars (([] : List Cm).map cmH) :: l) := H.perm (by show _ = stars (pt g0 (.cells #[] TCm (0, 0)) :: HP.one :: l); simp only [stars_cons]; rw [HP.sep_comm HP.one, HP.sep_one])
  refine WP.loopS [5, 6, 7, 11, 12, 13, 14, 15, 16, 17, 18, 19, 20, 21, 22, 23, 24, 25, 26, 27] (fun (i : Nat) E w => ∃ r : Rw Cm, E 11 = .int .i64 (i : Int) ∧ E 5 = r.val ∧ i ≤ n ∧ ListOf first ((xs.take i).map Sl.ws) (r.xs.map cma) ∧ r.Ok 3 ∧ (∀ c ∈ r.xs, c.w.Ok 3) ∧ Sat w (r.own cmc TCm :: stars (r.xs.map cmH) :: l)) (fun i => n - i) 0 ⟨⟨[], some (g0, 0, [])⟩, rfl, rfl, Nat.zero_le _, ⟨rfl, fun i c ws h => by simp at h⟩, ⟨fun h => (by cases h), fun p h => by cases h; exact ⟨Nat.le_refl _, rfl⟩⟩, (fun _ h => by cases h), H0⟩ ?_
  clear H H0
  rintro i E1 w hs ⟨r, e11, e5, hin, hrx, hro, hrw, H⟩
  refine WP.seq ?_
  refine WP.region ?_
  refine OpsE.val (x_lt e11 (hs 10 rfl)) ?_
  by_cases hlt : (i : Int) < (n : Int)
  · rw [decide_eq_true hlt]
    refine OpsE.nil ?_
    refine Then.normal ?_
    refine WP.seq ?_
    refine WP.cond_t rfl rfl ?_
    refine WP.skip ?_
    refine Then.normal ?_
    refine WP.seq ?_
    refine WP.block ?_
    refine WP.seq ?_
    obtain ⟨bb, off, B, fz, pre, post, rfl, hB, hBl, hpo⟩ := hr.row.some (by omega)
    obtain ⟨s, hsx⟩ : ∃ s, xs[i]? = some s := ⟨_, List.getElem?_eq_getElem (by omega)⟩
    have hsm := List.mem_of_getElem? hsx
    have hrl : r.xs.length = i := by have := hrx.1; rw [List.length_map, List.length_map, List.length_take] at this; omega
    refine WP.region ?_
    refine OpsE.val (x_move (v := .int .i64 _) e11) ?_
    refine OpsE.val (x_indexAddro1 (i := i) (hs 9 rfl) e11 Try.runUnderlying36 Try.sizeOf22 rfl (by omega)) ?_
    refine OpsE.val (x_load (v := .slice s.a s.n s.c) rfl Try.isAgg22 (hB w H.tail.tail) (by have := row_cell slc_len hBl hpo (j := 0) hsx rfl; simpa using this)) ?_
    refine OpsE.val (x_assign (v := .int .i64 _) rfl) ?_
    refine OpsE.val (x_assign (v := .slice _ _ _) rfl) ?_
    refine OpsE.nil ?_
    refine Then.normal ?_
    refine WP.region ?_
    refine OpsE.val (x_move (v := .slice _ _ _) e5) ?_
    refine OpsE.val (x_move (v := .int .i64 first) (hs 0 rfl)) ?_
    refine OpsE.val (x_move (v := .int .i64 _) rfl) ?_
    refine OpsE.val (x_add (z := first + (i : Int)) rfl rfl (i64n (by omega) (by omega))) ?_
    refine OpsE.val (x_move (v := .int .i64 _) rfl) ?_
    refine OpsE.val (x_mul (z := 10 * (i : Int)) rfl rfl (i64n (by omega) (by omega))) ?_
    refine OpsE.val (x_move (v := .slice _ _ _) rfl) ?_
    refine OpsE.call (x_call (vl := [.slice _ _ _]) rfl Try.call31) (Some_spec H (hr.ws s hsm).more.more (hr.sz s hsm).2 (hr.sz s hsm).1) ?_
    rintro _ w ⟨r', rfl, hso, hro', hrl', H⟩
    refine OpsE.val (x_build3 (vl := [.int .i64 _, .int .i64 _, .slice _ _ _]) rfl Try.zeroValue33 Try.runUnderlying33 Try.sizeOf3 Try.sizeOf3 Try.sizeOf22 rfl) ?_
    obtain ⟨cm, hcm2⟩ : ∃ cm : Cm, cm = ⟨first + (i : Int), 10 * (i : Int), r'⟩ := ⟨_, rfl⟩
    refine OpsE.buildSlice1 (vs := cmc cm) CM.K (by decide) rfl (by rw [hcm2]; rfl) rfl (by decide) H ?_
    intro g w H
    refine OpsE.append_rw (f := cmc) (r := r) (ys := [cm]) rfl CM.K cmc_len cmc_one rfl rfl H hro (H.look g) (by simp) rfl (by decide) (by omega) (by omega) ?_
    intro r2 w hh1 hh2 hh3 H
    refine OpsE.val (x_assign (v := .slice _ _ _) rfl) ?_
    refine OpsE.nil ?_
    refine InBlock.normal ?_
    refine Then.normal ?_
    refine WP.region ?_
    refine OpsE.val (x_add (z := ((i + 1 : Nat) : Int)) e11 rfl (by rw [i64n (by omega) (by omega)]; omega)) ?_
    refine OpsE.val (x_move (v := .int .i64 _) rfl) ?_
    refine OpsE.nil ?_
    refine Then.normal ?_
    refine ⟨rfl, (by repeat (first | exact hs | refine Same.upd ?_ rfl)), i + 1, by omega, r2, rfl, rfl, by omega, ⟨?_, fun j c' ws' hc' hws' => ?_⟩, hh2, fun c' hc' => ?_, ?_⟩
    · rw [List.length_map, List.length_map, hh1, List.length_append, hrl, List.length_take]; simp only [List.length_cons, List.length_nil]; omega
    · rw [hh1, List.map_append] at hc'
      rw [List.take_add_one, hsx, List.map_append] at hws'
      have hl1 : ((xs.take i).map Sl.ws).length = i := by rw [List.length_map, List.length_take]; omega
      have hl2 : (r.xs.map cma).length = i := by rw [List.length_map]; exact hrl
      rcases Nat.lt_or_ge j i with hj | hj
      · rw [List.getElem?_append_left (by omega)] at hc' hws'
        exact hrx.2 j c' ws' hc' hws'
      · rw [List.getElem?_append_right (by omega)] at hc' hws'
        have hj0 : j - i = 0 := by
          have := (List.getElem?_eq_some_iff.1 hc').1
          simp only [List.map_cons, List.map_nil, List.length_cons, List.length_nil] at this; omega
        rw [hl2, hj0] at hc'; rw [hl1, hj0] at hws'
        obtain rfl : j = i := by omega
        simp only [List.map_cons, List.map_nil, Option.toList_some, List.getElem?_cons_zero, Option.some.injEq] at hc' hws'
        subst hc'; subst hws'
        rw [hcm2]; exact ⟨rfl, rfl, hso⟩
    · rw [hh1] at hc'
      rcases List.mem_append.1 hc' with h | h
      · exact hrw c' h
      · rcases List.mem_singleton.1 h with rfl
        rw [hcm2]; exact hro'
    · have h1 := (H.take (pt g (.cells (cmc cm).toArray TCm (0, 0)))).tail
      have h3 := Rw.freeze (h1.take (r'.own wrc TWr))
      exact h3.perm (by
        have e1 : stars (r2.xs.map cmH) = HP.sep (stars (r.xs.map cmH)) (r'.ror wrc TWr) := by
          rw [hh1, List.map_append, stars_append, show stars ([cm].map cmH) = HP.sep (cmH cm) HP.one from rfl, HP.sep_one, hcm2]; rfl
        simp only [stars_cons]
        rw [e1]
        ac_rfl)
  · rw [decide_eq_false hlt]
    refine OpsE.nil ?_
    refine Then.normal ?_
    refine WP.seq ?_
    refine WP.cond_f rfl rfl ?_
    refine WP.exit ?_
    refine Then.exit ?_
    refine Then.exit ?_
    refine InBlock.hit ?_
    refine Then.normal ?_
    refine WP.seq ?_
    refine WP.region ?_
    refine OpsE.val (x_move (v := .slice _ _ _) e5) ?_
    refine OpsE.val (x_assign (v := .slice _ _ _) rfl) ?_
    refine OpsE.nil ?_
    refine Then.normal ?_
    refine WP.ret ?_
    refine Leave0.ret (v := .slice _ _ _) rfl ?_
    refine ⟨r, rfl, ?_, hro, hrw, H⟩
    rw [List.take_of_length_le (by omega)] at hrx; exact hrx

/-- a store behind commits -/
def stK (first : Int) (b : List Wr) (cms : List Cmt) : List KVs := cms.foldl (fun ks c => c.2.2.foldl (addK c.1) ks) (b.foldl (newK first) [])
theorem stK_snoc (first : Int) (b : List Wr) (cms : List Cmt) (c : Cmt) : stK first b (cms ++ [c]) = c.2.2.foldl (addK c.1) (stK first b cms) := by unfold stK; rw [List.foldl_append]; rfl
theorem SC.Ok.mono {N N' : Nat} {S : SC} (ok : S.Ok N) (h : N ≤ N') (h' : N' ≤ 500000) : S.Ok N' :=
  ⟨ok.t, ok.its, fun e he => by obtain ⟨h1, h2, h3⟩ := ok.es e he; exact ⟨h1, by omega, h3⟩, by have := ok.num; omega, ok.hist, ok.ws, ok.low, ok.last, h'⟩
/-- commits that a store behind 'first' takes -/
structure Takes (first : Int) (cms : List Cmt) : Prop where
  seq : ∀ (i : Nat) (c : Cmt), cms[i]? = some c → c.1 = first + 1 + i ∧ c.1 ≤ 1099511627776
  time : ∀ (i : Nat) (c : Cmt), cms[i]? = some c → 0 ≤ c.2.1 ∧ c.2.1 ≤ 1099511627776
  right : ∀ c ∈ cms, rightB c.2.2
  rise : ∀ (i : Nat) (c d : Cmt), cms[i]? = some c → cms[i + 1]? = some d → c.2.1 ≤ d.2.1
theorem right_len {ws : List Wr} (h : rightB ws) : ws.length ≤ 200 := by have := h.1; omega
theorem right_sz {ws : List Wr} (h : rightB ws) : ∀ x ∈ ws, x.key.size ≤ 9223372036854775807 ∧ x.val.size ≤ 9223372036854775807 := by
  intro x hx
  obtain ⟨i, hi, rfl⟩ := List.mem_iff_getElem.1 hx
  obtain ⟨_, h2, h3, _⟩ := okTo_at h.2 (i := i) (x := ws[i]) (by simp)
  omega

theorem made_spec {w : World} {l : List HP} {first : Int} {a a2 : Option Addr} {n c n2 c2 : Nat} {bs : List Wr} {xs : List CmV} (H : Sat w l) (hb : RIn wrc TWr l a n c bs) (hn : n ≤ 10000) (hg : goodN first bs) (hx : CIn l a2 n2 c2 xs) (hn2 : n2 ≤ 1000) (ht : Takes first (xs.map CmV.ab)) (hbs : ∀ x ∈ bs, x.key.size ≤ 9223372036854775807 ∧ x.val.size ≤ 9223372036854775807) :
    Calls Try.prog 23 #[.int .i64 first, .slice a n c, .slice a2 n2 c2] w (Ret fun v w' => ∃ (b : Nat) (S : SC), v = .tuple #[.pointer (some ⟨b, 0, none⟩), .bool true] ∧ S.Ok 300000 ∧ S.low = first ∧ S.hist.xs.map cma = xs.map CmV.ab ∧ ek S.es = stK first bs (xs.map CmV.ab) ∧ Sat w' (StP b S :: l)) := by
  have hlen := hx.row.len
  have hlb := hb.len
  refine Calls.of_wp Try.func23 rfl Try.ntmps23 Try.results23 (Nat.le_of_ble_eq_true rfl) ?_
  refine WP.seq ?_
  refine WP.region ?_
  refine OpsE.val (x_assign (v := .pointer _) rfl) ?_
  refine OpsE.val (x_assign (v := .bool _) rfl) ?_
  refine OpsE.nil ?_
  refine Then.normal ?_
  refine WP.seq ?_
  refine WP.region ?_
  refine OpsE.val (x_move (v := .int .i64 first) rfl) ?_
  refine OpsE.val (x_move (v := .slice _ _ _) rfl) ?_
  refine OpsE.call (x_call (vl := [.int .i64 _, .slice _ _ _]) rfl Try.call40) (New_spec (ws := bs) H hb (by omega) hbs) ?_
  rintro _ w (⟨hb2, _⟩ | ⟨_, b, S0, rfl, ok0, hl0, hh0, hk0, H⟩)
  · exact absurd hg hb2
  refine OpsE.val (x_move (v := .tuple _) rfl) ?_
  refine OpsE.val (x_extract (v := .pointer _) rfl rfl) ?_
  refine OpsE.val (x_extract (v := .int .i64 _) rfl rfl) ?_
  refine OpsE.val (x_assign (v := .pointer _) rfl) ?_
  refine OpsE.val (x_assign (v := .int .i64 _) rfl) ?_
  refine OpsE.nil ?_
  refine Then.normal ?_
  refine WP.seq ?_
  refine WP.seq ?_
  refine WP.region ?_
  refine OpsE.val (x_move (v := .int .i64 _) rfl) ?_
  refine OpsE.val (x_neI rfl rfl) ?_
  rw [decide_eq_false (by decide)]
  refine OpsE.nil ?_
  refine Then.normal ?_
  refine WP.cond_f rfl rfl ?_
  refine WP.skip ?_
  refine Then.normal ?_
  refine WP.seq ?_
  refine WP.seq ?_
  refine WP.region ?_
  refine OpsE.val (x_move (v := .slice _ _ _) rfl) ?_
  refine OpsE.val (x_lenL rfl rfl Try.runUnderlying38) ?_
  refine OpsE.val (x_move (v := .int .i64 _) rfl) ?_
  refine OpsE.nil ?_
  refine Then.normal ?_
  refine WP.block ?_
  refine WP.loopS [6, 7, 11, 22, 23, 24, 25, 26, 27, 28, 29, 30] (fun (i : Nat) E w => ∃ Si : SC, E 22 = .int .i64 (i : Int) ∧ i ≤ n2 ∧ Si.Ok (n + 200 * i) ∧ Si.low = first ∧ Si.hist.xs.map cma = (xs.take i).map CmV.ab ∧ ek Si.es = stK first bs ((xs.take i).map CmV.ab) ∧ Sat w (StP b Si :: l)) (fun i => n2 - i) 0 ⟨S0, rfl, Nat.zero_le _, by simpa using ok0, hl0, by rw [hh0]; rfl, hk0, H⟩ ?_
  clear H
  rintro i E1 w hs ⟨Si, e22, hin, oki, hlow, hhist, hek, H⟩
  refine WP.seq ?_
  refine WP.region ?_
  refine OpsE.val (x_lt e22 (hs 21 rfl)) ?_
  by_cases hlt : (i : Int) < (n2 : Int)
  · rw [decide_eq_true hlt]
    refine OpsE.nil ?_
    refine Then.normal ?_
    refine WP.seq ?_
    refine WP.cond_t rfl rfl ?_
    refine WP.skip ?_
    refine Then.normal ?_
    refine WP.seq ?_
    refine WP.block ?_
    refine WP.seq ?_
    obtain ⟨bb, off, B, fz, pre, post, rfl, hB, hBl, hpo⟩ := hx.row.some (by omega)
    obtain ⟨x, hxi⟩ : ∃ x, xs[i]? = some x := ⟨_, List.getElem?_eq_getElem (by omega)⟩
    have hxm := List.mem_of_getElem? hxi
    have hrx := hx.ws x hxm
    have hrg := ht.right x.ab (List.mem_map.2 ⟨x, hxm, rfl⟩)
    have hal : x.n ≤ 200 := by rw [hrx.len]; exact right_len hrg
    have hhl : Si.hist.xs.length = i := by have := congrArg List.length hhist; rw [List.length_map, List.length_map, List.length_take] at this; omega
    have hgood : goodC Si x.seq x.time x.ws := by
      have hab : (xs.map CmV.ab)[i]? = some x.ab := by rw [List.getElem?_map, hxi]; rfl
      obtain ⟨h1, h2⟩ := ht.seq i x.ab hab
      obtain ⟨h3, h4⟩ := ht.time i x.ab hab
      refine ⟨by unfold SC.last; rw [hlow, hhl]; have h5 : x.ab.1 = x.seq := rfl; omega, h2, h3, h4, hrg, fun c hc => ?_⟩
      rw [List.getLast?_eq_getElem?, hhl] at hc
      have hi0 : 0 < i := by
        rcases Nat.eq_zero_or_pos i with h | h
        · have h6 := (List.getElem?_eq_some_iff.1 hc).1; omega
        · exact h
      have h7 : (Si.hist.xs.map cma)[i - 1]? = some (cma c) := by rw [List.getElem?_map, hc]; rfl
      rw [hhist, List.map_take, List.getElem?_take, if_pos (by omega)] at h7
      exact ht.rise (i - 1) (cma c) x.ab h7 (by rw [Nat.sub_add_cancel (by omega)]; exact hab)
    refine WP.region ?_
    refine OpsE.val (x_indexAddro (i := i) (hs 20 rfl) e22 Try.runUnderlying38 Try.sizeOf33 rfl (by omega)) ?_
    refine OpsE.val (x_loadA (vs := cvc x) rfl Try.isAgg33 Try.sizeOf33 (hB w H.tail) (row_el cvc_len hBl hpo hxi) rfl) ?_
    refine OpsE.allocA Try.zeroValue33 H ?_
    intro b11 w H
    refine OpsE.storeA (vs := cvc x) rfl rfl Try.sizeOf33 H (cvc_one x) (Nat.le_refl _) ?_
    intro w H
    refine OpsE.nil ?_
    refine Then.normal ?_
    refine WP.seq ?_
    refine WP.region ?_
    refine OpsE.val (x_move (v := .pointer (some ⟨b, 0, none⟩)) (hs 8 rfl)) ?_
    refine OpsE.val (x_loadA (vs := cvc x) rfl Try.isAgg33 Try.sizeOf33 (H.look _) rfl rfl) ?_
    refine OpsE.call (x_call (vl := [.pointer _, .agg _]) rfl Try.call18) (Commit_spec (seq := x.seq) (time := x.time) H.swap oki (by omega) hrx.more (by omega) (right_sz hrg)) ?_
    rintro _ w (⟨hng, _, _⟩ | ⟨_, rfl, S1, ok1, hl1, hh1, hk1, H⟩)
    · exact absurd hgood hng
    refine OpsE.val (x_neI rfl rfl) ?_
    rw [decide_eq_false (by decide)]
    refine OpsE.nil ?_
    refine Then.normal ?_
    refine WP.cond_f rfl rfl ?_
    refine WP.skip ?_
    refine InBlock.normal ?_
    refine Then.normal ?_
    refine WP.region ?_
    refine OpsE.val (x_add (z := ((i + 1 : Nat) : Int)) e22 rfl (by rw [i64n (by omega) (by omega)]; omega)) ?_
    refine OpsE.val (x_move (v := .int .i64 _) rfl) ?_
    refine OpsE.nil ?_
    refine Then.normal ?_
    refine ⟨rfl, (by repeat (first | exact hs | refine Same.upd ?_ rfl)), i + 1, by omega, S1, rfl, by omega, ok1.mono (by omega) (by omega), hl1.trans hlow, ?_, ?_, H.swap.tail⟩
    · rw [hh1, hhist, List.take_add_one, hxi, List.map_append]; rfl
    · rw [hk1, hek, List.take_add_one, hxi, List.map_append]
      show _ = stK first bs (_ ++ [x.ab])
      rw [stK_snoc]; rfl
  · rw [decide_eq_false hlt]
    refine OpsE.nil ?_
    refine Then.normal ?_
    refine WP.seq ?_
    refine WP.cond_f rfl rfl ?_
    refine WP.exit ?_
    refine Then.exit ?_
    refine Then.exit ?_
    refine InBlock.hit ?_
    refine Then.normal ?_
    refine WP.seq ?_
    refine WP.region ?_
    refine OpsE.val (x_move (v := .pointer (some ⟨b, 0, none⟩)) (hs 8 rfl)) ?_
    refine OpsE.val (x_assign (v := .pointer _) rfl) ?_
    refine OpsE.val (x_assign (v := .bool _) rfl) ?_
    refine OpsE.nil ?_
    refine Then.normal ?_
    refine WP.ret ?_
    refine Leave0.ret (v := .tuple #[.pointer _, .bool _]) rfl ?_
    refine ⟨b, Si, rfl, oki.mono (by omega) (by omega), hlow, ?_, ?_, H⟩
    · rw [hhist, List.take_of_length_le (by omega)]
    · rw [hek, List.take_of_length_le (by omega)]
end Go.Proofs.Ytbhbdpbhhfemhaa

/-
  The laws' own functions: At.
-/
namespace Go.Proofs.Ytbhbdpbhhfemhaa
open Go Go.Proofs
set_option maxRecDepth 100000
set_option maxHeartbeats 8000000
set_option linter.unusedVariables false

/-- what belongs to a key behind writes -/
def stepV (k : ByteArray) (o : Option ByteArray) (x : Wr) : Option ByteArray := if x.key = k then (if x.gone then none else some x.val) else o
def valB (b : List Wr) (k : ByteArray) : Option ByteArray := b.foldl (fun o x => if x.key = k then some x.val else o) none
def valC (o : Option ByteArray) (cms : List Cmt) (k : ByteArray) : Option ByteArray := cms.foldl (fun o c => c.2.2.foldl (stepV k) o) o
def valA (b : List Wr) (cms : List Cmt) (q : Int) (k : ByteArray) : Option ByteArray := valC (valB b k) (cms.takeWhile fun c => decide (c.1 ≤ q)) k
theorem valB_snoc (b : List Wr) (x : Wr) (k : ByteArray) : valB (b ++ [x]) k = if x.key = k then some x.val else valB b k := by unfold valB; rw [List.foldl_append]; rfl
theorem valC_snoc (o : Option ByteArray) (cms : List Cmt) (c : Cmt) (k : ByteArray) : valC o (cms ++ [c]) k = c.2.2.foldl (stepV k) (valC o cms k) := by unfold valC; rw [List.foldl_append]; rfl
theorem takeWhile_pre {α : Type} {p : α → Bool} {l : List α} {i : Nat} (h1 : ∀ x ∈ l.take i, p x = true) (h2 : ∀ x, l[i]? = some x → p x = false) : l.takeWhile p = l.take i := by
  induction l generalizing i with
  | nil => simp
  | cons a l ih =>
    cases i with
    | zero => rw [List.takeWhile_cons, h2 a rfl]; rfl
    | succ i =>
      rw [List.take_succ_cons, List.takeWhile_cons, h1 a (by simp), if_pos rfl, ih (i := i) (fun x hx => h1 x (by simp [hx])) (fun x hx => h2 x (by simpa using hx))]

/-- a map of strings -/
structure MapIs (es : List Me) (ck : Nat) (f : ByteArray → Option ByteArray) : Prop where
  ok : MOk es ck
  get : ∀ k, getM es k = (f k).map Value.string
abbrev TMS : TypeId := 43
theorem MapIs.upd {es : List Me} {ck : Nat} {f : ByteArray → Option ByteArray} (h : MapIs es ck f) (k v : ByteArray) : MapIs (updM es ck k (.string v)).1 (updM es ck k (.string v)).2 (fun q => if k = q then some v else f q) :=
  ⟨h.ok.upd _ _, fun q => by
    rw [getM_upd]
    by_cases hq : q = k
    · rw [if_pos hq, if_pos hq.symm]; rfl
    · rw [if_neg hq, if_neg (fun e => hq e.symm)]; exact h.get q⟩
theorem MapIs.del {es : List Me} {ck : Nat} {f : ByteArray → Option ByteArray} (h : MapIs es ck f) (k : ByteArray) : MapIs (delM k es) ck (fun q => if k = q then none else f q) :=
  ⟨h.ok.del _, fun q => by
    rw [getM_del h.ok]
    by_cases hq : q = k
    · rw [if_pos hq, if_pos hq.symm]; rfl
    · rw [if_neg hq, if_neg (fun e => hq e.symm)]; exact h.get q⟩
theorem MapIs.cong {es : List Me} {ck : Nat} {f g : ByteArray → Option ByteArray} (h : MapIs es ck f) (e : ∀ k, g k = f k) : MapIs es ck g := ⟨h.ok, fun k => by rw [e]; exact h.get k⟩

theorem At_map {w : World} {l : List HP} {a a2 : Option Addr} {n c n2 c2 : Nat} {bs : List Wr} {xs : List CmV} {q : Int} (H : Sat w l) (hb : RIn wrc TWr l a n c bs) (hn : n ≤ 4611686018427387904) (hx : CIn l a2 n2 c2 xs) (hn2 : n2 ≤ 4611686018427387904) (hw : ∀ x ∈ xs, x.n ≤ 4611686018427387904) :
    Calls Try.prog 27 #[.slice a n c, .slice a2 n2 c2, .int .i64 q] w (Ret fun v w' => ∃ (m : Nat) (es : List Me) (ck : Nat), v = .map (some m) ∧ MapIs es ck (valA bs (xs.map CmV.ab) q) ∧ Sat w' (pt m (mapO es ck) :: l)) := by
  have hlen := hb.len
  have hlen2 := hx.row.len
  refine Calls.of_wp Try.func27 rfl Try.ntmps27 Try.results27 (Nat.le_of_ble_eq_true rfl) ?_
  refine WP.seq ?_
  refine WP.region ?_
  refine OpsE.val (x_assign (v := .map none) rfl) ?_
  refine OpsE.nil ?_
  refine Then.normal ?_
  refine WP.seq ?_
  refine WP.region ?_
  refine OpsE.makeMap H ?_
  intro m14 w H
  refine OpsE.val (x_assign (v := .map _) rfl) ?_
  refine OpsE.nil ?_
  refine Then.normal ?_
  refine WP.seq ?_
  refine WP.seq ?_
  refine WP.region ?_
  refine OpsE.val (x_move (v := .slice _ _ _) rfl) ?_
  refine OpsE.val (x_lenL rfl rfl Try.runUnderlying22) ?_
  refine OpsE.val (x_move (v := .int .i64 _) rfl) ?_
  refine OpsE.nil ?_
  refine Then.normal ?_
  refine WP.block ?_
  refine WP.loopS [9, 17, 18, 19, 20, 21, 22, 23, 24, 25, 26] (fun (i : Nat) E w => ∃ (es : List Me) (ck : Nat), E 17 = .int .i64 (i : Int) ∧ i ≤ n ∧ MapIs es ck (valB (bs.take i)) ∧ Sat w (pt m14 (mapO es ck) :: l)) (fun i => n - i) 0 ⟨[], 0, rfl, Nat.zero_le _, ⟨MOk.nil, fun _ => rfl⟩, H⟩ ?_
  clear H
  rintro i E1 w hs ⟨es, ck, e17, hin, hm, H⟩
  refine WP.seq ?_
  refine WP.region ?_
  refine OpsE.val (x_lt e17 (hs 16 rfl)) ?_
  by_cases hlt : (i : Int) < (n : Int)
  · rw [decide_eq_true hlt]
    refine OpsE.nil ?_
    refine Then.normal ?_
    refine WP.seq ?_
    refine WP.cond_t rfl rfl ?_
    refine WP.skip ?_
    refine Then.normal ?_
    refine WP.seq ?_
    refine WP.block ?_
    refine WP.seq ?_
    obtain ⟨bb, off, B, fz, pre, post, rfl, hB, hBl, hpo⟩ := hb.some (by omega)
    obtain ⟨x, hxi⟩ : ∃ x, bs[i]? = some x := ⟨_, List.getElem?_eq_getElem (by omega)⟩
    refine WP.region ?_
    refine OpsE.val (x_indexAddro (i := i) (hs 15 rfl) e17 Try.runUnderlying22 Try.sizeOf26 rfl (by omega)) ?_
    refine OpsE.val (x_loadA (vs := wrc x) rfl Try.isAgg26 Try.sizeOf26 (hB w H.tail) (row_el wrc_len hBl hpo hxi) rfl) ?_
    refine OpsE.allocA Try.zeroValue26 H ?_
    intro b9 w H
    refine OpsE.storeA (vs := wrc x) rfl rfl Try.sizeOf26 H (wrc_one x) (Nat.le_refl _) ?_
    intro w H
    refine OpsE.nil ?_
    refine Then.normal ?_
    refine WP.region ?_
    refine OpsE.val (x_move (v := .map _) (hs 7 rfl)) ?_
    refine OpsE.val (x_fieldAddr0 rfl Try.runUnderlying26 rfl rfl Try.sizeOf9) ?_
    refine OpsE.val (x_load (v := .string x.key) rfl Try.isAgg9 (H.look _) rfl) ?_
    refine OpsE.val (x_fieldAddr (o := 1) rfl Try.runUnderlying26 rfl rfl Try.sizeOf9) ?_
    refine OpsE.val (x_load (v := .string x.val) rfl Try.isAgg9 (H.look _) rfl) ?_
    refine OpsE.mapUpdate (k := x.key) (v := .string x.val) Try.underlying43 Try.underlying9 rfl rfl rfl H ?_
    intro w H
    refine OpsE.nil ?_
    refine InBlock.normal ?_
    refine Then.normal ?_
    refine WP.region ?_
    refine OpsE.val (x_add (z := ((i + 1 : Nat) : Int)) e17 rfl (by rw [i64n (by omega) (by omega)]; omega)) ?_
    refine OpsE.val (x_move (v := .int .i64 _) rfl) ?_
    refine OpsE.nil ?_
    refine Then.normal ?_
    refine ⟨rfl, (by repeat (first | exact hs | refine Same.upd ?_ rfl)), i + 1, by omega, _, _, rfl, by omega, (hm.upd x.key x.val).cong fun k => ?_, H.swap.tail⟩
    rw [List.take_add_one, hxi, Option.toList_some, valB_snoc]
  · rw [decide_eq_false hlt]
    refine OpsE.nil ?_
    refine Then.normal ?_
    refine WP.seq ?_
    refine WP.cond_f rfl rfl ?_
    refine WP.exit ?_
    refine Then.exit ?_
    refine Then.exit ?_
    refine InBlock.hit ?_
    refine Then.normal ?_
    refine WP.seq ?_
    refine WP.seq ?_
    refine WP.region ?_
    refine OpsE.val (x_move (v := .slice _ _ _) (hs 1 rfl)) ?_
    refine OpsE.val (x_lenL rfl rfl Try.runUnderlying38) ?_
    refine OpsE.val (x_move (v := .int .i64 _) rfl) ?_
    refine OpsE.nil ?_
    refine Then.normal ?_
    refine WP.block ?_
    have hie : i = bs.length := by omega
    rw [hie, List.take_length] at hm
    refine WP.loopS [11, 13, 29, 30, 31, 32, 33, 34, 35, 36, 37, 38, 39, 40, 41, 42, 43, 44, 45, 46, 47, 48, 49, 50, 51, 52, 53, 54, 55] (fun (j : Nat) E w => ∃ (es : List Me) (ck : Nat), E 29 = .int .i64 (j : Int) ∧ j ≤ n2 ∧ (∀ c ∈ (xs.take j).map CmV.ab, decide (c.1 ≤ q) = true) ∧ MapIs es ck (fun k => valC (valB bs k) ((xs.take j).map CmV.ab) k) ∧ Sat w (pt m14 (mapO es ck) :: l)) (fun j => n2 - j) 0 ⟨es, ck, rfl, Nat.zero_le _, (fun _ h => by cases h), hm, H⟩ ?_
    clear H
    rintro j E2 w hs2 ⟨es2, ck2, e29, hjn, htw, hm2, H⟩
    refine WP.seq ?_
    refine WP.region ?_
    refine OpsE.val (x_lt e29 (hs2 28 rfl)) ?_
    by_cases hlt2 : (j : Int) < (n2 : Int)
    · rw [decide_eq_true hlt2]
      refine OpsE.nil ?_
      refine Then.normal ?_
      refine WP.seq ?_
      refine WP.cond_t rfl rfl ?_
      refine WP.skip ?_
      refine Then.normal ?_
      refine WP.seq ?_
      refine WP.block ?_
      refine WP.seq ?_
      obtain ⟨bb2, off2, B2, fz2, pre2, post2, rfl, hB2, hBl2, hpo2⟩ := hx.row.some (by omega)
      obtain ⟨y, hyj⟩ : ∃ y, xs[j]? = some y := ⟨_, List.getElem?_eq_getElem (by omega)⟩
      have hym := List.mem_of_getElem? hyj
      have hry := hx.ws y hym
      have hyl := hry.len
      have hyn := hw y hym
      have htwl : (xs.map CmV.ab).take j = (xs.take j).map CmV.ab := List.map_take.symm
      refine WP.region ?_
      refine OpsE.val (x_indexAddro (i := j) (hs2 27 rfl) e29 Try.runUnderlying38 Try.sizeOf33 rfl (by omega)) ?_
      refine OpsE.val (x_loadA (vs := cvc y) rfl Try.isAgg33 Try.sizeOf33 (hB2 w H.tail) (row_el cvc_len hBl2 hpo2 hyj) rfl) ?_
      refine OpsE.allocA Try.zeroValue33 H ?_
      intro b11 w H
      refine OpsE.storeA (vs := cvc y) rfl rfl Try.sizeOf33 H (cvc_one y) (Nat.le_refl _) ?_
      intro w H
      refine OpsE.nil ?_
      refine Then.normal ?_
      refine WP.seq ?_
      refine WP.seq ?_
      refine WP.region ?_
      refine OpsE.val (x_fieldAddr0 rfl Try.runUnderlying33 rfl rfl Try.sizeOf3) ?_
      refine OpsE.val (x_load (v := .int .i64 y.seq) rfl Try.isAgg3 (H.look _) rfl) ?_
      refine OpsE.val (x_move (v := .int .i64 q) ((hs2 2 rfl).trans (hs 2 rfl))) ?_
      refine OpsE.val (x_gt rfl rfl) ?_
      by_cases hgt : y.seq > q
      · rw [decide_eq_true hgt]
        refine OpsE.nil ?_
        refine Then.normal ?_
        refine WP.cond_t rfl rfl ?_
        refine WP.exit ?_
        refine Then.exit ?_
        refine InBlock.miss rfl ?_
        refine Then.exit ?_
        refine Then.exit ?_
        refine InBlock.hit ?_
        refine Then.normal ?_
        refine WP.seq ?_
        refine WP.region ?_
        refine OpsE.val (x_move (v := .map _) ((hs2 7 rfl).trans (hs 7 rfl))) ?_
        refine OpsE.val (x_assign (v := .map _) rfl) ?_
        refine OpsE.nil ?_
        refine Then.normal ?_
        refine WP.ret ?_
        refine Leave0.ret (v := .map _) rfl ?_
        refine ⟨m14, es2, ck2, rfl, hm2.cong fun k => ?_, H.tail⟩
        unfold valA
        rw [takeWhile_pre (i := j) (by rw [htwl]; exact htw) (fun c' hc' => ?_), htwl]
        rw [List.getElem?_map, hyj] at hc'
        cases hc'
        exact decide_eq_false (show ¬ y.seq ≤ q by omega)
      · rw [decide_eq_false hgt]
        refine OpsE.nil ?_
        refine Then.normal ?_
        refine WP.cond_f rfl rfl ?_
        refine WP.skip ?_
        refine Then.normal ?_
        refine WP.seq ?_
        refine WP.region ?_
        refine OpsE.val (x_fieldAddr (o := 2) rfl Try.runUnderlying33 rfl rfl Try.sizeOf22) ?_
        refine OpsE.val (x_load (v := .slice y.a y.n y.c) rfl Try.isAgg22 (H.look _) rfl) ?_
        refine OpsE.val (x_lenL rfl rfl Try.runUnderlying22) ?_
        refine OpsE.val (x_move (v := .int .i64 _) rfl) ?_
        refine OpsE.nil ?_
        refine Then.normal ?_
        refine WP.block ?_
        have H0 : Sat w (pt b11 (.cells (cvc y).toArray TCm (0, 0)) :: pt m14 (mapO es2 ck2) :: l) := H
        refine WP.loopS [13, 40, 41, 42, 43, 44, 45, 46, 47, 48, 49, 50, 51, 52, 53, 54] (fun (d : Nat) E w => ∃ (es : List Me) (ck : Nat), E 40 = .int .i64 (d : Int) ∧ d ≤ y.n ∧ MapIs es ck (fun k => (y.ws.take d).foldl (stepV k) (valC (valB bs k) ((xs.take j).map CmV.ab) k)) ∧ Sat w (pt b11 (.cells (cvc y).toArray TCm (0, 0)) :: pt m14 (mapO es ck) :: l)) (fun d => y.n - d) 0 ⟨es2, ck2, rfl, Nat.zero_le _, hm2, H0⟩ ?_
        clear H H0
        rintro d E3 w hs3 ⟨es3, ck3, e40, hdn, hm3, H⟩
        refine WP.seq ?_
        refine WP.region ?_
        refine OpsE.val (x_lt e40 (hs3 39 rfl)) ?_
        by_cases hlt3 : (d : Int) < (y.n : Int)
        · rw [decide_eq_true hlt3]
          refine OpsE.nil ?_
          refine Then.normal ?_
          refine WP.seq ?_
          refine WP.cond_t rfl rfl ?_
          refine WP.skip ?_
          refine Then.normal ?_
          refine WP.seq ?_
          refine WP.block ?_
          refine WP.seq ?_
          obtain ⟨bb3, off3, B3, fz3, pre3, post3, hya, hB3, hBl3, hpo3⟩ := hry.some (by omega)
          obtain ⟨z, hzd⟩ : ∃ z, y.ws[d]? = some z := ⟨_, List.getElem?_eq_getElem (by omega)⟩
          refine WP.region ?_
          refine OpsE.val (x_indexAddro (i := d) (len := y.n) (cap := y.c) ((hs3 38 rfl).trans (show Value.slice y.a y.n y.c = _ by rw [hya])) e40 Try.runUnderlying22 Try.sizeOf26 rfl (by omega)) ?_
          refine OpsE.val (x_loadA (vs := wrc z) rfl Try.isAgg26 Try.sizeOf26 (hB3 w H.tail.tail) (row_el wrc_len hBl3 hpo3 hzd) rfl) ?_
          refine OpsE.allocA Try.zeroValue26 H ?_
          intro b13 w H
          refine OpsE.storeA (vs := wrc z) rfl rfl Try.sizeOf26 H (wrc_one z) (Nat.le_refl _) ?_
          intro w H
          refine OpsE.nil ?_
          refine Then.normal ?_
          refine WP.seq ?_
          refine WP.region ?_
          refine OpsE.val (x_fieldAddr (o := 2) rfl Try.runUnderlying26 rfl rfl Try.sizeOf4) ?_
          refine OpsE.val (x_load (v := .bool z.gone) rfl Try.isAgg4 (H.look _) rfl) ?_
          refine OpsE.nil ?_
          refine Then.normal ?_
          refine WP.cond rfl (fun hg => ?_) (fun hg => ?_)
          · skip
            refine WP.region ?_
            refine OpsE.val (x_move (v := .map _) ((hs3 7 rfl).trans ((hs2 7 rfl).trans (hs 7 rfl)))) ?_
            refine OpsE.val (x_fieldAddr0 rfl Try.runUnderlying26 rfl rfl Try.sizeOf9) ?_
            refine OpsE.val (x_load (v := .string z.key) rfl Try.isAgg9 (H.look _) rfl) ?_
            refine OpsE.delete rfl Try.underlying43 Try.underlying9 rfl rfl H ?_
            intro w H
            refine OpsE.nil ?_
            refine InBlock.normal ?_
            refine Then.normal ?_
            refine WP.region ?_
            refine OpsE.val (x_add (z := ((d + 1 : Nat) : Int)) e40 rfl (by rw [i64n (by omega) (by omega)]; omega)) ?_
            refine OpsE.val (x_move (v := .int .i64 _) rfl) ?_
            refine OpsE.nil ?_
            refine Then.normal ?_
            refine ⟨rfl, (by repeat (first | exact hs3 | refine Same.upd ?_ rfl)), d + 1, by omega, _, _, rfl, by omega, (hm3.del z.key).cong fun k => ?_, ?_⟩
            · rw [List.take_add_one, hzd, Option.toList_some, List.foldl_append]
              show stepV k _ z = _
              unfold stepV; rw [hg]; rfl
            · have h0 : Sat w (pt m14 (mapO (delM z.key es3) ck3) :: pt b13 (.cells (wrc z).toArray TWr (0, 0)) :: pt b11 (.cells (cvc y).toArray TCm (0, 0)) :: l) := H
              exact h0.swap.tail.swap
          · skip
            refine WP.region ?_
            refine OpsE.val (x_move (v := .map _) ((hs3 7 rfl).trans ((hs2 7 rfl).trans (hs 7 rfl)))) ?_
            refine OpsE.val (x_fieldAddr0 rfl Try.runUnderlying26 rfl rfl Try.sizeOf9) ?_
            refine OpsE.val (x_load (v := .string z.key) rfl Try.isAgg9 (H.look _) rfl) ?_
            refine OpsE.val (x_fieldAddr (o := 1) rfl Try.runUnderlying26 rfl rfl Try.sizeOf9) ?_
            refine OpsE.val (x_load (v := .string z.val) rfl Try.isAgg9 (H.look _) rfl) ?_
            refine OpsE.mapUpdate (k := z.key) (v := .string z.val) Try.underlying43 Try.underlying9 rfl rfl rfl H ?_
            intro w H
            refine OpsE.nil ?_
            refine InBlock.normal ?_
            refine Then.normal ?_
            refine WP.region ?_
            refine OpsE.val (x_add (z := ((d + 1 : Nat) : Int)) e40 rfl (by rw [i64n (by omega) (by omega)]; omega)) ?_
            refine OpsE.val (x_move (v := .int .i64 _) rfl) ?_
            refine OpsE.nil ?_
            refine Then.normal ?_
            refine ⟨rfl, (by repeat (first | exact hs3 | refine Same.upd ?_ rfl)), d + 1, by omega, _, _, rfl, by omega, (hm3.upd z.key z.val).cong fun k => ?_, ?_⟩
            · rw [List.take_add_one, hzd, Option.toList_some, List.foldl_append]
              show stepV k _ z = _
              unfold stepV; rw [hg]; rfl
            · have h0 : Sat w (pt m14 (mapO (updM es3 ck3 z.key (.string z.val)).1 (updM es3 ck3 z.key (.string z.val)).2) :: pt b13 (.cells (wrc z).toArray TWr (0, 0)) :: pt b11 (.cells (cvc y).toArray TCm (0, 0)) :: l) := H
              exact h0.swap.tail.swap
        · rw [decide_eq_false hlt3]
          refine OpsE.nil ?_
          refine Then.normal ?_
          refine WP.seq ?_
          refine WP.cond_f rfl rfl ?_
          refine WP.exit ?_
          refine Then.exit ?_
          refine Then.exit ?_
          refine InBlock.hit ?_
          refine InBlock.normal ?_
          refine Then.normal ?_
          refine WP.region ?_
          refine OpsE.val (x_add (z := ((j + 1 : Nat) : Int)) ((hs3 29 rfl).trans e29) rfl (by rw [i64n (by omega) (by omega)]; omega)) ?_
          refine OpsE.val (x_move (v := .int .i64 _) rfl) ?_
          refine OpsE.nil ?_
          refine Then.normal ?_
          have hde : d = y.ws.length := by omega
          refine ⟨rfl, (by repeat (first | exact hs2 | refine Same.upd ?_ rfl | refine Same.sub hs3 ?_ rfl)), j + 1, by omega, _, _, rfl, by omega, fun c' hc' => ?_, hm3.cong fun k => ?_, H.tail⟩
          · rw [List.take_add_one, hyj, List.map_append] at hc'
            rcases List.mem_append.1 hc' with h | h
            · exact htw c' h
            · rcases List.mem_singleton.1 h with rfl
              exact decide_eq_true (show y.seq ≤ q by omega)
          · rw [List.take_add_one, hyj, List.map_append, hde, List.take_length]
            show valC _ (_ ++ [y.ab]) k = _
            rw [valC_snoc]; rfl
    · rw [decide_eq_false hlt2]
      refine OpsE.nil ?_
      refine Then.normal ?_
      refine WP.seq ?_
      refine WP.cond_f rfl rfl ?_
      refine WP.exit ?_
      refine Then.exit ?_
      refine Then.exit ?_
      refine InBlock.hit ?_
      refine Then.normal ?_
      refine WP.seq ?_
      refine WP.region ?_
      refine OpsE.val (x_move (v := .map _) ((hs2 7 rfl).trans (hs 7 rfl))) ?_
      refine OpsE.val (x_assign (v := .map _) rfl) ?_
      refine OpsE.nil ?_
      refine Then.normal ?_
      refine WP.ret ?_
      refine Leave0.ret (v := .map _) rfl ?_
      refine ⟨m14, es2, ck2, rfl, hm2.cong fun k => ?_, H⟩
      have hj2 : xs.take j = xs := List.take_of_length_le (by omega)
      rw [hj2] at htw ⊢
      unfold valA
      rw [takeWhile_pre (i := (xs.map CmV.ab).length) (by rw [List.take_length]; exact htw) (fun c' hc' => by rw [List.getElem?_eq_none (Nat.le_refl _)] at hc'; cases hc'), List.take_length]
end Go.Proofs.Ytbhbdpbhhfemhaa

/-
  The store, plain facts: what belongs to a key behind a commit, out of its versions; what Base tells.
-/
namespace Go.Proofs.Ytbhbdpbhhfemhaa
open Go Go.Proofs
set_option maxHeartbeats 2000000
set_option linter.unusedVariables false

theorem find_filter {p q : KVs → Bool} : ∀ {ks : List KVs}, (∀ x ∈ ks, p x = true → q x = true) → (ks.filter q).find? p = ks.find? p
  | [], _ => rfl
  | x :: ks, h => by
    have ih := find_filter (p := p) (q := q) (ks := ks) fun y hy => h y (by simp [hy])
    by_cases hp : p x = true
    · rw [List.filter_cons_of_pos (h x (by simp) hp), List.find?_cons_of_pos hp, List.find?_cons_of_pos hp]
    · rw [List.find?_cons_of_neg hp]
      by_cases hq : q x = true
      · rw [List.filter_cons_of_pos hq, List.find?_cons_of_neg hp, ih]
      · rw [List.filter_cons_of_neg hq, ih]
theorem find_none_filter {p q : KVs → Bool} {ks : List KVs} (h : ∀ x ∈ ks, q x = true → p x = false) : (ks.filter q).find? p = none :=
  List.find?_eq_none.2 fun x hx => by
    obtain ⟨h1, h2⟩ := List.mem_filter.1 hx
    rw [h x h1 h2]; simp
theorem vsK_put (ks : List KVs) (kv : KVs) (k : ByteArray) : vsK (putK ks kv) k = if kv.1 = k then kv.2 else vsK ks k := by
  unfold vsK putK
  by_cases h : kv.1 = k
  · rw [if_pos h, List.find?_append, find_none_filter (fun x _ hx => decide_eq_false (by rw [← h]; exact slt_ne hx)), Option.none_or, List.find?_cons_of_pos (by simpa using h)]; rfl
  · rw [if_neg h, List.find?_append]
    rcases slt_tri k kv.1 with h1 | h1 | h1
    · rw [find_filter (fun x _ hx => by rw [show x.1 = k by simpa using hx]; exact h1)]
      rw [List.find?_cons_of_neg (by simpa using h), find_none_filter (q := fun e => slt kv.1 e.1) (fun x _ hx => decide_eq_false (fun hk => by rw [hk, slt_asymm h1] at hx; cases hx)), Option.or_none]
    · exact absurd h1.symm h
    · rw [find_none_filter (q := fun e => slt e.1 kv.1) (fun x _ hx => decide_eq_false (fun hk => by rw [hk, slt_asymm h1] at hx; cases hx)), Option.none_or, List.find?_cons_of_neg (by simpa using h)]
      rw [find_filter (fun x _ hx => by rw [show x.1 = k by simpa using hx]; exact h1)]
theorem vsK_add (seq : Int) (ks : List KVs) (x : Wr) (k : ByteArray) : vsK (addK seq ks x) k = if x.key = k then vsK ks k ++ [⟨seq, x.val, x.gone⟩] else vsK ks k := by
  unfold addK
  rw [vsK_put]
  by_cases h : x.key = k
  · rw [if_pos h, if_pos h, h]
  · rw [if_neg h, if_neg h]
theorem vsK_new (seq : Int) (ks : List KVs) (x : Wr) (k : ByteArray) : vsK (newK seq ks x) k = if x.key = k then [⟨seq, x.val, false⟩] else vsK ks k := by
  unfold newK; rw [vsK_put]

/-- the versions of a key that writes make -/
def verW (seq : Int) (k : ByteArray) (ws : List Wr) : List Ver := (ws.filter fun x => decide (x.key = k)).map fun x => ⟨seq, x.val, x.gone⟩
theorem vsK_adds (seq : Int) (k : ByteArray) : ∀ (ws : List Wr) (ks : List KVs), vsK (ws.foldl (addK seq) ks) k = vsK ks k ++ verW seq k ws
  | [], ks => by simp [verW]
  | x :: ws, ks => by
    rw [List.foldl_cons, vsK_adds seq k ws, vsK_add]
    unfold verW
    by_cases h : x.key = k
    · rw [if_pos h, List.filter_cons_of_pos (by simpa using h)]; simp
    · rw [if_neg h, List.filter_cons_of_neg (by simpa using h)]
def verB (seq : Int) (k : ByteArray) (b : List Wr) : List Ver := match valB b k with
  | some v => [⟨seq, v, false⟩]
  | none => []
theorem vsK_news (seq : Int) (k : ByteArray) (b : List Wr) : vsK (b.foldl (newK seq) []) k = verB seq k b := by
  have key : ∀ (b : List Wr) (ks : List KVs) (o : Option ByteArray), vsK ks k = (match o with | some v => [⟨seq, v, false⟩] | none => []) →
      vsK (b.foldl (newK seq) ks) k = (match b.foldl (fun o x => if x.key = k then some x.val else o) o with | some v => [⟨seq, v, false⟩] | none => []) := by
    intro b
    induction b with
    | nil => exact fun _ _ h => h
    | cons x b ih =>
      intro ks o h
      rw [List.foldl_cons, List.foldl_cons]
      refine ih _ _ ?_
      rw [vsK_new]
      by_cases hk : x.key = k
      · rw [if_pos hk, if_pos hk]
      · rw [if_neg hk, if_neg hk]; exact h
  exact key b [] none rfl
/-- all versions of a key -/
def verA (first : Int) (b : List Wr) (cms : List Cmt) (k : ByteArray) : List Ver := verB first k b ++ cms.flatMap fun c => verW c.1 k c.2.2
theorem vsK_st (first : Int) (b : List Wr) (cms : List Cmt) (k : ByteArray) : vsK (stK first b cms) k = verA first b cms k := by
  unfold verA
  rw [← vsK_news]
  unfold stK
  generalize b.foldl (newK first) [] = ks
  induction cms generalizing ks with
  | nil => simp
  | cons c cms ih => rw [List.foldl_cons, ih, List.flatMap_cons, vsK_adds, List.append_assoc]

/-- the value of the last version -/
def lastV (o : Option ByteArray) (vs : List Ver) : Option ByteArray := match vs.getLast? with
  | some v => if v.gone then none else some v.val
  | none => o
theorem lastV_nil (o : Option ByteArray) : lastV o [] = o := rfl
theorem lastV_app (o : Option ByteArray) (a b : List Ver) : lastV o (a ++ b) = lastV (lastV o a) b := by
  unfold lastV
  rw [List.getLast?_append]
  cases b.getLast? <;> rfl
theorem atv_last (vs : List Ver) (q : Int) : atv vs q = lastV none (upto vs q) := rfl
theorem step_last (seq : Int) (k : ByteArray) : ∀ (ws : List Wr) (o : Option ByteArray), ws.foldl (stepV k) o = lastV o (verW seq k ws)
  | [], _ => rfl
  | x :: ws, o => by
    rw [List.foldl_cons, step_last seq k ws]
    unfold stepV verW
    by_cases h : x.key = k
    · rw [if_pos h, List.filter_cons_of_pos (by simpa using h), List.map_cons, show (⟨seq, x.val, x.gone⟩ : Ver) :: (ws.filter fun x => decide (x.key = k)).map (fun x => (⟨seq, x.val, x.gone⟩ : Ver)) = [⟨seq, x.val, x.gone⟩] ++ (ws.filter fun x => decide (x.key = k)).map (fun x => (⟨seq, x.val, x.gone⟩ : Ver)) from rfl, lastV_app]; rfl
    · rw [if_neg h, List.filter_cons_of_neg (by simpa using h)]
theorem upto_verW (seq q : Int) (k : ByteArray) (ws : List Wr) : upto (verW seq k ws) q = if seq ≤ q then verW seq k ws else [] := by
  have hs : ∀ v ∈ verW seq k ws, v.seq = seq := fun v hv => by
    obtain ⟨x, _, rfl⟩ := List.mem_map.1 hv; rfl
  unfold upto
  by_cases h : seq ≤ q
  · rw [if_pos h, List.filter_eq_self.2 fun v hv => decide_eq_true (by rw [hs v hv]; exact h)]
  · rw [if_neg h, List.filter_eq_nil_iff.2 fun v hv => by rw [hs v hv]; simpa using h]
theorem atv_cms (q : Int) (k : ByteArray) : ∀ (cms : List Cmt) (o : Option ByteArray), lastV o (upto (cms.flatMap fun c => verW c.1 k c.2.2) q) = valC o (cms.filter fun c => decide (c.1 ≤ q)) k
  | [], _ => rfl
  | c :: cms, o => by
    rw [List.flatMap_cons, upto_app, lastV_app, atv_cms q k cms, upto_verW]
    by_cases h : c.1 ≤ q
    · rw [if_pos h, List.filter_cons_of_pos (by simpa using h), ← step_last]; rfl
    · rw [if_neg h, List.filter_cons_of_neg (by simpa using h), lastV_nil]
theorem filter_takeWhile {q : Int} : ∀ {cms : List Cmt}, cms.Pairwise (fun a b => a.1 < b.1) → cms.filter (fun c => decide (c.1 ≤ q)) = cms.takeWhile fun c => decide (c.1 ≤ q)
  | [], _ => rfl
  | c :: cms, h => by
    obtain ⟨h1, h2⟩ := List.pairwise_cons.1 h
    rw [List.takeWhile_cons]
    by_cases hc : c.1 ≤ q
    · rw [List.filter_cons_of_pos (by simpa using hc), filter_takeWhile h2, decide_eq_true hc, if_pos rfl]
    · rw [List.filter_cons_of_neg (by simpa using hc), decide_eq_false hc, if_neg (by simp)]
      exact List.filter_eq_nil_iff.2 fun x hx => by have := h1 x hx; simp; omega
theorem seq_rise {first : Int} {cms : List Cmt} (h : ∀ (i : Nat) (c : Cmt), cms[i]? = some c → c.1 = first + 1 + i) : cms.Pairwise (fun a b => a.1 < b.1) := by
  refine List.pairwise_iff_getElem.2 fun i j hi hj hij => ?_
  have h1 := h i cms[i] (by simp)
  have h2 := h j cms[j] (by simp)
  omega
theorem atv_verA {first q : Int} {b : List Wr} {cms : List Cmt} (hs : cms.Pairwise (fun a b => a.1 < b.1)) (hq : first ≤ q) (k : ByteArray) : atv (verA first b cms k) q = valA b cms q k := by
  unfold verA valA
  rw [atv_last, upto_app, lastV_app, atv_cms, filter_takeWhile hs]
  congr 1
  unfold verB
  cases h : valB b k with
  | none => rfl
  | some v => unfold upto; rw [List.filter_cons_of_pos (by simpa using hq)]; rfl
theorem atv_st {first q : Int} {b : List Wr} {cms : List Cmt} {S : SC} (h : ek S.es = stK first b cms) (hs : cms.Pairwise (fun a b => a.1 < b.1)) (hq : first ≤ q) (k : ByteArray) : atv (vsOf S.es k) q = valA b cms q k := by
  rw [vsOf_ek, h, vsK_st]; exact atv_verA hs hq k

/-! ### Base -/
theorem ek_srt {S : SC} {N : Nat} (ok : S.Ok N) : (ek S.es).Pairwise (fun a b => slt a.1 b.1 = true) := List.pairwise_map.2 ok.srt
theorem vsK_mem {ks : List KVs} (hs : ks.Pairwise (fun a b => slt a.1 b.1 = true)) {kv : KVs} (h : kv ∈ ks) : vsK ks kv.1 = kv.2 := by
  unfold vsK
  induction ks with
  | nil => cases h
  | cons x ks ih =>
    obtain ⟨h1, h2⟩ := List.pairwise_cons.1 hs
    rcases List.mem_cons.1 h with rfl | h
    · rw [List.find?_cons_of_pos (by simp)]; rfl
    · rw [List.find?_cons_of_neg (by simpa using slt_ne (h1 kv h))]; exact ih h2 h
theorem vsK_some {ks : List KVs} {k : ByteArray} (h : vsK ks k ≠ []) : (k, vsK ks k) ∈ ks := by
  unfold vsK at *
  cases hf : ks.find? fun x => decide (x.1 = k) with
  | none => rw [hf] at h; exact absurd rfl h
  | some y =>
    have h1 := List.mem_of_find?_eq_some hf
    have h2 : y.1 = k := by simpa using List.find?_some hf
    rw [← h2]; exact h1
theorem atv_nil (q : Int) : atv [] q = none := rfl
theorem base_mem {S : SC} {N : Nat} (ok : S.Ok N) {q : Int} {x : Wr} : x ∈ baseL (ek S.es) q ↔ x.gone = false ∧ atv (vsOf S.es x.key) q = some x.val := by
  unfold baseL
  rw [List.mem_filterMap]
  constructor
  · rintro ⟨kv, h1, h2⟩
    cases h3 : atv kv.2 q with
    | none => rw [h3] at h2; cases h2
    | some s =>
      rw [h3] at h2; cases h2
      refine ⟨rfl, ?_⟩
      rw [vsOf_ek, vsK_mem (ek_srt ok) h1]; exact h3
  · rintro ⟨h1, h2⟩
    have h3 : vsK (ek S.es) x.key ≠ [] := fun h => by rw [vsOf_ek, h, atv_nil] at h2; cases h2
    refine ⟨_, vsK_some h3, ?_⟩
    rw [vsOf_ek] at h2
    show (atv (vsK (ek S.es) x.key) q).map _ = _
    rw [h2]
    show some (⟨x.key, x.val, false⟩ : Wr) = some x
    rw [← h1]
theorem base_srt {S : SC} {N : Nat} (ok : S.Ok N) (q : Int) : Srt Wr.key (baseL (ek S.es) q) := by
  unfold baseL Srt
  rw [List.pairwise_filterMap]
  refine (ek_srt ok).imp fun {a b} hab x hx y hy => ?_
  cases ha : atv a.2 q with
  | none => rw [ha] at hx; cases hx
  | some s =>
    cases hb : atv b.2 q with
    | none => rw [hb] at hy; cases hy
    | some u => rw [ha] at hx; rw [hb] at hy; cases hx; cases hy; exact hab
/-- as many keys as the map has -/
theorem base_count {S : SC} {N : Nat} (ok : S.Ok N) {q : Int} {es : List Me} {ck : Nat} (hm : MapIs es ck fun k => atv (vsOf S.es k) q) : (baseL (ek S.es) q).length = es.length := by
  have h := nodup_len (l := (baseL (ek S.es) q).map Wr.key) (m := es.map Me.key) (List.pairwise_map.2 ((base_srt ok q).imp fun h => slt_ne h)) (List.pairwise_map.2 hm.ok.keys) fun k => by
    rw [List.mem_map, List.mem_map]
    constructor
    · rintro ⟨x, hx, rfl⟩
      have h1 := (base_mem ok).1 hx
      have h2 := hm.get x.key
      rw [h1.2] at h2
      obtain ⟨e, he, h3, _⟩ := getM_some h2
      exact ⟨e, he, h3⟩
    · rintro ⟨e, he, rfl⟩
      have h1 := getM_mem hm.ok he
      rw [hm.get] at h1
      cases h2 : atv (vsOf S.es e.key) q with
      | none => rw [h2] at h1; cases h1
      | some s => exact ⟨⟨e.key, s, false⟩, (base_mem ok).2 ⟨rfl, h2⟩, rfl⟩
  rw [List.length_map, List.length_map] at h; exact h
end Go.Proofs.Ytbhbdpbhhfemhaa

/-
  A function whose one result lies in a cell. Nothing of the program.
-/
namespace Go.Proofs.Ytbhbdpbhhfemhaa
open Go
set_option linter.unusedVariables false

theorem resC_run {fn : Func} {tmps : Array Value} {P : Program} {t b : Nat} {T TT : TypeId} {v : Value} {fz : Nat × Nat} {w : World} (h : fn.results = #[.cell t T]) (ha : ∀ w, (isAgg T).run P w = .ok false w) (ht : tmps.getD t undef = .pointer (some ⟨b, 0, none⟩))
    (hb : w.heap[b]? = some (.cells [v].toArray TT fz)) : (results fn tmps).run P w = .ok v w := by
  have hc : w.cell? ⟨b, 0, none⟩ = some v := cell_of hb (by simp)
  have h1 : (loadVar T ⟨b, 0, none⟩).run P w = .ok v w := by simp [loadVar, ha, load, Sem.run, hc]
  have h2 : (asAddr (tmps.getD t undef)).run P w = .ok ⟨b, 0, none⟩ w := by rw [ht]; simp [asAddr]
  simp only [Array.getD_eq_getD_getElem?] at h2 ht
  simp [results, h, h1, h2]

theorem leaves_inC {P : Program} {fn : Func} {tmps : Array Value} {K : Value → World → Prop} {v : Value} {l : List HP} (hv : ∀ w, Sat w l → (results fn tmps).run P w = .ok v w) (hK : ∀ w', Sat w' l → K v w') (bs : List Nat) :
    ∀ (w : World), Sat w (bs.map (fun b => pt b (.deferred (some []))) ++ l) → LeavesInM (Wd none) 0 P fn tmps (Ret K) (bs.map mark) .returning w := by
  induction bs with
  | nil => exact fun w H => ⟨v, hv w H, v, rfl, hK w H⟩
  | cons b bs ih =>
    intro w H
    obtain ⟨w', hrun, H'⟩ := run_take (P := P) H
    exact ⟨by simp, .inl ⟨b, w', rfl, hrun, ih w' H'.tail⟩⟩

def LeaveC (t : Nat) (TT : TypeId) (K : Value → World → Prop) : Post
  | .normal, E, ds, w | .ret, E, ds, w => ∃ (b : Nat) (v : Value) (bs : List Nat), E t = .pointer (some ⟨b, 0, none⟩) ∧ ds = bs.map mark ∧ ∃ l, Sat w (bs.map (fun b => pt b (.deferred (some []))) ++ (pt b (.cells [v].toArray TT (0, 0)) :: l)) ∧ ∀ w', Sat w' (pt b (.cells [v].toArray TT (0, 0)) :: l) → K v w'
  | _, _, _, _ => False
theorem LeaveC.ret {t : Nat} {TT : TypeId} {K : Value → World → Prop} {E : Env} {ds : List Deferred} {w : World} (h : ∃ (b : Nat) (v : Value) (bs : List Nat), E t = .pointer (some ⟨b, 0, none⟩) ∧ ds = bs.map mark ∧ ∃ l, Sat w (bs.map (fun b => pt b (.deferred (some []))) ++ (pt b (.cells [v].toArray TT (0, 0)) :: l)) ∧ ∀ w', Sat w' (pt b (.cells [v].toArray TT (0, 0)) :: l) → K v w') : LeaveC t TT K .ret E ds w := h
theorem LeaveC.normal {t : Nat} {TT : TypeId} {K : Value → World → Prop} {E : Env} {ds : List Deferred} {w : World} (h : ∃ (b : Nat) (v : Value) (bs : List Nat), E t = .pointer (some ⟨b, 0, none⟩) ∧ ds = bs.map mark ∧ ∃ l, Sat w (bs.map (fun b => pt b (.deferred (some []))) ++ (pt b (.cells [v].toArray TT (0, 0)) :: l)) ∧ ∀ w', Sat w' (pt b (.cells [v].toArray TT (0, 0)) :: l) → K v w') : LeaveC t TT K .normal E ds w := h

theorem Calls.of_wp_cell {P : Program} {f : FuncId} {fn : Func} {c : Code} {args : Array Value} {w : World} {K : Value → World → Prop} {t : Nat} {T TT : TypeId}
    (hf : P.funcs[f]? = some fn) (hb : fn.body = some c) {N : Nat} (hN : fn.ntmps = N) (hrs : fn.results = #[.cell t T]) (ha : ∀ w, (isAgg T).run P w = .ok false w) (hs : args.size ≤ N) (h : WP P none N c (LeaveC t TT K) (envOf args) [] w) : Calls P f args w (Ret K) := by
  subst hN
  refine calls_wd.1 (callsIn_of_wp_marks (F := Wd none) (n := 0) hf hb trivial (wpIn_mono (h _ (rep_start args _ hs)) ?_))
  rintro e a w' ⟨E, ds, hr, q⟩
  cases e with
  | normal =>
    obtain ⟨b, v, bs, hv, rfl, l, H, hk⟩ := q
    show LeavesInM _ _ _ _ a.tmps _ a.defers _ _
    rw [hr.ds]
    exact leaves_inC (fun w H => resC_run hrs ha ((hr.env t).trans hv) H.pt_get) hk bs w' H
  | ret =>
    obtain ⟨b, v, bs, hv, rfl, l, H, hk⟩ := q
    show LeavesInM _ _ _ _ a.tmps _ a.defers _ _
    rw [hr.ds]
    exact leaves_inC (fun w H => resC_run hrs ha ((hr.env t).trans hv) H.pt_get) hk bs w' H
  | _ => exact q.elim
end Go.Proofs.Ytbhbdpbhhfemhaa

/-
  The laws' own functions: shows.
-/
namespace Go.Proofs.Ytbhbdpbhhfemhaa
open Go Go.Proofs
set_option maxRecDepth 100000
set_option maxHeartbeats 8000000
set_option linter.unusedVariables false

abbrev bMap (b m : Nat) : HP := pt b (.cells [Value.map (some m)].toArray TMS (0, 0))
abbrev bB (b : Nat) (x : Bool) : HP := pt b (.cells [Value.bool x].toArray 4 (0, 0))
theorem Sat.take4 {w : World} {l r1 r2 r3 r4 : List HP} (H : Sat w l) (A B C D : HP) [t : Take l A r1] [t2 : Take r1 B r2] [t3 : Take r2 C r3] [t4 : Take r3 D r4] : Sat w (A :: B :: C :: D :: r4) :=
  H.perm (by rw [t.perm, t2.perm, t3.perm, t4.perm]; rfl)
def lastKey (bs : List Wr) (i : Nat) : ByteArray := if i = 0 then ⟨#[]⟩ else ((bs[i - 1]?).map Wr.key).getD ⟨#[]⟩

theorem shows_spec {w : World} {l : List HP} {b m ck N : Nat} {S : SC} {es : List Me} {q : Int} (H : Sat w (StP b S :: pt m (mapO es ck) :: l)) (ok : S.Ok N) (hm : MapIs es ck fun k => atv (vsOf S.es k) q) :
    Calls Try.prog 26 #[.pointer (some ⟨b, 0, none⟩), .map (some m), .int .i64 q] w (Ret fun v w' => v = .bool true ∧ Sat w' (StP b S :: pt m (mapO es ck) :: l)) := by
  replace H := StP.open.1 H
  have hNN := ok.N
  have hnum := ok.num
  obtain ⟨bs, hbs⟩ : ∃ bs, baseL (ek S.es) q = bs := ⟨_, rfl⟩
  have hbl : bs.length ≤ 500000 := by have := baseL_len S.es q; rw [hbs] at this; omega
  have hcount : bs.length = es.length := by rw [← hbs]; exact base_count ok hm
  have hmem : ∀ x ∈ bs, atv (vsOf S.es x.key) q = some x.val := fun x hx => by rw [← hbs] at hx; exact ((base_mem ok).1 hx).2
  have hsrt : Srt Wr.key bs := by rw [← hbs]; exact base_srt ok q
  refine Calls.of_wp_cell (TT := 4) Try.func26 rfl Try.ntmps26 Try.results26 Try.isAgg4 (Nat.le_of_ble_eq_true rfl) ?_
  refine WP.seq ?_
  refine WP.region ?_
  refine OpsE.box1 (v := .pointer _) rfl rfl H ?_
  intro b3 w H
  refine OpsE.box1 (v := .map _) rfl rfl H ?_
  intro b4 w H
  refine OpsE.box1 (v := .int .i64 _) rfl rfl H ?_
  intro b5 w H
  refine OpsE.alloc1 Try.zeroValue4 rfl H ?_
  intro b6 w H
  refine OpsE.nil ?_
  refine Then.normal ?_
  refine WP.seq ?_
  refine WP.region ?_
  refine OpsE.alloc1 Try.zeroValue3 rfl H ?_
  intro b7 w H
  refine OpsE.store (v := .int .i64 _) rfl rfl rfl rfl Try.sizeOf3 H (by simp) ?_
  intro w H
  simp only [List.set_cons_zero, List.set_cons_succ] at H
  refine OpsE.nil ?_
  refine Then.normal ?_
  refine WP.seq ?_
  refine WP.region ?_
  refine OpsE.alloc1 Try.zeroValue9 rfl H ?_
  intro b8 w H
  refine OpsE.store (v := .string _) rfl rfl rfl rfl Try.sizeOf9 H (by simp) ?_
  intro w H
  simp only [List.set_cons_zero, List.set_cons_succ] at H
  refine OpsE.nil ?_
  refine Then.normal ?_
  refine WP.seq ?_
  refine WP.seq ?_
  refine WP.region ?_
  refine OpsE.val (x_load (v := .pointer (some ⟨b, 0, none⟩)) rfl Try.isAgg28 (H.look _) rfl) ?_
  refine OpsE.val (x_load (v := .int .i64 q) rfl Try.isAgg3 (H.look _) rfl) ?_
  refine OpsE.call (x_call (vl := [.pointer _, .string _, .string _, .int .i64 _]) rfl Try.call32) (SRange_spec H) ?_
  rintro _ w ⟨c2, c3, c4, c5, rfl, H⟩
  refine OpsE.nil ?_
  refine Then.normal ?_
  refine WP.block ?_
  refine WP.rangeFunc (fun i => HP.sep (bI b7 (i : Int)) (TC.bS b8 (lastKey bs i))) (fun i e => lift False) rfl (SRange1_seq (b2 := c2) (b3 := c3) (b4 := c4) (b5 := c5) (x := ⟨#[]⟩) (y := ⟨#[]⟩) (q := q) (b := b) (r := S.h5 :: S.h6 :: bQ b3 b :: bMap b4 m :: bI b5 q :: bB b6 false :: pt m (mapO es ck) :: l) ok) (fun args h => by rw [shE_base] at h; obtain ⟨_, _, rfl⟩ := List.mem_map.1 h; rfl) (sat_sep.2 ((show Sat w (bI c5 q :: TC.bS c4 ⟨#[]⟩ :: TC.bS c3 ⟨#[]⟩ :: bQ c2 b :: TC.bS b8 ⟨#[]⟩ :: bI b7 0 :: bB b6 false :: bI b5 q :: bMap b4 m :: bQ b3 b :: S.h1 b :: S.t.ap :: TC.Lvs S.t.lv :: S.h4 :: S.h5 :: S.h6 :: pt m (mapO es ck) :: l) from H).perm (by
    show _ = stars (bI b7 0 :: TC.bS b8 ⟨#[]⟩ :: bQ c2 b :: TC.bS c3 ⟨#[]⟩ :: TC.bS c4 ⟨#[]⟩ :: bI c5 q :: S.h1 b :: S.t.ap :: TC.Lvs S.t.lv :: S.h4 :: S.h5 :: S.h6 :: bQ b3 b :: bMap b4 m :: bI b5 q :: bB b6 false :: pt m (mapO es ck) :: l)
    simp only [stars_cons]; ac_rfl))) ?_ ?_ ?_
  · intro i args lp w hxi
    rw [shE_base, hbs] at hxi
    obtain ⟨x, hx, rfl⟩ : ∃ x, bs[i]? = some x ∧ yw x = args := by simpa using hxi
    have hxm := List.mem_of_getElem? hx
    have hxl := (List.getElem?_eq_some_iff.1 hx).1
    have hxv := hmem x hxm
    have hget : getM es x.key = some (.string x.val) := by rw [hm.get, hxv]; rfl
    refine WP.seq ?_
    refine WP.region ?_
    refine OpsE.val (x_assign (v := .string _) rfl) ?_
    refine OpsE.nil ?_
    refine Then.normal ?_
    refine WP.region ?_
    refine OpsE.val (x_assign (v := .string _) rfl) ?_
    refine OpsE.nil ?_
    refine ⟨rfl, rfl, rfl, fun w Fr H => ?_⟩
    replace H := sat_sep.1 H.swap
    refine WP.block ?_
    refine WP.seq ?_
    refine WP.region ?_
    refine OpsE.val (x_load (v := .map (some m)) rfl Try.isAgg43 (H.look _) rfl) ?_
    refine OpsE.val (x_move (v := .string _) rfl) ?_
    refine OpsE.val (x_lookup2 rfl rfl Try.underlying43 Try.underlying9 Try.zeroValue9 (H.look _)) ?_
    rw [hget]
    refine OpsE.val (x_move (v := .tuple _) rfl) ?_
    refine OpsE.val (x_extract (v := .string x.val) rfl rfl) ?_
    refine OpsE.val (x_extract (v := .bool true) rfl rfl) ?_
    refine OpsE.val (x_assign (v := .string _) rfl) ?_
    refine OpsE.val (x_assign (v := .bool _) rfl) ?_
    refine OpsE.nil ?_
    refine Then.normal ?_
    refine WP.seq ?_
    refine WP.seq ?_
    refine WP.region ?_
    refine OpsE.val (x_move (v := .bool _) rfl) ?_
    refine OpsE.val (x_not rfl) ?_
    refine OpsE.val (x_move (v := .bool _) rfl) ?_
    refine OpsE.yes rfl ?_
    refine OpsE.val (x_move (v := .string _) rfl) ?_
    refine OpsE.yes rfl ?_
    refine OpsE.val (x_move (v := .string _) rfl) ?_
    refine OpsE.yes rfl ?_
    refine OpsE.val (x_neS rfl rfl) ?_
    rw [decide_eq_false (fun h => h rfl)]
    refine OpsE.val (x_pickF rfl rfl) ?_
    refine OpsE.val (x_move (v := .bool _) rfl) ?_
    refine OpsE.yes rfl ?_
    refine OpsE.val (x_load (v := .int .i64 (i : Int)) rfl Try.isAgg3 (H.look _) rfl) ?_
    refine OpsE.yes rfl ?_
    refine OpsE.val (x_gt rfl rfl) ?_
    by_cases c1 : (i : Int) > 0
    · rw [decide_eq_true c1]
      refine OpsE.yes rfl ?_
      refine OpsE.val (x_move (v := .bool _) rfl) ?_
      refine OpsE.yes rfl ?_
      refine OpsE.val (x_move (v := .string _) rfl) ?_
      refine OpsE.yes rfl ?_
      refine OpsE.val (x_load (v := .string (lastKey bs i)) rfl Try.isAgg9 (H.look _) rfl) ?_
      refine OpsE.yes rfl ?_
      refine OpsE.val (x_leS rfl rfl) ?_
      rw [(show (slt x.key (lastKey bs i) || decide (x.key = lastKey bs i)) = false by
        obtain ⟨p, hp⟩ : ∃ p, bs[i - 1]? = some p := ⟨_, List.getElem?_eq_getElem (by omega)⟩
        have e1 : lastKey bs i = p.key := by unfold lastKey; rw [if_neg (by omega), hp]; rfl
        have h3 := hsrt.lt (i := i - 1) (j := i) (by omega) hp hx
        rw [e1, slt_asymm h3, decide_eq_false (fun h => slt_ne h3 h.symm)]; rfl)]
      refine OpsE.yes rfl ?_
      refine OpsE.val (x_pickT rfl rfl) ?_
      refine OpsE.val (x_pickF rfl rfl) ?_
      refine OpsE.nil ?_
      refine Then.normal ?_
      refine WP.cond_f rfl rfl ?_
      refine WP.skip ?_
      refine Then.normal ?_
      refine WP.seq ?_
      refine WP.region ?_
      refine OpsE.val (x_load (v := .pointer (some ⟨b, 0, none⟩)) rfl Try.isAgg28 (H.look _) rfl) ?_
      refine OpsE.val (x_move (v := .string _) rfl) ?_
      refine OpsE.val (x_load (v := .int .i64 q) rfl Try.isAgg3 (H.look _) rfl) ?_
      have H1 := H.take4 (S.h1 b) S.t.ap (TC.Lvs S.t.lv) S.h4
      have hG := SGet_spec (key := x.key) (q := q) H1 ok
      rw [hxv] at hG
      refine OpsE.call (x_call (vl := [.pointer _, .string _, .int .i64 _]) rfl Try.call28) hG ?_
      rintro _ w ⟨rfl, H⟩
      have H0 : Sat w (bI b7 (i : Int) :: TC.bS b8 (lastKey bs i) :: Fr :: bQ c2 b :: TC.bS c3 ⟨#[]⟩ :: TC.bS c4 ⟨#[]⟩ :: bI c5 q :: S.h1 b :: S.t.ap :: TC.Lvs S.t.lv :: S.h4 :: S.h5 :: S.h6 :: bQ b3 b :: bMap b4 m :: bI b5 q :: bB b6 false :: pt m (mapO es ck) :: l) := H.perm (by simp only [stars_cons]; ac_rfl)
      replace H := H0
      refine OpsE.val (x_move (v := .tuple _) rfl) ?_
      refine OpsE.val (x_extract (v := .string x.val) rfl rfl) ?_
      refine OpsE.val (x_extract (v := .bool true) rfl rfl) ?_
      refine OpsE.val (x_assign (v := .string _) rfl) ?_
      refine OpsE.val (x_assign (v := .bool _) rfl) ?_
      refine OpsE.nil ?_
      refine Then.normal ?_
      refine WP.seq ?_
      refine WP.seq ?_
      refine WP.region ?_
      refine OpsE.val (x_move (v := .bool _) rfl) ?_
      refine OpsE.val (x_not rfl) ?_
      refine OpsE.val (x_move (v := .bool _) rfl) ?_
      refine OpsE.yes rfl ?_
      refine OpsE.val (x_move (v := .string _) rfl) ?_
      refine OpsE.yes rfl ?_
      refine OpsE.val (x_move (v := .string _) rfl) ?_
      refine OpsE.yes rfl ?_
      refine OpsE.val (x_neS rfl rfl) ?_
      rw [decide_eq_false (fun h => h rfl)]
      refine OpsE.val (x_pickF rfl rfl) ?_
      refine OpsE.nil ?_
      refine Then.normal ?_
      refine WP.cond_f rfl rfl ?_
      refine WP.skip ?_
      refine Then.normal ?_
      refine WP.seq ?_
      refine WP.region ?_
      refine OpsE.val (x_move (v := .string _) rfl) ?_
      refine OpsE.store (v := .string x.key) rfl rfl rfl rfl Try.sizeOf9 H (by simp) ?_
      intro w H
      simp only [List.set_cons_zero, List.set_cons_succ] at H
      refine OpsE.nil ?_
      refine Then.normal ?_
      refine WP.region ?_
      refine OpsE.val (x_load (v := .int .i64 (i : Int)) rfl Try.isAgg3 (H.look _) rfl) ?_
      refine OpsE.val (x_add (z := ((i + 1 : Nat) : Int)) rfl rfl (by rw [i64n (by omega) (by omega)]; omega)) ?_
      refine OpsE.store (v := .int .i64 ((i + 1 : Nat) : Int)) rfl rfl rfl rfl Try.sizeOf3 H (by simp) ?_
      intro w H
      simp only [List.set_cons_zero, List.set_cons_succ] at H
      refine OpsE.nil ?_
      refine InBlock.normal ?_
      have H1 : Sat w (bI b7 ((i + 1 : Nat) : Int) :: TC.bS b8 x.key :: Fr :: bQ c2 b :: TC.bS c3 ⟨#[]⟩ :: TC.bS c4 ⟨#[]⟩ :: bI c5 q :: S.h1 b :: S.t.ap :: TC.Lvs S.t.lv :: S.h4 :: S.h5 :: S.h6 :: bQ b3 b :: bMap b4 m :: bI b5 q :: bB b6 false :: pt m (mapO es ck) :: l) := H
      show Sat w (Fr :: HP.sep (bI b7 ((i + 1 : Nat) : Int)) (TC.bS b8 (lastKey bs (i + 1))) :: bQ c2 b :: TC.bS c3 ⟨#[]⟩ :: TC.bS c4 ⟨#[]⟩ :: bI c5 q :: S.h1 b :: S.t.ap :: TC.Lvs S.t.lv :: S.h4 :: S.h5 :: S.h6 :: bQ b3 b :: bMap b4 m :: bI b5 q :: bB b6 false :: pt m (mapO es ck) :: l)
      refine Sat.swap (sat_sep.2 ?_)
      have e1 : lastKey bs (i + 1) = x.key := by unfold lastKey; rw [if_neg (by omega), Nat.add_sub_cancel, hx]; rfl
      rw [e1]
      exact H1
    · rw [decide_eq_false c1]
      refine OpsE.yes rfl ?_
      refine OpsE.val (x_move (v := .bool _) rfl) ?_
      refine OpsE.no rfl ?_
      refine OpsE.no rfl ?_
      refine OpsE.no rfl ?_
      refine OpsE.yes rfl ?_
      refine OpsE.val (x_pickF rfl rfl) ?_
      refine OpsE.val (x_pickF rfl rfl) ?_
      refine OpsE.nil ?_
      refine Then.normal ?_
      refine WP.cond_f rfl rfl ?_
      refine WP.skip ?_
      refine Then.normal ?_
      refine WP.seq ?_
      refine WP.region ?_
      refine OpsE.val (x_load (v := .pointer (some ⟨b, 0, none⟩)) rfl Try.isAgg28 (H.look _) rfl) ?_
      refine OpsE.val (x_move (v := .string _) rfl) ?_
      refine OpsE.val (x_load (v := .int .i64 q) rfl Try.isAgg3 (H.look _) rfl) ?_
      have H1 := H.take4 (S.h1 b) S.t.ap (TC.Lvs S.t.lv) S.h4
      have hG := SGet_spec (key := x.key) (q := q) H1 ok
      rw [hxv] at hG
      refine OpsE.call (x_call (vl := [.pointer _, .string _, .int .i64 _]) rfl Try.call28) hG ?_
      rintro _ w ⟨rfl, H⟩
      have H0 : Sat w (bI b7 (i : Int) :: TC.bS b8 (lastKey bs i) :: Fr :: bQ c2 b :: TC.bS c3 ⟨#[]⟩ :: TC.bS c4 ⟨#[]⟩ :: bI c5 q :: S.h1 b :: S.t.ap :: TC.Lvs S.t.lv :: S.h4 :: S.h5 :: S.h6 :: bQ b3 b :: bMap b4 m :: bI b5 q :: bB b6 false :: pt m (mapO es ck) :: l) := H.perm (by simp only [stars_cons]; ac_rfl)
      replace H := H0
      refine OpsE.val (x_move (v := .tuple _) rfl) ?_
      refine OpsE.val (x_extract (v := .string x.val) rfl rfl) ?_
      refine OpsE.val (x_extract (v := .bool true) rfl rfl) ?_
      refine OpsE.val (x_assign (v := .string _) rfl) ?_
      refine OpsE.val (x_assign (v := .bool _) rfl) ?_
      refine OpsE.nil ?_
      refine Then.normal ?_
      refine WP.seq ?_
      refine WP.seq ?_
      refine WP.region ?_
      refine OpsE.val (x_move (v := .bool _) rfl) ?_
      refine OpsE.val (x_not rfl) ?_
      refine OpsE.val (x_move (v := .bool _) rfl) ?_
      refine OpsE.yes rfl ?_
      refine OpsE.val (x_move (v := .string _) rfl) ?_
      refine OpsE.yes rfl ?_
      refine OpsE.val (x_move (v := .string _) rfl) ?_
      refine OpsE.yes rfl ?_
      refine OpsE.val (x_neS rfl rfl) ?_
      rw [decide_eq_false (fun h => h rfl)]
      refine OpsE.val (x_pickF rfl rfl) ?_
      refine OpsE.nil ?_
      refine Then.normal ?_
      refine WP.cond_f rfl rfl ?_
      refine WP.skip ?_
      refine Then.normal ?_
      refine WP.seq ?_
      refine WP.region ?_
      refine OpsE.val (x_move (v := .string _) rfl) ?_
      refine OpsE.store (v := .string x.key) rfl rfl rfl rfl Try.sizeOf9 H (by simp) ?_
      intro w H
      simp only [List.set_cons_zero, List.set_cons_succ] at H
      refine OpsE.nil ?_
      refine Then.normal ?_
      refine WP.region ?_
      refine OpsE.val (x_load (v := .int .i64 (i : Int)) rfl Try.isAgg3 (H.look _) rfl) ?_
      refine OpsE.val (x_add (z := ((i + 1 : Nat) : Int)) rfl rfl (by rw [i64n (by omega) (by omega)]; omega)) ?_
      refine OpsE.store (v := .int .i64 ((i + 1 : Nat) : Int)) rfl rfl rfl rfl Try.sizeOf3 H (by simp) ?_
      intro w H
      simp only [List.set_cons_zero, List.set_cons_succ] at H
      refine OpsE.nil ?_
      refine InBlock.normal ?_
      have H1 : Sat w (bI b7 ((i + 1 : Nat) : Int) :: TC.bS b8 x.key :: Fr :: bQ c2 b :: TC.bS c3 ⟨#[]⟩ :: TC.bS c4 ⟨#[]⟩ :: bI c5 q :: S.h1 b :: S.t.ap :: TC.Lvs S.t.lv :: S.h4 :: S.h5 :: S.h6 :: bQ b3 b :: bMap b4 m :: bI b5 q :: bB b6 false :: pt m (mapO es ck) :: l) := H
      show Sat w (Fr :: HP.sep (bI b7 ((i + 1 : Nat) : Int)) (TC.bS b8 (lastKey bs (i + 1))) :: bQ c2 b :: TC.bS c3 ⟨#[]⟩ :: TC.bS c4 ⟨#[]⟩ :: bI c5 q :: S.h1 b :: S.t.ap :: TC.Lvs S.t.lv :: S.h4 :: S.h5 :: S.h6 :: bQ b3 b :: bMap b4 m :: bI b5 q :: bB b6 false :: pt m (mapO es ck) :: l)
      refine Sat.swap (sat_sep.2 ?_)
      have e1 : lastKey bs (i + 1) = x.key := by unfold lastKey; rw [if_neg (by omega), Nat.add_sub_cancel, hx]; rfl
      rw [e1]
      exact H1
  · intro bm w H
    rw [shE_base, hbs, List.length_map] at H
    have H2 : Sat w (bI b7 (bs.length : Int) :: TC.bS b8 (lastKey bs bs.length) :: pt bm (.deferred (some [])) :: bQ c2 b :: TC.bS c3 ⟨#[]⟩ :: TC.bS c4 ⟨#[]⟩ :: bI c5 q :: S.h1 b :: S.t.ap :: TC.Lvs S.t.lv :: S.h4 :: S.h5 :: S.h6 :: bQ b3 b :: bMap b4 m :: bI b5 q :: bB b6 false :: pt m (mapO es ck) :: l) := sat_sep.1 H.swap
    have H0 : Sat w (StP b S :: bI b7 (bs.length : Int) :: TC.bS b8 (lastKey bs bs.length) :: pt bm (.deferred (some [])) :: bQ c2 b :: TC.bS c3 ⟨#[]⟩ :: TC.bS c4 ⟨#[]⟩ :: bI c5 q :: bQ b3 b :: bMap b4 m :: bI b5 q :: bB b6 false :: pt m (mapO es ck) :: l) := StP.open.2 (H2.perm (by simp only [stars_cons]; ac_rfl))
    replace H := H0
    refine InBlock.normal ?_
    refine Then.normal ?_
    refine WP.seq ?_
    refine WP.mix (kdOf [0, 0, 0, 0, 0, 0, 0, 1, 0, 0]) (fun w => Sat w _) (by kernel_rfl) (by kernel_rfl) (fun w hw => Sat.heap (H) hw) ?_
    intro w hw; replace H := H.heap hw; clear hw
    refine MixE.q rfl (fun w H => x_load (v := .int .i64 (bs.length : Int)) rfl Try.isAgg3 (H.look _) rfl) ?_
    refine MixE.q rfl (fun w H => x_load (v := .map (some m)) rfl Try.isAgg43 (H.look _) rfl) ?_
    refine MixE.q rfl (fun w H => x_lenM rfl rfl Try.underlying43 (H.look _)) ?_
    refine MixE.q rfl (fun w H => x_eqI rfl rfl) ?_
    rw [decide_eq_true (show ((bs.length : Nat) : Int) = (es.length : Int) by rw [hcount])]
    refine MixE.q rfl (fun w H => x_move (v := .bool _) rfl) ?_
    refine MixE.yes rfl ?_
    refine MixE.q rfl (fun w H => x_load (v := .pointer (some ⟨b, 0, none⟩)) rfl Try.isAgg28 (H.look _) rfl) ?_
    refine MixE.yes rfl ?_
    refine MixE.q rfl (fun w H => x_load (v := .int .i64 q) rfl Try.isAgg3 (H.look _) rfl) ?_
    refine MixE.yes rfl ?_
    refine MixE.one rfl ?_
    refine OpsE.call (x_call (vl := [.pointer _, .int .i64 _]) rfl Try.call29) (Base_spec H ok) ?_
    rintro _ w ⟨g, rfl, hg1, hg2, H⟩
    refine OpsE.nil ⟨rfl, rfl, H.tail, ?_⟩
    refine MixE.yes rfl ?_
    refine MixE.q rfl (fun w H => x_lenL rfl rfl Try.runUnderlying22) ?_
    refine MixE.yes rfl ?_
    refine MixE.q rfl (fun w H => x_load (v := .int .i64 (bs.length : Int)) rfl Try.isAgg3 (H.look _) rfl) ?_
    refine MixE.two _ (fun k _ => kdOf_ge (Nat.le_add_right _ _)) ?_
    refine OpsE.yes rfl ?_
    refine OpsE.val (x_eqI rfl rfl) ?_
    rw [decide_eq_true (show ((g.xs.length : Nat) : Int) = (bs.length : Int) by rw [hg1, hbs])]
    refine OpsE.val (x_pickT rfl rfl) ?_
    refine OpsE.store (v := .bool _) rfl rfl rfl rfl Try.sizeOf4 H (by simp) ?_
    intro w H
    simp only [List.set_cons_zero, List.set_cons_succ] at H
    refine OpsE.nil ?_
    refine Then.normal ?_
    refine WP.ret ?_
    refine LeaveC.ret ?_
    have H1 : Sat w (bB b6 true :: g.own wrc TWr :: StP b S :: bI b7 (bs.length : Int) :: TC.bS b8 (lastKey bs bs.length) :: pt bm (.deferred (some [])) :: bQ c2 b :: TC.bS c3 ⟨#[]⟩ :: TC.bS c4 ⟨#[]⟩ :: bI c5 q :: bQ b3 b :: bMap b4 m :: bI b5 q :: pt m (mapO es ck) :: l) := H
    refine ⟨b6, .bool true, [bm], rfl, rfl, (g.own wrc TWr :: bI b7 (bs.length : Int) :: TC.bS b8 (lastKey bs bs.length) :: bQ c2 b :: TC.bS c3 ⟨#[]⟩ :: TC.bS c4 ⟨#[]⟩ :: bI c5 q :: bQ b3 b :: bMap b4 m :: bI b5 q :: StP b S :: pt m (mapO es ck) :: l), ?_, fun w' H' => ⟨rfl, H'.tail.tail.tail.tail.tail.tail.tail.tail.tail.tail.tail⟩⟩
    refine H1.perm ?_
    show stars _ = stars (pt bm (.deferred (some [])) :: bB b6 true :: g.own wrc TWr :: bI b7 (bs.length : Int) :: TC.bS b8 (lastKey bs bs.length) :: bQ c2 b :: TC.bS c3 ⟨#[]⟩ :: TC.bS c4 ⟨#[]⟩ :: bI c5 q :: bQ b3 b :: bMap b4 m :: bI b5 q :: StP b S :: pt m (mapO es ck) :: l)
    simp only [stars_cons]; ac_rfl
  · intro bm i e c w hi hj H
    cases e with
    | ret =>
      exact (sat_lift.1 H.swap).1.elim
    | exit id =>
      exact (sat_lift.1 H.swap).1.elim
    | _ => cases hj
end Go.Proofs.Ytbhbdpbhhfemhaa

/-
  The lists that the laws make are right; the laws' own Right.
-/
namespace Go.Proofs.Ytbhbdpbhhfemhaa
open Go Go.Proofs
set_option maxRecDepth 100000
set_option maxHeartbeats 4000000
set_option linter.unusedVariables false

theorem ba_size_app (a b : ByteArray) : (a ++ b).size = a.size + b.size := ByteArray.size_append
theorem ba_empty {s : ByteArray} (h : s.size = 0) : s = ⟨#[]⟩ := by
  obtain ⟨a⟩ := s
  have : a.size = 0 := h
  rw [Array.size_eq_zero_iff] at this
  rw [this]
theorem cutS_le (s : ByteArray) (n : Nat) : (cutS s n).size ≤ n := by
  unfold cutS
  split
  · rw [ByteArray.size_extract]; omega
  · omega
theorem cutS_pos {s : ByteArray} {n : Nat} (h : 0 < s.size) (hn : 0 < n) : 0 < (cutS s n).size := by
  unfold cutS
  split
  · rw [ByteArray.size_extract]; omega
  · exact h
theorem trimK_ne (k : ByteArray) : trimK k ≠ ⟨#[]⟩ := fun h => by
  have h1 : 0 < (trimK k).size := cutS_pos (by rw [ba_size_app]; show 0 < 1 + k.size; omega) (by decide)
  rw [h] at h1
  exact absurd h1 (by decide)
theorem trimW_ok (x : Wr) : (trimW x).key ≠ ⟨#[]⟩ ∧ (trimW x).key.size ≤ 20 ∧ (trimW x).val.size ≤ 40 ∧ ((trimW x).gone = true → (trimW x).val = ⟨#[]⟩) := by
  refine ⟨trimK_ne _, cutS_le _ _, cutS_le _ _, fun h => ?_⟩
  have hg : x.gone = true := h
  show cutS (goneV x) 40 = _
  unfold goneV
  rw [if_pos hg]; rfl
theorem sorted_mem {ws L : List Wr} (h : SortedOf ws L) {x : Wr} (hx : x ∈ L) : x ∈ ws := (lastW_some ((h.2 x).1 hx)).2
theorem sorted_nodup {ws L : List Wr} (h : SortedOf ws L) : L.Pairwise (· ≠ ·) := h.1.imp fun {a b} hab e => by rw [e] at hab; rw [slt_irrefl] at hab; cases hab
theorem some_mem {ws L : List Wr} (h : SomeOf ws L) {x : Wr} (hx : x ∈ L) : ∃ y ∈ ws, x = trimW y := by
  obtain ⟨y, hy, rfl⟩ := List.mem_map.1 (sorted_mem h hx)
  exact ⟨y, List.mem_of_mem_take hy, rfl⟩
theorem some_len {ws L : List Wr} (h : SomeOf ws L) : L.length ≤ 12 := by
  have := nodup_le (sorted_nodup h) (m := (ws.take 12).map trimW) fun x hx => sorted_mem h hx
  rw [List.length_map, List.length_take] at this; omega
theorem okTo_of {ws : List Wr} (h1 : ∀ x ∈ ws, x.key ≠ ⟨#[]⟩ ∧ x.key.size ≤ 400 ∧ x.val.size ≤ 4096 ∧ (x.gone = true → x.val = ⟨#[]⟩)) (h2 : Srt Wr.key ws) : okTo ws ws.length := by
  intro j x hj hx
  obtain ⟨a1, a2, a3, a4⟩ := h1 x (List.mem_of_getElem? hx)
  unfold bad
  rw [decide_eq_false a1, decide_eq_false (by omega), decide_eq_false (by omega)]
  simp only [Bool.false_or, Bool.or_eq_false_iff, Bool.and_eq_false_iff]
  constructor
  · by_cases hg : x.gone = true
    · exact .inr (decide_eq_false fun h => h (a4 hg))
    · exact .inl (by simpa using hg)
  · by_cases h0 : (j : Int) > 0
    · obtain ⟨p, hp⟩ : ∃ p, ws[j - 1]? = some p := ⟨_, List.getElem?_eq_getElem (by omega)⟩
      rw [hp]
      exact .inr (show (!slt p.key x.key) = false by rw [h2.lt (i := j - 1) (j := j) (by omega) hp hx]; rfl)
    · exact .inl (decide_eq_false h0)
theorem some_right {ws L : List Wr} (h : SomeOf ws L) : rightB L := by
  have hl := some_len h
  refine ⟨by omega, okTo_of (fun x hx => ?_) h.1⟩
  obtain ⟨y, _, rfl⟩ := some_mem h hx
  obtain ⟨h1, h2, h3, h4⟩ := trimW_ok y
  exact ⟨h1, by omega, by omega, h4⟩
/-- such commits are taken -/
theorem takes_list {first : Int} {wss : List (List Wr)} {cms : List Cmt} (h : ListOf (first + 1) wss cms) (hn : wss.length ≤ 1000) (hf : 0 ≤ first ∧ first ≤ 1000000) : Takes first cms := by
  have hl := h.1
  have hg : ∀ (i : Nat) (c : Cmt), cms[i]? = some c → i < wss.length ∧ c.1 = first + 1 + i ∧ c.2.1 = 10 * i ∧ ∃ ws, SomeOf ws c.2.2 := by
    intro i c hc
    have hi := (List.getElem?_eq_some_iff.1 hc).1
    obtain ⟨ws, hws⟩ : ∃ ws, wss[i]? = some ws := ⟨_, List.getElem?_eq_getElem (by omega)⟩
    obtain ⟨h1, h2, h3⟩ := h.2 i c ws hc hws
    exact ⟨by omega, h1, h2, ws, h3⟩
  refine ⟨fun i c hc => ?_, fun i c hc => ?_, fun c hc => ?_, fun i c d hc hd => ?_⟩
  · obtain ⟨h0, h1, _⟩ := hg i c hc; exact ⟨h1, by omega⟩
  · obtain ⟨h0, _, h2, _⟩ := hg i c hc; omega
  · obtain ⟨i, hi, rfl⟩ := List.mem_iff_getElem.1 hc
    obtain ⟨_, _, _, ws, h3⟩ := hg i cms[i] (by simp)
    exact some_right h3
  · obtain ⟨_, _, h2, _⟩ := hg i c hc
    obtain ⟨_, _, h3, _⟩ := hg (i + 1) d hd
    omega
theorem takes_rise {first : Int} {cms : List Cmt} (h : Takes first cms) : cms.Pairwise (fun a b => a.1 < b.1) := seq_rise fun i c hc => (h.seq i c hc).1
theorem goodN_nil {seq : Int} (h : 0 ≤ seq ∧ seq ≤ 1099511627776) : goodN seq [] := ⟨h.1, h.2, fun j x hj => absurd hj (Nat.not_lt_zero _), fun x h => by cases h⟩

theorem LRight_spec {w : World} {l : List HP} {a : Option Addr} {n c : Nat} {ws : List Wr} (H : Sat w l) (hr : RIn wrc TWr l a n c ws) (hn : n ≤ 1000000) (hk : ∀ x ∈ ws, x.key.size ≤ 9223372036854775807 ∧ x.val.size ≤ 9223372036854775807) :
    Calls Try.prog 24 #[.slice a n c] w (Ret fun v w' => v = .bool (rightBo ws) ∧ Sat w' l) := by
  have hlen := hr.len
  refine Calls.of_wp Try.func24 rfl Try.ntmps24 Try.results24 (Nat.le_of_ble_eq_true rfl) ?_
  refine WP.seq ?_
  refine WP.region ?_
  refine OpsE.val (x_assign (v := .bool _) rfl) ?_
  refine OpsE.nil ?_
  refine Then.normal ?_
  refine WP.seq ?_
  refine WP.seq ?_
  refine WP.region ?_
  refine OpsE.val (x_move (v := .slice _ _ _) rfl) ?_
  refine OpsE.val (x_lenL rfl rfl Try.runUnderlying22) ?_
  refine OpsE.val (x_move (v := .int .i64 _) rfl) ?_
  refine OpsE.nil ?_
  refine Then.normal ?_
  refine WP.block ?_
  refine WP.loopS [2, 3, 4, 7, 8, 9, 10, 11, 12, 13, 14, 15, 16, 17, 18, 19, 20, 21, 22, 23, 24, 25, 26, 27, 28, 29, 30, 31, 32, 33, 34, 35, 36, 37, 38, 39, 40, 41, 42, 43, 44, 45, 46, 47, 48, 49, 50, 51] (fun (i : Nat) E w => E 7 = .int .i64 (i : Int) ∧ i ≤ n ∧ okTo ws i ∧ Sat w l) (fun i => n - i) 0 ⟨rfl, Nat.zero_le _, (fun j x h => absurd h (Nat.not_lt_zero _)), H⟩ ?_
  rintro i E1 w hs ⟨e7, hin, hok, H⟩
  refine WP.seq ?_
  refine WP.region ?_
  refine OpsE.val (x_lt e7 (hs 6 rfl)) ?_
  by_cases hlt : (i : Int) < (n : Int)
  · rw [decide_eq_true hlt]
    refine OpsE.nil ?_
    refine Then.normal ?_
    refine WP.seq ?_
    refine WP.cond_t rfl rfl ?_
    refine WP.skip ?_
    refine Then.normal ?_
    refine WP.seq ?_
    refine WP.block ?_
    refine WP.seq ?_
    refine WP.region ?_
    refine OpsE.val (x_move (v := .int .i64 _) e7) ?_
    obtain ⟨b, off, B, fz, pre, post, rfl, hB, hBl, hpo⟩ := hr.some (by omega)
    obtain ⟨x, hx⟩ : ∃ x, ws[i]? = some x := ⟨_, List.getElem?_eq_getElem (by omega)⟩
    refine OpsE.val (x_indexAddro (i := i) (hs 5 rfl) e7 Try.runUnderlying22 Try.sizeOf26 rfl (by omega)) ?_
    refine OpsE.val (x_loadA (vs := wrc x) rfl Try.isAgg26 Try.sizeOf26 (hB w H) (row_el wrc_len hBl hpo hx) rfl) ?_
    refine OpsE.allocA Try.zeroValue26 H ?_
    intro b4 w H
    refine OpsE.val (x_assign (v := .int .i64 _) rfl) ?_
    refine OpsE.storeA (vs := wrc x) rfl rfl Try.sizeOf26 H (wrc_one x) (Nat.le_refl _) ?_
    intro w H
    refine OpsE.nil ?_
    refine Then.normal ?_
    refine WP.seq ?_
    refine WP.draw (fun w => Sat w _) (by kernel_rfl) (by kernel_rfl) (H.heap rfl) ?_
    refine QuietE.val (fun w H => x_fieldAddr0 rfl Try.runUnderlying26 rfl rfl Try.sizeOf9) ?_
    refine QuietE.val (fun w H => x_load (v := .string _) rfl Try.isAgg9 (H.look _) rfl) ?_
    refine QuietE.val (fun w H => x_eqS rfl rfl) ?_
    by_cases c1 : x.key = ⟨#[]⟩
    · rw [decide_eq_true c1]
      refine QuietE.val (fun w H => x_move (v := .bool _) rfl) ?_
      refine QuietE.no rfl ?_
      refine QuietE.no rfl ?_
      refine QuietE.no rfl ?_
      refine QuietE.no rfl ?_
      refine QuietE.val (fun w H => x_pickT rfl rfl) ?_
      refine QuietE.val (fun w H => x_move (v := .bool _) rfl) ?_
      refine QuietE.no rfl ?_
      refine QuietE.no rfl ?_
      refine QuietE.no rfl ?_
      refine QuietE.no rfl ?_
      refine QuietE.val (fun w H => x_pickT rfl rfl) ?_
      refine QuietE.val (fun w H => x_move (v := .bool _) rfl) ?_
      refine QuietE.no rfl ?_
      refine QuietE.no rfl ?_
      refine QuietE.no rfl ?_
      refine QuietE.no rfl ?_
      refine QuietE.no rfl ?_
      refine QuietE.no rfl ?_
      refine QuietE.no rfl ?_
      refine QuietE.val (fun w H => x_pickT rfl rfl) ?_
      refine QuietE.val (fun w H => x_move (v := .bool _) rfl) ?_
      refine QuietE.no rfl ?_
      refine QuietE.no rfl ?_
      refine QuietE.no rfl ?_
      refine QuietE.no rfl ?_
      refine QuietE.no rfl ?_
      refine QuietE.no rfl ?_
      refine QuietE.no rfl ?_
      refine QuietE.no rfl ?_
      refine QuietE.no rfl ?_
      refine QuietE.no rfl ?_
      refine QuietE.no rfl ?_
      refine QuietE.no rfl ?_
      refine QuietE.no rfl ?_
      refine QuietE.val (fun w H => x_pickT rfl rfl) ?_
      refine QuietE.nil ?_
      intro w H
      refine Then.normal ?_
      refine WP.cond_t rfl rfl ?_
      refine WP.seq ?_
      refine WP.region ?_
      refine OpsE.val (x_assign (v := .bool _) rfl) ?_
      refine OpsE.nil ?_
      refine Then.normal ?_
      refine WP.ret ?_
      refine InBlock.ret ?_
      refine Then.ret ?_
      refine Then.ret ?_
      refine InBlock.ret ?_
      refine Then.ret ?_
      refine Leave0.ret (v := .bool _) rfl ?_
      have hb : bad ws i x = true := by unfold bad; simp [c1]
      rw [show rightBo ws = false by unfold rightBo; rw [risesB_no hx hb, Bool.and_false]]; exact ⟨rfl, H.tail⟩
    · rw [decide_eq_false c1]
      refine QuietE.val (fun w H => x_move (v := .bool _) rfl) ?_
      refine QuietE.yes rfl ?_
      refine QuietE.val (fun w H => x_fieldAddr0 rfl Try.runUnderlying26 rfl rfl Try.sizeOf9) ?_
      refine QuietE.yes rfl ?_
      refine QuietE.val (fun w H => x_load (v := .string _) rfl Try.isAgg9 (H.look _) rfl) ?_
      refine QuietE.yes rfl ?_
      refine QuietE.val (fun w H => x_lenS rfl rfl Try.runUnderlying9) ?_
      refine QuietE.yes rfl ?_
      refine QuietE.val (fun w H => x_gt rfl rfl) ?_
      by_cases c2 : (x.key.size : Int) > 400
      · rw [decide_eq_true c2]
        refine QuietE.val (fun w H => x_pickF rfl rfl) ?_
        refine QuietE.val (fun w H => x_move (v := .bool _) rfl) ?_
        refine QuietE.no rfl ?_
        refine QuietE.no rfl ?_
        refine QuietE.no rfl ?_
        refine QuietE.no rfl ?_
        refine QuietE.val (fun w H => x_pickT rfl rfl) ?_
        refine QuietE.val (fun w H => x_move (v := .bool _) rfl) ?_
        refine QuietE.no rfl ?_
        refine QuietE.no rfl ?_
        refine QuietE.no rfl ?_
        refine QuietE.no rfl ?_
        refine QuietE.no rfl ?_
        refine QuietE.no rfl ?_
        refine QuietE.no rfl ?_
        refine QuietE.val (fun w H => x_pickT rfl rfl) ?_
        refine QuietE.val (fun w H => x_move (v := .bool _) rfl) ?_
        refine QuietE.no rfl ?_
        refine QuietE.no rfl ?_
        refine QuietE.no rfl ?_
        refine QuietE.no rfl ?_
        refine QuietE.no rfl ?_
        refine QuietE.no rfl ?_
        refine QuietE.no rfl ?_
        refine QuietE.no rfl ?_
        refine QuietE.no rfl ?_
        refine QuietE.no rfl ?_
        refine QuietE.no rfl ?_
        refine QuietE.no rfl ?_
        refine QuietE.no rfl ?_
        refine QuietE.val (fun w H => x_pickT rfl rfl) ?_
        refine QuietE.nil ?_
        intro w H
        refine Then.normal ?_
        refine WP.cond_t rfl rfl ?_
        refine WP.seq ?_
        refine WP.region ?_
        refine OpsE.val (x_assign (v := .bool _) rfl) ?_
        refine OpsE.nil ?_
        refine Then.normal ?_
        refine WP.ret ?_
        refine InBlock.ret ?_
        refine Then.ret ?_
        refine Then.ret ?_
        refine InBlock.ret ?_
        refine Then.ret ?_
        refine Leave0.ret (v := .bool _) rfl ?_
        have hb : bad ws i x = true := by unfold bad; simp [c2]
        rw [show rightBo ws = false by unfold rightBo; rw [risesB_no hx hb, Bool.and_false]]; exact ⟨rfl, H.tail⟩
      · rw [decide_eq_false c2]
        refine QuietE.val (fun w H => x_pickF rfl rfl) ?_
        refine QuietE.val (fun w H => x_move (v := .bool _) rfl) ?_
        refine QuietE.yes rfl ?_
        refine QuietE.val (fun w H => x_fieldAddr (o := 1) rfl Try.runUnderlying26 rfl rfl Try.sizeOf9) ?_
        refine QuietE.yes rfl ?_
        refine QuietE.val (fun w H => x_load (v := .string _) rfl Try.isAgg9 (H.look _) rfl) ?_
        refine QuietE.yes rfl ?_
        refine QuietE.val (fun w H => x_lenS rfl rfl Try.runUnderlying9) ?_
        refine QuietE.yes rfl ?_
        refine QuietE.val (fun w H => x_gt rfl rfl) ?_
        by_cases c3 : (x.val.size : Int) > 4096
        · rw [decide_eq_true c3]
          refine QuietE.val (fun w H => x_pickF rfl rfl) ?_
          refine QuietE.val (fun w H => x_move (v := .bool _) rfl) ?_
          refine QuietE.no rfl ?_
          refine QuietE.no rfl ?_
          refine QuietE.no rfl ?_
          refine QuietE.no rfl ?_
          refine QuietE.no rfl ?_
          refine QuietE.no rfl ?_
          refine QuietE.no rfl ?_
          refine QuietE.val (fun w H => x_pickT rfl rfl) ?_
          refine QuietE.val (fun w H => x_move (v := .bool _) rfl) ?_
          refine QuietE.no rfl ?_
          refine QuietE.no rfl ?_
          refine QuietE.no rfl ?_
          refine QuietE.no rfl ?_
          refine QuietE.no rfl ?_
          refine QuietE.no rfl ?_
          refine QuietE.no rfl ?_
          refine QuietE.no rfl ?_
          refine QuietE.no rfl ?_
          refine QuietE.no rfl ?_
          refine QuietE.no rfl ?_
          refine QuietE.no rfl ?_
          refine QuietE.no rfl ?_
          refine QuietE.val (fun w H => x_pickT rfl rfl) ?_
          refine QuietE.nil ?_
          intro w H
          refine Then.normal ?_
          refine WP.cond_t rfl rfl ?_
          refine WP.seq ?_
          refine WP.region ?_
          refine OpsE.val (x_assign (v := .bool _) rfl) ?_
          refine OpsE.nil ?_
          refine Then.normal ?_
          refine WP.ret ?_
          refine InBlock.ret ?_
          refine Then.ret ?_
          refine Then.ret ?_
          refine InBlock.ret ?_
          refine Then.ret ?_
          refine Leave0.ret (v := .bool _) rfl ?_
          have hb : bad ws i x = true := by unfold bad; simp [c3]
          rw [show rightBo ws = false by unfold rightBo; rw [risesB_no hx hb, Bool.and_false]]; exact ⟨rfl, H.tail⟩
        · rw [decide_eq_false c3]
          refine QuietE.val (fun w H => x_pickF rfl rfl) ?_
          refine QuietE.val (fun w H => x_move (v := .bool _) rfl) ?_
          refine QuietE.yes rfl ?_
          refine QuietE.val (fun w H => x_fieldAddr (o := 2) rfl Try.runUnderlying26 rfl rfl Try.sizeOf4) ?_
          refine QuietE.yes rfl ?_
          refine QuietE.val (fun w H => x_load (v := .bool _) rfl Try.isAgg4 (H.look _) rfl) ?_
          cases c4 : x.gone
          case false =>
            refine QuietE.yes rfl ?_
            refine QuietE.val (fun w H => x_move (v := .bool _) rfl) ?_
            refine QuietE.no rfl ?_
            refine QuietE.no rfl ?_
            refine QuietE.no rfl ?_
            refine QuietE.yes rfl ?_
            refine QuietE.val (fun w H => x_pickF rfl rfl) ?_
            refine QuietE.val (fun w H => x_pickF rfl rfl) ?_
            refine QuietE.val (fun w H => x_move (v := .bool _) rfl) ?_
            refine QuietE.yes rfl ?_
            refine QuietE.val (fun w H => x_move (v := .int .i64 _) rfl) ?_
            refine QuietE.yes rfl ?_
            refine QuietE.val (fun w H => x_gt rfl rfl) ?_
            by_cases c6 : (i : Int) > 0
            · rw [decide_eq_true c6]
              refine QuietE.yes rfl ?_
              refine QuietE.val (fun w H => x_move (v := .bool _) rfl) ?_
              refine QuietE.yes rfl ?_
              obtain ⟨p, hp⟩ : ∃ p, ws[i - 1]? = some p := ⟨_, List.getElem?_eq_getElem (by omega)⟩
              refine QuietE.val (fun w H => x_move (v := .slice (some ⟨b, off, none⟩) n c) (hs 0 rfl)) ?_
              refine QuietE.yes rfl ?_
              refine QuietE.val (fun w H => x_move (v := .int .i64 _) rfl) ?_
              refine QuietE.yes rfl ?_
              refine QuietE.val (fun w H => x_sub (z := ((i - 1 : Nat) : Int)) rfl rfl (by rw [i64n (by omega) (by omega)]; omega)) ?_
              refine QuietE.yes rfl ?_
              refine QuietE.val (fun w H => x_indexAddro (i := i - 1) rfl rfl Try.runUnderlying22 Try.sizeOf26 rfl (by omega)) ?_
              refine QuietE.yes rfl ?_
              refine QuietE.val (fun w H => x_fieldAddr0 rfl Try.runUnderlying26 rfl rfl Try.sizeOf9) ?_
              refine QuietE.yes rfl ?_
              refine QuietE.val (fun w H => x_load (v := .string _) rfl Try.isAgg9 (hB w H.tail) (by simpa using row_cell wrc_len hBl hpo (j := 0) hp rfl)) ?_
              refine QuietE.yes rfl ?_
              refine QuietE.val (fun w H => x_fieldAddr0 rfl Try.runUnderlying26 rfl rfl Try.sizeOf9) ?_
              refine QuietE.yes rfl ?_
              refine QuietE.val (fun w H => x_load (v := .string _) rfl Try.isAgg9 (H.look _) rfl) ?_
              refine QuietE.yes rfl ?_
              refine QuietE.val (fun w H => x_geS rfl rfl) ?_
              cases c7 : (!slt p.key x.key)
              case false =>
                refine QuietE.yes rfl ?_
                refine QuietE.val (fun w H => x_pickT rfl rfl) ?_
                refine QuietE.val (fun w H => x_pickF rfl rfl) ?_
                refine QuietE.nil ?_
                intro w H
                refine Then.normal ?_
                refine WP.cond_f rfl rfl ?_
                refine WP.skip ?_
                refine InBlock.normal ?_
                refine Then.normal ?_
                refine WP.region ?_
                refine OpsE.val (x_add (z := ((i + 1 : Nat) : Int)) e7 rfl (by rw [i64n (by omega) (by omega)]; omega)) ?_
                refine OpsE.val (x_move (v := .int .i64 _) rfl) ?_
                refine OpsE.nil ?_
                refine Then.normal ?_
                have hb : bad ws i x = false := by
                  unfold bad
                  rw [decide_eq_false c1, decide_eq_false c2, decide_eq_false c3, hp]
                  simp only [c7]
                  simp_all
                exact ⟨rfl, (by repeat (first | exact hs | refine Same.upd ?_ rfl)), i + 1, by omega, rfl, by omega, okTo_succ hok hx hb, H.tail⟩
              case true =>
                refine QuietE.yes rfl ?_
                refine QuietE.val (fun w H => x_pickT rfl rfl) ?_
                refine QuietE.val (fun w H => x_pickF rfl rfl) ?_
                refine QuietE.nil ?_
                intro w H
                refine Then.normal ?_
                refine WP.cond_t rfl rfl ?_
                refine WP.seq ?_
                refine WP.region ?_
                refine OpsE.val (x_assign (v := .bool _) rfl) ?_
                refine OpsE.nil ?_
                refine Then.normal ?_
                refine WP.ret ?_
                refine InBlock.ret ?_
                refine Then.ret ?_
                refine Then.ret ?_
                refine InBlock.ret ?_
                refine Then.ret ?_
                refine Leave0.ret (v := .bool _) rfl ?_
                have hb : bad ws i x = true := by unfold bad; rw [decide_eq_true c6, hp]; simp only [c7]; simp
                rw [show rightBo ws = false by unfold rightBo; rw [risesB_no hx hb, Bool.and_false]]; exact ⟨rfl, H.tail⟩
            · rw [decide_eq_false c6]
              refine QuietE.yes rfl ?_
              refine QuietE.val (fun w H => x_move (v := .bool _) rfl) ?_
              refine QuietE.no rfl ?_
              refine QuietE.no rfl ?_
              refine QuietE.no rfl ?_
              refine QuietE.no rfl ?_
              refine QuietE.no rfl ?_
              refine QuietE.no rfl ?_
              refine QuietE.no rfl ?_
              refine QuietE.no rfl ?_
              refine QuietE.no rfl ?_
              refine QuietE.yes rfl ?_
              refine QuietE.val (fun w H => x_pickF rfl rfl) ?_
              refine QuietE.val (fun w H => x_pickF rfl rfl) ?_
              refine QuietE.nil ?_
              intro w H
              refine Then.normal ?_
              refine WP.cond_f rfl rfl ?_
              refine WP.skip ?_
              refine InBlock.normal ?_
              refine Then.normal ?_
              refine WP.region ?_
              refine OpsE.val (x_add (z := ((i + 1 : Nat) : Int)) e7 rfl (by rw [i64n (by omega) (by omega)]; omega)) ?_
              refine OpsE.val (x_move (v := .int .i64 _) rfl) ?_
              refine OpsE.nil ?_
              refine Then.normal ?_
              have hb : bad ws i x = false := by
                unfold bad
                rw [decide_eq_false c1, decide_eq_false c2, decide_eq_false c3, decide_eq_false c6]
                simp_all
              exact ⟨rfl, (by repeat (first | exact hs | refine Same.upd ?_ rfl)), i + 1, by omega, rfl, by omega, okTo_succ hok hx hb, H.tail⟩
          case true =>
            refine QuietE.yes rfl ?_
            refine QuietE.val (fun w H => x_move (v := .bool _) rfl) ?_
            refine QuietE.yes rfl ?_
            refine QuietE.val (fun w H => x_fieldAddr (o := 1) rfl Try.runUnderlying26 rfl rfl Try.sizeOf9) ?_
            refine QuietE.yes rfl ?_
            refine QuietE.val (fun w H => x_load (v := .string _) rfl Try.isAgg9 (H.look _) rfl) ?_
            refine QuietE.yes rfl ?_
            refine QuietE.val (fun w H => x_neS rfl rfl) ?_
            by_cases c5 : x.val ≠ ⟨#[]⟩
            · rw [decide_eq_true c5]
              refine QuietE.yes rfl ?_
              refine QuietE.val (fun w H => x_pickT rfl rfl) ?_
              refine QuietE.val (fun w H => x_pickF rfl rfl) ?_
              refine QuietE.val (fun w H => x_move (v := .bool _) rfl) ?_
              refine QuietE.no rfl ?_
              refine QuietE.no rfl ?_
              refine QuietE.no rfl ?_
              refine QuietE.no rfl ?_
              refine QuietE.no rfl ?_
              refine QuietE.no rfl ?_
              refine QuietE.no rfl ?_
              refine QuietE.no rfl ?_
              refine QuietE.no rfl ?_
              refine QuietE.no rfl ?_
              refine QuietE.no rfl ?_
              refine QuietE.no rfl ?_
              refine QuietE.no rfl ?_
              refine QuietE.val (fun w H => x_pickT rfl rfl) ?_
              refine QuietE.nil ?_
              intro w H
              refine Then.normal ?_
              refine WP.cond_t rfl rfl ?_
              refine WP.seq ?_
              refine WP.region ?_
              refine OpsE.val (x_assign (v := .bool _) rfl) ?_
              refine OpsE.nil ?_
              refine Then.normal ?_
              refine WP.ret ?_
              refine InBlock.ret ?_
              refine Then.ret ?_
              refine Then.ret ?_
              refine InBlock.ret ?_
              refine Then.ret ?_
              refine Leave0.ret (v := .bool _) rfl ?_
              have hb : bad ws i x = true := by unfold bad; rw [c4, decide_eq_true c5]; simp
              rw [show rightBo ws = false by unfold rightBo; rw [risesB_no hx hb, Bool.and_false]]; exact ⟨rfl, H.tail⟩
            · rw [decide_eq_false c5]
              refine QuietE.yes rfl ?_
              refine QuietE.val (fun w H => x_pickT rfl rfl) ?_
              refine QuietE.val (fun w H => x_pickF rfl rfl) ?_
              refine QuietE.val (fun w H => x_move (v := .bool _) rfl) ?_
              refine QuietE.yes rfl ?_
              refine QuietE.val (fun w H => x_move (v := .int .i64 _) rfl) ?_
              refine QuietE.yes rfl ?_
              refine QuietE.val (fun w H => x_gt rfl rfl) ?_
              by_cases c6 : (i : Int) > 0
              · rw [decide_eq_true c6]
                refine QuietE.yes rfl ?_
                refine QuietE.val (fun w H => x_move (v := .bool _) rfl) ?_
                refine QuietE.yes rfl ?_
                obtain ⟨p, hp⟩ : ∃ p, ws[i - 1]? = some p := ⟨_, List.getElem?_eq_getElem (by omega)⟩
                refine QuietE.val (fun w H => x_move (v := .slice (some ⟨b, off, none⟩) n c) (hs 0 rfl)) ?_
                refine QuietE.yes rfl ?_
                refine QuietE.val (fun w H => x_move (v := .int .i64 _) rfl) ?_
                refine QuietE.yes rfl ?_
                refine QuietE.val (fun w H => x_sub (z := ((i - 1 : Nat) : Int)) rfl rfl (by rw [i64n (by omega) (by omega)]; omega)) ?_
                refine QuietE.yes rfl ?_
                refine QuietE.val (fun w H => x_indexAddro (i := i - 1) rfl rfl Try.runUnderlying22 Try.sizeOf26 rfl (by omega)) ?_
                refine QuietE.yes rfl ?_
                refine QuietE.val (fun w H => x_fieldAddr0 rfl Try.runUnderlying26 rfl rfl Try.sizeOf9) ?_
                refine QuietE.yes rfl ?_
                refine QuietE.val (fun w H => x_load (v := .string _) rfl Try.isAgg9 (hB w H.tail) (by simpa using row_cell wrc_len hBl hpo (j := 0) hp rfl)) ?_
                refine QuietE.yes rfl ?_
                refine QuietE.val (fun w H => x_fieldAddr0 rfl Try.runUnderlying26 rfl rfl Try.sizeOf9) ?_
                refine QuietE.yes rfl ?_
                refine QuietE.val (fun w H => x_load (v := .string _) rfl Try.isAgg9 (H.look _) rfl) ?_
                refine QuietE.yes rfl ?_
                refine QuietE.val (fun w H => x_geS rfl rfl) ?_
                cases c7 : (!slt p.key x.key)
                case false =>
                  refine QuietE.yes rfl ?_
                  refine QuietE.val (fun w H => x_pickT rfl rfl) ?_
                  refine QuietE.val (fun w H => x_pickF rfl rfl) ?_
                  refine QuietE.nil ?_
                  intro w H
                  refine Then.normal ?_
                  refine WP.cond_f rfl rfl ?_
                  refine WP.skip ?_
                  refine InBlock.normal ?_
                  refine Then.normal ?_
                  refine WP.region ?_
                  refine OpsE.val (x_add (z := ((i + 1 : Nat) : Int)) e7 rfl (by rw [i64n (by omega) (by omega)]; omega)) ?_
                  refine OpsE.val (x_move (v := .int .i64 _) rfl) ?_
                  refine OpsE.nil ?_
                  refine Then.normal ?_
                  have hb : bad ws i x = false := by
                    unfold bad
                    rw [decide_eq_false c1, decide_eq_false c2, decide_eq_false c3, hp]
                    simp only [c7]
                    simp_all
                  exact ⟨rfl, (by repeat (first | exact hs | refine Same.upd ?_ rfl)), i + 1, by omega, rfl, by omega, okTo_succ hok hx hb, H.tail⟩
                case true =>
                  refine QuietE.yes rfl ?_
                  refine QuietE.val (fun w H => x_pickT rfl rfl) ?_
                  refine QuietE.val (fun w H => x_pickF rfl rfl) ?_
                  refine QuietE.nil ?_
                  intro w H
                  refine Then.normal ?_
                  refine WP.cond_t rfl rfl ?_
                  refine WP.seq ?_
                  refine WP.region ?_
                  refine OpsE.val (x_assign (v := .bool _) rfl) ?_
                  refine OpsE.nil ?_
                  refine Then.normal ?_
                  refine WP.ret ?_
                  refine InBlock.ret ?_
                  refine Then.ret ?_
                  refine Then.ret ?_
                  refine InBlock.ret ?_
                  refine Then.ret ?_
                  refine Leave0.ret (v := .bool _) rfl ?_
                  have hb : bad ws i x = true := by unfold bad; rw [decide_eq_true c6, hp]; simp only [c7]; simp
                  rw [show rightBo ws = false by unfold rightBo; rw [risesB_no hx hb, Bool.and_false]]; exact ⟨rfl, H.tail⟩
              · rw [decide_eq_false c6]
                refine QuietE.yes rfl ?_
                refine QuietE.val (fun w H => x_move (v := .bool _) rfl) ?_
                refine QuietE.no rfl ?_
                refine QuietE.no rfl ?_
                refine QuietE.no rfl ?_
                refine QuietE.no rfl ?_
                refine QuietE.no rfl ?_
                refine QuietE.no rfl ?_
                refine QuietE.no rfl ?_
                refine QuietE.no rfl ?_
                refine QuietE.no rfl ?_
                refine QuietE.yes rfl ?_
                refine QuietE.val (fun w H => x_pickF rfl rfl) ?_
                refine QuietE.val (fun w H => x_pickF rfl rfl) ?_
                refine QuietE.nil ?_
                intro w H
                refine Then.normal ?_
                refine WP.cond_f rfl rfl ?_
                refine WP.skip ?_
                refine InBlock.normal ?_
                refine Then.normal ?_
                refine WP.region ?_
                refine OpsE.val (x_add (z := ((i + 1 : Nat) : Int)) e7 rfl (by rw [i64n (by omega) (by omega)]; omega)) ?_
                refine OpsE.val (x_move (v := .int .i64 _) rfl) ?_
                refine OpsE.nil ?_
                refine Then.normal ?_
                have hb : bad ws i x = false := by
                  unfold bad
                  rw [decide_eq_false c1, decide_eq_false c2, decide_eq_false c3, decide_eq_false c6]
                  simp_all
                exact ⟨rfl, (by repeat (first | exact hs | refine Same.upd ?_ rfl)), i + 1, by omega, rfl, by omega, okTo_succ hok hx hb, H.tail⟩
  · rw [decide_eq_false hlt]
    refine OpsE.nil ?_
    refine Then.normal ?_
    refine WP.seq ?_
    refine WP.cond_f rfl rfl ?_
    refine WP.exit ?_
    refine Then.exit ?_
    refine Then.exit ?_
    refine InBlock.hit ?_
    refine Then.normal ?_
    refine WP.seq ?_
    refine WP.region ?_
    refine OpsE.val (x_move (v := .slice _ _ _) (hs 0 rfl)) ?_
    refine OpsE.val (x_lenL rfl rfl Try.runUnderlying22) ?_
    refine OpsE.val (x_le rfl rfl) ?_
    refine OpsE.val (x_assign (v := .bool _) rfl) ?_
    refine OpsE.nil ?_
    refine Then.normal ?_
    refine WP.ret ?_
    refine Leave0.ret (v := .bool _) rfl ?_
    have hie : i = ws.length := by omega
    subst hie
    rw [show rightBo ws = decide ((n : Int) ≤ 200) by unfold rightBo; rw [risesB_yes hok, Bool.and_true, hlen]]; exact ⟨rfl, H⟩
end Go.Proofs.Ytbhbdpbhhfemhaa
