/-
  Parts of the proof, joined in one file: Store, Rises, Ents, CloW, CloM, Commit, Maps, Maps2, Vac, VacP, Vac2, New, Vers, Head, SRange.
-/
import Derived.Test.YtbhbdpbhhfemhaaQ2
import Derived.Test.YtbhbdpbhhfemhaaQ1
import Derived.Laws.StructEq
set_option linter.unusedSimpArgs false
set_option linter.unusedVariables false
/-
  The store: what its cells are; Last, Low, Get.
-/
namespace Go.Proofs.Ytbhbdpbhhfemhaa
open Go Go.Proofs
set_option maxRecDepth 100000
set_option maxHeartbeats 4000000
set_option linter.unusedVariables false

structure Wr where
  key : ByteArray
  val : ByteArray
  gone : Bool
  deriving DecidableEq
def wrc (w : Wr) : List Value := [.string w.key, .string w.val, .bool w.gone]
theorem wrc_len (w : Wr) : (wrc w).length = 3 := rfl
theorem wrc_one (w : Wr) : ∀ u ∈ wrc w, u.oneCell' = true := by
  intro u hu
  simp only [wrc, List.mem_cons, List.not_mem_nil, or_false] at hu
  rcases hu with rfl | rfl | rfl <;> rfl
structure Cm where
  seq : Int
  time : Int
  w : Rw Wr
def cmc (c : Cm) : List Value := [.int .i64 c.seq, .int .i64 c.time, c.w.val]
theorem cmc_len (c : Cm) : (cmc c).length = 3 := rfl
theorem cmc_one (c : Cm) : ∀ u ∈ cmc c, u.oneCell' = true := by
  intro u hu
  simp only [cmc, List.mem_cons, List.not_mem_nil, or_false] at hu
  rcases hu with rfl | rfl | rfl <;> rfl
abbrev TWr : TypeId := 26
abbrev TCm : TypeId := 33
abbrev TSt : TypeId := 82
def cmH (c : Cm) : HP := c.w.ror wrc TWr
structure Ent where
  key : ByteArray
  blk : Nat
  cap : Nat
  vs : List Ver
  tl : List Value
def Ent.it (e : Ent) : TC.It := ⟨e.key, (some ⟨e.blk, 0, none⟩, e.vs.length, e.cap)⟩
def Ent.hp (e : Ent) : HP := ro e.blk (.cells (e.vs.flatMap verc ++ e.tl).toArray 90 (0, 0))
structure Ent.Ok (e : Ent) : Prop where
  ok : VOk e.vs
  ne : e.vs ≠ []
  cap : e.vs.length ≤ e.cap
structure SC where
  t : TC.Tr
  es : List Ent
  low : Int
  hist : Rw Cm
def SC.cs (S : SC) : List Value := [S.t.hv, .int .i64 ((TC.all S.t.lv).length : Int), .int .i64 S.low, S.hist.val]
abbrev SC.h1 (S : SC) (b : Nat) : HP := TC.hd b S.cs TSt
abbrev SC.h4 (S : SC) : HP := stars (S.es.map Ent.hp)
abbrev SC.h5 (S : SC) : HP := S.hist.own cmc TCm
abbrev SC.h6 (S : SC) : HP := stars (S.hist.xs.map cmH)
structure SC.Ok (N : Nat) (S : SC) : Prop where
  t : S.t.Ok
  its : TC.all S.t.lv = S.es.map Ent.it
  es : ∀ e ∈ S.es, e.Ok ∧ e.vs.length ≤ N ∧ ∀ v ∈ e.vs, v.seq ≤ S.low + S.hist.xs.length
  num : S.es.length ≤ N
  hist : S.hist.Ok 3
  ws : ∀ c ∈ S.hist.xs, c.w.Ok 3
  low : 0 ≤ S.low
  last : S.low + S.hist.xs.length ≤ 1099511627776
  N : N ≤ 500000
def SC.last (S : SC) : Int := S.low + S.hist.xs.length
theorem SC.Ok.hd {N : Nat} {S : SC} (ok : S.Ok N) : TC.Hd S.cs 0 S.t := ⟨rfl, rfl⟩
theorem SC.Ok.hl {N : Nat} {S : SC} (ok : S.Ok N) : (S.hist.xs.length : Int) ≤ 1099511627776 := by have := ok.low; have := ok.last; omega

/-- a store, all of it -/
def StP (b : Nat) (S : SC) : HP := stars [S.h1 b, S.t.ap, TC.Lvs S.t.lv, S.h4, S.h5, S.h6]
theorem StP.open {w : World} {b : Nat} {S : SC} {l : List HP} : Sat w (StP b S :: l) ↔ Sat w (S.h1 b :: S.t.ap :: TC.Lvs S.t.lv :: S.h4 :: S.h5 :: S.h6 :: l) := sat_stars

theorem Last_nil {w : World} {l : List HP} (H : Sat w l) : Calls Try.prog 16 #[.pointer none] w (Ret fun v w' => v = .int .i64 0 ∧ Sat w' l) := by
  refine Calls.of_wp Try.func16 rfl Try.ntmps16 Try.results16 (Nat.le_of_ble_eq_true rfl) ?_
  refine WP.seq ?_
  refine WP.region ?_
  refine OpsE.val (x_assign (v := .int .i64 _) rfl) ?_
  refine OpsE.nil ?_
  refine Then.normal ?_
  refine WP.seq ?_
  refine WP.seq ?_
  refine WP.region ?_
  refine OpsE.val (x_move (v := .pointer _) rfl) ?_
  refine OpsE.val (x_eqPn rfl rfl Try.runUnderlying28) ?_
  refine OpsE.nil ?_
  refine Then.normal ?_
  refine WP.cond_t rfl rfl ?_
  refine WP.seq ?_
  refine WP.region ?_
  refine OpsE.val (x_assign (v := .int .i64 _) rfl) ?_
  refine OpsE.nil ?_
  refine Then.normal ?_
  refine WP.ret ?_
  refine Then.ret ?_
  refine Leave0.ret (v := .int .i64 _) rfl ?_
  exact ⟨rfl, H⟩
theorem Low_nil {w : World} {l : List HP} (H : Sat w l) : Calls Try.prog 17 #[.pointer none] w (Ret fun v w' => v = .int .i64 0 ∧ Sat w' l) := by
  refine Calls.of_wp Try.func17 rfl Try.ntmps17 Try.results17 (Nat.le_of_ble_eq_true rfl) ?_
  refine WP.seq ?_
  refine WP.region ?_
  refine OpsE.val (x_assign (v := .int .i64 _) rfl) ?_
  refine OpsE.nil ?_
  refine Then.normal ?_
  refine WP.seq ?_
  refine WP.seq ?_
  refine WP.region ?_
  refine OpsE.val (x_move (v := .pointer _) rfl) ?_
  refine OpsE.val (x_eqPn rfl rfl Try.runUnderlying28) ?_
  refine OpsE.nil ?_
  refine Then.normal ?_
  refine WP.cond_t rfl rfl ?_
  refine WP.seq ?_
  refine WP.region ?_
  refine OpsE.val (x_assign (v := .int .i64 _) rfl) ?_
  refine OpsE.nil ?_
  refine Then.normal ?_
  refine WP.ret ?_
  refine Then.ret ?_
  refine Leave0.ret (v := .int .i64 _) rfl ?_
  exact ⟨rfl, H⟩
theorem SLast_spec {w : World} {l : List HP} {b N : Nat} {S : SC} (H : Sat w l) (hb : ∀ w, Sat w l → w.heap[b]? = some (.cells S.cs.toArray TSt (0, 0))) (ok : S.Ok N) : Calls Try.prog 16 #[.pointer (some ⟨b, 0, none⟩)] w (Ret fun v w' => v = .int .i64 S.last ∧ Sat w' l) := by
  have h1 := ok.low
  have h2 := ok.last
  refine Calls.of_wp Try.func16 rfl Try.ntmps16 Try.results16 (Nat.le_of_ble_eq_true rfl) ?_
  refine WP.seq ?_
  refine WP.region ?_
  refine OpsE.val (x_assign (v := .int .i64 _) rfl) ?_
  refine OpsE.nil ?_
  refine Then.normal ?_
  refine WP.seq ?_
  refine WP.seq ?_
  refine WP.region ?_
  refine OpsE.val (x_move (v := .pointer _) rfl) ?_
  refine OpsE.val (x_eqPs rfl rfl Try.runUnderlying28) ?_
  refine OpsE.nil ?_
  refine Then.normal ?_
  refine WP.cond_f rfl rfl ?_
  refine WP.skip ?_
  refine Then.normal ?_
  refine WP.seq ?_
  refine WP.draw (fun w => Sat w _) (by kernel_rfl) (by kernel_rfl) (H.heap rfl) ?_
  refine QuietE.val (fun w H => x_move (v := .pointer _) rfl) ?_
  refine QuietE.val (fun w H => x_nilCheck rfl) ?_
  refine QuietE.val (fun w H => x_fieldAddr (o := 2) rfl Try.runUnderlying82 rfl rfl Try.sizeOf3) ?_
  refine QuietE.val (fun w H => x_load (v := .int .i64 _) rfl Try.isAgg3 (hb w H) rfl) ?_
  refine QuietE.val (fun w H => x_move (v := .pointer _) rfl) ?_
  refine QuietE.val (fun w H => x_nilCheck rfl) ?_
  refine QuietE.val (fun w H => x_fieldAddr (o := 3) rfl Try.runUnderlying82 rfl rfl Try.sizeOf38) ?_
  refine QuietE.val (fun w H => x_load (v := .slice _ _ _) rfl Try.isAgg38 (hb w H) rfl) ?_
  refine QuietE.val (fun w H => x_lenL rfl rfl Try.runUnderlying38) ?_
  refine QuietE.val (fun w H => x_add (z := S.last) rfl rfl (by unfold SC.last; exact i64n (by omega) (by omega))) ?_
  refine QuietE.val (fun w H => x_assign (v := .int .i64 _) rfl) ?_
  refine QuietE.nil ?_
  intro w H
  refine Then.normal ?_
  refine WP.ret ?_
  refine Leave0.ret (v := .int .i64 _) rfl ?_
  exact ⟨rfl, H⟩
theorem SLow_spec {w : World} {l : List HP} {b N : Nat} {S : SC} (H : Sat w l) (hb : ∀ w, Sat w l → w.heap[b]? = some (.cells S.cs.toArray TSt (0, 0))) (ok : S.Ok N) : Calls Try.prog 17 #[.pointer (some ⟨b, 0, none⟩)] w (Ret fun v w' => v = .int .i64 S.low ∧ Sat w' l) := by
  refine Calls.of_wp Try.func17 rfl Try.ntmps17 Try.results17 (Nat.le_of_ble_eq_true rfl) ?_
  refine WP.seq ?_
  refine WP.region ?_
  refine OpsE.val (x_assign (v := .int .i64 _) rfl) ?_
  refine OpsE.nil ?_
  refine Then.normal ?_
  refine WP.seq ?_
  refine WP.seq ?_
  refine WP.region ?_
  refine OpsE.val (x_move (v := .pointer _) rfl) ?_
  refine OpsE.val (x_eqPs rfl rfl Try.runUnderlying28) ?_
  refine OpsE.nil ?_
  refine Then.normal ?_
  refine WP.cond_f rfl rfl ?_
  refine WP.skip ?_
  refine Then.normal ?_
  refine WP.seq ?_
  refine WP.region ?_
  refine OpsE.val (x_move (v := .pointer _) rfl) ?_
  refine OpsE.val (x_nilCheck rfl) ?_
  refine OpsE.val (x_fieldAddr (o := 2) rfl Try.runUnderlying82 rfl rfl Try.sizeOf3) ?_
  refine OpsE.val (x_load (v := .int .i64 _) rfl Try.isAgg3 (hb w H) rfl) ?_
  refine OpsE.val (x_assign (v := .int .i64 _) rfl) ?_
  refine OpsE.nil ?_
  refine Then.normal ?_
  refine WP.ret ?_
  refine Leave0.ret (v := .int .i64 _) rfl ?_
  exact ⟨rfl, H⟩

/-- the versions of a key -/
def vsOf (es : List Ent) (key : ByteArray) : List Ver := ((es.find? fun e => decide (e.key = key)).map Ent.vs).getD []
def tvOf (es : List Ent) (key : ByteArray) : TC.TV := ((es.find? fun e => decide (e.key = key)).map fun e => e.it.val).getD (none, 0, 0)
theorem getL_es (es : List Ent) (key : ByteArray) : TC.getV (TC.getL (es.map Ent.it) key) = .tuple #[TC.tvv (tvOf es key), .bool (es.find? fun e => decide (e.key = key)).isSome] := by
  unfold TC.getL tvOf
  rw [List.find?_map]
  show TC.getV (Option.map TC.It.val (Option.map Ent.it (es.find? fun e => decide (e.key = key)))) = _
  cases es.find? fun e => decide (e.key = key) <;> rfl
theorem ent_at {w : World} {es : List Ent} {l : List HP} {e : Ent} (he : e ∈ es) (H : Sat w (stars (es.map Ent.hp) :: l)) : w.heap[e.blk]? = some (.cells (e.vs.flatMap verc ++ e.tl).toArray 90 (0, 0)) := by
  obtain ⟨i, hi, rfl⟩ := List.mem_iff_getElem.1 he
  have h1 := H.star_out (f := Ent.hp) (k := i) (y := es[i]) (by simp)
  unfold Ent.hp at h1
  exact h1.ro_get
theorem cval_of {N : Nat} {S : SC} (ok : S.Ok N) {l : List HP} {m : List HP} [t : Take l S.h4 m] (key : ByteArray) : CVal l (tvOf S.es key) (vsOf S.es key) := by
  unfold tvOf vsOf
  cases h : S.es.find? fun e => decide (e.key = key) with
  | none => exact ⟨⟨List.Pairwise.nil, fun v hv => (by cases hv), Nat.zero_le _⟩, .inl ⟨rfl, rfl⟩⟩
  | some e =>
    have hm := List.mem_of_find?_eq_some h
    have ho := (ok.es e hm).1
    refine ⟨ho.ok, .inr ⟨e.blk, e.cap, ho.cap, rfl, e.tl, fun w H => ?_⟩⟩
    exact ent_at hm (H.take S.h4)

theorem TGet_spec {w : World} {l : List HP} {b N : Nat} {S : SC} {key : ByteArray} (H : Sat w (S.h1 b :: S.t.ap :: TC.Lvs S.t.lv :: l)) (ok : S.Ok N) :
    Calls Try.prog 45 #[.pointer (some ⟨b, 0, none⟩), .string key] w (Ret fun v w' => v = .tuple #[TC.tvv (tvOf S.es key), .bool (S.es.find? fun e => decide (e.key = key)).isSome] ∧ Sat w' (S.h1 b :: S.t.ap :: TC.Lvs S.t.lv :: l)) := by
  have h := TC.Get_spec (key := key) H ok.hd ok.t
  rw [ok.its, getL_es] at h
  exact h

theorem SGet_spec {w : World} {l : List HP} {b N : Nat} {S : SC} {key : ByteArray} {q : Int} (H : Sat w (S.h1 b :: S.t.ap :: TC.Lvs S.t.lv :: S.h4 :: l)) (ok : S.Ok N) :
    Calls Try.prog 28 #[.pointer (some ⟨b, 0, none⟩), .string key, .int .i64 q] w (Ret fun v w' => v = atT (atv (vsOf S.es key) q) ∧ Sat w' (S.h1 b :: S.t.ap :: TC.Lvs S.t.lv :: S.h4 :: l)) := by
  refine Calls.of_wp Try.func28 rfl Try.ntmps28 Try.results28 (Nat.le_of_ble_eq_true rfl) ?_
  refine WP.seq ?_
  refine WP.region ?_
  refine OpsE.val (x_assign (v := .string _) rfl) ?_
  refine OpsE.val (x_assign (v := .bool _) rfl) ?_
  refine OpsE.nil ?_
  refine Then.normal ?_
  refine WP.seq ?_
  refine WP.seq ?_
  refine WP.region ?_
  refine OpsE.val (x_move (v := .pointer _) rfl) ?_
  refine OpsE.val (x_eqPs rfl rfl Try.runUnderlying28) ?_
  refine OpsE.nil ?_
  refine Then.normal ?_
  refine WP.cond_f rfl rfl ?_
  refine WP.skip ?_
  refine Then.normal ?_
  refine WP.seq ?_
  refine WP.region ?_
  refine OpsE.val (x_move (v := .pointer _) rfl) ?_
  refine OpsE.val (x_nilCheck rfl) ?_
  refine OpsE.val (x_fieldAddr0 rfl Try.runUnderlying82 rfl rfl Try.sizeOf80) ?_
  refine OpsE.val (x_move (v := .string _) rfl) ?_
  refine OpsE.call (x_call (vl := [.pointer _, .string _]) rfl Try.call45) (TC.Get_spec H ok.hd ok.t) ?_
  rw [ok.its, getL_es]
  rintro _ w ⟨rfl, H⟩
  refine OpsE.val (x_move (v := .tuple _) rfl) ?_
  refine OpsE.val (x_extract (v := .slice _ _ _) rfl rfl) ?_
  refine OpsE.val (x_extract (v := .bool _) rfl rfl) ?_
  refine OpsE.val (x_assign (v := .slice _ _ _) rfl) ?_
  refine OpsE.val (x_assign (v := .bool _) rfl) ?_
  refine OpsE.nil ?_
  refine Then.normal ?_
  refine WP.seq ?_
  refine WP.region ?_
  refine OpsE.val (x_move (v := .slice _ _ _) rfl) ?_
  refine OpsE.val (x_move (v := .int .i64 _) rfl) ?_
  refine OpsE.call (x_call (vl := [.slice _ _ _, .int .i64 _]) rfl Try.call53) (At_spec (v := tvOf S.es key) (vs := vsOf S.es key) (q := q) H (cval_of ok key)) ?_
  rintro _ w ⟨rfl, H⟩
  obtain ⟨s1, b1, hat⟩ : ∃ s1 b1, atT (atv (vsOf S.es key) q) = .tuple #[.string s1, .bool b1] := by cases atv (vsOf S.es key) q <;> exact ⟨_, _, rfl⟩
  rw [hat]
  refine OpsE.val (x_extract (v := .string _) rfl rfl) ?_
  refine OpsE.val (x_extract (v := .bool _) rfl rfl) ?_
  refine OpsE.val (x_assign (v := .string _) rfl) ?_
  refine OpsE.val (x_assign (v := .bool _) rfl) ?_
  refine OpsE.nil ?_
  refine Then.normal ?_
  refine WP.ret ?_
  refine Leave0.ret (v := .tuple #[.string _, .bool _]) rfl ?_
  exact ⟨rfl, H⟩
end Go.Proofs.Ytbhbdpbhhfemhaa

/-
  The store: which writes may be a commit's.
-/
namespace Go.Proofs.Ytbhbdpbhhfemhaa
open Go Go.Proofs
set_option maxRecDepth 100000
set_option maxHeartbeats 4000000
set_option linter.unusedVariables false

def bad (ws : List Wr) (i : Nat) (x : Wr) : Bool :=
  decide (x.key = ⟨#[]⟩) || decide ((x.key.size : Int) > 400) || decide ((x.val.size : Int) > 4096) || (x.gone && decide (x.val ≠ ⟨#[]⟩)) ||
    (decide ((i : Int) > 0) && (match ws[i - 1]? with | some p => !slt p.key x.key | none => false))
def okTo (ws : List Wr) (n : Nat) : Prop := ∀ j x, j < n → ws[j]? = some x → bad ws j x = false
noncomputable def risesB (ws : List Wr) : Bool := @decide (okTo ws ws.length) (Classical.propDecidable _)
theorem risesB_no {ws : List Wr} {i : Nat} {x : Wr} (hx : ws[i]? = some x) (hb : bad ws i x = true) : risesB ws = false := by
  unfold risesB
  refine @decide_eq_false _ (Classical.propDecidable _) fun h => ?_
  have := h i x (List.getElem?_eq_some_iff.1 hx).1 hx
  rw [hb] at this; cases this
theorem risesB_yes {ws : List Wr} (h : okTo ws ws.length) : risesB ws = true := by unfold risesB; exact @decide_eq_true _ (Classical.propDecidable _) h
theorem okTo_succ {ws : List Wr} {i : Nat} {x : Wr} (h : okTo ws i) (hx : ws[i]? = some x) (hb : bad ws i x = false) : okTo ws (i + 1) := by
  intro j y hj hy
  rcases Nat.lt_or_ge j i with h1 | h1
  · exact h j y h1 hy
  · have : j = i := by omega
    subst this; rw [hx] at hy; cases hy; exact hb

theorem KW : ElemOk Try.prog 22 TWr 3 40 (.agg #[.string ByteArray.empty, .string ByteArray.empty, .bool false]) := ⟨Try.underlying22, ⟨Try.t26, Try.type26, rfl, rfl, rfl⟩, rfl⟩

theorem rises_spec {w : World} {l : List HP} {a : Option Addr} {n c : Nat} {ws : List Wr} (H : Sat w l) (hr : RIn wrc TWr l a n c ws) (hn : n ≤ 1000000) (hk : ∀ x ∈ ws, x.key.size ≤ 9223372036854775807 ∧ x.val.size ≤ 9223372036854775807) :
    Calls Try.prog 52 #[.slice a n c] w (Ret fun v w' => v = .bool (risesB ws) ∧ Sat w' l) := by
  have hlen := hr.len
  refine Calls.of_wp Try.func52 rfl Try.ntmps52 Try.results52 (Nat.le_of_ble_eq_true rfl) ?_
  refine WP.seq ?_
  refine WP.region ?_
  refine OpsE.val (x_assign (v := .bool _) rfl) ?_
  refine OpsE.nil ?_
  refine Then.normal ?_
  refine WP.seq ?_
  refine WP.seq ?_
  refine WP.region ?_
  refine OpsE.val (x_move (v := .slice _ _ _) rfl) ?_
  refine OpsE.val (x_lenL rfl rfl Try.runUnderlying22) ?_
  refine OpsE.val (x_move (v := .int .i64 _) rfl) ?_
  refine OpsE.nil ?_
  refine Then.normal ?_
  refine WP.block ?_
  refine WP.loopS [2, 3, 4, 7, 8, 9, 10, 11, 12, 13, 14, 15, 16, 17, 18, 19, 20, 21, 22, 23, 24, 25, 26, 27, 28, 29, 30, 31, 32, 33, 34, 35, 36, 37, 38, 39, 40, 41, 42, 43, 44, 45, 46, 47, 48, 49, 50, 51] (fun (i : Nat) E w => E 7 = .int .i64 (i : Int) ∧ i ≤ n ∧ okTo ws i ∧ Sat w l) (fun i => n - i) 0 ⟨rfl, Nat.zero_le _, (fun j x h => absurd h (Nat.not_lt_zero _)), H⟩ ?_
  rintro i E1 w hs ⟨e7, hin, hok, H⟩
  refine WP.seq ?_
  refine WP.region ?_
  refine OpsE.val (x_lt e7 (hs 6 rfl)) ?_
  by_cases hlt : (i : Int) < (n : Int)
  · rw [decide_eq_true hlt]
    refine OpsE.nil ?_
    refine Then.normal ?_
    refine WP.seq ?_
    refine WP.cond_t rfl rfl ?_
    refine WP.skip ?_
    refine Then.normal ?_
    refine WP.seq ?_
    refine WP.block ?_
    refine WP.seq ?_
    refine WP.region ?_
    refine OpsE.val (x_move (v := .int .i64 _) e7) ?_
    obtain ⟨b, off, B, fz, pre, post, rfl, hB, hBl, hpo⟩ := hr.some (by omega)
    obtain ⟨x, hx⟩ : ∃ x, ws[i]? = some x := ⟨_, List.getElem?_eq_getElem (by omega)⟩
    refine OpsE.val (x_indexAddro (i := i) (hs 5 rfl) e7 Try.runUnderlying22 Try.sizeOf26 rfl (by omega)) ?_
    refine OpsE.val (x_loadA (vs := wrc x) rfl Try.isAgg26 Try.sizeOf26 (hB w H) (row_el wrc_len hBl hpo hx) rfl) ?_
    refine OpsE.allocA Try.zeroValue26 H ?_
    intro b4 w H
    refine OpsE.val (x_assign (v := .int .i64 _) rfl) ?_
    refine OpsE.storeA (vs := wrc x) rfl rfl Try.sizeOf26 H (wrc_one x) (Nat.le_refl _) ?_
    intro w H
    refine OpsE.nil ?_
    refine Then.normal ?_
    refine WP.seq ?_
    refine WP.draw (fun w => Sat w _) (by kernel_rfl) (by kernel_rfl) (H.heap rfl) ?_
    refine QuietE.val (fun w H => x_fieldAddr0 rfl Try.runUnderlying26 rfl rfl Try.sizeOf9) ?_
    refine QuietE.val (fun w H => x_load (v := .string _) rfl Try.isAgg9 (H.look _) rfl) ?_
    refine QuietE.val (fun w H => x_eqS rfl rfl) ?_
    by_cases c1 : x.key = ⟨#[]⟩
    · rw [decide_eq_true c1]
      refine QuietE.val (fun w H => x_move (v := .bool _) rfl) ?_
      refine QuietE.no rfl ?_
      refine QuietE.no rfl ?_
      refine QuietE.no rfl ?_
      refine QuietE.no rfl ?_
      refine QuietE.val (fun w H => x_pickT rfl rfl) ?_
      refine QuietE.val (fun w H => x_move (v := .bool _) rfl) ?_
      refine QuietE.no rfl ?_
      refine QuietE.no rfl ?_
      refine QuietE.no rfl ?_
      refine QuietE.no rfl ?_
      refine QuietE.val (fun w H => x_pickT rfl rfl) ?_
      refine QuietE.val (fun w H => x_move (v := .bool _) rfl) ?_
      refine QuietE.no rfl ?_
      refine QuietE.no rfl ?_
      refine QuietE.no rfl ?_
      refine QuietE.no rfl ?_
      refine QuietE.no rfl ?_
      refine QuietE.no rfl ?_
      refine QuietE.no rfl ?_
      refine QuietE.val (fun w H => x_pickT rfl rfl) ?_
      refine QuietE.val (fun w H => x_move (v := .bool _) rfl) ?_
      refine QuietE.no rfl ?_
      refine QuietE.no rfl ?_
      refine QuietE.no rfl ?_
      refine QuietE.no rfl ?_
      refine QuietE.no rfl ?_
      refine QuietE.no rfl ?_
      refine QuietE.no rfl ?_
      refine QuietE.no rfl ?_
      refine QuietE.no rfl ?_
      refine QuietE.no rfl ?_
      refine QuietE.no rfl ?_
      refine QuietE.no rfl ?_
      refine QuietE.no rfl ?_
      refine QuietE.val (fun w H => x_pickT rfl rfl) ?_
      refine QuietE.nil ?_
      intro w H
      refine Then.normal ?_
      refine WP.cond_t rfl rfl ?_
      refine WP.seq ?_
      refine WP.region ?_
      refine OpsE.val (x_assign (v := .bool _) rfl) ?_
      refine OpsE.nil ?_
      refine Then.normal ?_
      refine WP.ret ?_
      refine InBlock.ret ?_
      refine Then.ret ?_
      refine Then.ret ?_
      refine InBlock.ret ?_
      refine Then.ret ?_
      refine Leave0.ret (v := .bool _) rfl ?_
      have hb : bad ws i x = true := by unfold bad; simp [c1]
      rw [risesB_no hx hb]; exact ⟨rfl, H.tail⟩
    · rw [decide_eq_false c1]
      refine QuietE.val (fun w H => x_move (v := .bool _) rfl) ?_
      refine QuietE.yes rfl ?_
      refine QuietE.val (fun w H => x_fieldAddr0 rfl Try.runUnderlying26 rfl rfl Try.sizeOf9) ?_
      refine QuietE.yes rfl ?_
      refine QuietE.val (fun w H => x_load (v := .string _) rfl Try.isAgg9 (H.look _) rfl) ?_
      refine QuietE.yes rfl ?_
      refine QuietE.val (fun w H => x_lenS rfl rfl Try.runUnderlying9) ?_
      refine QuietE.yes rfl ?_
      refine QuietE.val (fun w H => x_gt rfl rfl) ?_
      by_cases c2 : (x.key.size : Int) > 400
      · rw [decide_eq_true c2]
        refine QuietE.val (fun w H => x_pickF rfl rfl) ?_
        refine QuietE.val (fun w H => x_move (v := .bool _) rfl) ?_
        refine QuietE.no rfl ?_
        refine QuietE.no rfl ?_
        refine QuietE.no rfl ?_
        refine QuietE.no rfl ?_
        refine QuietE.val (fun w H => x_pickT rfl rfl) ?_
        refine QuietE.val (fun w H => x_move (v := .bool _) rfl) ?_
        refine QuietE.no rfl ?_
        refine QuietE.no rfl ?_
        refine QuietE.no rfl ?_
        refine QuietE.no rfl ?_
        refine QuietE.no rfl ?_
        refine QuietE.no rfl ?_
        refine QuietE.no rfl ?_
        refine QuietE.val (fun w H => x_pickT rfl rfl) ?_
        refine QuietE.val (fun w H => x_move (v := .bool _) rfl) ?_
        refine QuietE.no rfl ?_
        refine QuietE.no rfl ?_
        refine QuietE.no rfl ?_
        refine QuietE.no rfl ?_
        refine QuietE.no rfl ?_
        refine QuietE.no rfl ?_
        refine QuietE.no rfl ?_
        refine QuietE.no rfl ?_
        refine QuietE.no rfl ?_
        refine QuietE.no rfl ?_
        refine QuietE.no rfl ?_
        refine QuietE.no rfl ?_
        refine QuietE.no rfl ?_
        refine QuietE.val (fun w H => x_pickT rfl rfl) ?_
        refine QuietE.nil ?_
        intro w H
        refine Then.normal ?_
        refine WP.cond_t rfl rfl ?_
        refine WP.seq ?_
        refine WP.region ?_
        refine OpsE.val (x_assign (v := .bool _) rfl) ?_
        refine OpsE.nil ?_
        refine Then.normal ?_
        refine WP.ret ?_
        refine InBlock.ret ?_
        refine Then.ret ?_
        refine Then.ret ?_
        refine InBlock.ret ?_
        refine Then.ret ?_
        refine Leave0.ret (v := .bool _) rfl ?_
        have hb : bad ws i x = true := by unfold bad; simp [c2]
        rw [risesB_no hx hb]; exact ⟨rfl, H.tail⟩
      · rw [decide_eq_false c2]
        refine QuietE.val (fun w H => x_pickF rfl rfl) ?_
        refine QuietE.val (fun w H => x_move (v := .bool _) rfl) ?_
        refine QuietE.yes rfl ?_
        refine QuietE.val (fun w H => x_fieldAddr (o := 1) rfl Try.runUnderlying26 rfl rfl Try.sizeOf9) ?_
        refine QuietE.yes rfl ?_
        refine QuietE.val (fun w H => x_load (v := .string _) rfl Try.isAgg9 (H.look _) rfl) ?_
        refine QuietE.yes rfl ?_
        refine QuietE.val (fun w H => x_lenS rfl rfl Try.runUnderlying9) ?_
        refine QuietE.yes rfl ?_
        refine QuietE.val (fun w H => x_gt rfl rfl) ?_
        by_cases c3 : (x.val.size : Int) > 4096
        · rw [decide_eq_true c3]
          refine QuietE.val (fun w H => x_pickF rfl rfl) ?_
          refine QuietE.val (fun w H => x_move (v := .bool _) rfl) ?_
          refine QuietE.no rfl ?_
          refine QuietE.no rfl ?_
          refine QuietE.no rfl ?_
          refine QuietE.no rfl ?_
          refine QuietE.no rfl ?_
          refine QuietE.no rfl ?_
          refine QuietE.no rfl ?_
          refine QuietE.val (fun w H => x_pickT rfl rfl) ?_
          refine QuietE.val (fun w H => x_move (v := .bool _) rfl) ?_
          refine QuietE.no rfl ?_
          refine QuietE.no rfl ?_
          refine QuietE.no rfl ?_
          refine QuietE.no rfl ?_
          refine QuietE.no rfl ?_
          refine QuietE.no rfl ?_
          refine QuietE.no rfl ?_
          refine QuietE.no rfl ?_
          refine QuietE.no rfl ?_
          refine QuietE.no rfl ?_
          refine QuietE.no rfl ?_
          refine QuietE.no rfl ?_
          refine QuietE.no rfl ?_
          refine QuietE.val (fun w H => x_pickT rfl rfl) ?_
          refine QuietE.nil ?_
          intro w H
          refine Then.normal ?_
          refine WP.cond_t rfl rfl ?_
          refine WP.seq ?_
          refine WP.region ?_
          refine OpsE.val (x_assign (v := .bool _) rfl) ?_
          refine OpsE.nil ?_
          refine Then.normal ?_
          refine WP.ret ?_
          refine InBlock.ret ?_
          refine Then.ret ?_
          refine Then.ret ?_
          refine InBlock.ret ?_
          refine Then.ret ?_
          refine Leave0.ret (v := .bool _) rfl ?_
          have hb : bad ws i x = true := by unfold bad; simp [c3]
          rw [risesB_no hx hb]; exact ⟨rfl, H.tail⟩
        · rw [decide_eq_false c3]
          refine QuietE.val (fun w H => x_pickF rfl rfl) ?_
          refine QuietE.val (fun w H => x_move (v := .bool _) rfl) ?_
          refine QuietE.yes rfl ?_
          refine QuietE.val (fun w H => x_fieldAddr (o := 2) rfl Try.runUnderlying26 rfl rfl Try.sizeOf4) ?_
          refine QuietE.yes rfl ?_
          refine QuietE.val (fun w H => x_load (v := .bool _) rfl Try.isAgg4 (H.look _) rfl) ?_
          cases c4 : x.gone
          case false =>
            refine QuietE.yes rfl ?_
            refine QuietE.val (fun w H => x_move (v := .bool _) rfl) ?_
            refine QuietE.no rfl ?_
            refine QuietE.no rfl ?_
            refine QuietE.no rfl ?_
            refine QuietE.yes rfl ?_
            refine QuietE.val (fun w H => x_pickF rfl rfl) ?_
            refine QuietE.val (fun w H => x_pickF rfl rfl) ?_
            refine QuietE.val (fun w H => x_move (v := .bool _) rfl) ?_
            refine QuietE.yes rfl ?_
            refine QuietE.val (fun w H => x_move (v := .int .i64 _) rfl) ?_
            refine QuietE.yes rfl ?_
            refine QuietE.val (fun w H => x_gt rfl rfl) ?_
            by_cases c6 : (i : Int) > 0
            · rw [decide_eq_true c6]
              refine QuietE.yes rfl ?_
              refine QuietE.val (fun w H => x_move (v := .bool _) rfl) ?_
              refine QuietE.yes rfl ?_
              obtain ⟨p, hp⟩ : ∃ p, ws[i - 1]? = some p := ⟨_, List.getElem?_eq_getElem (by omega)⟩
              refine QuietE.val (fun w H => x_move (v := .slice (some ⟨b, off, none⟩) n c) (hs 0 rfl)) ?_
              refine QuietE.yes rfl ?_
              refine QuietE.val (fun w H => x_move (v := .int .i64 _) rfl) ?_
              refine QuietE.yes rfl ?_
              refine QuietE.val (fun w H => x_sub (z := ((i - 1 : Nat) : Int)) rfl rfl (by rw [i64n (by omega) (by omega)]; omega)) ?_
              refine QuietE.yes rfl ?_
              refine QuietE.val (fun w H => x_indexAddro (i := i - 1) rfl rfl Try.runUnderlying22 Try.sizeOf26 rfl (by omega)) ?_
              refine QuietE.yes rfl ?_
              refine QuietE.val (fun w H => x_fieldAddr0 rfl Try.runUnderlying26 rfl rfl Try.sizeOf9) ?_
              refine QuietE.yes rfl ?_
              refine QuietE.val (fun w H => x_load (v := .string _) rfl Try.isAgg9 (hB w H.tail) (by simpa using row_cell wrc_len hBl hpo (j := 0) hp rfl)) ?_
              refine QuietE.yes rfl ?_
              refine QuietE.val (fun w H => x_fieldAddr0 rfl Try.runUnderlying26 rfl rfl Try.sizeOf9) ?_
              refine QuietE.yes rfl ?_
              refine QuietE.val (fun w H => x_load (v := .string _) rfl Try.isAgg9 (H.look _) rfl) ?_
              refine QuietE.yes rfl ?_
              refine QuietE.val (fun w H => x_geS rfl rfl) ?_
              cases c7 : (!slt p.key x.key)
              case false =>
                refine QuietE.yes rfl ?_
                refine QuietE.val (fun w H => x_pickT rfl rfl) ?_
                refine QuietE.val (fun w H => x_pickF rfl rfl) ?_
                refine QuietE.nil ?_
                intro w H
                refine Then.normal ?_
                refine WP.cond_f rfl rfl ?_
                refine WP.skip ?_
                refine InBlock.normal ?_
                refine Then.normal ?_
                refine WP.region ?_
                refine OpsE.val (x_add (z := ((i + 1 : Nat) : Int)) e7 rfl (by rw [i64n (by omega) (by omega)]; omega)) ?_
                refine OpsE.val (x_move (v := .int .i64 _) rfl) ?_
                refine OpsE.nil ?_
                refine Then.normal ?_
                have hb : bad ws i x = false := by
                  unfold bad
                  rw [decide_eq_false c1, decide_eq_false c2, decide_eq_false c3, hp]
                  simp only [c7]
                  simp_all
                exact ⟨rfl, (by repeat (first | exact hs | refine Same.upd ?_ rfl)), i + 1, by omega, rfl, by omega, okTo_succ hok hx hb, H.tail⟩
              case true =>
                refine QuietE.yes rfl ?_
                refine QuietE.val (fun w H => x_pickT rfl rfl) ?_
                refine QuietE.val (fun w H => x_pickF rfl rfl) ?_
                refine QuietE.nil ?_
                intro w H
                refine Then.normal ?_
                refine WP.cond_t rfl rfl ?_
                refine WP.seq ?_
                refine WP.region ?_
                refine OpsE.val (x_assign (v := .bool _) rfl) ?_
                refine OpsE.nil ?_
                refine Then.normal ?_
                refine WP.ret ?_
                refine InBlock.ret ?_
                refine Then.ret ?_
                refine Then.ret ?_
                refine InBlock.ret ?_
                refine Then.ret ?_
                refine Leave0.ret (v := .bool _) rfl ?_
                have hb : bad ws i x = true := by unfold bad; rw [decide_eq_true c6, hp]; simp only [c7]; simp
                rw [risesB_no hx hb]; exact ⟨rfl, H.tail⟩
            · rw [decide_eq_false c6]
              refine QuietE.yes rfl ?_
              refine QuietE.val (fun w H => x_move (v := .bool _) rfl) ?_
              refine QuietE.no rfl ?_
              refine QuietE.no rfl ?_
              refine QuietE.no rfl ?_
              refine QuietE.no rfl ?_
              refine QuietE.no rfl ?_
              refine QuietE.no rfl ?_
              refine QuietE.no rfl ?_
              refine QuietE.no rfl ?_
              refine QuietE.no rfl ?_
              refine QuietE.yes rfl ?_
              refine QuietE.val (fun w H => x_pickF rfl rfl) ?_
              refine QuietE.val (fun w H => x_pickF rfl rfl) ?_
              refine QuietE.nil ?_
              intro w H
              refine Then.normal ?_
              refine WP.cond_f rfl rfl ?_
              refine WP.skip ?_
              refine InBlock.normal ?_
              refine Then.normal ?_
              refine WP.region ?_
              refine OpsE.val (x_add (z := ((i + 1 : Nat) : Int)) e7 rfl (by rw [i64n (by omega) (by omega)]; omega)) ?_
              refine OpsE.val (x_move (v := .int .i64 _) rfl) ?_
              refine OpsE.nil ?_
              refine Then.normal ?_
              have hb : bad ws i x = false := by
                unfold bad
                rw [decide_eq_false c1, decide_eq_false c2, decide_eq_false c3, decide_eq_false c6]
                simp_all
              exact ⟨rfl, (by repeat (first | exact hs | refine Same.upd ?_ rfl)), i + 1, by omega, rfl, by omega, okTo_succ hok hx hb, H.tail⟩
          case true =>
            refine QuietE.yes rfl ?_
            refine QuietE.val (fun w H => x_move (v := .bool _) rfl) ?_
            refine QuietE.yes rfl ?_
            refine QuietE.val (fun w H => x_fieldAddr (o := 1) rfl Try.runUnderlying26 rfl rfl Try.sizeOf9) ?_
            refine QuietE.yes rfl ?_
            refine QuietE.val (fun w H => x_load (v := .string _) rfl Try.isAgg9 (H.look _) rfl) ?_
            refine QuietE.yes rfl ?_
            refine QuietE.val (fun w H => x_neS rfl rfl) ?_
            by_cases c5 : x.val ≠ ⟨#[]⟩
            · rw [decide_eq_true c5]
              refine QuietE.yes rfl ?_
              refine QuietE.val (fun w H => x_pickT rfl rfl) ?_
              refine QuietE.val (fun w H => x_pickF rfl rfl) ?_
              refine QuietE.val (fun w H => x_move (v := .bool _) rfl) ?_
              refine QuietE.no rfl ?_
              refine QuietE.no rfl ?_
              refine QuietE.no rfl ?_
              refine QuietE.no rfl ?_
              refine QuietE.no rfl ?_
              refine QuietE.no rfl ?_
              refine QuietE.no rfl ?_
              refine QuietE.no rfl ?_
              refine QuietE.no rfl ?_
              refine QuietE.no rfl ?_
              refine QuietE.no rfl ?_
              refine QuietE.no rfl ?_
              refine QuietE.no rfl ?_
              refine QuietE.val (fun w H => x_pickT rfl rfl) ?_
              refine QuietE.nil ?_
              intro w H
              refine Then.normal ?_
              refine WP.cond_t rfl rfl ?_
              refine WP.seq ?_
              refine WP.region ?_
              refine OpsE.val (x_assign (v := .bool _) rfl) ?_
              refine OpsE.nil ?_
              refine Then.normal ?_
              refine WP.ret ?_
              refine InBlock.ret ?_
              refine Then.ret ?_
              refine Then.ret ?_
              refine InBlock.ret ?_
              refine Then.ret ?_
              refine Leave0.ret (v := .bool _) rfl ?_
              have hb : bad ws i x = true := by unfold bad; rw [c4, decide_eq_true c5]; simp
              rw [risesB_no hx hb]; exact ⟨rfl, H.tail⟩
            · rw [decide_eq_false c5]
              refine QuietE.yes rfl ?_
              refine QuietE.val (fun w H => x_pickT rfl rfl) ?_
              refine QuietE.val (fun w H => x_pickF rfl rfl) ?_
              refine QuietE.val (fun w H => x_move (v := .bool _) rfl) ?_
              refine QuietE.yes rfl ?_
              refine QuietE.val (fun w H => x_move (v := .int .i64 _) rfl) ?_
              refine QuietE.yes rfl ?_
              refine QuietE.val (fun w H => x_gt rfl rfl) ?_
              by_cases c6 : (i : Int) > 0
              · rw [decide_eq_true c6]
                refine QuietE.yes rfl ?_
                refine QuietE.val (fun w H => x_move (v := .bool _) rfl) ?_
                refine QuietE.yes rfl ?_
                obtain ⟨p, hp⟩ : ∃ p, ws[i - 1]? = some p := ⟨_, List.getElem?_eq_getElem (by omega)⟩
                refine QuietE.val (fun w H => x_move (v := .slice (some ⟨b, off, none⟩) n c) (hs 0 rfl)) ?_
                refine QuietE.yes rfl ?_
                refine QuietE.val (fun w H => x_move (v := .int .i64 _) rfl) ?_
                refine QuietE.yes rfl ?_
                refine QuietE.val (fun w H => x_sub (z := ((i - 1 : Nat) : Int)) rfl rfl (by rw [i64n (by omega) (by omega)]; omega)) ?_
                refine QuietE.yes rfl ?_
                refine QuietE.val (fun w H => x_indexAddro (i := i - 1) rfl rfl Try.runUnderlying22 Try.sizeOf26 rfl (by omega)) ?_
                refine QuietE.yes rfl ?_
                refine QuietE.val (fun w H => x_fieldAddr0 rfl Try.runUnderlying26 rfl rfl Try.sizeOf9) ?_
                refine QuietE.yes rfl ?_
                refine QuietE.val (fun w H => x_load (v := .string _) rfl Try.isAgg9 (hB w H.tail) (by simpa using row_cell wrc_len hBl hpo (j := 0) hp rfl)) ?_
                refine QuietE.yes rfl ?_
                refine QuietE.val (fun w H => x_fieldAddr0 rfl Try.runUnderlying26 rfl rfl Try.sizeOf9) ?_
                refine QuietE.yes rfl ?_
                refine QuietE.val (fun w H => x_load (v := .string _) rfl Try.isAgg9 (H.look _) rfl) ?_
                refine QuietE.yes rfl ?_
                refine QuietE.val (fun w H => x_geS rfl rfl) ?_
                cases c7 : (!slt p.key x.key)
                case false =>
                  refine QuietE.yes rfl ?_
                  refine QuietE.val (fun w H => x_pickT rfl rfl) ?_
                  refine QuietE.val (fun w H => x_pickF rfl rfl) ?_
                  refine QuietE.nil ?_
                  intro w H
                  refine Then.normal ?_
                  refine WP.cond_f rfl rfl ?_
                  refine WP.skip ?_
                  refine InBlock.normal ?_
                  refine Then.normal ?_
                  refine WP.region ?_
                  refine OpsE.val (x_add (z := ((i + 1 : Nat) : Int)) e7 rfl (by rw [i64n (by omega) (by omega)]; omega)) ?_
                  refine OpsE.val (x_move (v := .int .i64 _) rfl) ?_
                  refine OpsE.nil ?_
                  refine Then.normal ?_
                  have hb : bad ws i x = false := by
                    unfold bad
                    rw [decide_eq_false c1, decide_eq_false c2, decide_eq_false c3, hp]
                    simp only [c7]
                    simp_all
                  exact ⟨rfl, (by repeat (first | exact hs | refine Same.upd ?_ rfl)), i + 1, by omega, rfl, by omega, okTo_succ hok hx hb, H.tail⟩
                case true =>
                  refine QuietE.yes rfl ?_
                  refine QuietE.val (fun w H => x_pickT rfl rfl) ?_
                  refine QuietE.val (fun w H => x_pickF rfl rfl) ?_
                  refine QuietE.nil ?_
                  intro w H
                  refine Then.normal ?_
                  refine WP.cond_t rfl rfl ?_
                  refine WP.seq ?_
                  refine WP.region ?_
                  refine OpsE.val (x_assign (v := .bool _) rfl) ?_
                  refine OpsE.nil ?_
                  refine Then.normal ?_
                  refine WP.ret ?_
                  refine InBlock.ret ?_
                  refine Then.ret ?_
                  refine Then.ret ?_
                  refine InBlock.ret ?_
                  refine Then.ret ?_
                  refine Leave0.ret (v := .bool _) rfl ?_
                  have hb : bad ws i x = true := by unfold bad; rw [decide_eq_true c6, hp]; simp only [c7]; simp
                  rw [risesB_no hx hb]; exact ⟨rfl, H.tail⟩
              · rw [decide_eq_false c6]
                refine QuietE.yes rfl ?_
                refine QuietE.val (fun w H => x_move (v := .bool _) rfl) ?_
                refine QuietE.no rfl ?_
                refine QuietE.no rfl ?_
                refine QuietE.no rfl ?_
                refine QuietE.no rfl ?_
                refine QuietE.no rfl ?_
                refine QuietE.no rfl ?_
                refine QuietE.no rfl ?_
                refine QuietE.no rfl ?_
                refine QuietE.no rfl ?_
                refine QuietE.yes rfl ?_
                refine QuietE.val (fun w H => x_pickF rfl rfl) ?_
                refine QuietE.val (fun w H => x_pickF rfl rfl) ?_
                refine QuietE.nil ?_
                intro w H
                refine Then.normal ?_
                refine WP.cond_f rfl rfl ?_
                refine WP.skip ?_
                refine InBlock.normal ?_
                refine Then.normal ?_
                refine WP.region ?_
                refine OpsE.val (x_add (z := ((i + 1 : Nat) : Int)) e7 rfl (by rw [i64n (by omega) (by omega)]; omega)) ?_
                refine OpsE.val (x_move (v := .int .i64 _) rfl) ?_
                refine OpsE.nil ?_
                refine Then.normal ?_
                have hb : bad ws i x = false := by
                  unfold bad
                  rw [decide_eq_false c1, decide_eq_false c2, decide_eq_false c3, decide_eq_false c6]
                  simp_all
                exact ⟨rfl, (by repeat (first | exact hs | refine Same.upd ?_ rfl)), i + 1, by omega, rfl, by omega, okTo_succ hok hx hb, H.tail⟩
  · rw [decide_eq_false hlt]
    refine OpsE.nil ?_
    refine Then.normal ?_
    refine WP.seq ?_
    refine WP.cond_f rfl rfl ?_
    refine WP.exit ?_
    refine Then.exit ?_
    refine Then.exit ?_
    refine InBlock.hit ?_
    refine Then.normal ?_
    refine WP.seq ?_
    refine WP.region ?_
    refine OpsE.val (x_assign (v := .bool _) rfl) ?_
    refine OpsE.nil ?_
    refine Then.normal ?_
    refine WP.ret ?_
    refine Leave0.ret (v := .bool _) rfl ?_
    have hie : i = ws.length := by omega
    subst hie
    rw [risesB_yes hok]; exact ⟨rfl, H⟩
end Go.Proofs.Ytbhbdpbhhfemhaa

/-
  The store: entries put into a sorted list; plain facts.
-/
namespace Go.Proofs.Ytbhbdpbhhfemhaa
open Go Go.Proofs
set_option linter.unusedVariables false

abbrev KVs := ByteArray × List Ver
def ek (es : List Ent) : List KVs := es.map fun e => (e.key, e.vs)
def loE (key : ByteArray) (es : List Ent) : List Ent := es.filter fun e => slt e.key key
def hiE (key : ByteArray) (es : List Ent) : List Ent := es.filter fun e => slt key e.key
def insE (es : List Ent) (e : Ent) : List Ent := loE e.key es ++ e :: hiE e.key es
def delE (es : List Ent) (key : ByteArray) : List Ent := loE key es ++ hiE key es
def putK (ks : List KVs) (k : KVs) : List KVs := (ks.filter fun e => slt e.1 k.1) ++ k :: (ks.filter fun e => slt k.1 e.1)
def dropK (ks : List KVs) (key : ByteArray) : List KVs := (ks.filter fun e => slt e.1 key) ++ (ks.filter fun e => slt key e.1)
def vsK (ks : List KVs) (key : ByteArray) : List Ver := ((ks.find? fun k => decide (k.1 = key)).map (·.2)).getD []

theorem insE_it (es : List Ent) (e : Ent) : (insE es e).map Ent.it = TC.putL (es.map Ent.it) e.it := by
  unfold insE TC.putL TC.lo TC.hi loE hiE
  rw [List.map_append, List.map_cons, List.filter_map, List.filter_map]; rfl
theorem delE_it (es : List Ent) (key : ByteArray) : (delE es key).map Ent.it = TC.dropL (es.map Ent.it) key := by
  unfold delE TC.dropL TC.lo TC.hi loE hiE
  rw [List.map_append, List.filter_map, List.filter_map]; rfl
theorem insE_ek (es : List Ent) (e : Ent) : ek (insE es e) = putK (ek es) (e.key, e.vs) := by
  unfold ek insE putK loE hiE
  rw [List.map_append, List.map_cons, List.filter_map, List.filter_map]; rfl
theorem delE_ek (es : List Ent) (key : ByteArray) : ek (delE es key) = dropK (ek es) key := by
  unfold ek delE dropK loE hiE
  rw [List.map_append, List.filter_map, List.filter_map]; rfl
theorem vsOf_ek (es : List Ent) (key : ByteArray) : vsOf es key = vsK (ek es) key := by
  unfold vsOf vsK ek
  rw [List.find?_map]
  show _ = (Option.map _ (Option.map _ (es.find? fun e => decide (e.key = key)))).getD []
  cases es.find? fun e => decide (e.key = key) <;> rfl
theorem mem_insE {es : List Ent} {e x : Ent} (h : x ∈ insE es e) : x = e ∨ (x ∈ es ∧ x.key ≠ e.key) := by
  unfold insE loE hiE at h
  rcases List.mem_append.1 h with h | h
  · obtain ⟨h1, h2⟩ := List.mem_filter.1 h
    exact .inr ⟨h1, slt_ne h2⟩
  · rcases List.mem_cons.1 h with h | h
    · exact .inl h
    · obtain ⟨h1, h2⟩ := List.mem_filter.1 h
      exact .inr ⟨h1, (slt_ne h2).symm⟩
theorem len_lohiE (es : List Ent) (key : ByteArray) : (loE key es).length + (hiE key es).length ≤ es.length := by
  have := TC.len_lo_hi (es.map Ent.it) key
  unfold TC.lo TC.hi at this
  rw [List.filter_map, List.filter_map, List.length_map, List.length_map, List.length_map] at this
  exact this
theorem len_insE (es : List Ent) (e : Ent) : (insE es e).length ≤ es.length + 1 := by
  have := len_lohiE es e.key
  unfold insE; simp only [List.length_append, List.length_cons]; omega

theorem hp_dup (es : List Ent) : Dup (stars (es.map Ent.hp)) := stars_dup fun A hA => by
  obtain ⟨e, _, rfl⟩ := List.mem_map.1 hA
  exact ro_dup _ _
theorem sat_filter {α : Type} {f : α → HP} (p : α → Bool) (es : List α) : ∀ {w : World} {l : List HP}, Sat w (stars (es.map f) :: l) → Sat w (stars ((es.filter p).map f) :: l) := by
  induction es with
  | nil => exact fun H => H
  | cons e es ih =>
    intro w l H
    have H1 : Sat w (f e :: stars (es.map f) :: l) := sat_sep.1 H
    have H2 := (ih H1.swap).swap
    by_cases hp : p e = true
    · rw [List.filter_cons_of_pos hp]; exact sat_sep.2 H2
    · rw [List.filter_cons_of_neg hp]; exact H2.tail
theorem sat_insE {w : World} {es : List Ent} {e : Ent} {l : List HP} (H : Sat w (stars (es.map Ent.hp) :: e.hp :: l)) : Sat w (stars ((insE es e).map Ent.hp) :: l) := by
  have H1 := H.dup (hp_dup es)
  have H2 := sat_filter (fun x => slt x.key e.key) es H1
  have H3 := sat_filter (fun x => slt e.key x.key) es H2.swap
  refine H3.perm ?_
  unfold insE loE hiE
  rw [List.map_append, List.map_cons]
  simp only [stars_cons, stars_append]
  ac_rfl
theorem sat_delE {w : World} {es : List Ent} {key : ByteArray} {l : List HP} (H : Sat w (stars (es.map Ent.hp) :: l)) : Sat w (stars ((delE es key).map Ent.hp) :: l) := by
  have H1 := H.dup (hp_dup es)
  have H2 := sat_filter (fun x => slt x.key key) es H1
  have H3 := sat_filter (fun x => slt key x.key) es H2.swap
  refine H3.perm ?_
  unfold delE loE hiE
  rw [List.map_append]
  simp only [stars_cons, stars_append]
  ac_rfl

/-- a write of a commit, in the abstract -/
def addK (seq : Int) (ks : List KVs) (x : Wr) : List KVs := putK ks (x.key, vsK ks x.key ++ [⟨seq, x.val, x.gone⟩])
def rightB (ws : List Wr) : Prop := (ws.length : Int) ≤ 200 ∧ okTo ws ws.length
theorem okTo_at {ws : List Wr} (h : okTo ws ws.length) {i : Nat} {x : Wr} (hx : ws[i]? = some x) : x.key ≠ ⟨#[]⟩ ∧ x.key.size ≤ 400 ∧ x.val.size ≤ 4096 ∧ (x.gone = true → x.val = ⟨#[]⟩) ∧ ∀ p, 0 < i → ws[i - 1]? = some p → slt p.key x.key = true := by
  have hb := h i x (List.getElem?_eq_some_iff.1 hx).1 hx
  unfold bad at hb
  simp only [Bool.or_eq_false_iff, decide_eq_false_iff_not, Bool.and_eq_false_iff] at hb
  obtain ⟨⟨⟨⟨h1, h2⟩, h3⟩, h4⟩, h5⟩ := hb
  refine ⟨h1, by omega, by omega, fun hg => ?_, fun p h0 hp => ?_⟩
  · rcases h4 with h4 | h4
    · rw [hg] at h4; cases h4
    · exact Classical.not_not.1 h4
  · rcases h5 with h5 | h5
    · exact absurd (by omega) h5
    · rw [hp] at h5; simpa using h5
theorem okTo_srt {ws : List Wr} (h : okTo ws ws.length) : Srt Wr.key ws := by
  refine List.pairwise_iff_getElem.2 fun i j hi hj hij => ?_
  obtain ⟨k, rfl⟩ : ∃ k, j = i + 1 + k := ⟨j - (i + 1), by omega⟩
  clear hij
  induction k with
  | zero => exact (okTo_at h (i := i + 1) (x := ws[i + 1]) (by simp)).2.2.2.2 (ws[i]) (by omega) (by simp)
  | succ k ih =>
    have h1 := ih (by omega)
    have h2 := (okTo_at h (i := i + 1 + (k + 1)) (x := ws[i + 1 + (k + 1)]) (by simp)).2.2.2.2 (ws[i + 1 + k]) (by omega) (by simp)
    exact slt_trans h1 h2

theorem vsOf_mem {es : List Ent} {key : ByteArray} : vsOf es key = [] ∨ ∃ e ∈ es, e.key = key ∧ vsOf es key = e.vs := by
  unfold vsOf
  cases h : es.find? fun e => decide (e.key = key) with
  | none => exact .inl rfl
  | some e => exact .inr ⟨e, List.mem_of_find?_eq_some h, by simpa using List.find?_some h, rfl⟩
theorem lastI_lt {vs : List Ver} {q : Int} (h0 : 0 ≤ q) (h : ∀ v ∈ vs, v.seq < q) : lastI vs < q := by
  unfold lastI
  cases e : vs.getLast? with
  | none => dsimp only; omega
  | some v => exact h v (List.mem_of_getLast? e)

/-- one write of a commit goes in -/
theorem SC.Ok.put {S : SC} {N : Nat} (ok : S.Ok N) (hN : N + 1 ≤ 500000) {t' : TC.Tr} {e : Ent} (ht : t'.Ok) (hall : TC.all t'.lv = TC.putL (TC.all S.t.lv) e.it) (he : e.Ok) (hv : e.vs.length ≤ N + 1) (hb : ∀ v ∈ e.vs, v.seq ≤ S.low + S.hist.xs.length) :
    SC.Ok (N + 1) { S with t := t', es := insE S.es e } := by
  refine ⟨ht, ?_, fun x hx => ?_, ?_, ok.hist, ok.ws, ok.low, ok.last, hN⟩
  · rw [hall, ok.its]; exact (insE_it S.es e).symm
  · rcases mem_insE hx with rfl | ⟨hx, _⟩
    · exact ⟨he, hv, hb⟩
    · obtain ⟨h1, h2, h3⟩ := ok.es x hx
      exact ⟨h1, by omega, h3⟩
  · have := len_insE S.es e
    have := ok.num
    show (insE S.es e).length ≤ _
    omega
end Go.Proofs.Ytbhbdpbhhfemhaa

/-
  slices.Clone at one type of elements: a contract over rows of cells.
-/
namespace Go.Proofs.Ytbhbdpbhhfemhaa.CW
open Go Go.Proofs
set_option maxRecDepth 100000
set_option maxHeartbeats 4000000
set_option linter.unusedVariables false

abbrev TT : TypeId := 22
abbrev TE : TypeId := 26
theorem K : ElemOk Try.prog TT TE 3 40 (.agg #[.string ByteArray.empty, .string ByteArray.empty, .bool false]) := ⟨Try.underlying22, ⟨Try.t26, Try.type26, rfl, rfl, rfl⟩, rfl⟩

theorem Clone_spec {w : World} {l : List HP} {b off n c : Nat} {B : Array Value} {news : List Value} {tB : TypeId} {fB : Nat × Nat} (H : Sat w l) (hB : ∀ w, Sat w l → w.heap[b]? = some (.cells B tB fB)) (h2 : (B.toList.drop off).take news.length = news) (hl2 : news.length = n * 3) (hle : n ≤ 2000000)
    (h1 : ∀ u ∈ news, u.oneCell' = true) :
    Calls Try.prog 44 #[.slice (some ⟨b, off, none⟩) n c] w (Ret fun v w' => ∃ g c' tl', v = .slice (some ⟨g, 0, none⟩) n c' ∧ n ≤ c' ∧ n * 3 + tl'.length = c' * 3 ∧
      Sat w' (pt g (.cells (news ++ tl').toArray TE (0, 0)) :: l)) := by
  refine Calls.of_wp Try.func44 rfl Try.ntmps44 Try.results44 (Nat.le_of_ble_eq_true rfl) ?_
  refine WP.seq ?_
  refine WP.region ?_
  refine OpsE.val (x_assign (v := .slice _ _ _) rfl) ?_
  refine OpsE.nil ?_
  refine Then.normal ?_
  refine WP.seq ?_
  refine WP.seq ?_
  refine WP.region ?_
  refine OpsE.val (x_move (v := .slice _ _ _) rfl) ?_
  refine OpsE.val (x_eqLs rfl rfl Try.runUnderlying22) ?_
  refine OpsE.nil ?_
  refine Then.normal ?_
  refine WP.cond_f rfl rfl ?_
  refine WP.skip ?_
  refine Then.normal ?_
  refine WP.seq ?_
  refine WP.region ?_
  refine OpsE.buildSlice0 K H ?_
  intro g0 w H
  refine OpsE.val (x_move (v := .slice _ _ _) rfl) ?_
  refine OpsE.append_own (n := 0) (c := 0) (olds := []) (tl := []) (news := news) rfl K rfl rfl H (by simp) (by simp) (hB _ H.tail) h2 hl2 h1 (by omega) (by omega) ?_
  intro g c' tl' w hc1 hc2 H
  rw [List.nil_append] at H
  simp only [Nat.zero_add] at hc1 hc2
  rw [Nat.zero_add]
  refine OpsE.val (x_assign (v := .slice _ _ _) rfl) ?_
  refine OpsE.nil ?_
  refine Then.normal ?_
  refine WP.ret ?_
  refine Leave0.ret (v := .slice _ _ _) rfl ?_
  exact ⟨g, c', tl', rfl, hc1, hc2, H⟩


theorem Clone_nil {w : World} {l : List HP} (H : Sat w l) :
    Calls Try.prog 44 #[.slice none 0 0] w (Ret fun v w' => v = .slice none 0 0 ∧ Sat w' l) := by
  refine Calls.of_wp Try.func44 rfl Try.ntmps44 Try.results44 (Nat.le_of_ble_eq_true rfl) ?_
  refine WP.seq ?_
  refine WP.region ?_
  refine OpsE.val (x_assign (v := .slice _ _ _) rfl) ?_
  refine OpsE.nil ?_
  refine Then.normal ?_
  refine WP.seq ?_
  refine WP.seq ?_
  refine WP.region ?_
  refine OpsE.val (x_move (v := .slice _ _ _) rfl) ?_
  refine OpsE.val (x_eqLn rfl rfl Try.runUnderlying22) ?_
  refine OpsE.nil ?_
  refine Then.normal ?_
  refine WP.cond_t rfl rfl ?_
  refine WP.seq ?_
  refine WP.region ?_
  refine OpsE.val (x_assign (v := .slice _ _ _) rfl) ?_
  refine OpsE.nil ?_
  refine Then.normal ?_
  refine WP.ret ?_
  refine Then.ret ?_
  refine Leave0.ret (v := .slice _ _ _) rfl ?_
  exact ⟨rfl, H⟩
theorem Clone_emp {w : World} {l : List HP} {ad : Addr} {c : Nat} (H : Sat w l) :
    Calls Try.prog 44 #[.slice (some ad) 0 c] w (Ret fun v w' => ∃ g, v = .slice (some ⟨g, 0, none⟩) 0 0 ∧ Sat w' (pt g (.cells ([] : List Value).toArray TE (0, 0)) :: l)) := by
  refine Calls.of_wp Try.func44 rfl Try.ntmps44 Try.results44 (Nat.le_of_ble_eq_true rfl) ?_
  refine WP.seq ?_
  refine WP.region ?_
  refine OpsE.val (x_assign (v := .slice _ _ _) rfl) ?_
  refine OpsE.nil ?_
  refine Then.normal ?_
  refine WP.seq ?_
  refine WP.seq ?_
  refine WP.region ?_
  refine OpsE.val (x_move (v := .slice _ _ _) rfl) ?_
  refine OpsE.val (x_eqLs rfl rfl Try.runUnderlying22) ?_
  refine OpsE.nil ?_
  refine Then.normal ?_
  refine WP.cond_f rfl rfl ?_
  refine WP.skip ?_
  refine Then.normal ?_
  refine WP.seq ?_
  refine WP.region ?_
  refine OpsE.buildSlice0 K H ?_
  intro g0 w H
  refine OpsE.val (x_move (v := .slice _ _ _) rfl) ?_
  refine OpsE.val (x_append_none rfl K rfl rfl (Nat.le_refl _)) ?_
  refine OpsE.val (x_assign (v := .slice _ _ _) rfl) ?_
  refine OpsE.nil ?_
  refine Then.normal ?_
  refine WP.ret ?_
  refine Leave0.ret (v := .slice _ _ _) rfl ?_
  exact ⟨g0, rfl, H⟩
theorem Clone_rin {α : Type} {f : α → List Value} {w : World} {l : List HP} {a : Option Addr} {n c : Nat} {xs : List α} (hf : ∀ x, (f x).length = 3) (h1 : ∀ x, ∀ u ∈ f x, u.oneCell' = true) (H : Sat w l) (hr : RIn f TE l a n c xs) (hle : n ≤ 2000000) :
    Calls Try.prog 44 #[.slice a n c] w (Ret fun v w' => ∃ r' : Rw α, v = r'.val ∧ r'.xs = xs ∧ r'.Ok 3 ∧ Sat w' (r'.own f TE :: l)) := by
  have hlen := hr.len
  rcases hr.mem with ⟨rfl, hc0⟩ | ⟨b, off, B, fz, pre, post, rfl, hB, hBl, hpo⟩
  · have hn0 : n = 0 := hlen
    subst hn0
    cases a with
    | none =>
      have hc0 := hc0 rfl
      subst hc0
      refine Calls.ret (Clone_nil H) ?_
      rintro v w' ⟨rfl, H⟩
      exact ⟨⟨[], none⟩, rfl, rfl, Rw.empty_ok, sat_one.2 H⟩
    | some ad =>
      refine Calls.ret (Clone_emp H) ?_
      rintro v w' ⟨g, rfl, H⟩
      exact ⟨⟨[], some (g, 0, [])⟩, rfl, rfl, ⟨fun h => (by cases h), fun p hp => by cases hp; exact ⟨Nat.le_refl _, rfl⟩⟩, H⟩
  · refine Calls.ret (Clone_spec (news := xs.flatMap f) H hB (row_all hBl hpo) (by rw [flat_len hf, hlen]) hle (fun u hu => by
      obtain ⟨x, _, hx⟩ := List.mem_flatMap.1 hu
      exact h1 x u hx)) ?_
    rintro v w' ⟨g, c', tl', rfl, hc1, hc2, H⟩
    subst hlen
    exact ⟨⟨xs, some (g, c', tl')⟩, rfl, rfl, ⟨fun h => (by cases h), fun p hp => by cases hp; exact ⟨hc1, hc2⟩⟩, H⟩
end Go.Proofs.Ytbhbdpbhhfemhaa.CW

/-
  slices.Clone at one type of elements: a contract over rows of cells.
-/
namespace Go.Proofs.Ytbhbdpbhhfemhaa.CM
open Go Go.Proofs
set_option maxRecDepth 100000
set_option maxHeartbeats 4000000
set_option linter.unusedVariables false

abbrev TT : TypeId := 38
abbrev TE : TypeId := 33
theorem K : ElemOk Try.prog TT TE 3 40 (.agg #[.int .i64 0, .int .i64 0, .slice none 0 0]) := ⟨Try.underlying38, ⟨Try.t33, Try.type33, rfl, rfl, rfl⟩, rfl⟩

theorem Clone_spec {w : World} {l : List HP} {b off n c : Nat} {B : Array Value} {news : List Value} {tB : TypeId} {fB : Nat × Nat} (H : Sat w l) (hB : ∀ w, Sat w l → w.heap[b]? = some (.cells B tB fB)) (h2 : (B.toList.drop off).take news.length = news) (hl2 : news.length = n * 3) (hle : n ≤ 2000000)
    (h1 : ∀ u ∈ news, u.oneCell' = true) :
    Calls Try.prog 51 #[.slice (some ⟨b, off, none⟩) n c] w (Ret fun v w' => ∃ g c' tl', v = .slice (some ⟨g, 0, none⟩) n c' ∧ n ≤ c' ∧ n * 3 + tl'.length = c' * 3 ∧
      Sat w' (pt g (.cells (news ++ tl').toArray TE (0, 0)) :: l)) := by
  refine Calls.of_wp Try.func51 rfl Try.ntmps51 Try.results51 (Nat.le_of_ble_eq_true rfl) ?_
  refine WP.seq ?_
  refine WP.region ?_
  refine OpsE.val (x_assign (v := .slice _ _ _) rfl) ?_
  refine OpsE.nil ?_
  refine Then.normal ?_
  refine WP.seq ?_
  refine WP.seq ?_
  refine WP.region ?_
  refine OpsE.val (x_move (v := .slice _ _ _) rfl) ?_
  refine OpsE.val (x_eqLs rfl rfl Try.runUnderlying38) ?_
  refine OpsE.nil ?_
  refine Then.normal ?_
  refine WP.cond_f rfl rfl ?_
  refine WP.skip ?_
  refine Then.normal ?_
  refine WP.seq ?_
  refine WP.region ?_
  refine OpsE.buildSlice0 K H ?_
  intro g0 w H
  refine OpsE.val (x_move (v := .slice _ _ _) rfl) ?_
  refine OpsE.append_own (n := 0) (c := 0) (olds := []) (tl := []) (news := news) rfl K rfl rfl H (by simp) (by simp) (hB _ H.tail) h2 hl2 h1 (by omega) (by omega) ?_
  intro g c' tl' w hc1 hc2 H
  rw [List.nil_append] at H
  simp only [Nat.zero_add] at hc1 hc2
  rw [Nat.zero_add]
  refine OpsE.val (x_assign (v := .slice _ _ _) rfl) ?_
  refine OpsE.nil ?_
  refine Then.normal ?_
  refine WP.ret ?_
  refine Leave0.ret (v := .slice _ _ _) rfl ?_
  exact ⟨g, c', tl', rfl, hc1, hc2, H⟩


theorem Clone_nil {w : World} {l : List HP} (H : Sat w l) :
    Calls Try.prog 51 #[.slice none 0 0] w (Ret fun v w' => v = .slice none 0 0 ∧ Sat w' l) := by
  refine Calls.of_wp Try.func51 rfl Try.ntmps51 Try.results51 (Nat.le_of_ble_eq_true rfl) ?_
  refine WP.seq ?_
  refine WP.region ?_
  refine OpsE.val (x_assign (v := .slice _ _ _) rfl) ?_
  refine OpsE.nil ?_
  refine Then.normal ?_
  refine WP.seq ?_
  refine WP.seq ?_
  refine WP.region ?_
  refine OpsE.val (x_move (v := .slice _ _ _) rfl) ?_
  refine OpsE.val (x_eqLn rfl rfl Try.runUnderlying38) ?_
  refine OpsE.nil ?_
  refine Then.normal ?_
  refine WP.cond_t rfl rfl ?_
  refine WP.seq ?_
  refine WP.region ?_
  refine OpsE.val (x_assign (v := .slice _ _ _) rfl) ?_
  refine OpsE.nil ?_
  refine Then.normal ?_
  refine WP.ret ?_
  refine Then.ret ?_
  refine Leave0.ret (v := .slice _ _ _) rfl ?_
  exact ⟨rfl, H⟩
theorem Clone_emp {w : World} {l : List HP} {ad : Addr} {c : Nat} (H : Sat w l) :
    Calls Try.prog 51 #[.slice (some ad) 0 c] w (Ret fun v w' => ∃ g, v = .slice (some ⟨g, 0, none⟩) 0 0 ∧ Sat w' (pt g (.cells ([] : List Value).toArray TE (0, 0)) :: l)) := by
  refine Calls.of_wp Try.func51 rfl Try.ntmps51 Try.results51 (Nat.le_of_ble_eq_true rfl) ?_
  refine WP.seq ?_
  refine WP.region ?_
  refine OpsE.val (x_assign (v := .slice _ _ _) rfl) ?_
  refine OpsE.nil ?_
  refine Then.normal ?_
  refine WP.seq ?_
  refine WP.seq ?_
  refine WP.region ?_
  refine OpsE.val (x_move (v := .slice _ _ _) rfl) ?_
  refine OpsE.val (x_eqLs rfl rfl Try.runUnderlying38) ?_
  refine OpsE.nil ?_
  refine Then.normal ?_
  refine WP.cond_f rfl rfl ?_
  refine WP.skip ?_
  refine Then.normal ?_
  refine WP.seq ?_
  refine WP.region ?_
  refine OpsE.buildSlice0 K H ?_
  intro g0 w H
  refine OpsE.val (x_move (v := .slice _ _ _) rfl) ?_
  refine OpsE.val (x_append_none rfl K rfl rfl (Nat.le_refl _)) ?_
  refine OpsE.val (x_assign (v := .slice _ _ _) rfl) ?_
  refine OpsE.nil ?_
  refine Then.normal ?_
  refine WP.ret ?_
  refine Leave0.ret (v := .slice _ _ _) rfl ?_
  exact ⟨g0, rfl, H⟩
theorem Clone_rin {α : Type} {f : α → List Value} {w : World} {l : List HP} {a : Option Addr} {n c : Nat} {xs : List α} (hf : ∀ x, (f x).length = 3) (h1 : ∀ x, ∀ u ∈ f x, u.oneCell' = true) (H : Sat w l) (hr : RIn f TE l a n c xs) (hle : n ≤ 2000000) :
    Calls Try.prog 51 #[.slice a n c] w (Ret fun v w' => ∃ r' : Rw α, v = r'.val ∧ r'.xs = xs ∧ r'.Ok 3 ∧ Sat w' (r'.own f TE :: l)) := by
  have hlen := hr.len
  rcases hr.mem with ⟨rfl, hc0⟩ | ⟨b, off, B, fz, pre, post, rfl, hB, hBl, hpo⟩
  · have hn0 : n = 0 := hlen
    subst hn0
    cases a with
    | none =>
      have hc0 := hc0 rfl
      subst hc0
      refine Calls.ret (Clone_nil H) ?_
      rintro v w' ⟨rfl, H⟩
      exact ⟨⟨[], none⟩, rfl, rfl, Rw.empty_ok, sat_one.2 H⟩
    | some ad =>
      refine Calls.ret (Clone_emp H) ?_
      rintro v w' ⟨g, rfl, H⟩
      exact ⟨⟨[], some (g, 0, [])⟩, rfl, rfl, ⟨fun h => (by cases h), fun p hp => by cases hp; exact ⟨Nat.le_refl _, rfl⟩⟩, H⟩
  · refine Calls.ret (Clone_spec (news := xs.flatMap f) H hB (row_all hBl hpo) (by rw [flat_len hf, hlen]) hle (fun u hu => by
      obtain ⟨x, _, hx⟩ := List.mem_flatMap.1 hu
      exact h1 x u hx)) ?_
    rintro v w' ⟨g, c', tl', rfl, hc1, hc2, H⟩
    subst hlen
    exact ⟨⟨xs, some (g, c', tl')⟩, rfl, rfl, ⟨fun h => (by cases h), fun p hp => by cases hp; exact ⟨hc1, hc2⟩⟩, H⟩
end Go.Proofs.Ytbhbdpbhhfemhaa.CM

/-
  The store: Right, Commit.
-/
namespace Go.Proofs.Ytbhbdpbhhfemhaa
open Go Go.Proofs
set_option maxRecDepth 100000
set_option maxHeartbeats 8000000
set_option linter.unusedVariables false

noncomputable def rightBo (ws : List Wr) : Bool := decide ((ws.length : Int) ≤ 200) && risesB ws
theorem Right_spec {w : World} {l : List HP} {a : Option Addr} {n c : Nat} {ws : List Wr} (H : Sat w l) (hr : RIn wrc TWr l a n c ws) (hn : n ≤ 1000000) (hk : ∀ x ∈ ws, x.key.size ≤ 9223372036854775807 ∧ x.val.size ≤ 9223372036854775807) :
    Calls Try.prog 25 #[.slice a n c] w (Ret fun v w' => v = .bool (rightBo ws) ∧ Sat w' l) := by
  have hlen := hr.len
  refine Calls.of_wp Try.func25 rfl Try.ntmps25 Try.results25 (Nat.le_of_ble_eq_true rfl) ?_
  refine WP.seq ?_
  refine WP.region ?_
  refine OpsE.val (x_assign (v := .bool _) rfl) ?_
  refine OpsE.nil ?_
  refine Then.normal ?_
  refine WP.seq ?_
  refine WP.region ?_
  refine OpsE.val (x_move (v := .slice _ _ _) rfl) ?_
  refine OpsE.val (x_lenL rfl rfl Try.runUnderlying22) ?_
  refine OpsE.val (x_le rfl rfl) ?_
  by_cases c1 : (n : Int) ≤ 200
  · rw [decide_eq_true c1]
    refine OpsE.val (x_move (v := .bool _) rfl) ?_
    refine OpsE.yes rfl ?_
    refine OpsE.val (x_move (v := .slice _ _ _) rfl) ?_
    refine OpsE.yes rfl ?_
    refine OpsE.call (x_call (vl := [.slice _ _ _]) rfl Try.call52) (rises_spec H hr hn hk) ?_
    rintro _ w ⟨rfl, H⟩
    refine OpsE.val (x_pickT rfl rfl) ?_
    refine OpsE.val (x_assign (v := .bool _) rfl) ?_
    refine OpsE.nil ?_
    refine Then.normal ?_
    refine WP.ret ?_
    refine Leave0.ret (v := .bool _) rfl ?_
    have : rightBo ws = risesB ws := by unfold rightBo; rw [decide_eq_true (by omega)]; rfl
    rw [this]; exact ⟨rfl, H⟩
  · rw [decide_eq_false c1]
    refine OpsE.val (x_move (v := .bool _) rfl) ?_
    refine OpsE.no rfl ?_
    refine OpsE.no rfl ?_
    refine OpsE.val (x_pickF rfl rfl) ?_
    refine OpsE.val (x_assign (v := .bool _) rfl) ?_
    refine OpsE.nil ?_
    refine Then.normal ?_
    refine WP.ret ?_
    refine Leave0.ret (v := .bool _) rfl ?_
    have : rightBo ws = false := by unfold rightBo; rw [decide_eq_false (by omega)]; rfl
    rw [this]; exact ⟨rfl, H⟩
theorem rightBo_iff (ws : List Wr) : rightBo ws = true ↔ rightB ws := by
  unfold rightBo rightB risesB
  rw [Bool.and_eq_true, decide_eq_true_iff, @decide_eq_true_iff _ (Classical.propDecidable _)]

/-- what a commit asks -/
def goodC (S : SC) (seq time : Int) (ws : List Wr) : Prop := seq = S.last + 1 ∧ seq ≤ 1099511627776 ∧ 0 ≤ time ∧ time ≤ 1099511627776 ∧ rightB ws ∧ ∀ c, S.hist.xs.getLast? = some c → c.time ≤ time
def cma (c : Cm) : Int × Int × List Wr := (c.seq, c.time, c.w.xs)

theorem Commit_spec {w : World} {l : List HP} {b N : Nat} {S : SC} {seq time : Int} {a : Option Addr} {n c : Nat} {ws : List Wr} (H : Sat w (StP b S :: l)) (ok : S.Ok N) (hN : N + n ≤ 400000) (hr : RIn wrc TWr l a n c ws) (hn : n ≤ 1000000) (hk : ∀ x ∈ ws, x.key.size ≤ 9223372036854775807 ∧ x.val.size ≤ 9223372036854775807) :
    Calls Try.prog 18 #[.pointer (some ⟨b, 0, none⟩), .agg #[.int .i64 seq, .int .i64 time, .slice a n c]] w (Ret fun v w' =>
      (¬ goodC S seq time ws ∧ v = .int .i64 1 ∧ Sat w' (StP b S :: l)) ∨ (goodC S seq time ws ∧ v = .int .i64 0 ∧ ∃ S' : SC, S'.Ok (N + n) ∧ S'.low = S.low ∧ S'.hist.xs.map cma = S.hist.xs.map cma ++ [(seq, time, ws)] ∧ ek S'.es = ws.foldl (addK seq) (ek S.es) ∧ Sat w' (StP b S' :: l))) := by
  have hlow := ok.low
  have hlast := ok.last
  have hlen := hr.len
  replace H := StP.open.1 H
  have hr1 : RIn wrc TWr (S.h1 b :: S.t.ap :: TC.Lvs S.t.lv :: S.h4 :: S.h5 :: S.h6 :: l) a n c ws := hr.more.more.more.more.more.more
  refine Calls.of_wp Try.func18 rfl Try.ntmps18 Try.results18 (Nat.le_of_ble_eq_true rfl) ?_
  refine WP.seq ?_
  refine WP.region ?_
  refine OpsE.boxA (cs := [.int .i64 seq, .int .i64 time, .slice a n c]) rfl H ?_
  intro b3 w H
  refine OpsE.val (x_assign (v := .int .i64 _) rfl) ?_
  refine OpsE.nil ?_
  refine Then.normal ?_
  refine WP.cutS [4, 11, 12, 13, 14, 15, 16, 17, 18, 19, 20, 21, 22, 23, 24, 25, 26, 27, 28, 29, 30, 31, 32, 33, 34, 35, 36, 37, 38, 39, 40, 41, 42, 43, 44, 45, 46, 47, 48, 49, 50, 51, 52, 53, 54, 55, 56, 57, 58, 59, 60, 61, 62, 63, 64, 65, 66, 67] (fun E w => goodC S seq time ws ∧ Sat w (pt b3 (.cells [.int .i64 seq, .int .i64 time, .slice a n c].toArray TCm (0, 0)) :: S.h1 b :: S.t.ap :: TC.Lvs S.t.lv :: S.h4 :: S.h5 :: S.h6 :: l)) ?_ ?_
  · skip
    refine WP.block ?_
    refine WP.seq ?_
    refine WP.draw (fun w => Sat w _) (by kernel_rfl) (by kernel_rfl) (H.heap rfl) ?_
    refine QuietE.val (fun w H => x_move (v := .pointer _) rfl) ?_
    refine QuietE.val (fun w H => x_eqPs rfl rfl Try.runUnderlying28) ?_
    refine QuietE.val (fun w H => x_move (v := .bool _) rfl) ?_
    refine QuietE.yes rfl ?_
    refine QuietE.val (fun w H => x_fieldAddr0 rfl Try.runUnderlying33 rfl rfl Try.sizeOf3) ?_
    refine QuietE.yes rfl ?_
    refine QuietE.val (fun w H => x_load (v := .int .i64 seq) rfl Try.isAgg3 (H.look _) rfl) ?_
    refine QuietE.yes rfl ?_
    refine QuietE.val (fun w H => x_move (v := .pointer _) rfl) ?_
    refine QuietE.yes rfl ?_
    refine QuietE.call (fun w H => x_call (vl := [.pointer _]) rfl Try.call16) (fun w H => SLast_spec H (fun w H => H.look b) ok) ?_
    refine QuietE.yes rfl ?_
    refine QuietE.val (fun w H => x_add (z := S.last + 1) rfl rfl (i64n (by unfold SC.last; omega) (by unfold SC.last; omega))) ?_
    refine QuietE.yes rfl ?_
    refine QuietE.val (fun w H => x_neI rfl rfl) ?_
    by_cases c1 : seq ≠ S.last + 1
    · rw [decide_eq_true c1]
      refine QuietE.val (fun w H => x_pickF rfl rfl) ?_
      refine QuietE.val (fun w H => x_move (v := .bool _) rfl) ?_
      refine QuietE.no rfl ?_
      refine QuietE.no rfl ?_
      refine QuietE.no rfl ?_
      refine QuietE.val (fun w H => x_pickT rfl rfl) ?_
      refine QuietE.val (fun w H => x_move (v := .bool _) rfl) ?_
      refine QuietE.no rfl ?_
      refine QuietE.no rfl ?_
      refine QuietE.no rfl ?_
      refine QuietE.val (fun w H => x_pickT rfl rfl) ?_
      refine QuietE.val (fun w H => x_move (v := .bool _) rfl) ?_
      refine QuietE.no rfl ?_
      refine QuietE.no rfl ?_
      refine QuietE.no rfl ?_
      refine QuietE.val (fun w H => x_pickT rfl rfl) ?_
      refine QuietE.val (fun w H => x_move (v := .bool _) rfl) ?_
      refine QuietE.no rfl ?_
      refine QuietE.no rfl ?_
      refine QuietE.no rfl ?_
      refine QuietE.no rfl ?_
      refine QuietE.val (fun w H => x_pickT rfl rfl) ?_
      refine QuietE.val (fun w H => x_assign (v := .bool _) rfl) ?_
      refine QuietE.nil ?_
      intro w H
      refine Then.normal ?_
      refine WP.cond_t rfl rfl ?_
      refine WP.seq ?_
      refine WP.region ?_
      refine OpsE.val (x_assign (v := .int .i64 _) rfl) ?_
      refine OpsE.nil ?_
      refine Then.normal ?_
      refine WP.ret ?_
      refine InBlock.ret ?_
      refine Then.ret ?_
      refine Leave0.ret (v := .int .i64 _) rfl ?_
      exact .inl ⟨fun h => c1 h.1, rfl, StP.open.2 H.tail⟩
    · rw [decide_eq_false c1]
      refine QuietE.val (fun w H => x_pickF rfl rfl) ?_
      refine QuietE.val (fun w H => x_move (v := .bool _) rfl) ?_
      refine QuietE.yes rfl ?_
      refine QuietE.val (fun w H => x_fieldAddr0 rfl Try.runUnderlying33 rfl rfl Try.sizeOf3) ?_
      refine QuietE.yes rfl ?_
      refine QuietE.val (fun w H => x_load (v := .int .i64 seq) rfl Try.isAgg3 (H.look _) rfl) ?_
      refine QuietE.yes rfl ?_
      refine QuietE.val (fun w H => x_gt rfl rfl) ?_
      by_cases c2 : seq > 1099511627776
      · rw [decide_eq_true c2]
        refine QuietE.val (fun w H => x_pickF rfl rfl) ?_
        refine QuietE.val (fun w H => x_move (v := .bool _) rfl) ?_
        refine QuietE.no rfl ?_
        refine QuietE.no rfl ?_
        refine QuietE.no rfl ?_
        refine QuietE.val (fun w H => x_pickT rfl rfl) ?_
        refine QuietE.val (fun w H => x_move (v := .bool _) rfl) ?_
        refine QuietE.no rfl ?_
        refine QuietE.no rfl ?_
        refine QuietE.no rfl ?_
        refine QuietE.val (fun w H => x_pickT rfl rfl) ?_
        refine QuietE.val (fun w H => x_move (v := .bool _) rfl) ?_
        refine QuietE.no rfl ?_
        refine QuietE.no rfl ?_
        refine QuietE.no rfl ?_
        refine QuietE.no rfl ?_
        refine QuietE.val (fun w H => x_pickT rfl rfl) ?_
        refine QuietE.val (fun w H => x_assign (v := .bool _) rfl) ?_
        refine QuietE.nil ?_
        intro w H
        refine Then.normal ?_
        refine WP.cond_t rfl rfl ?_
        refine WP.seq ?_
        refine WP.region ?_
        refine OpsE.val (x_assign (v := .int .i64 _) rfl) ?_
        refine OpsE.nil ?_
        refine Then.normal ?_
        refine WP.ret ?_
        refine InBlock.ret ?_
        refine Then.ret ?_
        refine Leave0.ret (v := .int .i64 _) rfl ?_
        exact .inl ⟨fun h => by have := h.2.1; omega, rfl, StP.open.2 H.tail⟩
      · rw [decide_eq_false c2]
        refine QuietE.val (fun w H => x_pickF rfl rfl) ?_
        refine QuietE.val (fun w H => x_move (v := .bool _) rfl) ?_
        refine QuietE.yes rfl ?_
        refine QuietE.val (fun w H => x_fieldAddr (o := 1) rfl Try.runUnderlying33 rfl rfl Try.sizeOf3) ?_
        refine QuietE.yes rfl ?_
        refine QuietE.val (fun w H => x_load (v := .int .i64 time) rfl Try.isAgg3 (H.look _) rfl) ?_
        refine QuietE.yes rfl ?_
        refine QuietE.val (fun w H => x_lt rfl rfl) ?_
        by_cases c3 : time < 0
        · rw [decide_eq_true c3]
          refine QuietE.val (fun w H => x_pickF rfl rfl) ?_
          refine QuietE.val (fun w H => x_move (v := .bool _) rfl) ?_
          refine QuietE.no rfl ?_
          refine QuietE.no rfl ?_
          refine QuietE.no rfl ?_
          refine QuietE.val (fun w H => x_pickT rfl rfl) ?_
          refine QuietE.val (fun w H => x_move (v := .bool _) rfl) ?_
          refine QuietE.no rfl ?_
          refine QuietE.no rfl ?_
          refine QuietE.no rfl ?_
          refine QuietE.no rfl ?_
          refine QuietE.val (fun w H => x_pickT rfl rfl) ?_
          refine QuietE.val (fun w H => x_assign (v := .bool _) rfl) ?_
          refine QuietE.nil ?_
          intro w H
          refine Then.normal ?_
          refine WP.cond_t rfl rfl ?_
          refine WP.seq ?_
          refine WP.region ?_
          refine OpsE.val (x_assign (v := .int .i64 _) rfl) ?_
          refine OpsE.nil ?_
          refine Then.normal ?_
          refine WP.ret ?_
          refine InBlock.ret ?_
          refine Then.ret ?_
          refine Leave0.ret (v := .int .i64 _) rfl ?_
          exact .inl ⟨fun h => by have := h.2.2.1; omega, rfl, StP.open.2 H.tail⟩
        · rw [decide_eq_false c3]
          refine QuietE.val (fun w H => x_pickF rfl rfl) ?_
          refine QuietE.val (fun w H => x_move (v := .bool _) rfl) ?_
          refine QuietE.yes rfl ?_
          refine QuietE.val (fun w H => x_fieldAddr (o := 1) rfl Try.runUnderlying33 rfl rfl Try.sizeOf3) ?_
          refine QuietE.yes rfl ?_
          refine QuietE.val (fun w H => x_load (v := .int .i64 time) rfl Try.isAgg3 (H.look _) rfl) ?_
          refine QuietE.yes rfl ?_
          refine QuietE.val (fun w H => x_gt rfl rfl) ?_
          by_cases c4 : time > 1099511627776
          · rw [decide_eq_true c4]
            refine QuietE.val (fun w H => x_pickF rfl rfl) ?_
            refine QuietE.val (fun w H => x_move (v := .bool _) rfl) ?_
            refine QuietE.no rfl ?_
            refine QuietE.no rfl ?_
            refine QuietE.no rfl ?_
            refine QuietE.no rfl ?_
            refine QuietE.val (fun w H => x_pickT rfl rfl) ?_
            refine QuietE.val (fun w H => x_assign (v := .bool _) rfl) ?_
            refine QuietE.nil ?_
            intro w H
            refine Then.normal ?_
            refine WP.cond_t rfl rfl ?_
            refine WP.seq ?_
            refine WP.region ?_
            refine OpsE.val (x_assign (v := .int .i64 _) rfl) ?_
            refine OpsE.nil ?_
            refine Then.normal ?_
            refine WP.ret ?_
            refine InBlock.ret ?_
            refine Then.ret ?_
            refine Leave0.ret (v := .int .i64 _) rfl ?_
            exact .inl ⟨fun h => by have := h.2.2.2.1; omega, rfl, StP.open.2 H.tail⟩
          · rw [decide_eq_false c4]
            refine QuietE.val (fun w H => x_pickF rfl rfl) ?_
            refine QuietE.val (fun w H => x_move (v := .bool _) rfl) ?_
            refine QuietE.yes rfl ?_
            refine QuietE.val (fun w H => x_fieldAddr (o := 2) rfl Try.runUnderlying33 rfl rfl Try.sizeOf22) ?_
            refine QuietE.yes rfl ?_
            refine QuietE.val (fun w H => x_load (v := .slice a n c) rfl Try.isAgg22 (H.look _) rfl) ?_
            refine QuietE.yes rfl ?_
            refine QuietE.call (fun w H => x_call (vl := [.slice _ _ _]) rfl Try.call25) (fun w H => Right_spec H hr1.more hn hk) ?_
            cases c5 : rightBo ws
            case false =>
              refine QuietE.yes rfl ?_
              refine QuietE.val (fun w H => x_not rfl) ?_
              refine QuietE.val (fun w H => x_pickF rfl rfl) ?_
              refine QuietE.val (fun w H => x_assign (v := .bool _) rfl) ?_
              refine QuietE.nil ?_
              intro w H
              refine Then.normal ?_
              refine WP.cond_t rfl rfl ?_
              refine WP.seq ?_
              refine WP.region ?_
              refine OpsE.val (x_assign (v := .int .i64 _) rfl) ?_
              refine OpsE.nil ?_
              refine Then.normal ?_
              refine WP.ret ?_
              refine InBlock.ret ?_
              refine Then.ret ?_
              refine Leave0.ret (v := .int .i64 _) rfl ?_
              exact .inl ⟨fun h => (by have := (rightBo_iff ws).2 h.2.2.2.2.1; rw [c5] at this; cases this), rfl, StP.open.2 H.tail⟩
            case true =>
              refine QuietE.yes rfl ?_
              refine QuietE.val (fun w H => x_not rfl) ?_
              refine QuietE.val (fun w H => x_pickF rfl rfl) ?_
              refine QuietE.val (fun w H => x_assign (v := .bool _) rfl) ?_
              refine QuietE.nil ?_
              intro w H
              refine Then.normal ?_
              refine WP.cond_f rfl rfl ?_
              refine WP.seq ?_
              refine WP.draw (fun w => Sat w _) (by kernel_rfl) (by kernel_rfl) (H.heap rfl) ?_
              refine QuietE.val (fun w H => x_move (v := .pointer _) rfl) ?_
              refine QuietE.val (fun w H => x_nilCheck rfl) ?_
              refine QuietE.val (fun w H => x_fieldAddr (o := 3) rfl Try.runUnderlying82 rfl rfl Try.sizeOf38) ?_
              refine QuietE.val (fun w H => x_load (v := .slice S.hist.ad S.hist.xs.length S.hist.cp) rfl Try.isAgg38 (H.look _) rfl) ?_
              refine QuietE.val (fun w H => x_lenL rfl rfl Try.runUnderlying38) ?_
              refine QuietE.val (fun w H => x_gt rfl rfl) ?_
              by_cases c6 : (S.hist.xs.length : Int) > 0
              · rw [decide_eq_true c6]
                refine QuietE.val (fun w H => x_move (v := .bool _) rfl) ?_
                refine QuietE.yes rfl ?_
                refine QuietE.val (fun w H => x_fieldAddr (o := 1) rfl Try.runUnderlying33 rfl rfl Try.sizeOf3) ?_
                refine QuietE.yes rfl ?_
                refine QuietE.val (fun w H => x_load (v := .int .i64 time) rfl Try.isAgg3 (H.look _) rfl) ?_
                refine QuietE.yes rfl ?_
                obtain ⟨hb, ho, B, fz, pre, post, had, hB, hBl, hpo⟩ := (Rw.rin_own (f := cmc) (T := TCm) (l := pt b3 (.cells [.int .i64 seq, .int .i64 time, .slice a n c].toArray TCm (0, 0)) :: S.h1 b :: S.t.ap :: TC.Lvs S.t.lv :: S.h4 :: S.hist.own cmc TCm :: S.h6 :: l) S.hist ok.hist).some (by omega)
                obtain ⟨cl, hcl⟩ : ∃ cl, S.hist.xs[S.hist.xs.length - 1]? = some cl := ⟨_, List.getElem?_eq_getElem (by omega)⟩
                refine QuietE.val (fun w H => x_move (v := .pointer _) rfl) ?_
                refine QuietE.yes rfl ?_
                refine QuietE.val (fun w H => x_nilCheck rfl) ?_
                refine QuietE.yes rfl ?_
                refine QuietE.val (fun w H => x_fieldAddr (o := 3) rfl Try.runUnderlying82 rfl rfl Try.sizeOf38) ?_
                refine QuietE.yes rfl ?_
                refine QuietE.val (fun w H => x_load (v := .slice (some ⟨hb, ho, none⟩) S.hist.xs.length S.hist.cp) rfl Try.isAgg38 (H.look _) (by rw [← had]; rfl)) ?_
                refine QuietE.yes rfl ?_
                refine QuietE.val (fun w H => x_move (v := .pointer _) rfl) ?_
                refine QuietE.yes rfl ?_
                refine QuietE.val (fun w H => x_nilCheck rfl) ?_
                refine QuietE.yes rfl ?_
                refine QuietE.val (fun w H => x_fieldAddr (o := 3) rfl Try.runUnderlying82 rfl rfl Try.sizeOf38) ?_
                refine QuietE.yes rfl ?_
                refine QuietE.val (fun w H => x_load (v := .slice (some ⟨hb, ho, none⟩) S.hist.xs.length S.hist.cp) rfl Try.isAgg38 (H.look _) (by rw [← had]; rfl)) ?_
                refine QuietE.yes rfl ?_
                refine QuietE.val (fun w H => x_lenL rfl rfl Try.runUnderlying38) ?_
                refine QuietE.yes rfl ?_
                refine QuietE.val (fun w H => x_sub (z := ((S.hist.xs.length - 1 : Nat) : Int)) rfl rfl (by rw [i64n (by omega) (by omega)]; omega)) ?_
                refine QuietE.yes rfl ?_
                refine QuietE.val (fun w H => x_indexAddro (i := S.hist.xs.length - 1) rfl rfl Try.runUnderlying38 Try.sizeOf33 rfl (by omega)) ?_
                refine QuietE.yes rfl ?_
                refine QuietE.val (fun w H => x_fieldAddr (o := 1) rfl Try.runUnderlying33 rfl rfl Try.sizeOf3) ?_
                refine QuietE.yes rfl ?_
                refine QuietE.val (fun w H => x_load (v := .int .i64 cl.time) rfl Try.isAgg3 (hB w H) (row_cell cmc_len hBl hpo (j := 1) hcl rfl)) ?_
                refine QuietE.yes rfl ?_
                refine QuietE.val (fun w H => x_lt rfl rfl) ?_
                by_cases c7 : time < cl.time
                · rw [decide_eq_true c7]
                  refine QuietE.val (fun w H => x_pickT rfl rfl) ?_
                  refine QuietE.val (fun w H => x_assign (v := .bool _) rfl) ?_
                  refine QuietE.nil ?_
                  intro w H
                  refine Then.normal ?_
                  refine WP.cond_t rfl rfl ?_
                  refine WP.seq ?_
                  refine WP.region ?_
                  refine OpsE.val (x_assign (v := .int .i64 _) rfl) ?_
                  refine OpsE.nil ?_
                  refine Then.normal ?_
                  refine WP.ret ?_
                  refine InBlock.ret ?_
                  refine Then.ret ?_
                  refine Leave0.ret (v := .int .i64 _) rfl ?_
                  refine .inl ⟨fun h => ?_, rfl, StP.open.2 H.tail⟩
                  have := h.2.2.2.2.2 cl (by rw [List.getLast?_eq_getElem?]; exact hcl)
                  omega
                · rw [decide_eq_false c7]
                  refine QuietE.val (fun w H => x_pickT rfl rfl) ?_
                  refine QuietE.val (fun w H => x_assign (v := .bool _) rfl) ?_
                  refine QuietE.nil ?_
                  intro w H
                  refine Then.normal ?_
                  refine WP.cond_f rfl rfl ?_
                  refine WP.skip ?_
                  refine InBlock.normal ?_
                  refine Then.normal ?_
                  refine ⟨rfl, (by repeat (first | exact Same.refl _ _ | refine Same.upd ?_ rfl)), ⟨by omega, by omega, by omega, by omega, (rightBo_iff ws).1 c5, fun c' hc' => ?_⟩, H⟩
                  rw [List.getLast?_eq_getElem?, hcl] at hc'
                  cases hc'; omega
              · rw [decide_eq_false c6]
                refine QuietE.val (fun w H => x_move (v := .bool _) rfl) ?_
                refine QuietE.no rfl ?_
                refine QuietE.no rfl ?_
                refine QuietE.no rfl ?_
                refine QuietE.no rfl ?_
                refine QuietE.no rfl ?_
                refine QuietE.no rfl ?_
                refine QuietE.no rfl ?_
                refine QuietE.no rfl ?_
                refine QuietE.no rfl ?_
                refine QuietE.no rfl ?_
                refine QuietE.no rfl ?_
                refine QuietE.no rfl ?_
                refine QuietE.no rfl ?_
                refine QuietE.no rfl ?_
                refine QuietE.no rfl ?_
                refine QuietE.no rfl ?_
                refine QuietE.val (fun w H => x_pickF rfl rfl) ?_
                refine QuietE.val (fun w H => x_assign (v := .bool _) rfl) ?_
                refine QuietE.nil ?_
                intro w H
                refine Then.normal ?_
                refine WP.cond_f rfl rfl ?_
                refine WP.skip ?_
                refine InBlock.normal ?_
                refine Then.normal ?_
                refine ⟨rfl, (by repeat (first | exact Same.refl _ _ | refine Same.upd ?_ rfl)), ⟨by omega, by omega, by omega, by omega, (rightBo_iff ws).1 c5, fun c' hc' => ?_⟩, H⟩
                have : S.hist.xs = [] := List.length_eq_zero_iff.1 (by omega)
                rw [this] at hc'; cases hc'
  · skip
    rintro E1 w hs ⟨hgood, H⟩
    obtain ⟨g1, g2, g3, g4, ⟨g5, g6⟩, g7⟩ := hgood
    refine WP.seq ?_
    refine WP.region ?_
    refine OpsE.val (x_fieldAddr (o := 2) (hs 3 rfl) Try.runUnderlying33 rfl rfl Try.sizeOf22) ?_
    refine OpsE.val (x_load (v := .slice a n c) rfl Try.isAgg22 (H.look _) rfl) ?_
    refine OpsE.call (x_call (vl := [.slice _ _ _]) rfl Try.call44) (CW.Clone_rin wrc_len wrc_one H hr1.more (by omega)) ?_
    rintro _ w ⟨r', rfl, hxs, hrO, H⟩
    refine OpsE.val (x_fieldAddr (o := 2) (hs 3 rfl) Try.runUnderlying33 rfl rfl Try.sizeOf22) ?_
    refine OpsE.store (v := .slice _ _ _) rfl rfl rfl rfl Try.sizeOf22 H (by simp) ?_
    intro w H
    refine OpsE.nil ?_
    refine Then.normal ?_
    refine WP.seq ?_
    obtain ⟨cm, hcm⟩ : ∃ cm : Cm, cm = ⟨seq, time, r'⟩ := ⟨_, rfl⟩
    have H0 : Sat w (S.hist.own cmc TCm :: pt b3 (.cells (cmc cm).toArray TCm (0, 0)) :: r'.own wrc TWr :: S.h1 b :: S.t.ap :: TC.Lvs S.t.lv :: S.h4 :: S.h6 :: l) := by
      have h1 : Sat w (pt b3 (.cells (cmc cm).toArray TCm (0, 0)) :: r'.own wrc TWr :: S.h1 b :: S.t.ap :: TC.Lvs S.t.lv :: S.h4 :: S.hist.own cmc TCm :: S.h6 :: l) := by rw [hcm]; exact H
      exact h1.perm (by simp only [stars_cons]; ac_rfl)
    replace H := H0
    have hcx : ∀ w, Sat w (pt b3 (.cells (cmc cm).toArray TCm (0, 0)) :: r'.own wrc TWr :: S.h1 b :: S.t.ap :: TC.Lvs S.t.lv :: S.h4 :: S.h6 :: l) → w.heap[b3]? = some (.cells (cmc cm).toArray TCm (0, 0)) := fun w H => H.look b3
    refine WP.mix (kdOf [0, 0, 0, 0, 0, 0, 1, 1]) (fun w => Sat w _) (by kernel_rfl) (by kernel_rfl) (fun w hw => Sat.heap (H.tail) hw) ?_
    intro w hw; replace H := H.heap hw; clear hw
    refine MixE.q rfl (fun w H => x_move (v := .pointer _) (hs 0 rfl)) ?_
    refine MixE.q rfl (fun w H => x_move (v := .pointer _) (hs 0 rfl)) ?_
    refine MixE.q rfl (fun w H => x_nilCheck rfl) ?_
    refine MixE.q rfl (fun w H => x_fieldAddr (o := 3) rfl Try.runUnderlying82 rfl rfl Try.sizeOf38) ?_
    refine MixE.q rfl (fun w H => x_load (v := S.hist.val) rfl Try.isAgg38 (H.look _) rfl) ?_
    refine MixE.q rfl (fun w H => x_loadA (vs := cmc cm) (hs 3 rfl) Try.isAgg33 Try.sizeOf33 (H.look _) rfl rfl) ?_
    refine MixE.one rfl ?_
    refine OpsE.buildSlice1 (vs := cmc cm) CM.K (by decide) rfl rfl rfl (by decide) H ?_
    intro g w H1
    refine OpsE.nil ⟨rfl, rfl, H1.tail.tail, ?_⟩
    refine MixE.one rfl ?_
    refine OpsE.append_rw (f := cmc) (r := S.hist) (ys := [cm]) rfl CM.K cmc_len cmc_one rfl rfl H1 ok.hist (H1.look g) (by simp) rfl (by decide) (by have := ok.hl; omega) (by have := ok.hl; omega) ?_
    intro h' w hh1 hh2 hh3 H
    refine OpsE.nil ⟨rfl, rfl, H.tail.tail, ?_⟩
    refine MixE.two _ (fun k _ => kdOf_ge (Nat.le_add_right _ _)) ?_
    refine OpsE.val (x_nilCheck rfl) ?_
    refine OpsE.val (x_fieldAddr (o := 3) rfl Try.runUnderlying82 rfl rfl Try.sizeOf38) ?_
    refine OpsE.store (v := .slice _ _ _) rfl rfl rfl rfl Try.sizeOf38 H (by show 3 < 4; decide) ?_
    intro w H
    refine OpsE.nil ?_
    refine Then.normal ?_
    refine WP.seq ?_
    refine WP.seq ?_
    have hlenw : r'.xs.length = n := by rw [hxs]; omega
    obtain ⟨S1, hS1⟩ : ∃ S1 : SC, S1 = { S with hist := h' } := ⟨_, rfl⟩
    have hS1h : S1.hist = h' := by rw [hS1]
    have H3 : Sat w (r'.own wrc TWr :: h'.own cmc TCm :: pt b3 (.cells (cmc cm).toArray TCm (0, 0)) :: S1.h1 b :: S1.t.ap :: TC.Lvs S1.t.lv :: S1.h4 :: stars (S.hist.xs.map cmH) :: l) := by
      have h1 : Sat w (pt b (.cells (S.cs.set 3 h'.val).toArray TSt (0, 0)) :: h'.own cmc TCm :: pt g (.cells (cmc cm).toArray TCm (0, 0)) :: pt b3 (.cells (cmc cm).toArray TCm (0, 0)) :: r'.own wrc TWr :: S.t.ap :: TC.Lvs S.t.lv :: S.h4 :: S.h6 :: l) := H
      have h2 := (h1.take (pt g (.cells (cmc cm).toArray TCm (0, 0)))).tail
      rw [hS1]
      exact Sat.perm (l := pt b (.cells (S.cs.set 3 h'.val).toArray TSt (0, 0)) :: h'.own cmc TCm :: pt b3 (.cells (cmc cm).toArray TCm (0, 0)) :: r'.own wrc TWr :: S.t.ap :: TC.Lvs S.t.lv :: stars (S.es.map Ent.hp) :: stars (S.hist.xs.map cmH) :: l) h2 (by
        show stars _ = stars (r'.own wrc TWr :: h'.own cmc TCm :: pt b3 (.cells (cmc cm).toArray TCm (0, 0)) :: pt b (.cells (S.cs.set 3 h'.val).toArray TSt (0, 0)) :: S.t.ap :: TC.Lvs S.t.lv :: stars (S.es.map Ent.hp) :: stars (S.hist.xs.map cmH) :: l)
        simp only [stars_cons]; ac_rfl)
    have H4 := (Rw.freeze H3).dup (Rw.ror_dup r')
    have H5 : Sat w (pt b3 (.cells (cmc cm).toArray TCm (0, 0)) :: r'.ror wrc TWr :: S1.h1 b :: S1.t.ap :: TC.Lvs S1.t.lv :: S1.h4 :: h'.own cmc TCm :: stars (h'.xs.map cmH) :: l) := by
        refine H4.perm ?_
        have e1 : stars (h'.xs.map cmH) = HP.sep (stars (S.hist.xs.map cmH)) (r'.ror wrc TWr) := by
          rw [hh1, List.map_append, stars_append, show stars ([cm].map cmH) = HP.sep (cmH cm) HP.one from rfl, HP.sep_one, hcm]; rfl
        simp only [stars_cons]
        rw [e1]
        ac_rfl
    replace H := H5
    have hh1l : h'.xs.length = S.hist.xs.length + 1 := by rw [hh1]; simp
    have hseq : S.low + h'.xs.length = seq := by rw [hh1l]; unfold SC.last at g1; omega
    have hs0 : 0 ≤ seq := by have := ok.low; omega
    have ok1 : S1.Ok N := by
      rw [hS1]
      refine ⟨ok.t, ok.its, fun e he => ?_, ok.num, hh2, fun c' hc' => ?_, ok.low, by show S.low + h'.xs.length ≤ _; omega, ok.N⟩
      · obtain ⟨h1, h2, h3⟩ := ok.es e he
        exact ⟨h1, h2, fun v hv => by have := h3 v hv; show v.seq ≤ S.low + h'.xs.length; omega⟩
      · have hc2 : c' ∈ h'.xs := hc'
        rw [hh1] at hc2
        rcases List.mem_append.1 hc2 with h | h
        · exact ok.ws c' h
        · rcases List.mem_singleton.1 h with rfl
          rw [hcm]; exact hrO
    have hfr : ∀ e ∈ S1.es, (∀ v ∈ e.vs, v.seq < seq) ∨ e.key ∈ (ws.take 0).map Wr.key := by
      rw [hS1]
      intro e he
      refine .inl fun v hv => ?_
      have := (ok.es e he).2.2 v hv
      unfold SC.last at g1; omega
    obtain ⟨ad, had⟩ : ∃ ad, r'.ad = ad := ⟨_, rfl⟩
    refine WP.region ?_
    refine OpsE.val (x_fieldAddr (o := 2) (hs 3 rfl) Try.runUnderlying33 rfl rfl Try.sizeOf22) ?_
    refine OpsE.val (x_load (v := .slice ad r'.xs.length r'.cp) rfl Try.isAgg22 (H.look _) (by rw [← had, hcm]; rfl)) ?_
    refine OpsE.val (x_lenL rfl rfl Try.runUnderlying22) ?_
    refine OpsE.val (x_move (v := .int .i64 _) rfl) ?_
    refine OpsE.nil ?_
    refine Then.normal ?_
    refine WP.block ?_
    refine WP.loopS [4, 6, 7, 8, 9, 10, 85, 86, 87, 88, 89, 90, 91, 92, 93, 94, 95, 96, 97, 98, 99, 100, 101, 102, 103, 104, 105, 106, 107, 108, 109, 110, 111, 112, 113, 114, 115, 116, 117, 118, 119, 120] (fun (i : Nat) E w => ∃ Si : SC, E 85 = .int .i64 (i : Int) ∧ i ≤ n ∧ Si.Ok (N + i) ∧ Si.low = S.low ∧ Si.hist = h' ∧ ek Si.es = (ws.take i).foldl (addK seq) (ek S.es) ∧ (∀ e ∈ Si.es, (∀ v ∈ e.vs, v.seq < seq) ∨ e.key ∈ (ws.take i).map Wr.key) ∧ Sat w (pt b3 (.cells (cmc cm).toArray TCm (0, 0)) :: r'.ror wrc TWr :: Si.h1 b :: Si.t.ap :: TC.Lvs Si.t.lv :: Si.h4 :: h'.own cmc TCm :: stars (h'.xs.map cmH) :: l)) (fun i => n - i) 0 ⟨S1, rfl, Nat.zero_le _, ok1, by rw [hS1], hS1h, by rw [hS1]; rfl, hfr, H⟩ ?_
    clear H
    rintro i E2 w hs2 ⟨Si, e85, hin, oki, hlowi, hhisti, heki, hfri, H⟩
    refine WP.seq ?_
    refine WP.region ?_
    refine OpsE.val (x_lt e85 (hs2 84 rfl)) ?_
    by_cases hlt : (i : Int) < (r'.xs.length : Int)
    · rw [decide_eq_true hlt]
      refine OpsE.nil ?_
      refine Then.normal ?_
      refine WP.seq ?_
      refine WP.cond_t rfl rfl ?_
      refine WP.skip ?_
      refine Then.normal ?_
      refine WP.seq ?_
      refine WP.block ?_
      refine WP.seq ?_
      obtain ⟨hb, ho, B, fz, pre, post, had2, hB, hBl, hpo⟩ := (Rw.rin_ror (f := wrc) (T := TWr) (l := pt b3 (.cells (cmc cm).toArray TCm (0, 0)) :: r'.ror wrc TWr :: Si.h1 b :: Si.t.ap :: TC.Lvs Si.t.lv :: Si.h4 :: h'.own cmc TCm :: stars (h'.xs.map cmH) :: l) r' hrO).some (by omega)
      rw [had] at had2
      subst had2
      rw [hxs] at hBl
      obtain ⟨x, hx⟩ : ∃ x, ws[i]? = some x := ⟨_, List.getElem?_eq_getElem (by omega)⟩
      obtain ⟨hx1, hx2, hx3, hx4, hx5⟩ := okTo_at g6 hx
      refine WP.region ?_
      refine OpsE.val (x_indexAddro (i := i) (hs2 83 rfl) e85 Try.runUnderlying22 Try.sizeOf26 rfl (by omega)) ?_
      refine OpsE.val (x_loadA (vs := wrc x) rfl Try.isAgg26 Try.sizeOf26 (hB w H) (row_el wrc_len hBl hpo hx) rfl) ?_
      refine OpsE.allocA Try.zeroValue26 H ?_
      intro b6 w H
      refine OpsE.storeA (vs := wrc x) rfl rfl Try.sizeOf26 H (wrc_one x) (Nat.le_refl _) ?_
      intro w H
      refine OpsE.nil ?_
      refine Then.normal ?_
      refine WP.seq ?_
      replace H : Sat w (pt b6 (.cells (wrc x).toArray TWr (0, 0)) :: pt b3 (.cells (cmc cm).toArray TCm (0, 0)) :: r'.ror wrc TWr :: Si.h1 b :: Si.t.ap :: TC.Lvs Si.t.lv :: Si.h4 :: h'.own cmc TCm :: stars (h'.xs.map cmH) :: l) := H
      replace H := H.take3 (Si.h1 b) Si.t.ap (TC.Lvs Si.t.lv)
      refine WP.draw (fun w => Sat w _) (by kernel_rfl) (by kernel_rfl) (H.heap rfl) ?_
      refine QuietE.val (fun w H => x_move (v := .pointer _) ((hs2 0 rfl).trans (hs 0 rfl))) ?_
      refine QuietE.val (fun w H => x_nilCheck rfl) ?_
      refine QuietE.val (fun w H => x_fieldAddr0 rfl Try.runUnderlying82 rfl rfl Try.sizeOf80) ?_
      refine QuietE.val (fun w H => x_fieldAddr0 rfl Try.runUnderlying26 rfl rfl Try.sizeOf9) ?_
      refine QuietE.val (fun w H => x_load (v := .string x.key) rfl Try.isAgg9 (H.look _) rfl) ?_
      refine QuietE.call (fun w H => x_call (vl := [.pointer _, .string _]) rfl Try.call45) (fun w H => TGet_spec H oki) ?_
      refine QuietE.val (fun w H => x_move (v := .tuple _) rfl) ?_
      refine QuietE.val (fun w H => x_extract (v := .slice _ _ _) rfl rfl) ?_
      refine QuietE.val (fun w H => x_extract (v := .bool _) rfl rfl) ?_
      refine QuietE.val (fun w H => x_assign (v := .slice _ _ _) rfl) ?_
      refine QuietE.val (fun w H => x_assign (v := .bool _) rfl) ?_
      refine QuietE.nil ?_
      intro w H
      refine Then.normal ?_
      refine WP.seq ?_
      refine WP.region ?_
      refine OpsE.val (x_move (v := .slice _ _ _) rfl) ?_
      refine OpsE.val (x_fieldAddr0 ((hs2 3 rfl).trans (hs 3 rfl)) Try.runUnderlying33 rfl rfl Try.sizeOf3) ?_
      refine OpsE.val (x_load (v := .int .i64 seq) rfl Try.isAgg3 (H.look _) (by rw [hcm]; rfl)) ?_
      refine OpsE.val (x_fieldAddr (o := 1) rfl Try.runUnderlying26 rfl rfl Try.sizeOf9) ?_
      refine OpsE.val (x_load (v := .string x.val) rfl Try.isAgg9 (H.look _) rfl) ?_
      refine OpsE.val (x_fieldAddr (o := 2) rfl Try.runUnderlying26 rfl rfl Try.sizeOf4) ?_
      refine OpsE.val (x_load (v := .bool x.gone) rfl Try.isAgg4 (H.look _) rfl) ?_
      refine OpsE.val (x_build3 (vl := [.int .i64 _, .string _, .bool _]) rfl Try.zeroValue90 Try.runUnderlying90 Try.sizeOf3 Try.sizeOf9 Try.sizeOf4 rfl) ?_
      have hvlt : ∀ v ∈ vsOf Si.es x.key, v.seq < seq := by
        rcases vsOf_mem (es := Si.es) (key := x.key) with h | ⟨e, he, hk1, hk2⟩
        · rw [h]; intro v hv; cases hv
        · rw [hk2]
          rcases hfri e he with h | h
          · exact h
          · exfalso
            obtain ⟨y, hy, hyk⟩ := List.mem_map.1 h
            obtain ⟨j, hj, ey⟩ := List.mem_take_iff_getElem.1 hy
            have hij : ws[i]'(by omega) = x := (List.getElem?_eq_some_iff.1 hx).2
            have := List.pairwise_iff_getElem.1 (okTo_srt g6) j i (by omega) (by omega) (by omega)
            rw [ey, hij, hyk, hk1] at this
            exact absurd this (by rw [slt_irrefl]; simp)
      have hcv : CVal (Si.h1 b :: Si.t.ap :: TC.Lvs Si.t.lv :: pt b6 (.cells (wrc x).toArray TWr (0, 0)) :: pt b3 (.cells (cmc cm).toArray TCm (0, 0)) :: r'.ror wrc TWr :: Si.h4 :: h'.own cmc TCm :: stars (h'.xs.map cmH) :: l) (tvOf Si.es x.key) (vsOf Si.es x.key) := cval_of oki x.key
      refine OpsE.call (x_call (vl := [.slice _ _ _, .agg _]) rfl Try.call46) (Put_spec (v := tvOf Si.es x.key) (vs := vsOf Si.es x.key) (y := ⟨seq, x.val, x.gone⟩) H hcv ⟨lastI_lt hs0 hvlt, hs0, g2, hx4⟩) ?_
      rintro _ w ⟨g2', c2, tl2, rfl, hc2, H⟩
      refine OpsE.val (x_move (v := .tuple _) rfl) ?_
      refine OpsE.val (x_extract (v := .slice _ _ _) rfl rfl) ?_
      refine OpsE.val (x_extract (v := .int .i64 _) rfl rfl) ?_
      refine OpsE.val (x_assign (v := .slice _ _ _) rfl) ?_
      refine OpsE.val (x_assign (v := .int .i64 _) rfl) ?_
      refine OpsE.nil ?_
      refine Then.normal ?_
      refine WP.seq ?_
      refine WP.seq ?_
      refine WP.region ?_
      refine OpsE.val (x_move (v := .int .i64 _) rfl) ?_
      refine OpsE.val (x_neI rfl rfl) ?_
      rw [decide_eq_false (by decide)]
      refine OpsE.nil ?_
      refine Then.normal ?_
      refine WP.cond_f rfl rfl ?_
      refine WP.skip ?_
      refine Then.normal ?_
      obtain ⟨e', he'⟩ : ∃ e' : Ent, e' = ⟨x.key, g2', c2, vsOf Si.es x.key ++ [⟨seq, x.val, x.gone⟩], tl2⟩ := ⟨_, rfl⟩
      replace H := H.take3 (Si.h1 b) Si.t.ap (TC.Lvs Si.t.lv)
      refine WP.mix (kdOf [0, 0, 0, 0, 0, 0]) (fun w => Sat w _) (by kernel_rfl) (by kernel_rfl) (fun w hw => Sat.heap (H) hw) ?_
      intro w hw; replace H := H.heap hw; clear hw
      refine MixE.q rfl (fun w H => x_move (v := .pointer _) ((hs2 0 rfl).trans (hs 0 rfl))) ?_
      refine MixE.q rfl (fun w H => x_nilCheck rfl) ?_
      refine MixE.q rfl (fun w H => x_fieldAddr0 rfl Try.runUnderlying82 rfl rfl Try.sizeOf80) ?_
      refine MixE.q rfl (fun w H => x_fieldAddr0 rfl Try.runUnderlying26 rfl rfl Try.sizeOf9) ?_
      refine MixE.q rfl (fun w H => x_load (v := .string x.key) rfl Try.isAgg9 (H.look _) rfl) ?_
      refine MixE.q rfl (fun w H => x_move (v := .slice _ _ _) rfl) ?_
      refine MixE.two _ (fun k _ => kdOf_ge (Nat.le_add_right _ _)) ?_
      refine OpsE.call (x_call (vl := [.pointer _, .string _, .slice _ _ _]) rfl Try.call47) (TC.Put_spec (u := (some ⟨g2', 0, none⟩, (vsOf Si.es x.key).length + 1, c2)) H oki.hd oki.t (by rw [oki.its, List.length_map]; have := oki.num; omega)) ?_
      rintro _ w ⟨bb, t', rfl, ht1, ht2, H⟩
      refine OpsE.nil ?_
      refine InBlock.normal ?_
      refine Then.normal ?_
      refine WP.region ?_
      refine OpsE.val (x_add (z := ((i + 1 : Nat) : Int)) e85 rfl (by rw [i64n (by omega) (by omega)]; omega)) ?_
      refine OpsE.val (x_move (v := .int .i64 _) rfl) ?_
      refine OpsE.nil ?_
      refine Then.normal ?_
      have hsq : Si.low + Si.hist.xs.length = seq := by rw [hlowi, hhisti]; exact hseq
      have hvl : (vsOf Si.es x.key).length ≤ N + i := by
        rcases vsOf_mem (es := Si.es) (key := x.key) with h | ⟨e, he, hk1, hk2⟩
        · rw [h]; exact Nat.zero_le _
        · rw [hk2]; exact (oki.es e he).2.1
      have hnx : VNext (vsOf Si.es x.key) ⟨seq, x.val, x.gone⟩ := ⟨lastI_lt hs0 hvlt, hs0, g2, hx4⟩
      have heO : e'.Ok := by
        rw [he']
        exact ⟨hcv.ok.snoc hnx (by omega), by simp, by simpa using hc2⟩
      have okn := oki.put (by omega) ht1 (by rw [ht2, he']; unfold Ent.it; simp) heO (by rw [he']; simp; omega) (fun v hv => by
        rw [he'] at hv
        rcases List.mem_append.1 hv with hv | hv
        · have := hvlt v hv; omega
        · rcases List.mem_singleton.1 hv with rfl
          show seq ≤ _; omega)
      refine ⟨rfl, (by repeat (first | exact hs2 | refine Same.upd ?_ rfl)), i + 1, by omega, { Si with t := t', es := insE Si.es e' }, rfl, by omega, okn, hlowi, hhisti, ?_, ?_, ?_⟩
      · show ek (insE Si.es e') = _
        rw [insE_ek, heki, he', List.take_add_one, hx, Option.toList_some, List.foldl_append, ← heki]
        show putK (ek Si.es) (x.key, vsOf Si.es x.key ++ _) = putK (ek Si.es) (x.key, vsK (ek Si.es) x.key ++ _)
        rw [vsOf_ek]
      · intro e he
        rw [List.take_add_one, hx, Option.toList_some, List.map_append]
        rcases mem_insE he with rfl | ⟨he, _⟩
        · refine .inr (List.mem_append.2 (.inr ?_)); rw [he']; simp
        · rcases hfri e he with h | h
          · exact .inl h
          · exact .inr (List.mem_append.2 (.inl h))
      · have h1 : Sat w (TC.hd b (SC.cs { Si with t := t', es := insE Si.es e' }) TSt :: t'.ap :: TC.Lvs t'.lv :: e'.hp :: pt b6 (.cells (wrc x).toArray TWr (0, 0)) :: pt b3 (.cells (cmc cm).toArray TCm (0, 0)) :: r'.ror wrc TWr :: stars (Si.es.map Ent.hp) :: h'.own cmc TCm :: stars (h'.xs.map cmH) :: l) := by rw [he']; exact H
        have h2 := sat_insE (Sat.take2 h1 (stars (Si.es.map Ent.hp)) e'.hp)
        have h3 := (h2.take (pt b6 (.cells (wrc x).toArray TWr (0, 0)))).tail
        exact h3.perm (by
          show stars _ = stars (pt b3 (.cells (cmc cm).toArray TCm (0, 0)) :: r'.ror wrc TWr :: TC.hd b (SC.cs { Si with t := t', es := insE Si.es e' }) TSt :: t'.ap :: TC.Lvs t'.lv :: stars ((insE Si.es e').map Ent.hp) :: h'.own cmc TCm :: stars (h'.xs.map cmH) :: l)
          simp only [stars_cons]; ac_rfl)
    · rw [decide_eq_false hlt]
      refine OpsE.nil ?_
      refine Then.normal ?_
      refine WP.seq ?_
      refine WP.cond_f rfl rfl ?_
      refine WP.exit ?_
      refine Then.exit ?_
      refine Then.exit ?_
      refine InBlock.hit ?_
      refine Then.normal ?_
      refine WP.seq ?_
      refine WP.region ?_
      refine OpsE.val (x_assign (v := .int .i64 _) rfl) ?_
      refine OpsE.nil ?_
      refine Then.normal ?_
      refine WP.ret ?_
      refine Leave0.ret (v := .int .i64 _) rfl ?_
      have hie : i = n := by omega
      rw [hie] at oki heki
      refine .inr ⟨⟨g1, g2, g3, g4, ⟨g5, g6⟩, g7⟩, rfl, Si, oki, hlowi, ?_, ?_, ?_⟩
      · rw [hhisti, hh1, List.map_append, hcm, ← hxs]; rfl
      · rw [heki, hlen, List.take_length]
      · refine StP.open.2 ?_
        have h1 := (H.take (pt b3 (.cells (cmc cm).toArray TCm (0, 0)))).tail
        have h2 := (h1.take (r'.ror wrc TWr)).tail
        rw [← hhisti] at h2
        exact h2
end Go.Proofs.Ytbhbdpbhhfemhaa

/-
  Maps whose keys are strings: their objects, and what the operations on them come to. Nothing of the program.
-/
namespace Go.Proofs.Ytbhbdpbhhfemhaa
open Go
set_option linter.unusedVariables false

structure Me where
  key : ByteArray
  val : Value
  born : Nat
def Me.ent (e : Me) : MapEntry := ⟨.string e.key, e.val, e.born⟩
abbrev mapO (es : List Me) (ck : Nat) : Obj := .map (es.map Me.ent).toArray ck
structure MOk (es : List Me) (ck : Nat) : Prop where
  keys : es.Pairwise (fun a b => a.key ≠ b.key)
  born : es.Pairwise (fun a b => a.born < b.born)
  lt : ∀ e ∈ es, e.born < ck

def findM (k : ByteArray) : List Me → Nat → Option (Nat × Value)
  | [], _ => none
  | e :: es, i => if e.key = k then some (i, e.val) else findM k es (i + 1)
def setM (k : ByteArray) (v : Value) : List Me → List Me
  | [] => []
  | e :: es => if e.key = k then { e with val := v } :: es else e :: setM k v es
def getM (es : List Me) (k : ByteArray) : Option Value := (es.find? fun e => decide (e.key = k)).map Me.val
def delM (k : ByteArray) : List Me → List Me
  | [] => []
  | e :: es => if e.key = k then es else e :: delM k es
/-- a map with an entry put in -/
def updM (es : List Me) (ck : Nat) (k : ByteArray) (v : Value) : List Me × Nat := match findM k es 0 with
  | some _ => (setM k v es, ck)
  | none => (es ++ [⟨k, v, ck⟩], ck + 1)

theorem ba_beq (a b : ByteArray) : (a == b) = decide (a = b) := by rw [beq_toListBytes]; exact eq_toList

theorem findNow_eq (k : ByteArray) : ∀ (es : List Me) (i : Nat), Instr.findNow .string (.string k) (es.map Me.ent) i = some (findM k es i)
  | [], _ => rfl
  | e :: es, i => by
    have ih := findNow_eq k es (i + 1)
    rw [List.map_cons]
    have e1 : Instr.sameNow .string (.string k) e.ent.key = some (decide (k = e.key)) := by
      show some (k == e.key) = _
      rw [ba_beq]
    conv => lhs; unfold Instr.findNow
    simp only [e1]
    conv => rhs; unfold findM
    by_cases h : e.key = k
    · rw [decide_eq_true h.symm, if_pos h]; rfl
    · rw [decide_eq_false (fun h' => h (Eq.symm h')), if_neg h]; exact ih
theorem findM_get (k : ByteArray) : ∀ (es : List Me) (i : Nat), (findM k es i).map Prod.snd = getM es k
  | [], _ => rfl
  | e :: es, i => by
    have ih := findM_get k es (i + 1)
    conv => lhs; unfold findM
    unfold getM at *
    by_cases h : e.key = k
    · rw [if_pos h, List.find?_cons_of_pos (by simpa using h)]; rfl
    · rw [if_neg h, List.find?_cons_of_neg (by simpa using h)]; exact ih
theorem findM_some {k : ByteArray} : ∀ {es : List Me} {i j : Nat} {v : Value}, findM k es i = some (j, v) → ∃ d e, j = i + d ∧ es[d]? = some e ∧ e.key = k ∧
    (∀ u, ((es.map Me.ent).modify d fun x => { x with key := .string k, val := u }) = (setM k u es).map Me.ent) ∧ (es.map Me.ent).eraseIdx d = (delM k es).map Me.ent
  | [], _, _, _, h => by cases h
  | e :: es, i, j, v, h => by
    unfold findM at h
    by_cases hk : e.key = k
    · rw [if_pos hk] at h; cases h
      refine ⟨0, e, rfl, rfl, hk, fun u => ?_, ?_⟩
      · unfold setM; rw [if_pos hk]; subst hk; rfl
      · unfold delM; rw [if_pos hk]; rfl
    · rw [if_neg hk] at h
      obtain ⟨d, e', h1, h2, h3, h4, h5⟩ := findM_some h
      refine ⟨d + 1, e', by omega, h2, h3, fun u => ?_, ?_⟩
      · unfold setM; rw [if_neg hk, List.map_cons, List.map_cons, List.modify_succ_cons, h4 u]
      · unfold delM; rw [if_neg hk, List.map_cons, List.map_cons, List.eraseIdx_cons_succ, h5]

theorem getM_none {es : List Me} {k : ByteArray} (h : ∀ e ∈ es, e.key ≠ k) : getM es k = none := by
  unfold getM; rw [List.find?_eq_none.2 fun e he => by simpa using h e he]; rfl
theorem setM_keys (k : ByteArray) (v : Value) : ∀ es : List Me, (setM k v es).map (fun e => (e.key, e.born)) = es.map (fun e => (e.key, e.born))
  | [] => rfl
  | e :: es => by
    unfold setM
    by_cases h : e.key = k
    · rw [if_pos h]; rfl
    · rw [if_neg h, List.map_cons, List.map_cons, setM_keys k v es]
theorem getM_set (k : ByteArray) (v : Value) (q : ByteArray) : ∀ es : List Me, getM (setM k v es) q = if q = k ∧ (getM es k).isSome then some v else getM es q
  | [] => by simp [setM, getM]
  | e :: es => by
    have ih := getM_set k v q es
    unfold setM
    by_cases h : e.key = k
    · rw [if_pos h]
      by_cases hq : q = k
      · subst hq
        simp [getM, h]
      · have : ¬ e.key = q := fun h' => hq (h'.symm.trans h)
        simp [getM, hq, this]
    · rw [if_neg h]
      by_cases hq : e.key = q
      · have : ¬ q = k := fun h' => h (hq.trans h')
        simp [getM, hq, this]
      · have e1 : getM (e :: setM k v es) q = getM (setM k v es) q := by simp [getM, hq]
        have e2 : getM (e :: es) q = getM es q := by simp [getM, hq]
        have e3 : getM (e :: es) k = getM es k := by simp [getM, h]
        rw [e1, e2, e3, ih]
theorem getM_upd (es : List Me) (ck : Nat) (k : ByteArray) (v : Value) (q : ByteArray) : getM (updM es ck k v).1 q = if q = k then some v else getM es q := by
  unfold updM
  have hf := findM_get k es 0
  cases h : findM k es 0 with
  | some p =>
    rw [h] at hf
    show getM (setM k v es) q = _
    rw [getM_set, ← hf]; simp
  | none =>
    rw [h] at hf
    show getM (es ++ [⟨k, v, ck⟩]) q = _
    by_cases hq : q = k
    · subst hq
      have hn : es.find? (fun e => decide (e.key = q)) = none := by
        cases h2 : es.find? (fun e => decide (e.key = q)) with
        | none => rfl
        | some e => unfold getM at hf; rw [h2] at hf; cases hf
      simp [getM, List.find?_append, hn]
    · have : ¬ k = q := fun h' => hq h'.symm
      simp [getM, List.find?_append, hq, this]
theorem MOk.upd {es : List Me} {ck : Nat} (h : MOk es ck) (k : ByteArray) (v : Value) : MOk (updM es ck k v).1 (updM es ck k v).2 := by
  unfold updM
  have hf := findM_get k es 0
  cases hc : findM k es 0 with
  | some p =>
    have hk := setM_keys k v es
    have key : ∀ R : (ByteArray × Nat) → (ByteArray × Nat) → Prop, es.Pairwise (fun a b => R (a.key, a.born) (b.key, b.born)) → (setM k v es).Pairwise (fun a b => R (a.key, a.born) (b.key, b.born)) := by
      intro R hR
      have h1 := (List.pairwise_map (f := fun e : Me => (e.key, e.born)) (R := R)).2 hR
      rw [← hk] at h1
      exact List.pairwise_map.1 h1
    refine ⟨key (fun a b => a.1 ≠ b.1) h.keys, key (fun a b => a.2 < b.2) h.born, fun e he => ?_⟩
    have h2 : (e.key, e.born) ∈ es.map (fun e => (e.key, e.born)) := by rw [← hk]; exact List.mem_map.2 ⟨e, he, rfl⟩
    obtain ⟨e', he', heq⟩ := List.mem_map.1 h2
    have := h.lt e' he'
    have h3 : e'.born = e.born := (Prod.mk.inj heq).2
    show e.born < ck
    omega
  | none =>
    rw [hc] at hf
    refine ⟨List.pairwise_append.2 ⟨h.keys, List.pairwise_singleton _ _, fun a ha b hb => ?_⟩, List.pairwise_append.2 ⟨h.born, List.pairwise_singleton _ _, fun a ha b hb => ?_⟩, fun e he => ?_⟩
    · rcases List.mem_singleton.1 hb with rfl
      intro hk
      unfold getM at hf
      cases h2 : es.find? (fun e => decide (e.key = k)) with
      | none => have := List.find?_eq_none.1 h2 a ha; simp at this; exact this hk
      | some e => rw [h2] at hf; cases hf
    · rcases List.mem_singleton.1 hb with rfl
      exact h.lt a ha
    · rcases List.mem_append.1 he with he | he
      · have := h.lt e he; show e.born < ck + 1; omega
      · rcases List.mem_singleton.1 he with rfl
        exact Nat.lt_succ_self _

section
variable {P : Program} {N : Nat} {ops : Array Oper} {Q : Post} {rest : List Oper} {E : Env} {ds : List Deferred} {w : World} {ty T kt vt : TypeId} {x y z : Operand} {l : List HP} {d : Nat} {pos : String} {af : Array Edge}

theorem run_setMap {w : World} {m : Nat} {o o' : Obj} {l : List HP} (ho : ∀ c t f, o ≠ .cells c t f) (H : Sat w (pt m o :: l)) : ∃ w', (setObj m o').run P w = .ok () w' ∧ Sat w' (pt m o' :: l) := by
  have hb := H.pt_get
  refine ⟨{ w with heap := w.heap.setIfInBounds m o' }, by
    unfold setObj; simp only [Sem.run, hb], ?_⟩
  have hlt := Sat.lt hb
  refine H.set (by simp [hlt]) fun k hk => ?_
  simp only [Array.getElem?_setIfInBounds]
  rw [if_neg (fun h => hk h.symm)]
theorem run_findKey {w : World} {k : ByteArray} {es : List Me} (hk : P.underlying kt = some .string) : (Instr.findKey kt (.string k) (es.map Me.ent)).run P w = .ok (findM k es 0) w := by
  simp [Instr.findKey, run_underlying hk, findNow_eq]
theorem run_checkKey {w : World} {k : ByteArray} {e : Bool} (hk : P.underlying kt = some .string) : (Instr.checkKey e 10000 kt (.string k)).run P w = .ok () w := by
  show (Instr.checkKey e (9999 + 1) kt (.string k)).run P w = _
  generalize 9999 = n
  simp [Instr.checkKey, run_underlying hk]
theorem run_stays {w : World} {k : ByteArray} : (Instr.keyThatStays (.string k) (.string k)).run P w = .ok (.string k) w := by
  have h : Instr.sameBits 10000 (.string k) (.string k) = true := by
    show (k == k) = true
    rw [ba_beq]; simp
  simp [Instr.keyThatStays, h]

theorem run_mapUpdate {m : Nat} {es : List Me} {ck : Nat} {k : ByteArray} {v : Value} {w : World} {l : List HP} (hT : P.underlying T = some (.map kt vt)) (hk : P.underlying kt = some .string) (H : Sat w (pt m (mapO es ck) :: l)) :
    ∃ w', (Instr.mapUpdate T (.map (some m)) (.string k) v).run P w = .ok () w' ∧ Sat w' (pt m (mapO (updM es ck k v).1 (updM es ck k v).2) :: l) := by
  have hb := H.pt_get
  have hg : (getObj m).run P w = .ok (mapO es ck) w := by simp [getObj, Sem.run, hb]
  unfold updM
  cases hf : findM k es 0 with
  | none =>
    obtain ⟨w', h1, h2⟩ := run_setMap (P := P) (o' := mapO (es ++ [⟨k, v, ck⟩]) (ck + 1)) (fun _ _ _ h => by cases h) H
    refine ⟨w', ?_, h2⟩
    have e1 : (es.map Me.ent).toArray.push { key := .string k, val := v, born := ck } = ((es ++ [(⟨k, v, ck⟩ : Me)]).map Me.ent).toArray := by apply Array.ext'; simp [Me.ent]
    simp [Instr.mapUpdate, run_underlying hT, hg, run_checkKey hk, run_findKey hk, hf, e1]
    have h1' := h1
    simp only [mapO, List.map_append, List.map_cons, List.map_nil] at h1'
    exact h1'
  | some p =>
    obtain ⟨j, u⟩ := p
    obtain ⟨d, e, rfl, he, hek, hset, _⟩ := findM_some hf
    obtain ⟨w', h1, h2⟩ := run_setMap (P := P) (o' := mapO (setM k v es) ck) (fun _ _ _ h => by cases h) H
    refine ⟨w', ?_, h2⟩
    have e1 : (es.map Me.ent).toArray.modify d (fun e => { e with key := .string k, val := v }) = ((setM k v es).map Me.ent).toArray := by apply Array.ext'; rw [← hset v]; simp
    have e2 : ((es.map Me.ent).toArray[d]?).map (·.key) = some (.string k) := by simp [he, Me.ent, hek]
    simp only [Nat.zero_add] at hf
    simp [Instr.mapUpdate, run_underlying hT, hg, run_checkKey hk, run_findKey hk, hf, he, Me.ent, hek, run_stays]
    simp [Me.ent] at e1
    rw [e1, h1]

theorem OpsE.mapUpdate {m : Nat} {es : List Me} {ck : Nat} {k : ByteArray} {v : Value} {r : List HP} (hT : P.underlying T = some (.map kt vt)) (hk : P.underlying kt = some .string) (hx : evE E x = .map (some m)) (hy : evE E y = .string k) (hz : evE E z = v)
    (H : Sat w l) [tk : TakePt l m (mapO es ck) r] (k' : ∀ w', Sat w' (pt m (mapO (updM es ck k v).1 (updM es ck k v).2) :: r) → OpsE P N ops Q rest E ds w') :
    OpsE P N ops Q (⟨none, .mapUpdate T x y z, ty, pos, af, none⟩ :: rest) E ds w := by
  obtain ⟨w', h1, h2⟩ := run_mapUpdate (k := k) (v := v) hT hk (H.takePt m)
  refine OpsE.skip ?_ (k' w' h2)
  simp [xop, execOp, hx, hy, hz, h1]
theorem OpsE.makeMap (H : Sat w l) (k : ∀ m w', Sat w' (pt m (mapO [] 0) :: l) → OpsE P N ops Q rest (upd N E d (.map (some m))) ds w') :
    OpsE P N ops Q (⟨some d, .makeMap T none, ty, pos, af, none⟩ :: rest) E ds w := by
  refine OpsE.val (v := .map (some w.heap.size)) (w' := { w with heap := w.heap.push (mapO [] 0) }) ?_ (k _ _ (H.new rfl))
  simp [xop, execOp, Instr.makeMap, newObj, Sem.run, mapO]
end
end Go.Proofs.Ytbhbdpbhhfemhaa

/-
  Maps whose keys are strings: lookup, delete, len, and ranges over them. Nothing of the program.
-/
namespace Go.Proofs.Ytbhbdpbhhfemhaa
open Go
set_option linter.unusedVariables false

section
variable {P : Program} {N : Nat} {ops : Array Oper} {Q : Post} {rest : List Oper} {E : Env} {ds : List Deferred} {w : World} {ty T kt vt : TypeId} {x y z : Operand} {l : List HP} {d : Nat} {pos : String} {af : Array Edge}

/-- v, ok := m[k] -/
theorem x_lookup2 {m : Nat} {es : List Me} {ck : Nat} {k : ByteArray} {zv : Value} (hx : evE E x = .map (some m)) (hy : evE E y = .string k) (hT : P.underlying T = some (.map kt vt)) (hk : P.underlying kt = some .string) (hz : ∀ w, (zeroValue vt).run P w = .ok zv w)
    (hb : w.heap[m]? = some (mapO es ck)) : (xop E (.lookup T x y true) ty).run P w = .ok (.value (.tuple #[(getM es k).getD zv, .bool (getM es k).isSome])) w := by
  have hg : (getObj m).run P w = .ok (mapO es ck) w := by simp [getObj, Sem.run, hb]
  have hf := findM_get k es 0
  simp [xop, execOp, hx, hy, Instr.lookup, run_underlying hT, hg, run_checkKey hk, run_findKey hk]
  cases h : findM k es 0 with
  | none => rw [h] at hf; simp [hz, ← hf]
  | some p => rw [h] at hf; simp [← hf]
theorem x_lookup1 {m : Nat} {es : List Me} {ck : Nat} {k : ByteArray} {zv : Value} (hx : evE E x = .map (some m)) (hy : evE E y = .string k) (hT : P.underlying T = some (.map kt vt)) (hk : P.underlying kt = some .string) (hz : ∀ w, (zeroValue vt).run P w = .ok zv w)
    (hb : w.heap[m]? = some (mapO es ck)) : (xop E (.lookup T x y false) ty).run P w = .ok (.value ((getM es k).getD zv)) w := by
  have hg : (getObj m).run P w = .ok (mapO es ck) w := by simp [getObj, Sem.run, hb]
  have hf := findM_get k es 0
  simp [xop, execOp, hx, hy, Instr.lookup, run_underlying hT, hg, run_checkKey hk, run_findKey hk]
  cases h : findM k es 0 with
  | none => rw [h] at hf; simp [hz, ← hf]
  | some p => rw [h] at hf; simp [← hf]
theorem x_lenM {ats : Array TypeId} {m : Nat} {es : List Me} {ck : Nat} (hx : evE E x = .map (some m)) (ht : ats[0]? = some T) (hT : P.underlying T = some (.map kt vt)) (hb : w.heap[m]? = some (mapO es ck)) :
    (xop E (.call { callee := .builtin .len, args := #[x], argTypes := ats }) ty).run P w = .ok (.value (.int .i64 (es.length : Int))) w := by
  have hg : (getObj m).run P w = .ok (mapO es ck) w := by simp [getObj, Sem.run, hb]
  simp [xop, execOp, resolve, hx, invoke, builtin, Builtin.len_, ht, run_underlying hT, hg, goInt]

theorem delM_sub (k : ByteArray) : ∀ es : List Me, (delM k es).Sublist es
  | [] => List.Sublist.refl _
  | e :: es => by
    unfold delM
    by_cases h : e.key = k
    · rw [if_pos h]; exact List.sublist_cons_self _ _
    · rw [if_neg h]; exact (delM_sub k es).cons_cons e
theorem delM_none {k : ByteArray} : ∀ {es : List Me}, findM k es 0 = none → delM k es = es := by
  have key : ∀ (es : List Me) (i : Nat), findM k es i = none → delM k es = es := by
    intro es
    induction es with
    | nil => exact fun _ _ => rfl
    | cons e es ih =>
      intro i h
      unfold findM at h; unfold delM
      by_cases hk : e.key = k
      · rw [if_pos hk] at h; cases h
      · rw [if_neg hk] at h ⊢; rw [ih _ h]
  exact fun {es} h => key es 0 h
theorem MOk.del {es : List Me} {ck : Nat} (h : MOk es ck) (k : ByteArray) : MOk (delM k es) ck :=
  ⟨h.keys.sublist (delM_sub k es), h.born.sublist (delM_sub k es), fun e he => h.lt e ((delM_sub k es).subset he)⟩
theorem getM_del {es : List Me} {ck : Nat} (h : MOk es ck) (k q : ByteArray) : getM (delM k es) q = if q = k then none else getM es q := by
  have hk := h.keys
  clear h
  induction es with
  | nil => simp [delM, getM]
  | cons e es ih =>
    obtain ⟨h1, h2⟩ := List.pairwise_cons.1 hk
    unfold delM
    by_cases hek : e.key = k
    · rw [if_pos hek]
      by_cases hq : q = k
      · rw [if_pos hq]
        exact getM_none fun x hx => by rw [hq, ← hek]; exact (h1 x hx).symm
      · rw [if_neg hq]
        have : ¬ e.key = q := fun h' => hq (h'.symm.trans hek)
        simp [getM, this]
    · rw [if_neg hek]
      by_cases hq : e.key = q
      · have : ¬ q = k := fun h' => hek (hq.trans h')
        rw [if_neg this]; simp [getM, hq]
      · have e1 : getM (e :: delM k es) q = getM (delM k es) q := by simp [getM, hq]
        have e2 : getM (e :: es) q = getM es q := by simp [getM, hq]
        rw [e1, e2, ih h2]
theorem OpsE.delete {d : Option Nat} {ats : Array TypeId} {m : Nat} {es : List Me} {ck : Nat} {k : ByteArray} {r : List HP} (ht : ats[0]? = some T) (hT : P.underlying T = some (.map kt vt)) (hk : P.underlying kt = some .string) (hx : evE E x = .map (some m)) (hy : evE E y = .string k)
    (H : Sat w l) [tk : TakePt l m (mapO es ck) r] (k' : ∀ w', Sat w' (pt m (mapO (delM k es) ck) :: r) → OpsE P N ops Q rest (putE N d E (.tuple #[])) ds w') :
    OpsE P N ops Q (⟨d, .call { callee := .builtin .delete, args := #[x, y], argTypes := ats }, ty, pos, af, none⟩ :: rest) E ds w := by
  have H' := H.takePt m
  have hb := H'.pt_get
  have hg : (getObj m).run P w = .ok (mapO es ck) w := by simp [getObj, Sem.run, hb]
  obtain ⟨w', h1, h2⟩ := run_setMap (P := P) (o' := mapO (delM k es) ck) (fun _ _ _ h => by cases h) H'
  have hrun : (xop E (.call { callee := .builtin .delete, args := #[x, y], argTypes := ats }) ty).run P w = .ok (.value (.tuple #[])) w' := by
    simp [xop, execOp, resolve, hx, hy, invoke, builtin, Builtin.delete_, ht, run_underlying hT, hg, run_checkKey hk, run_findKey hk]
    cases h : findM k es 0 with
    | none => rw [delM_none h] at h1; simp [h1]
    | some p =>
      obtain ⟨j, u⟩ := p
      obtain ⟨dd, e, rfl, he, hek, _, hdel⟩ := findM_some h
      have e1 : (es.map Me.ent).toArray.eraseIdxIfInBounds (0 + dd) = ((delM k es).map Me.ent).toArray := by
        apply Array.ext'
        rw [← hdel]; simp
      rw [Nat.zero_add] at e1 ⊢
      simp [hdel, h1]
  have k2 := k' w' h2
  cases d with
  | none => exact OpsE.val0 hrun k2
  | some d => exact OpsE.val hrun k2

/-! ### ranges -/
theorem OpsE.range {m : Nat} {es : List Me} {ck : Nat} (hT : P.underlying T = some (.map kt vt)) (hx : evE E x = .map (some m)) (H : Sat w l) [t : Look l m (mapO es ck)]
    (k : ∀ it w', Sat w' (pt it (.mapIter (some m) ck #[] ck) :: l) → OpsE P N ops Q rest (upd N E d (.pointer (some ⟨it, 0, none⟩))) ds w') :
    OpsE P N ops Q (⟨some d, .range T x, ty, pos, af, none⟩ :: rest) E ds w := by
  have hg : (getObj m).run P w = .ok (mapO es ck) w := by simp [getObj, Sem.run, H.look m]
  refine OpsE.val (v := .pointer (some ⟨w.heap.size, 0, none⟩)) (w' := { w with heap := w.heap.push (.mapIter (some m) ck #[] ck) }) ?_ (k _ _ (H.new rfl))
  simp [xop, execOp, hx, Instr.range, run_underlying hT, hg, newObj, Sem.run]

def seenO (m ck : Nat) (vis : List Me) : Obj := .mapIter (some m) ck (vis.map Me.born).toArray ck
/-- the entries that are left -/
def leftM (es vis : List Me) : List Me := es.filter fun e => !(vis.map Me.born).contains e.born

theorem run_choose_next {w : World} (n : Nat) (hn : 0 < n) : ∃ i w', (choose (.mapNext n)).run P w = .ok i w' ∧ i < n ∧ World.core w' = World.core w := by
  rw [run_choose]
  by_cases h : n ≤ 1
  · exact ⟨0, w, by rw [if_pos (by simpa [Question.forced] using h)], by omega, rfl⟩
  · exact ⟨_, { w with drawn := w.drawn + 1 }, by rw [if_neg (by simpa [Question.forced] using h)], by show _ % n < n; exact Nat.mod_lt _ hn, rfl⟩

theorem OpsE.next {m it : Nat} {es vis : List Me} {ck : Nat} {r : List HP} (hx : evE E x = .pointer (some ⟨it, 0, none⟩)) (H : Sat w l) [tk : TakePt l it (seenO m ck vis) r] [t : Look r m (mapO es ck)] (ok : MOk es ck)
    (kend : leftM es vis = [] → ∀ w', Sat w' (pt it (seenO m ck vis) :: r) → OpsE P N ops Q rest (upd N E d (.tuple #[.bool false])) ds w')
    (knext : ∀ e, e ∈ leftM es vis → ∀ w', Sat w' (pt it (seenO m ck (vis ++ [e])) :: r) → OpsE P N ops Q rest (upd N E d (.tuple #[.bool true, .string e.key, e.val])) ds w') :
    OpsE P N ops Q (⟨some d, .next x false, ty, pos, af, none⟩ :: rest) E ds w := by
  have H' := H.takePt it
  have hb := H'.pt_get
  have hm := H'.tail.look m (o := mapO es ck)
  have hg1 : (getObj it).run P w = .ok (seenO m ck vis) w := by simp [getObj, Sem.run, hb, seenO]
  have hg2 : (getObj m).run P w = .ok (mapO es ck) w := by simp [getObj, Sem.run, hm]
  have hall : (!(vis.map Me.born).toArray.isEmpty && !((es.map Me.ent).toArray).isEmpty && ((es.map Me.ent).toArray).all fun e => decide (e.born ≥ ck)) = false := by
    cases es with
    | nil => simp
    | cons e es =>
      have := ok.lt e (by simp)
      have h2 : decide (e.ent.born ≥ ck) = false := decide_eq_false (by show ¬ e.born ≥ ck; omega)
      have h3 : (((e :: es).map Me.ent).toArray).all (fun e => decide (e.born ≥ ck)) = false := by
        simp only [List.all_toArray, List.map_cons, List.all_cons]; rw [h2]; rfl
      rw [h3, Bool.and_false]
  have hleft : ((es.map Me.ent).toArray.filter fun e => !((vis.map Me.born).toArray.contains e.born)) = ((leftM es vis).map Me.ent).toArray := by
    apply Array.ext'
    simp only [Array.toList_filter, leftM, List.filter_map]
    congr 1
    apply List.filter_congr
    intro e _
    simp [Me.ent]
    exact decide_eq_decide.2 Iff.rfl
  have hold : (((leftM es vis).map Me.ent).toArray.filter fun e => decide (e.born < ck)) = ((leftM es vis).map Me.ent).toArray := by
    apply Array.ext'
    simp only [Array.toList_filter]
    refine List.filter_eq_self.2 fun e he => ?_
    obtain ⟨e', he', rfl⟩ := List.mem_map.1 he
    have := ok.lt e' (List.mem_filter.1 he').1
    exact decide_eq_true this
  have hnew : (((leftM es vis).map Me.ent).toArray.filter fun e => decide (e.born ≥ ck)) = #[] := by
    apply Array.ext'
    simp only [Array.toList_filter]
    refine List.filter_eq_nil_iff.2 fun e he => ?_
    obtain ⟨e', he', rfl⟩ := List.mem_map.1 he
    have := ok.lt e' (List.mem_filter.1 he').1
    simp [Me.ent]; omega
  have hgo : (Instr.next (.pointer (some ⟨it, 0, none⟩)) false ty).run P w = (do
      let candidates := (if (((leftM es vis).map Me.ent).toArray).isEmpty then #[none] else #[]) ++ ((((leftM es vis).map Me.ent).toArray ++ #[]).map some)
      match candidates[← choose (.mapNext candidates.size)]? with
      | some (some e) =>
        setObj it (.mapIter (some m) ck ((vis.map Me.born).toArray.push e.born) ck)
        pure (.tuple #[.bool true, e.key, e.val])
      | some none => pure (.tuple #[.bool false])
      | none => stuck "Next: no such candidate" : Sem Value).run P w := by
    unfold Instr.next
    simp only [Sem.run_bind, hg1, hg2, Result.andThen, seenO, mapO, hall, hleft, hold, hnew]
    rw [if_neg (by simp), Sem.run_bind]
    rfl
  have hxo : (xop E (.next x false) ty).run P w = ((Instr.next (.pointer (some ⟨it, 0, none⟩)) false ty).run P w).andThen fun v w' => .ok (.value v) w' := by
    simp [xop, execOp, hx]
  cases hl : leftM es vis with
  | nil =>
    rw [hl] at hgo
    obtain ⟨i, w', h1, h2, h3⟩ := run_choose_next (P := P) (w := w) 1 (by omega)
    have hi : i = 0 := by omega
    subst hi
    refine OpsE.val (v := .tuple #[.bool false]) (w' := w') ?_ (kend hl w' (H'.heap h3))
    rw [hxo, hgo]
    have hc : (if ((([] : List Me).map Me.ent).toArray).isEmpty = true then (#[none] : Array (Option MapEntry)) else #[]) ++ (((([] : List Me).map Me.ent).toArray ++ #[]).map some) = #[none] := by apply Array.ext'; simp
    dsimp only
    rw [hc, Sem.run_bind, show (#[none] : Array (Option MapEntry)).size = 1 from rfl, h1]
    rfl
  | cons e0 lf =>
    obtain ⟨i, w', h1, h2, h3⟩ := run_choose_next (P := P) (w := w) (leftM es vis).length (by rw [hl]; simp)
    obtain ⟨e, he⟩ : ∃ e, (leftM es vis)[i]? = some e := ⟨_, List.getElem?_eq_getElem h2⟩
    obtain ⟨w2, h4, h5⟩ := run_setMap (P := P) (o' := seenO m ck (vis ++ [e])) (fun _ _ _ h => by cases h) (H'.heap h3)
    refine OpsE.val (v := .tuple #[.bool true, .string e.key, e.val]) (w' := w2) ?_ (knext e (List.mem_of_getElem? he) w2 h5)
    rw [hxo, hgo]
    have hne : (((leftM es vis).map Me.ent).toArray).isEmpty = false := by rw [hl]; rfl
    have hs : ((vis.map Me.born).toArray.push e.born) = ((vis ++ [e]).map Me.born).toArray := by apply Array.ext'; simp
    have hsz : ((((leftM es vis).map Me.ent).toArray).map some).size = (leftM es vis).length := by simp
    have hc : (if (((leftM es vis).map Me.ent).toArray).isEmpty = true then (#[none] : Array (Option MapEntry)) else #[]) ++ ((((leftM es vis).map Me.ent).toArray ++ #[]).map some) = (((leftM es vis).map Me.ent).map some).toArray := by
      rw [hne]; simp
    dsimp only
    rw [hc, Sem.run_bind]
    have hsz2 : ((((leftM es vis).map Me.ent).map some).toArray).size = (leftM es vis).length := by simp
    rw [hsz2, h1]
    have hget : ((((leftM es vis).map Me.ent).map some).toArray)[i]? = some (some e.ent) := by simp [he]
    simp only [Result.andThen, hget]
    have h4' : (setObj it (.mapIter (some m) ck ((vis.map Me.born).toArray.push e.ent.born) ck)).run P w' = .ok () w2 := by
      have : (vis.map Me.born).toArray.push e.ent.born = ((vis ++ [e]).map Me.born).toArray := hs
      rw [this]; exact h4
    rw [Sem.run_bind, h4']
    rfl

theorem find_born {es : List Me} {e : Me} (hb : es.Pairwise (fun a b => a.born < b.born)) (he : e ∈ es) : (es.map Me.ent).find? (fun x => x.born == e.born) = some e.ent := by
  induction es with
  | nil => cases he
  | cons x es ih =>
    obtain ⟨h1, h2⟩ := List.pairwise_cons.1 hb
    rw [List.map_cons]
    rcases List.mem_cons.1 he with rfl | he
    · rw [List.find?_cons_of_pos (by simp [Me.ent])]
    · have := h1 e he
      rw [List.find?_cons_of_neg (by simp [Me.ent]; omega)]
      exact ih h2 he
theorem x_entry {m it : Nat} {es vis : List Me} {ck : Nat} {e : Me} (hx : evE E x = .pointer (some ⟨it, 0, none⟩)) (hi : w.heap[it]? = some (seenO m ck (vis ++ [e]))) (hm : w.heap[m]? = some (mapO es ck)) (ok : MOk es ck) (he : e ∈ es) :
    (xop E (.entry x) ty).run P w = .ok (.value (.tuple #[.string e.key, e.val])) w := by
  have hg1 : (getObj it).run P w = .ok (seenO m ck (vis ++ [e])) w := by simp [getObj, Sem.run, hi, seenO]
  have hg2 : (getObj m).run P w = .ok (mapO es ck) w := by simp [getObj, Sem.run, hm]
  have hf : ((es.map Me.ent).toArray).find? (fun x => x.born == e.born) = some e.ent := by
    rw [List.find?_toArray]; exact find_born ok.born he
  have hbk : (((vis ++ [e]).map Me.born).toArray).back? = some e.born := by simp
  have hgo : (Instr.entry (.pointer (some ⟨it, 0, none⟩))).run P w = .ok (.tuple #[.string e.key, e.val]) w := by
    unfold Instr.entry
    simp only [Sem.run_bind, hg1, hg2, Result.andThen, seenO, mapO, hbk]
    simp [hf, Me.ent]
  simp [xop, execOp, hx, hgo]
end
end Go.Proofs.Ytbhbdpbhhfemhaa

/-
  The store: Vacuum, its first part: which keys go, and which chains are cut.
-/
namespace Go.Proofs.Ytbhbdpbhhfemhaa
open Go Go.Proofs
set_option maxRecDepth 100000
set_option maxHeartbeats 8000000
set_option linter.unusedVariables false

def strc (s : ByteArray) : List Value := [.string s]
theorem strc_len (s : ByteArray) : (strc s).length = 1 := rfl
theorem strc_one (s : ByteArray) : ∀ u ∈ strc s, u.oneCell' = true := by intro u hu; rcases List.mem_singleton.1 hu with rfl; rfl
theorem KS : ElemOk Try.prog 92 9 1 16 (.string ByteArray.empty) := ⟨Try.underlying92, ⟨Try.t9, Try.type9, rfl, rfl, rfl⟩, rfl⟩

theorem slt_empty (s : ByteArray) : slt s ByteArray.empty = false := by
  cases h : slt s ByteArray.empty with
  | false => rfl
  | true =>
    unfold slt at h
    have e : ByteArray.empty.toList = [] := by rw [toList_data]; rfl
    rw [e] at h
    cases hs : s.toList <;> rw [hs] at h <;> simp [Op.bytesLess] at h
theorem geL_empty (l : List TC.It) : TC.geL ByteArray.empty l = l := by
  unfold TC.geL
  exact List.filter_eq_self.2 fun y _ => by rw [slt_empty]; rfl

def gonB (q : Int) (e : Ent) : Bool := (cutv e.vs q).isEmpty
def cutB (q : Int) (e : Ent) : Bool := !(cutv e.vs q).isEmpty && decide ((cutv e.vs q).length < e.vs.length)
def mes (cu : List Ent) : List Me := cu.zipIdx.map fun p => ⟨p.1.key, TC.tvv p.1.it.val, p.2⟩
structure CutOk (es : List Ent) (q : Int) (i : Nat) (g : Rw ByteArray) (cu : List Ent) : Prop where
  gx : g.xs = ((es.take i).filter (gonB q)).map Ent.key
  gok : g.Ok 1
  cx : ek cu = ((es.take i).filter (cutB q)).map fun e => (e.key, cutv e.vs q)
  cok : ∀ e ∈ cu, e.Ok

theorem mes_len (cu : List Ent) : (mes cu).length = cu.length := by simp [mes]
theorem mes_snoc (cu : List Ent) (e : Ent) : mes (cu ++ [e]) = mes cu ++ [⟨e.key, TC.tvv e.it.val, cu.length⟩] := by
  unfold mes; rw [List.zipIdx_append]; simp
theorem mes_get (cu : List Ent) (i : Nat) : (mes cu)[i]? = (cu[i]?).map fun e => (⟨e.key, TC.tvv e.it.val, i⟩ : Me) := by
  unfold mes; rw [List.getElem?_map, List.getElem?_zipIdx]; cases cu[i]? <;> simp
theorem mes_ok {cu : List Ent} (h : cu.Pairwise (fun a b => a.key ≠ b.key)) : MOk (mes cu) cu.length := by
  have hg : ∀ i (hi : i < (mes cu).length), (mes cu)[i] = ⟨(cu[i]'(by rw [mes_len] at hi; exact hi)).key, TC.tvv (cu[i]'(by rw [mes_len] at hi; exact hi)).it.val, i⟩ := by
    intro i hi
    have h1 := mes_get cu i
    rw [List.getElem?_eq_getElem hi, List.getElem?_eq_getElem (by rw [mes_len] at hi; exact hi)] at h1
    simpa using h1
  refine ⟨List.pairwise_iff_getElem.2 fun i j hi hj hij => ?_, List.pairwise_iff_getElem.2 fun i j hi hj hij => ?_, fun e he => ?_⟩
  · rw [hg i hi, hg j hj]
    exact List.pairwise_iff_getElem.1 h i j (by rw [mes_len] at hi; exact hi) (by rw [mes_len] at hj; exact hj) hij
  · rw [hg i hi, hg j hj]; exact hij
  · obtain ⟨i, hi, rfl⟩ := List.mem_iff_getElem.1 he
    rw [hg i hi]
    rw [mes_len] at hi; exact hi
theorem findM_none_of {k : ByteArray} : ∀ {es : List Me} {i : Nat}, (∀ e ∈ es, e.key ≠ k) → findM k es i = none
  | [], _, _ => rfl
  | e :: es, i, h => by
    unfold findM
    rw [if_neg (h e (by simp))]
    exact findM_none_of fun x hx => h x (by simp [hx])
theorem updM_mes {cu : List Ent} {e : Ent} (h : ∀ x ∈ cu, x.key ≠ e.key) : updM (mes cu) cu.length e.key (TC.tvv e.it.val) = (mes (cu ++ [e]), (cu ++ [e]).length) := by
  unfold updM
  rw [findM_none_of (fun x hx => ?_), mes_snoc]
  · simp
  · unfold mes at hx
    obtain ⟨p, hp, rfl⟩ := List.mem_map.1 hx
    exact h p.1 (List.fst_mem_of_mem_zipIdx hp)
theorem VOk.cut {vs : List Ver} (h : VOk vs) (q : Int) : VOk (cutv vs q) :=
  ⟨h.srt.sublist (List.drop_sublist _ _), fun v hv => h.bd v (List.mem_of_mem_drop hv), by unfold cutv; rw [List.length_drop]; have := h.len; omega⟩
theorem SC.Ok.srt {S : SC} {N : Nat} (ok : S.Ok N) : S.es.Pairwise (fun a b => slt a.key b.key = true) := by
  have := ok.t.ok.srt
  rw [ok.its] at this
  exact List.pairwise_map.1 this

theorem CutOk.start (es : List Ent) (q : Int) : CutOk es q 0 ⟨[], none⟩ [] := ⟨rfl, Rw.empty_ok, rfl, fun _ h => by cases h⟩
theorem CutOk.gon {es : List Ent} {q : Int} {i : Nat} {g g' : Rw ByteArray} {cu : List Ent} {e : Ent} (h : CutOk es q i g cu) (he : es[i]? = some e) (h1 : (cutv e.vs q).length = 0) (hg : g'.xs = g.xs ++ [e.key]) (ho : g'.Ok 1) : CutOk es q (i + 1) g' cu := by
  have h2 : (cutv e.vs q).isEmpty = true := by simpa using h1
  refine ⟨?_, ho, ?_, h.cok⟩
  · rw [hg, h.gx, List.take_add_one, he, Option.toList_some, List.filter_append]
    simp [gonB, h2]
  · rw [h.cx, List.take_add_one, he, Option.toList_some, List.filter_append]
    simp [cutB, h2]
theorem CutOk.cut {es : List Ent} {q : Int} {i : Nat} {g : Rw ByteArray} {cu : List Ent} {e e' : Ent} (h : CutOk es q i g cu) (he : es[i]? = some e) (h1 : (cutv e.vs q).length ≠ 0) (h2 : (cutv e.vs q).length < e.vs.length) (hk : e'.key = e.key) (hv : e'.vs = cutv e.vs q) (ho : e'.Ok) : CutOk es q (i + 1) g (cu ++ [e']) := by
  have h3 : (cutv e.vs q).isEmpty = false := by
    cases hc : cutv e.vs q with
    | nil => rw [hc] at h1; simp at h1
    | cons a b => rfl
  refine ⟨?_, h.gok, ?_, fun x hx => ?_⟩
  · rw [h.gx, List.take_add_one, he, Option.toList_some, List.filter_append]
    simp [gonB, h3]
  · have : ek (cu ++ [e']) = ek cu ++ [(e'.key, e'.vs)] := by simp [ek]
    rw [this, h.cx, List.take_add_one, he, Option.toList_some, List.filter_append, hk, hv]
    simp [cutB, h3, h2]
  · rcases List.mem_append.1 hx with hx | hx
    · exact h.cok x hx
    · rcases List.mem_singleton.1 hx with rfl; exact ho
theorem CutOk.no {es : List Ent} {q : Int} {i : Nat} {g : Rw ByteArray} {cu : List Ent} {e : Ent} (h : CutOk es q i g cu) (he : es[i]? = some e) (h1 : (cutv e.vs q).length ≠ 0) (h2 : ¬ (cutv e.vs q).length < e.vs.length) : CutOk es q (i + 1) g cu := by
  have h3 : (cutv e.vs q).isEmpty = false := by
    cases hc : cutv e.vs q with
    | nil => rw [hc] at h1; simp at h1
    | cons a b => rfl
  refine ⟨?_, h.gok, ?_, h.cok⟩
  · rw [h.gx, List.take_add_one, he, Option.toList_some, List.filter_append]
    simp [gonB, h3]
  · rw [h.cx, List.take_add_one, he, Option.toList_some, List.filter_append]
    simp [cutB, h2]
theorem CutOk.glen {es : List Ent} {q : Int} {i : Nat} {g : Rw ByteArray} {cu : List Ent} (h : CutOk es q i g cu) : g.xs.length ≤ es.length := by
  rw [h.gx, List.length_map]
  exact Nat.le_trans (List.length_filter_le _ _) (by rw [List.length_take]; exact Nat.min_le_right _ _)
theorem CutOk.new {es : List Ent} {q : Int} {i : Nat} {g : Rw ByteArray} {cu : List Ent} {e : Ent} (h : CutOk es q i g cu) (hs : es.Pairwise (fun a b => slt a.key b.key = true)) (he : es[i]? = some e) : ∀ x ∈ cu, x.key ≠ e.key := by
  intro x hx
  have h1 : (x.key, x.vs) ∈ ek cu := List.mem_map.2 ⟨x, hx, rfl⟩
  rw [h.cx] at h1
  obtain ⟨y, hy, hxy⟩ := List.mem_map.1 h1
  obtain ⟨j, hj, ey⟩ := List.mem_take_iff_getElem.1 (List.mem_filter.1 hy).1
  obtain ⟨hi, ei⟩ := List.getElem?_eq_some_iff.1 he
  have h2 := List.pairwise_iff_getElem.1 hs j i (by omega) hi (by omega)
  rw [ey, ei] at h2
  have h3 : y.key = x.key := (Prod.mk.inj hxy).1
  rw [← h3]; exact slt_ne h2
theorem CutOk.keys {es : List Ent} {q : Int} {i : Nat} {g : Rw ByteArray} {cu : List Ent} (h : CutOk es q i g cu) (hs : es.Pairwise (fun a b => slt a.key b.key = true)) : cu.Pairwise (fun a b => a.key ≠ b.key) := by
  have h1 : (ek cu).Pairwise (fun a b => a.1 ≠ b.1) := by
    rw [h.cx]
    refine List.pairwise_map.2 ?_
    refine ((hs.sublist (List.take_sublist i es)).filter _).imp fun hab => slt_ne hab
  exact (List.pairwise_map (f := fun e : Ent => (e.key, e.vs)) (R := fun a b => a.1 ≠ b.1)).1 h1
end Go.Proofs.Ytbhbdpbhhfemhaa

/-
  The store: Vacuum, plain facts of its loops.
-/
namespace Go.Proofs.Ytbhbdpbhhfemhaa
open Go Go.Proofs
set_option linter.unusedVariables false

theorem mem_delE {es : List Ent} {key : ByteArray} {x : Ent} : x ∈ delE es key ↔ x ∈ es ∧ x.key ≠ key := by
  unfold delE loE hiE
  rw [List.mem_append, List.mem_filter, List.mem_filter]
  constructor
  · rintro (⟨h1, h2⟩ | ⟨h1, h2⟩)
    · exact ⟨h1, slt_ne h2⟩
    · exact ⟨h1, (slt_ne h2).symm⟩
  · rintro ⟨h1, h2⟩
    rcases slt_tri x.key key with h | h | h
    · exact .inl ⟨h1, h⟩
    · exact absurd h h2
    · exact .inr ⟨h1, h⟩
theorem mem_insE' {es : List Ent} {e x : Ent} : x ∈ insE es e ↔ x = e ∨ (x ∈ es ∧ x.key ≠ e.key) := by
  refine ⟨mem_insE, ?_⟩
  unfold insE loE hiE
  rw [List.mem_append, List.mem_cons, List.mem_filter, List.mem_filter]
  rintro (h | ⟨h1, h2⟩)
  · exact .inr (.inl h)
  · rcases slt_tri x.key e.key with h | h | h
    · exact .inl ⟨h1, h⟩
    · exact absurd h h2
    · exact .inr (.inr ⟨h1, h⟩)
theorem len_insE_old {es : List Ent} {e x : Ent} (hx : x ∈ es) (hk : x.key = e.key) : (insE es e).length ≤ es.length := by
  obtain ⟨L, R, rfl⟩ := List.append_of_mem hx
  have h1 := len_lohiE L e.key
  have h2 := len_lohiE R e.key
  unfold insE loE hiE at *
  rw [List.filter_append, List.filter_append, List.filter_cons_of_neg (by rw [hk, slt_irrefl]; simp), List.filter_cons_of_neg (by rw [hk, slt_irrefl]; simp)]
  simp only [List.length_append, List.length_cons] at *
  omega
theorem SC.Ok.put_old {S : SC} {N : Nat} (ok : S.Ok N) {t' : TC.Tr} {e x : Ent} (hx : x ∈ S.es) (hk : x.key = e.key) (ht : t'.Ok) (hall : TC.all t'.lv = TC.putL (TC.all S.t.lv) e.it) (he : e.Ok) (hv : e.vs.length ≤ N) (hb : ∀ v ∈ e.vs, v.seq ≤ S.low + S.hist.xs.length) :
    SC.Ok N { S with t := t', es := insE S.es e } := by
  refine ⟨ht, ?_, fun y hy => ?_, ?_, ok.hist, ok.ws, ok.low, ok.last, ok.N⟩
  · rw [hall, ok.its]; exact (insE_it S.es e).symm
  · rcases mem_insE hy with rfl | ⟨hy, _⟩
    · exact ⟨he, hv, hb⟩
    · exact ok.es y hy
  · have := len_insE_old hx hk
    have := ok.num
    show (insE S.es e).length ≤ _
    omega
theorem SC.Ok.drop {S : SC} {N : Nat} (ok : S.Ok N) {t' : TC.Tr} {key : ByteArray} (ht : t'.Ok) (hall : TC.all t'.lv = TC.dropL (TC.all S.t.lv) key) : SC.Ok N { S with t := t', es := delE S.es key } := by
  refine ⟨ht, ?_, fun y hy => ok.es y (mem_delE.1 hy).1, ?_, ok.hist, ok.ws, ok.low, ok.last, ok.N⟩
  · rw [hall, ok.its]; exact (delE_it S.es key).symm
  · have := len_lohiE S.es key
    have := ok.num
    show (delE S.es key).length ≤ _
    unfold delE; rw [List.length_append]; omega
theorem mem_delEs {ks : List ByteArray} : ∀ {es : List Ent} {x : Ent}, x ∈ ks.foldl delE es ↔ x ∈ es ∧ x.key ∉ ks := by
  induction ks with
  | nil => intro es x; simp
  | cons k ks ih =>
    intro es x
    rw [List.foldl_cons, ih, mem_delE, List.mem_cons]
    constructor
    · rintro ⟨⟨h1, h2⟩, h3⟩
      exact ⟨h1, fun h => h.elim h2 h3⟩
    · rintro ⟨h1, h2⟩
      exact ⟨⟨h1, fun h => h2 (.inl h)⟩, fun h => h2 (.inr h)⟩
theorem hp_get {w : World} {cu : List Ent} {e : Ent} {l : List HP} (he : e ∈ cu) (H : Sat w (stars (cu.map Ent.hp) :: l)) : Sat w (e.hp :: stars (cu.map Ent.hp) :: l) := by
  have H1 := H.dup (hp_dup cu)
  obtain ⟨i, hi, rfl⟩ := List.mem_iff_getElem.1 he
  have h1 := H1.star_out (f := Ent.hp) (k := i) (y := cu[i]) (by simp)
  exact h1.second
def meP (p : Ent × Nat) : Me := ⟨p.1.key, TC.tvv p.1.it.val, p.2⟩
theorem left_mes {cu : List Ent} {ves : List (Ent × Nat)} {x : Me} (hx : x ∈ leftM (mes cu) (ves.map meP)) : ∃ p : Ent × Nat, x = meP p ∧ cu[p.2]? = some p.1 := by
  have h1 := (List.mem_filter.1 hx).1
  obtain ⟨i, hi, rfl⟩ := List.mem_iff_getElem.1 h1
  have h2 := mes_get cu i
  rw [List.getElem?_eq_getElem hi] at h2
  cases h3 : cu[i]? with
  | none => rw [h3] at h2; cases h2
  | some e => rw [h3] at h2; exact ⟨(e, i), Option.some.inj h2, h3⟩
theorem left_nil {cu : List Ent} {ves : List (Ent × Nat)} (hv : ∀ p ∈ ves, cu[p.2]? = some p.1) (h : leftM (mes cu) (ves.map meP) = []) : ∀ e ∈ cu, e ∈ ves.map Prod.fst := by
  intro e he
  obtain ⟨i, hi, rfl⟩ := List.mem_iff_getElem.1 he
  have h2 := mes_get cu i
  rw [List.getElem?_eq_getElem hi] at h2
  have hm := List.mem_of_getElem? h2
  have h3 : ¬ ((⟨cu[i].key, TC.tvv cu[i].it.val, i⟩ : Me) ∈ leftM (mes cu) (ves.map meP)) := by rw [h]; simp
  have h4 : i ∈ (ves.map meP).map Me.born := by
    by_cases hc : i ∈ (ves.map meP).map Me.born
    · exact hc
    · exact absurd (List.mem_filter.2 ⟨hm, by simpa using hc⟩) h3
  rw [List.map_map] at h4
  obtain ⟨p, hp, hpi⟩ := List.mem_map.1 h4
  have h5 := hv p hp
  have h6 : p.2 = i := hpi
  rw [h6, List.getElem?_eq_getElem hi] at h5
  exact List.mem_map.2 ⟨p, hp, (Option.some.inj h5).symm⟩
theorem left_lt {cu : List Ent} {ves : List (Ent × Nat)} {p : Ent × Nat} (hx : meP p ∈ leftM (mes cu) (ves.map meP)) : (leftM (mes cu) ((ves ++ [p]).map meP)).length < (leftM (mes cu) (ves.map meP)).length := by
  have hsub : ∀ e : Me, (!(((ves ++ [p]).map meP).map Me.born).contains e.born) = true → (!((ves.map meP).map Me.born).contains e.born) = true := by
    intro e; simp only [List.map_append, List.map_cons, List.map_nil, List.contains_eq_mem, Bool.not_eq_true', decide_eq_false_iff_not, List.mem_append]
    exact fun h h' => h (.inl h')
  have h1 : leftM (mes cu) ((ves ++ [p]).map meP) = (leftM (mes cu) (ves.map meP)).filter fun e => !(((ves ++ [p]).map meP).map Me.born).contains e.born := by
    unfold leftM
    rw [List.filter_filter]
    apply List.filter_congr
    intro e _
    by_cases hc : (!(((ves ++ [p]).map meP).map Me.born).contains e.born) = true
    · rw [hc, hsub e hc]; rfl
    · simp only [Bool.not_eq_true] at hc; rw [hc]; rfl
  rw [h1]
  refine List.length_filter_lt_length_iff_exists.2 ⟨meP p, hx, ?_⟩
  simp [meP]

theorem mem_insEs {L : List Ent} (hd : ∀ a ∈ L, ∀ b ∈ L, a.key = b.key → a = b) : ∀ {es : List Ent} {x : Ent}, x ∈ L.foldl insE es ↔ x ∈ L ∨ (x ∈ es ∧ ∀ y ∈ L, y.key ≠ x.key) := by
  induction L with
  | nil => intro es x; simp
  | cons a L ih =>
    intro es x
    rw [List.foldl_cons, ih (fun p hp r hr => hd p (by simp [hp]) r (by simp [hr])), mem_insE']
    constructor
    · rintro (h | ⟨h | ⟨h1, h2⟩, h3⟩)
      · exact .inl (by simp [h])
      · exact .inl (by simp [h])
      · refine .inr ⟨h1, fun y hy => ?_⟩
        rcases List.mem_cons.1 hy with rfl | hy
        · exact fun h => h2 h.symm
        · exact h3 y hy
    · rintro (h | ⟨h1, h2⟩)
      · rcases List.mem_cons.1 h with rfl | h
        · by_cases hx : x ∈ L
          · exact .inl hx
          · exact .inr ⟨.inl rfl, fun y hy hyk => hx (by rw [← hd y (by simp [hy]) x (by simp) hyk]; exact hy)⟩
        · exact .inl h
      · exact .inr ⟨.inr ⟨h1, fun h => h2 a (by simp) h.symm⟩, fun y hy => h2 y (by simp [hy])⟩

theorem key_inj {es : List Ent} (hs : es.Pairwise (fun a b => slt a.key b.key = true)) {x y : Ent} (hx : x ∈ es) (hy : y ∈ es) (h : x.key = y.key) : x = y := by
  obtain ⟨i1, hi1, e1⟩ := List.mem_iff_getElem.1 hx
  obtain ⟨i2, hi2, e2⟩ := List.mem_iff_getElem.1 hy
  rcases Nat.lt_trichotomy i1 i2 with h' | h' | h'
  · have := List.pairwise_iff_getElem.1 hs i1 i2 hi1 hi2 h'
    rw [e1, e2, h, slt_irrefl] at this; cases this
  · subst h'; rw [← e1, ← e2]
  · have := List.pairwise_iff_getElem.1 hs i2 i1 hi2 hi1 h'
    rw [e1, e2, h, slt_irrefl] at this; cases this
theorem cu_inj {cu : List Ent} (hk : cu.Pairwise (fun a b => a.key ≠ b.key)) {x y : Ent} (hx : x ∈ cu) (hy : y ∈ cu) (h : x.key = y.key) : x = y := by
  obtain ⟨i1, hi1, e1⟩ := List.mem_iff_getElem.1 hx
  obtain ⟨i2, hi2, e2⟩ := List.mem_iff_getElem.1 hy
  rcases Nat.lt_trichotomy i1 i2 with h' | h' | h'
  · have := List.pairwise_iff_getElem.1 hk i1 i2 hi1 hi2 h'
    rw [e1, e2] at this; exact absurd h this
  · subst h'; rw [← e1, ← e2]
  · have := List.pairwise_iff_getElem.1 hk i2 i1 hi2 hi1 h'
    rw [e1, e2] at this; exact absurd h.symm this

/-- what Vacuum leaves -/
theorem vac_ek {es : List Ent} {q : Int} {g : Rw ByteArray} {cu L : List Ent} (hs : es.Pairwise (fun a b => slt a.key b.key = true)) (hco : CutOk es q es.length g cu) (hL : ∀ e ∈ L, e ∈ cu) (hall : ∀ e ∈ cu, e ∈ L) (k : ByteArray) (vs : List Ver) :
    (k, vs) ∈ ek (L.foldl insE (g.xs.foldl delE es)) ↔ vs ≠ [] ∧ ∃ vs0, (k, vs0) ∈ ek es ∧ vs = cutv vs0 q := by
  have hck := hco.keys hs
  have hLd : ∀ a ∈ L, ∀ b ∈ L, a.key = b.key → a = b := fun a ha b hb h => cu_inj hck (hL a ha) (hL b hb) h
  have hgx : ∀ kk, kk ∈ g.xs ↔ ∃ e ∈ es, e.key = kk ∧ gonB q e = true := by
    intro kk
    rw [hco.gx, List.take_length]
    simp only [List.mem_map, List.mem_filter]
    exact ⟨fun ⟨e, ⟨h1, h2⟩, h3⟩ => ⟨e, h1, h3, h2⟩, fun ⟨e, h1, h3, h2⟩ => ⟨e, ⟨h1, h2⟩, h3⟩⟩
  have hcx : ∀ p, p ∈ ek cu ↔ ∃ e ∈ es, cutB q e = true ∧ (e.key, cutv e.vs q) = p := by
    intro p
    rw [hco.cx, List.take_length]
    simp only [List.mem_map, List.mem_filter]
    exact ⟨fun ⟨e, ⟨h1, h2⟩, h3⟩ => ⟨e, h1, h2, h3⟩, fun ⟨e, h1, h2, h3⟩ => ⟨e, ⟨h1, h2⟩, h3⟩⟩
  constructor
  · intro h
    obtain ⟨x, hx, hxp⟩ := List.mem_map.1 h
    obtain ⟨rfl, rfl⟩ := Prod.mk.inj hxp
    rcases (mem_insEs hLd).1 hx with hx | ⟨hx, hno⟩
    · have hxc := hL x hx
      obtain ⟨e, he, hcb, hep⟩ := (hcx (x.key, x.vs)).1 (List.mem_map.2 ⟨x, hxc, rfl⟩)
      obtain ⟨h1, h2⟩ := Prod.mk.inj hep
      exact ⟨(hco.cok x hxc).ne, e.vs, List.mem_map.2 ⟨e, he, by rw [h1]⟩, h2.symm⟩
    · obtain ⟨hxe, hxg⟩ := mem_delEs.1 hx
      have hng : gonB q x = false := by
        cases hg : gonB q x with
        | false => rfl
        | true => exact absurd ((hgx x.key).2 ⟨x, hxe, rfl, hg⟩) hxg
      have hnc : cutB q x = false := by
        cases hc : cutB q x with
        | false => rfl
        | true =>
          obtain ⟨y, hy, hyp⟩ := List.mem_map.1 ((hcx (x.key, cutv x.vs q)).2 ⟨x, hxe, hc, rfl⟩)
          exact absurd (Prod.mk.inj hyp).1 (hno y (hall y hy))
      have hcl : (cutv x.vs q).length = x.vs.length := by
        unfold cutB at hnc; unfold gonB at hng
        rw [hng] at hnc
        have h1 : ¬ (cutv x.vs q).length < x.vs.length := by simpa using hnc
        have h2 : (cutv x.vs q).length ≤ x.vs.length := by unfold cutv; rw [List.length_drop]; omega
        omega
      have hcv : cutv x.vs q = x.vs := by
        unfold cutv at hcl ⊢
        rw [List.length_drop] at hcl
        rcases Nat.eq_zero_or_pos (cutN x.vs q) with h0 | h0
        · rw [h0]; rfl
        · have : x.vs.length = 0 := by omega
          rw [List.length_eq_zero_iff.1 this]; simp
      have hne : x.vs ≠ [] := by
        intro h0
        unfold gonB at hng
        rw [hcv, h0] at hng; cases hng
      exact ⟨hne, x.vs, List.mem_map.2 ⟨x, hxe, rfl⟩, hcv.symm⟩
  · rintro ⟨hne, vs0, hm, rfl⟩
    obtain ⟨x, hx, hxp⟩ := List.mem_map.1 hm
    obtain ⟨rfl, rfl⟩ := Prod.mk.inj hxp
    have hng : gonB q x = false := by
      unfold gonB
      cases hc : cutv x.vs q with
      | nil => exact absurd hc hne
      | cons a b => rfl
    by_cases hc : cutB q x = true
    · obtain ⟨y, hy, hyp⟩ := List.mem_map.1 ((hcx (x.key, cutv x.vs q)).2 ⟨x, hx, hc, rfl⟩)
      exact List.mem_map.2 ⟨y, (mem_insEs hLd).2 (.inl (hall y hy)), hyp⟩
    · have hcl : ¬ (cutv x.vs q).length < x.vs.length := by
        unfold cutB at hc; unfold gonB at hng
        rw [hng] at hc
        simpa using hc
      have hcv : cutv x.vs q = x.vs := by
        unfold cutv at hcl ⊢
        rw [List.length_drop] at hcl
        rcases Nat.eq_zero_or_pos (cutN x.vs q) with h0 | h0
        · rw [h0]; rfl
        · have : x.vs.length = 0 := by omega
          rw [List.length_eq_zero_iff.1 this]; simp
      rw [hcv]
      refine List.mem_map.2 ⟨x, (mem_insEs hLd).2 (.inr ⟨mem_delEs.2 ⟨hx, fun hg => ?_⟩, fun y hy hyk => ?_⟩), rfl⟩
      · obtain ⟨e, he, hek, heg⟩ := (hgx x.key).1 hg
        rw [key_inj hs he hx hek, hng] at heg; cases heg
      · obtain ⟨e, he, hcb, hep⟩ := (hcx (y.key, y.vs)).1 (List.mem_map.2 ⟨y, hL y hy, rfl⟩)
        have h1 : e.key = x.key := (Prod.mk.inj hep).1.trans hyk
        rw [key_inj hs he hx h1] at hcb
        exact hc hcb
end Go.Proofs.Ytbhbdpbhhfemhaa

/-
  The store: Vacuum.
-/
namespace Go.Proofs.Ytbhbdpbhhfemhaa
open Go Go.Proofs
set_option maxRecDepth 100000
set_option maxHeartbeats 8000000
set_option linter.unusedVariables false

/-- what Vacuum holds while it looks at the keys -/
def VacC (es : List Ent) (q : Int) (b3 b5 b6 m : Nat) (i : Nat) : HP := ex fun p : Rw ByteArray × List Ent => HP.sep (lift (CutOk es q i p.1 p.2))
  (stars [pt b5 (.cells [p.1.val].toArray 92 (0, 0)), p.1.own strc 9, pt b3 (.cells [Value.int .i64 q].toArray 3 (0, 0)), pt b6 (.cells [Value.map (some m)].toArray 93 (0, 0)), pt m (mapO (mes p.2) p.2.length), stars (p.2.map Ent.hp)])
theorem vacC_open {w : World} {es : List Ent} {q : Int} {b3 b5 b6 m i : Nat} {l : List HP} : Sat w (VacC es q b3 b5 b6 m i :: l) ↔ ∃ (g : Rw ByteArray) (cu : List Ent), CutOk es q i g cu ∧
    Sat w (pt b5 (.cells [g.val].toArray 92 (0, 0)) :: g.own strc 9 :: pt b3 (.cells [Value.int .i64 q].toArray 3 (0, 0)) :: pt b6 (.cells [Value.map (some m)].toArray 93 (0, 0)) :: pt m (mapO (mes cu) cu.length) :: stars (cu.map Ent.hp) :: l) := by
  unfold VacC
  rw [sat_ex]
  constructor
  · rintro ⟨⟨g, cu⟩, H⟩
    obtain ⟨h, H⟩ := sat_lift.1 (sat_sep.1 H)
    exact ⟨g, cu, h, sat_stars.1 H⟩
  · rintro ⟨g, cu, h, H⟩
    exact ⟨(g, cu), sat_sep.2 (sat_lift.2 ⟨h, sat_stars.2 H⟩)⟩

theorem Vacuum_spec {w : World} {l : List HP} {b N : Nat} {S : SC} {q : Int} (H : Sat w (StP b S :: l)) (ok : S.Ok N) (hhl : S.hist.xs.length ≤ 1000000) :
    Calls Try.prog 19 #[.pointer (some ⟨b, 0, none⟩), .int .i64 q] w (Ret fun v w' =>
      (¬ (S.low ≤ q ∧ q ≤ S.last) ∧ v = .int .i64 1 ∧ Sat w' (StP b S :: l)) ∨ ((S.low ≤ q ∧ q ≤ S.last) ∧ v = .int .i64 0 ∧ ∃ S' : SC, S'.Ok N ∧ S'.low = q ∧ S'.hist.xs.map cma = (S.hist.xs.map cma).drop (q - S.low).toNat ∧ (∀ k vs, (k, vs) ∈ ek S'.es ↔ vs ≠ [] ∧ ∃ vs0, (k, vs0) ∈ ek S.es ∧ vs = cutv vs0 q) ∧ Sat w' (StP b S' :: l))) := by
  have hlow := ok.low
  have hlast := ok.last
  replace H := StP.open.1 H
  refine Calls.of_wp_marks Try.func19 rfl Try.ntmps19 Try.results19 (Nat.le_of_ble_eq_true rfl) ?_
  refine WP.seq ?_
  refine WP.region ?_
  refine OpsE.box1 (v := .int .i64 _) rfl rfl H ?_
  intro b3 w H
  refine OpsE.val (x_assign (v := .int .i64 _) rfl) ?_
  refine OpsE.nil ?_
  refine Then.normal ?_
  refine WP.seq ?_
  refine WP.seq ?_
  refine WP.draw (fun w => Sat w _) (by kernel_rfl) (by kernel_rfl) (H.heap rfl) ?_
  refine QuietE.val (fun w H => x_move (v := .pointer _) rfl) ?_
  refine QuietE.val (fun w H => x_eqPs rfl rfl Try.runUnderlying28) ?_
  refine QuietE.val (fun w H => x_move (v := .bool _) rfl) ?_
  refine QuietE.yes rfl ?_
  refine QuietE.val (fun w H => x_load (v := .int .i64 q) rfl Try.isAgg3 (H.look _) rfl) ?_
  refine QuietE.yes rfl ?_
  refine QuietE.val (fun w H => x_move (v := .pointer _) rfl) ?_
  refine QuietE.yes rfl ?_
  refine QuietE.val (fun w H => x_nilCheck rfl) ?_
  refine QuietE.yes rfl ?_
  refine QuietE.val (fun w H => x_fieldAddr (o := 2) rfl Try.runUnderlying82 rfl rfl Try.sizeOf3) ?_
  refine QuietE.yes rfl ?_
  refine QuietE.val (fun w H => x_load (v := .int .i64 S.low) rfl Try.isAgg3 (H.look _) rfl) ?_
  refine QuietE.yes rfl ?_
  refine QuietE.val (fun w H => x_lt rfl rfl) ?_
  by_cases c1 : q < S.low
  · rw [decide_eq_true c1]
    refine QuietE.val (fun w H => x_pickF rfl rfl) ?_
    refine QuietE.val (fun w H => x_move (v := .bool _) rfl) ?_
    refine QuietE.no rfl ?_
    refine QuietE.no rfl ?_
    refine QuietE.no rfl ?_
    refine QuietE.no rfl ?_
    refine QuietE.val (fun w H => x_pickT rfl rfl) ?_
    refine QuietE.nil ?_
    intro w H
    refine Then.normal ?_
    refine WP.cond_t rfl rfl ?_
    refine WP.seq ?_
    refine WP.region ?_
    refine OpsE.val (x_assign (v := .int .i64 _) rfl) ?_
    refine OpsE.nil ?_
    refine Then.normal ?_
    refine WP.ret ?_
    refine Then.ret ?_
    refine Leave.ret (v := .int .i64 _) rfl ?_
    exact ⟨[], rfl, _, H, fun w' H' => .inl ⟨fun h => by have := h.1; omega, rfl, StP.open.2 H'.tail⟩⟩
  · rw [decide_eq_false c1]
    refine QuietE.val (fun w H => x_pickF rfl rfl) ?_
    refine QuietE.val (fun w H => x_move (v := .bool _) rfl) ?_
    refine QuietE.yes rfl ?_
    refine QuietE.val (fun w H => x_load (v := .int .i64 q) rfl Try.isAgg3 (H.look _) rfl) ?_
    refine QuietE.yes rfl ?_
    refine QuietE.val (fun w H => x_move (v := .pointer _) rfl) ?_
    refine QuietE.yes rfl ?_
    refine QuietE.call (fun w H => x_call (vl := [.pointer _]) rfl Try.call16) (fun w H => SLast_spec H (fun w H => H.look b) ok) ?_
    refine QuietE.yes rfl ?_
    refine QuietE.val (fun w H => x_gt rfl rfl) ?_
    by_cases c2 : q > S.last
    · rw [decide_eq_true c2]
      refine QuietE.val (fun w H => x_pickF rfl rfl) ?_
      refine QuietE.nil ?_
      intro w H
      refine Then.normal ?_
      refine WP.cond_t rfl rfl ?_
      refine WP.seq ?_
      refine WP.region ?_
      refine OpsE.val (x_assign (v := .int .i64 _) rfl) ?_
      refine OpsE.nil ?_
      refine Then.normal ?_
      refine WP.ret ?_
      refine Then.ret ?_
      refine Leave.ret (v := .int .i64 _) rfl ?_
      exact ⟨[], rfl, _, H, fun w' H' => .inl ⟨fun h => by have := h.2; omega, rfl, StP.open.2 H'.tail⟩⟩
    · rw [decide_eq_false c2]
      refine QuietE.val (fun w H => x_pickF rfl rfl) ?_
      refine QuietE.nil ?_
      intro w H
      refine Then.normal ?_
      refine WP.cond_f rfl rfl ?_
      refine WP.skip ?_
      refine Then.normal ?_
      refine WP.seq ?_
      refine WP.region ?_
      refine OpsE.alloc1 Try.zeroValue92 rfl H ?_
      intro b5 w H
      refine OpsE.nil ?_
      refine Then.normal ?_
      refine WP.seq ?_
      refine WP.region ?_
      refine OpsE.makeMap H ?_
      intro m30 w H
      refine OpsE.alloc1 Try.zeroValue93 rfl H ?_
      intro b6 w H
      refine OpsE.store (v := .map _) rfl rfl rfl rfl Try.sizeOf93 H (by simp) ?_
      intro w H
      simp only [List.set_cons_zero, List.set_cons_succ] at H
      refine OpsE.nil ?_
      refine Then.normal ?_
      refine WP.seq ?_
      refine WP.seq ?_
      refine WP.region ?_
      refine OpsE.val (x_move (v := .pointer _) rfl) ?_
      refine OpsE.val (x_nilCheck rfl) ?_
      refine OpsE.val (x_fieldAddr0 rfl Try.runUnderlying82 rfl rfl Try.sizeOf80) ?_
      refine OpsE.call (x_call (vl := [.pointer _, .string _]) rfl Try.call48) (TC.From_spec H) ?_
      rintro _ w ⟨f2, f3, rfl, H⟩
      refine OpsE.nil ?_
      refine Then.normal ?_
      refine WP.block ?_
      refine WP.rangeFunc (fun i => VacC S.es q b3 b5 b6 m30 i) (fun i e => lift False) rfl (TC.From_seq (b2 := f2) (b3 := f3) (key := ⟨#[]⟩) (hb := b) (TH := TSt) (S.h4 :: S.h5 :: S.h6 :: l) ok.hd ok.t) (fun _ h => by obtain ⟨_, _, rfl⟩ := List.mem_map.1 h; rfl) (vacC_open.2 ⟨⟨[], none⟩, [], CutOk.start _ _, H.perm (by
        show _ = stars (pt b5 (.cells [(⟨[], none⟩ : Rw ByteArray).val].toArray 92 (0, 0)) :: HP.one :: pt b3 (.cells [Value.int .i64 q].toArray 3 (0, 0)) :: pt b6 (.cells [Value.map (some m30)].toArray 93 (0, 0)) :: pt m30 (mapO [] 0) :: HP.one :: TC.bP f2 b 0 :: TC.bS f3 ⟨#[]⟩ :: S.h1 b :: S.t.ap :: TC.Lvs S.t.lv :: S.h4 :: S.h5 :: S.h6 :: l)
        simp only [stars_cons]; ac_rfl)⟩) ?_ ?_ ?_
      · intro i args lp w hxi
        have hge : TC.geL ⟨#[]⟩ (TC.all S.t.lv) = S.es.map Ent.it := (geL_empty _).trans ok.its
        rw [hge, List.map_map] at hxi
        obtain ⟨e, he0, rfl⟩ : ∃ e, S.es[i]? = some e ∧ TC.ya e.it = args := by simpa using hxi
        have hem : e ∈ S.es := List.mem_of_getElem? he0
        obtain ⟨heo, hen, hes⟩ := ok.es e hem
        refine WP.seq ?_
        refine WP.region ?_
        refine OpsE.val (x_assign (v := .string _) rfl) ?_
        refine OpsE.nil ?_
        refine Then.normal ?_
        refine WP.region ?_
        refine OpsE.val (x_assign (v := .slice _ _ _) rfl) ?_
        refine OpsE.nil ?_
        refine ⟨rfl, rfl, rfl, fun w Fr H => ?_⟩
        obtain ⟨g, cu, hco, H2⟩ := vacC_open.1 H.swap
        replace H := H2
        have hgl := hco.glen
        have hnum := ok.num
        have hNN := ok.N
        refine WP.block ?_
        refine WP.seq ?_
        refine WP.region ?_
        refine OpsE.val (x_move (v := .slice (some ⟨e.blk, 0, none⟩) e.vs.length e.cap) rfl) ?_
        refine OpsE.val (x_load (v := .int .i64 q) rfl Try.isAgg3 (H.look _) rfl) ?_
        refine OpsE.call (x_call (vl := [.slice _ _ _, .int .i64 _]) rfl Try.call49) (Cut_spec (vs := e.vs) H heo.cap heo.ok ⟨e.tl, fun w H => ent_at hem (H.take S.h4)⟩) ?_
        rintro _ w ⟨cg, ctl, rfl, H⟩
        refine OpsE.val (x_assign (v := .slice _ _ _) rfl) ?_
        refine OpsE.nil ?_
        refine Then.normal ?_
        refine WP.seq ?_
        refine WP.region ?_
        refine OpsE.val (x_move (v := .slice _ _ _) rfl) ?_
        refine OpsE.val (x_lenL rfl rfl Try.runUnderlying84) ?_
        refine OpsE.val (x_eqI rfl rfl) ?_
        by_cases z1 : ((cutv e.vs q).length : Int) = 0
        · rw [decide_eq_true z1]
          refine OpsE.nil ?_
          refine Then.normal ?_
          refine WP.cond_t rfl rfl ?_
          refine WP.region ?_
          refine OpsE.val (x_load (v := g.val) rfl Try.isAgg92 (H.look _) rfl) ?_
          refine OpsE.val (x_move (v := .string _) rfl) ?_
          refine OpsE.buildSlice1 (vs := [.string e.key]) KS (by decide) rfl rfl rfl (by decide) H ?_
          intro sg w H
          refine OpsE.append_rw (f := strc) (r := g) (ys := [e.key]) rfl KS strc_len strc_one rfl rfl H hco.gok (H.look sg) rfl rfl (by decide) (by omega) (by omega) ?_
          intro g' w hg1 hg2 hg3 H
          refine OpsE.store (v := .slice _ _ _) rfl rfl rfl rfl Try.sizeOf92 H (by simp) ?_
          intro w H
          simp only [List.set_cons_zero, List.set_cons_succ] at H
          refine OpsE.nil ?_
          refine InBlock.normal ?_
          show Sat w (Fr :: VacC _ _ _ _ _ _ _ :: _)
          refine Sat.swap (vacC_open.2 ⟨g', cu, hco.gon he0 (by omega) hg1 hg2, ?_⟩)
          have H1 := (H.take (pt sg (.cells [Value.string e.key].toArray 9 (0, 0)))).tail
          have H2 := (H1.take (ro cg (.cells ((cutv e.vs q).flatMap verc ++ ctl).toArray 90 (0, 0)))).tail
          exact H2
        · rw [decide_eq_false z1]
          refine OpsE.nil ?_
          refine Then.normal ?_
          refine WP.cond_f rfl rfl ?_
          refine WP.seq ?_
          refine WP.region ?_
          refine OpsE.val (x_move (v := .slice _ _ _) rfl) ?_
          refine OpsE.val (x_lenL rfl rfl Try.runUnderlying84) ?_
          refine OpsE.val (x_move (v := .slice (some ⟨e.blk, 0, none⟩) e.vs.length e.cap) rfl) ?_
          refine OpsE.val (x_lenL rfl rfl Try.runUnderlying84) ?_
          refine OpsE.val (x_lt rfl rfl) ?_
          by_cases z2 : ((cutv e.vs q).length : Int) < (e.vs.length : Int)
          · rw [decide_eq_true z2]
            refine OpsE.nil ?_
            refine Then.normal ?_
            refine WP.cond_t rfl rfl ?_
            refine WP.region ?_
            refine OpsE.val (x_load (v := .map (some m30)) rfl Try.isAgg93 (H.look _) rfl) ?_
            refine OpsE.val (x_move (v := .string _) rfl) ?_
            refine OpsE.val (x_move (v := .slice _ _ _) rfl) ?_
            refine OpsE.mapUpdate (k := e.key) (v := .slice (some ⟨cg, 0, none⟩) (cutv e.vs q).length (cutv e.vs q).length) Try.underlying93 Try.underlying9 rfl rfl rfl H ?_
            intro w H
            refine OpsE.nil ?_
            refine InBlock.normal ?_
            show Sat w (Fr :: VacC _ _ _ _ _ _ _ :: _)
            obtain ⟨e', he'⟩ : ∃ e' : Ent, e' = ⟨e.key, cg, (cutv e.vs q).length, cutv e.vs q, ctl⟩ := ⟨_, rfl⟩
            have heO' : e'.Ok := by
              rw [he']
              exact ⟨heo.ok.cut q, fun h => z1 (by show ((cutv e.vs q).length : Int) = 0; rw [show cutv e.vs q = [] from h]; rfl), Nat.le_refl _⟩
            refine Sat.swap (vacC_open.2 ⟨g, cu ++ [e'], hco.cut he0 (by omega) (by omega) (by rw [he']) (by rw [he']) heO', ?_⟩)
            have hu : updM (mes cu) cu.length e.key (.slice (some ⟨cg, 0, none⟩) (cutv e.vs q).length (cutv e.vs q).length) = (mes (cu ++ [e']), (cu ++ [e']).length) := by
              have := updM_mes (cu := cu) (e := e') (fun x hx => by rw [he']; exact hco.new (e := e) ok.srt he0 x hx)
              rw [he'] at this ⊢
              exact this
            rw [hu] at H
            have e1 : stars ((cu ++ [e']).map Ent.hp) = HP.sep (stars (cu.map Ent.hp)) (ro cg (.cells ((cutv e.vs q).flatMap verc ++ ctl).toArray 90 (0, 0))) := by
              rw [List.map_append, stars_append]; show HP.sep _ (HP.sep e'.hp HP.one) = _; rw [HP.sep_one, he']; rfl
            refine H.perm ?_
            simp only [stars_cons]
            rw [e1]
            ac_rfl
          · rw [decide_eq_false z2]
            refine OpsE.nil ?_
            refine Then.normal ?_
            refine WP.cond_f rfl rfl ?_
            refine WP.skip ?_
            refine InBlock.normal ?_
            show Sat w (Fr :: VacC _ _ _ _ _ _ _ :: _)
            refine Sat.swap (vacC_open.2 ⟨g, cu, hco.no he0 (by omega) (by omega), ?_⟩)
            exact H.tail
      · intro bm w H
        have hge : TC.geL ⟨#[]⟩ (TC.all S.t.lv) = S.es.map Ent.it := (geL_empty _).trans ok.its
        rw [List.length_map, hge, List.length_map] at H
        obtain ⟨g, cu, hco, H2⟩ := vacC_open.1 H.swap
        replace H := H2
        have hgl := hco.glen
        have hnum := ok.num
        have hNN := ok.N
        refine InBlock.normal ?_
        refine Then.normal ?_
        refine WP.seq ?_
        refine WP.seq ?_
        refine WP.region ?_
        refine OpsE.val (x_load (v := g.val) rfl Try.isAgg92 (H.look _) rfl) ?_
        refine OpsE.val (x_lenL rfl rfl Try.runUnderlying92) ?_
        refine OpsE.val (x_move (v := .int .i64 _) rfl) ?_
        refine OpsE.nil ?_
        refine Then.normal ?_
        refine WP.block ?_
        have hst : Sat w (pt b5 (.cells [g.val].toArray 92 (0, 0)) :: g.own strc 9 :: pt b3 (.cells [Value.int .i64 q].toArray 3 (0, 0)) :: pt b6 (.cells [Value.map (some m30)].toArray 93 (0, 0)) :: pt m30 (mapO (mes cu) cu.length) :: stars (cu.map Ent.hp) :: pt bm (.deferred (some [])) :: S.h1 b :: S.t.ap :: TC.Lvs S.t.lv :: S.h4 :: S.h5 :: S.h6 :: l) := (((H.take (TC.bP f2 b 0)).tail).take (TC.bS f3 ⟨#[]⟩)).tail
        refine WP.loopS [11, 57, 58, 59, 60, 61, 62, 63, 64, 65, 66] (fun (j : Nat) E w => ∃ Sj : SC, E 57 = .int .i64 (j : Int) ∧ j ≤ g.xs.length ∧ Sj.Ok N ∧ Sj.low = S.low ∧ Sj.hist = S.hist ∧ Sj.es = (g.xs.take j).foldl delE S.es ∧ Sat w (pt b5 (.cells [g.val].toArray 92 (0, 0)) :: g.own strc 9 :: pt b3 (.cells [Value.int .i64 q].toArray 3 (0, 0)) :: pt b6 (.cells [Value.map (some m30)].toArray 93 (0, 0)) :: pt m30 (mapO (mes cu) cu.length) :: stars (cu.map Ent.hp) :: pt bm (.deferred (some [])) :: Sj.h1 b :: Sj.t.ap :: TC.Lvs Sj.t.lv :: Sj.h4 :: S.h5 :: S.h6 :: l)) (fun j => g.xs.length - j) 0 ⟨S, rfl, Nat.zero_le _, ok, rfl, rfl, rfl, hst⟩ ?_
        clear H hst
        rintro j E1 w hs ⟨Sj, e57, hjl, okj, hlowj, hhistj, hesj, H⟩
        refine WP.seq ?_
        refine WP.region ?_
        refine OpsE.val (x_lt e57 (hs 56 rfl)) ?_
        by_cases hj : (j : Int) < (g.xs.length : Int)
        · rw [decide_eq_true hj]
          refine OpsE.nil ?_
          refine Then.normal ?_
          refine WP.seq ?_
          refine WP.cond_t rfl rfl ?_
          refine WP.skip ?_
          refine Then.normal ?_
          refine WP.seq ?_
          refine WP.block ?_
          refine WP.seq ?_
          obtain ⟨gb, go, B, fz, pre, post, hga, hB, hBl, hpo⟩ := (Rw.rin_own (f := strc) (T := 9) (l := pt b5 (.cells [g.val].toArray 92 (0, 0)) :: g.own strc 9 :: pt b3 (.cells [Value.int .i64 q].toArray 3 (0, 0)) :: pt b6 (.cells [Value.map (some m30)].toArray 93 (0, 0)) :: pt m30 (mapO (mes cu) cu.length) :: stars (cu.map Ent.hp) :: pt bm (.deferred (some [])) :: Sj.h1 b :: Sj.t.ap :: TC.Lvs Sj.t.lv :: Sj.h4 :: S.h5 :: S.h6 :: l) g hco.gok).some (by omega)
          obtain ⟨k, hk⟩ : ∃ k, g.xs[j]? = some k := ⟨_, List.getElem?_eq_getElem (by omega)⟩
          refine WP.region ?_
          refine OpsE.val (x_indexAddro1 (b := gb) (off := go) (len := g.xs.length) (cap := g.cp) (i := j) (show evE _ _ = .slice (some ⟨gb, go, none⟩) g.xs.length g.cp by rw [← hga]; exact hs 55 rfl) e57 Try.runUnderlying92 Try.sizeOf9 rfl (by omega)) ?_
          refine OpsE.val (x_load (v := .string k) rfl Try.isAgg9 (hB w H) (by have := row_cell strc_len hBl hpo (j := 0) hk rfl; simpa using this)) ?_
          refine OpsE.val (x_assign (v := .string _) rfl) ?_
          refine OpsE.nil ?_
          refine Then.normal ?_
          refine WP.region ?_
          refine OpsE.val (x_move (v := .pointer _) (hs 0 rfl)) ?_
          refine OpsE.val (x_nilCheck rfl) ?_
          refine OpsE.val (x_fieldAddr0 rfl Try.runUnderlying82 rfl rfl Try.sizeOf80) ?_
          refine OpsE.val (x_move (v := .string _) rfl) ?_
          have H2 := H.take3 (Sj.h1 b) Sj.t.ap (TC.Lvs Sj.t.lv)
          refine OpsE.call (x_call (vl := [.pointer _, .string _]) rfl Try.call50) (TC.Drop_spec H2 okj.hd okj.t (by rw [okj.its, List.length_map]; have := okj.num; omega)) ?_
          rintro _ w ⟨bb, t', rfl, ht1, ht2, H⟩
          refine OpsE.nil ?_
          refine InBlock.normal ?_
          refine Then.normal ?_
          refine WP.region ?_
          refine OpsE.val (x_add (z := ((j + 1 : Nat) : Int)) e57 rfl (by rw [i64n (by omega) (by omega)]; omega)) ?_
          refine OpsE.val (x_move (v := .int .i64 _) rfl) ?_
          refine OpsE.nil ?_
          refine Then.normal ?_
          refine ⟨rfl, (by repeat (first | exact hs | refine Same.upd ?_ rfl)), j + 1, by omega, { Sj with t := t', es := delE Sj.es k }, rfl, by omega, okj.drop ht1 ht2, hlowj, hhistj, ?_, ?_⟩
          · show delE Sj.es k = _
            rw [hesj, List.take_add_one, hk, Option.toList_some, List.foldl_append]; rfl
          · have h1 : Sat w (stars (Sj.es.map Ent.hp) :: TC.hd b (SC.cs { Sj with t := t', es := delE Sj.es k }) TSt :: t'.ap :: TC.Lvs t'.lv :: pt b5 (.cells [g.val].toArray 92 (0, 0)) :: g.own strc 9 :: pt b3 (.cells [Value.int .i64 q].toArray 3 (0, 0)) :: pt b6 (.cells [Value.map (some m30)].toArray 93 (0, 0)) :: pt m30 (mapO (mes cu) cu.length) :: stars (cu.map Ent.hp) :: pt bm (.deferred (some [])) :: S.h5 :: S.h6 :: l) := H.take Sj.h4
            have h2 := sat_delE (key := k) h1
            exact h2.perm (by
              show stars _ = stars (pt b5 (.cells [g.val].toArray 92 (0, 0)) :: g.own strc 9 :: pt b3 (.cells [Value.int .i64 q].toArray 3 (0, 0)) :: pt b6 (.cells [Value.map (some m30)].toArray 93 (0, 0)) :: pt m30 (mapO (mes cu) cu.length) :: stars (cu.map Ent.hp) :: pt bm (.deferred (some [])) :: TC.hd b (SC.cs { Sj with t := t', es := delE Sj.es k }) TSt :: t'.ap :: TC.Lvs t'.lv :: stars ((delE Sj.es k).map Ent.hp) :: S.h5 :: S.h6 :: l)
              simp only [stars_cons]; ac_rfl)
        · rw [decide_eq_false hj]
          refine OpsE.nil ?_
          refine Then.normal ?_
          refine WP.seq ?_
          refine WP.cond_f rfl rfl ?_
          refine WP.exit ?_
          refine Then.exit ?_
          refine Then.exit ?_
          refine InBlock.hit ?_
          refine Then.normal ?_
          refine WP.seq ?_
          refine WP.seq ?_
          refine WP.region ?_
          refine OpsE.val (x_load (v := .map (some m30)) (hs 6 rfl) Try.isAgg93 (H.look _) rfl) ?_
          refine OpsE.range (es := mes cu) (ck := cu.length) Try.underlying93 rfl H ?_
          intro it68 w H
          refine OpsE.nil ?_
          refine Then.normal ?_
          refine WP.block ?_
          have hje : j = g.xs.length := by omega
          rw [hje, List.take_length] at hesj
          have hkeep : ∀ e ∈ cu, ∃ x ∈ S.es, x.key = e.key ∧ e.vs = cutv x.vs q ∧ gonB q x = false := by
            intro e he
            have h1 : (e.key, e.vs) ∈ ek cu := List.mem_map.2 ⟨e, he, rfl⟩
            rw [hco.cx] at h1
            obtain ⟨x, hx, hxe⟩ := List.mem_map.1 h1
            obtain ⟨hx1, hx2⟩ := List.mem_filter.1 hx
            refine ⟨x, List.mem_of_mem_take hx1, (Prod.mk.inj hxe).1, (Prod.mk.inj hxe).2.symm, ?_⟩
            unfold cutB at hx2; unfold gonB
            rw [Bool.and_eq_true] at hx2
            simpa using hx2.1
          have hpres : ∀ e ∈ cu, ∃ x ∈ Sj.es, x.key = e.key := by
            intro e he
            obtain ⟨x, hx, hxk, _, hxg⟩ := hkeep e he
            refine ⟨x, ?_, hxk⟩
            rw [hesj]
            refine mem_delEs.2 ⟨hx, fun hmem => ?_⟩
            rw [hco.gx] at hmem
            obtain ⟨y, hy, hyx⟩ := List.mem_map.1 hmem
            obtain ⟨hy1, hy2⟩ := List.mem_filter.1 hy
            have hyx2 : y = x := by
              have hy3 := List.mem_of_mem_take hy1
              obtain ⟨i1, hi1, e1⟩ := List.mem_iff_getElem.1 hy3
              obtain ⟨i2, hi2, e2⟩ := List.mem_iff_getElem.1 hx
              rcases Nat.lt_trichotomy i1 i2 with h | h | h
              · have := List.pairwise_iff_getElem.1 ok.srt i1 i2 hi1 hi2 h
                rw [e1, e2, hyx, slt_irrefl] at this; cases this
              · subst h; rw [← e1, ← e2]
              · have := List.pairwise_iff_getElem.1 ok.srt i2 i1 hi2 hi1 h
                rw [e1, e2, hyx, slt_irrefl] at this; cases this
            rw [hyx2, hxg] at hy2; cases hy2
          have hst : Sat w (pt it68 (seenO m30 cu.length (([] : List (Ent × Nat)).map meP)) :: pt m30 (mapO (mes cu) cu.length) :: stars (cu.map Ent.hp) :: pt b3 (.cells [Value.int .i64 q].toArray 3 (0, 0)) :: pt bm (.deferred (some [])) :: Sj.h1 b :: Sj.t.ap :: TC.Lvs Sj.t.lv :: Sj.h4 :: S.h5 :: S.h6 :: l) := by
            have h1 := (H.take (pt b5 (.cells [g.val].toArray 92 (0, 0)))).tail
            have h2 := (h1.take (g.own strc 9)).tail
            have h3 := (h2.take (pt b6 (.cells [Value.map (some m30)].toArray 93 (0, 0)))).tail
            refine h3.perm ?_
            show stars (pt it68 (seenO m30 cu.length (([] : List (Ent × Nat)).map meP)) :: pt b3 (.cells [Value.int .i64 q].toArray 3 (0, 0)) :: pt m30 (mapO (mes cu) cu.length) :: stars (cu.map Ent.hp) :: pt bm (.deferred (some [])) :: Sj.h1 b :: Sj.t.ap :: TC.Lvs Sj.t.lv :: Sj.h4 :: S.h5 :: S.h6 :: l) = _
            simp only [stars_cons]; ac_rfl
          refine WP.loopS [12, 13, 69, 70, 71, 72, 73, 74, 75, 76, 77, 78, 79] (fun (ves : List (Ent × Nat)) E w => ∃ Si : SC, (∀ p ∈ ves, cu[p.2]? = some p.1) ∧ Si.Ok N ∧ Si.low = S.low ∧ Si.hist = S.hist ∧ Si.es = (ves.map Prod.fst).foldl insE Sj.es ∧ (∀ e ∈ cu, ∃ x ∈ Si.es, x.key = e.key) ∧ Sat w (pt it68 (seenO m30 cu.length (ves.map meP)) :: pt m30 (mapO (mes cu) cu.length) :: stars (cu.map Ent.hp) :: pt b3 (.cells [Value.int .i64 q].toArray 3 (0, 0)) :: pt bm (.deferred (some [])) :: Si.h1 b :: Si.t.ap :: TC.Lvs Si.t.lv :: Si.h4 :: S.h5 :: S.h6 :: l)) (fun ves => (leftM (mes cu) (ves.map meP)).length) [] ⟨Sj, (fun _ h => by cases h), okj, hlowj, hhistj, rfl, hpres, hst⟩ ?_
          clear H hst
          rintro ves E2 w hs2 ⟨Si, hves, oki, hlowi, hhisti, hesi, hpresi, H⟩
          refine WP.seq ?_
          refine WP.region ?_
          refine OpsE.next (es := mes cu) (vis := ves.map meP) (ck := cu.length) (hs2 68 rfl) H (mes_ok (hco.keys ok.srt)) ?_ ?_
          · intro hnend w H
            refine OpsE.val (x_extract (v := .bool _) rfl rfl) ?_
            refine OpsE.nil ?_
            refine Then.normal ?_
            refine WP.seq ?_
            refine WP.cond_f rfl rfl ?_
            refine WP.exit ?_
            refine Then.exit ?_
            refine Then.exit ?_
            refine InBlock.hit ?_
            refine Then.normal ?_
            refine WP.seq ?_
            obtain ⟨dn, hdn⟩ : ∃ dn : Nat, (q - S.low).toNat = dn := ⟨_, rfl⟩
            have hdl : dn ≤ S.hist.xs.length := by unfold SC.last at c2; omega
            have hdz : (dn : Int) = q - S.low := by omega
            have hrh : RIn cmc TCm (pt it68 (seenO m30 cu.length (ves.map meP)) :: pt m30 (mapO (mes cu) cu.length) :: stars (cu.map Ent.hp) :: pt b3 (.cells [Value.int .i64 q].toArray 3 (0, 0)) :: pt bm (.deferred (some [])) :: Si.h1 b :: Si.t.ap :: TC.Lvs Si.t.lv :: Si.h4 :: S.hist.own cmc TCm :: S.h6 :: l) S.hist.ad S.hist.xs.length S.hist.cp S.hist.xs := Rw.rin_own S.hist ok.hist
            refine WP.mix (kdOf [0, 0, 0, 0, 0, 0, 0, 0, 0, 0, 0, 0, 1]) (fun w => Sat w _) (by kernel_rfl) (by kernel_rfl) (fun w hw => Sat.heap (H) hw) ?_
            intro w hw; replace H := H.heap hw; clear hw
            refine MixE.q rfl (fun w H => x_move (v := .pointer _) ((hs2 0 rfl).trans (hs 0 rfl))) ?_
            refine MixE.q rfl (fun w H => x_move (v := .pointer _) ((hs2 0 rfl).trans (hs 0 rfl))) ?_
            refine MixE.q rfl (fun w H => x_nilCheck rfl) ?_
            refine MixE.q rfl (fun w H => x_fieldAddr (o := 3) rfl Try.runUnderlying82 rfl rfl Try.sizeOf38) ?_
            refine MixE.q rfl (fun w H => x_load (v := S.hist.val) rfl Try.isAgg38 (H.look _) (by show some Si.hist.val = _; rw [hhisti])) ?_
            refine MixE.q rfl (fun w H => x_load (v := .int .i64 q) ((hs2 3 rfl).trans (hs 3 rfl)) Try.isAgg3 (H.look _) rfl) ?_
            refine MixE.q rfl (fun w H => x_move (v := .pointer _) ((hs2 0 rfl).trans (hs 0 rfl))) ?_
            refine MixE.q rfl (fun w H => x_nilCheck rfl) ?_
            refine MixE.q rfl (fun w H => x_fieldAddr (o := 2) rfl Try.runUnderlying82 rfl rfl Try.sizeOf3) ?_
            refine MixE.q rfl (fun w H => x_load (v := .int .i64 S.low) rfl Try.isAgg3 (H.look _) (by show some (Value.int .i64 Si.low) = _; rw [hlowi])) ?_
            refine MixE.q rfl (fun w H => x_sub (z := (dn : Int)) rfl rfl (by rw [i64n (by omega) (by omega)]; omega)) ?_
            obtain ⟨ad', hsl, hrin⟩ := rin_slice (P := Try.prog) (f := cmc) (T := 38) cmc_len hrh Try.runUnderlying38 Try.sizeOf33 hdl
            refine MixE.q rfl (fun w H => hsl _ _ _ _ .i64 w rfl rfl) ?_
            refine MixE.one rfl ?_
            refine OpsE.call (x_call (vl := [.slice _ _ _]) rfl Try.call51) (CM.Clone_rin cmc_len cmc_one H hrin (by have := ok.hl; omega)) ?_
            rintro _ w ⟨r2, rfl, hr2, hr2o, H⟩
            refine OpsE.nil ⟨rfl, rfl, H.tail, ?_⟩
            refine MixE.two _ (fun k _ => kdOf_ge (Nat.le_add_right _ _)) ?_
            refine OpsE.val (x_nilCheck rfl) ?_
            refine OpsE.val (x_fieldAddr (o := 3) rfl Try.runUnderlying82 rfl rfl Try.sizeOf38) ?_
            refine OpsE.store (v := .slice _ _ _) rfl rfl rfl rfl Try.sizeOf38 H (by show 3 < 4; decide) ?_
            intro w H
            refine OpsE.nil ?_
            refine Then.normal ?_
            refine WP.seq ?_
            refine WP.region ?_
            refine OpsE.val (x_move (v := .pointer _) ((hs2 0 rfl).trans (hs 0 rfl))) ?_
            refine OpsE.val (x_load (v := .int .i64 q) ((hs2 3 rfl).trans (hs 3 rfl)) Try.isAgg3 (H.look _) rfl) ?_
            refine OpsE.val (x_nilCheck rfl) ?_
            refine OpsE.val (x_fieldAddr (o := 2) rfl Try.runUnderlying82 rfl rfl Try.sizeOf3) ?_
            refine OpsE.store (v := .int .i64 _) rfl rfl rfl rfl Try.sizeOf3 H (by show 2 < 4; decide) ?_
            intro w H
            refine OpsE.nil ?_
            refine Then.normal ?_
            refine WP.seq ?_
            refine WP.region ?_
            refine OpsE.val (x_assign (v := .int .i64 _) rfl) ?_
            refine OpsE.nil ?_
            refine Then.normal ?_
            refine WP.ret ?_
            refine Leave.ret (v := .int .i64 _) rfl ?_
            obtain ⟨S', hS'⟩ : ∃ S' : SC, S' = { Si with low := q, hist := r2 } := ⟨_, rfl⟩
            have hdl2 : r2.xs.length = S.hist.xs.length - dn := by rw [hr2, List.length_drop]
            have hlast' : q + r2.xs.length = S.low + S.hist.xs.length := by rw [hdl2]; omega
            have okf : S'.Ok N := by
              rw [hS']
              refine ⟨oki.t, oki.its, fun e he => ?_, oki.num, hr2o, fun c' hc' => ?_, by show 0 ≤ q; omega, by show q + r2.xs.length ≤ _; omega, oki.N⟩
              · obtain ⟨h1, h2, h3⟩ := oki.es e he
                refine ⟨h1, h2, fun v hv => ?_⟩
                have := h3 v hv
                rw [hlowi, hhisti] at this
                show v.seq ≤ q + r2.xs.length; omega
              · have hc2 : c' ∈ r2.xs := hc'
                rw [hr2] at hc2
                exact ok.ws c' (List.mem_of_mem_drop hc2)
            have e6 : stars (S.hist.xs.map cmH) = HP.sep (stars ((S.hist.xs.take dn).map cmH)) (stars (r2.xs.map cmH)) := by
              rw [hr2, ← stars_append, ← List.map_append, List.take_append_drop]
            refine ⟨[bm], rfl, (stars ((S.hist.xs.take dn).map cmH) :: pt it68 (seenO m30 cu.length (ves.map meP)) :: pt m30 (mapO (mes cu) cu.length) :: stars (cu.map Ent.hp) :: pt b3 (.cells [Value.int .i64 q].toArray 3 (0, 0)) :: S.hist.own cmc TCm :: S'.h1 b :: S'.t.ap :: TC.Lvs S'.t.lv :: S'.h4 :: r2.own cmc TCm :: stars (r2.xs.map cmH) :: l), ?_, fun w' H' => .inr ⟨⟨by omega, by omega⟩, rfl, S', okf, by rw [hS'], ?_, ?_, StP.open.2 ?_⟩⟩
            · have h1 : Sat w (S'.h1 b :: r2.own cmc TCm :: pt it68 (seenO m30 cu.length (ves.map meP)) :: pt m30 (mapO (mes cu) cu.length) :: stars (cu.map Ent.hp) :: pt b3 (.cells [Value.int .i64 q].toArray 3 (0, 0)) :: pt bm (.deferred (some [])) :: S'.t.ap :: TC.Lvs S'.t.lv :: S'.h4 :: S.hist.own cmc TCm :: stars (S.hist.xs.map cmH) :: l) := by rw [hS']; exact H
              refine h1.perm ?_
              simp only [List.map, List.cons_append, List.nil_append, stars_cons]
              rw [e6]
              ac_rfl
            · rw [hS']; show r2.xs.map cma = _; rw [hr2, List.map_drop, hdn]
            · have hall := left_nil hves hnend
              have := vac_ek (L := ves.map Prod.fst) ok.srt hco (fun e he => by obtain ⟨p, hp, rfl⟩ := List.mem_map.1 he; exact List.mem_of_getElem? (hves p hp)) hall
              rw [hS']; show ∀ k vs, (k, vs) ∈ ek Si.es ↔ _
              rw [hesi, hesj]; exact this
            · have h2 := H'.tail.tail.tail.tail.tail.tail
              have e7 : S'.h5 = r2.own cmc TCm := by rw [hS']
              have e8 : S'.h6 = stars (r2.xs.map cmH) := by rw [hS']
              rw [e7, e8]; exact h2
          · intro ne hne w H
            refine OpsE.val (x_extract (v := .bool _) rfl rfl) ?_
            refine OpsE.nil ?_
            refine Then.normal ?_
            refine WP.seq ?_
            refine WP.cond_t rfl rfl ?_
            refine WP.skip ?_
            refine Then.normal ?_
            refine WP.block ?_
            refine WP.seq ?_
            obtain ⟨p, rfl, hp⟩ := left_mes hne
            have hpm : p.1 ∈ cu := List.mem_of_getElem? hp
            refine WP.region ?_
            refine OpsE.val (x_entry (e := meP p) (hs2 68 rfl) (H.look _) (H.look _) (mes_ok (hco.keys ok.srt)) ((List.mem_filter.1 hne).1)) ?_
            refine OpsE.val (x_extract (v := .string _) rfl rfl) ?_
            refine OpsE.val (x_extract (v := .slice _ _ _) rfl rfl) ?_
            refine OpsE.val (x_assign (v := .string _) rfl) ?_
            refine OpsE.val (x_assign (v := .slice _ _ _) rfl) ?_
            refine OpsE.nil ?_
            refine Then.normal ?_
            refine WP.region ?_
            refine OpsE.val (x_move (v := .pointer _) ((hs2 0 rfl).trans (hs 0 rfl))) ?_
            refine OpsE.val (x_nilCheck rfl) ?_
            refine OpsE.val (x_fieldAddr0 rfl Try.runUnderlying82 rfl rfl Try.sizeOf80) ?_
            refine OpsE.val (x_move (v := .string _) rfl) ?_
            refine OpsE.val (x_move (v := .slice _ _ _) rfl) ?_
            have H2 := H.take3 (Si.h1 b) Si.t.ap (TC.Lvs Si.t.lv)
            refine OpsE.call (x_call (vl := [.pointer _, .string _, .slice _ _ _]) rfl Try.call47) (TC.Put_spec (key := p.1.key) (u := p.1.it.val) H2 oki.hd oki.t (by rw [oki.its, List.length_map]; have := oki.num; omega)) ?_
            rintro _ w ⟨bb, t', rfl, ht1, ht2, H⟩
            refine OpsE.nil ?_
            refine InBlock.normal ?_
            refine Then.normal ?_
            obtain ⟨x0, hx0, hxk, hxv, _⟩ := hkeep p.1 hpm
            obtain ⟨ho0, hn0, hb0⟩ := ok.es x0 hx0
            obtain ⟨y, hy, hyk⟩ := hpresi p.1 hpm
            have okn := oki.put_old hy hyk ht1 ht2 (hco.cok p.1 hpm) (by rw [hxv]; unfold cutv; rw [List.length_drop]; omega) (fun v hv => by
              rw [hxv] at hv
              have := hb0 v (List.mem_of_mem_drop hv)
              rw [hlowi, hhisti]; exact this)
            refine ⟨rfl, (by repeat (first | exact hs2 | refine Same.upd ?_ rfl)), ves ++ [p], left_lt hne, { Si with t := t', es := insE Si.es p.1 }, (fun p' hp' => ?_), okn, hlowi, hhisti, ?_, (fun e he => ?_), ?_⟩
            · rcases List.mem_append.1 hp' with h | h
              · exact hves p' h
              · rcases List.mem_singleton.1 h with rfl; exact hp
            · show insE Si.es p.1 = _
              rw [hesi, List.map_append, List.foldl_append]; rfl
            · obtain ⟨x, hx, hxe⟩ := hpresi e he
              by_cases hc : x.key = p.1.key
              · exact ⟨p.1, mem_insE'.2 (.inl rfl), by rw [← hc, hxe]⟩
              · exact ⟨x, mem_insE'.2 (.inr ⟨hx, hc⟩), hxe⟩
            · have h1 : Sat w (TC.hd b (SC.cs { Si with t := t', es := insE Si.es p.1 }) TSt :: t'.ap :: TC.Lvs t'.lv :: pt it68 (seenO m30 cu.length (ves.map meP ++ [meP p])) :: pt m30 (mapO (mes cu) cu.length) :: stars (cu.map Ent.hp) :: pt b3 (.cells [Value.int .i64 q].toArray 3 (0, 0)) :: pt bm (.deferred (some [])) :: stars (Si.es.map Ent.hp) :: S.h5 :: S.h6 :: l) := H
              have h2 := hp_get hpm (h1.take (stars (cu.map Ent.hp)))
              have h3 := sat_insE (Sat.take2 h2 (stars (Si.es.map Ent.hp)) p.1.hp)
              rw [List.map_append]
              exact h3.perm (by
                show stars _ = stars (pt it68 (seenO m30 cu.length (ves.map meP ++ [meP p])) :: pt m30 (mapO (mes cu) cu.length) :: stars (cu.map Ent.hp) :: pt b3 (.cells [Value.int .i64 q].toArray 3 (0, 0)) :: pt bm (.deferred (some [])) :: TC.hd b (SC.cs { Si with t := t', es := insE Si.es p.1 }) TSt :: t'.ap :: TC.Lvs t'.lv :: stars ((insE Si.es p.1).map Ent.hp) :: S.h5 :: S.h6 :: l)
                simp only [stars_cons]; ac_rfl)
      · intro bm i e c w hi hj H
        cases e with
        | ret =>
          exact (sat_lift.1 H.swap).1.elim
        | exit id =>
          exact (sat_lift.1 H.swap).1.elim
        | _ => cases hj
end Go.Proofs.Ytbhbdpbhhfemhaa

/-
  The store: New, Versions.
-/
namespace Go.Proofs.Ytbhbdpbhhfemhaa
open Go Go.Proofs
set_option maxRecDepth 100000
set_option maxHeartbeats 8000000
set_option linter.unusedVariables false

def newK (seq : Int) (ks : List KVs) (x : Wr) : List KVs := putK ks (x.key, [⟨seq, x.val, false⟩])
def goodN (seq : Int) (ws : List Wr) : Prop := 0 ≤ seq ∧ seq ≤ 1099511627776 ∧ okTo ws ws.length ∧ ∀ x ∈ ws, x.gone = false

theorem risesB_iff (ws : List Wr) : risesB ws = true ↔ okTo ws ws.length := by
  unfold risesB
  rw [@decide_eq_true_iff _ (Classical.propDecidable _)]

theorem New_spec {w : World} {l : List HP} {seq : Int} {a : Option Addr} {n c : Nat} {ws : List Wr} (H : Sat w l) (hr : RIn wrc TWr l a n c ws) (hn : n ≤ 400000) (hk : ∀ x ∈ ws, x.key.size ≤ 9223372036854775807 ∧ x.val.size ≤ 9223372036854775807) :
    Calls Try.prog 40 #[.int .i64 seq, .slice a n c] w (Ret fun v w' =>
      (¬ goodN seq ws ∧ v = .tuple #[.pointer none, .int .i64 1] ∧ Sat w' l) ∨ (goodN seq ws ∧ ∃ b S', v = .tuple #[.pointer (some ⟨b, 0, none⟩), .int .i64 0] ∧ SC.Ok n S' ∧ S'.low = seq ∧ S'.hist.xs = [] ∧ ek S'.es = ws.foldl (newK seq) [] ∧ Sat w' (StP b S' :: l))) := by
  have hlen := hr.len
  refine Calls.of_wp Try.func40 rfl Try.ntmps40 Try.results40 (Nat.le_of_ble_eq_true rfl) ?_
  refine WP.seq ?_
  refine WP.region ?_
  refine OpsE.val (x_assign (v := .pointer _) rfl) ?_
  refine OpsE.val (x_assign (v := .int .i64 _) rfl) ?_
  refine OpsE.nil ?_
  refine Then.normal ?_
  refine WP.seq ?_
  refine WP.seq ?_
  refine WP.region ?_
  refine OpsE.val (x_move (v := .int .i64 _) rfl) ?_
  refine OpsE.val (x_lt rfl rfl) ?_
  by_cases c1 : seq < 0
  · rw [decide_eq_true c1]
    refine OpsE.val (x_move (v := .bool _) rfl) ?_
    refine OpsE.no rfl ?_
    refine OpsE.no rfl ?_
    refine OpsE.val (x_pickT rfl rfl) ?_
    refine OpsE.val (x_move (v := .bool _) rfl) ?_
    refine OpsE.no rfl ?_
    refine OpsE.no rfl ?_
    refine OpsE.no rfl ?_
    refine OpsE.val (x_pickT rfl rfl) ?_
    refine OpsE.nil ?_
    refine Then.normal ?_
    refine WP.cond_t rfl rfl ?_
    refine WP.seq ?_
    refine WP.region ?_
    refine OpsE.val (x_assign (v := .pointer _) rfl) ?_
    refine OpsE.val (x_assign (v := .int .i64 _) rfl) ?_
    refine OpsE.nil ?_
    refine Then.normal ?_
    refine WP.ret ?_
    refine Then.ret ?_
    refine Leave0.ret (v := .tuple #[.pointer _, .int .i64 _]) rfl ?_
    exact .inl ⟨fun h => by have := h.1; omega, rfl, H⟩
  · rw [decide_eq_false c1]
    refine OpsE.val (x_move (v := .bool _) rfl) ?_
    refine OpsE.yes rfl ?_
    refine OpsE.val (x_move (v := .int .i64 _) rfl) ?_
    refine OpsE.yes rfl ?_
    refine OpsE.val (x_gt rfl rfl) ?_
    by_cases c2 : seq > 1099511627776
    · rw [decide_eq_true c2]
      refine OpsE.val (x_pickF rfl rfl) ?_
      refine OpsE.val (x_move (v := .bool _) rfl) ?_
      refine OpsE.no rfl ?_
      refine OpsE.no rfl ?_
      refine OpsE.no rfl ?_
      refine OpsE.val (x_pickT rfl rfl) ?_
      refine OpsE.nil ?_
      refine Then.normal ?_
      refine WP.cond_t rfl rfl ?_
      refine WP.seq ?_
      refine WP.region ?_
      refine OpsE.val (x_assign (v := .pointer _) rfl) ?_
      refine OpsE.val (x_assign (v := .int .i64 _) rfl) ?_
      refine OpsE.nil ?_
      refine Then.normal ?_
      refine WP.ret ?_
      refine Then.ret ?_
      refine Leave0.ret (v := .tuple #[.pointer _, .int .i64 _]) rfl ?_
      exact .inl ⟨fun h => by have := h.2.1; omega, rfl, H⟩
    · rw [decide_eq_false c2]
      refine OpsE.val (x_pickF rfl rfl) ?_
      refine OpsE.val (x_move (v := .bool _) rfl) ?_
      refine OpsE.yes rfl ?_
      refine OpsE.val (x_move (v := .slice _ _ _) rfl) ?_
      refine OpsE.yes rfl ?_
      refine OpsE.call (x_call (vl := [.slice _ _ _]) rfl Try.call52) (rises_spec H hr (by omega) hk) ?_
      rintro _ w ⟨rfl, H⟩
      cases c3 : risesB ws
      case false =>
        refine OpsE.yes rfl ?_
        refine OpsE.val (x_not rfl) ?_
        refine OpsE.val (x_pickF rfl rfl) ?_
        refine OpsE.nil ?_
        refine Then.normal ?_
        refine WP.cond_t rfl rfl ?_
        refine WP.seq ?_
        refine WP.region ?_
        refine OpsE.val (x_assign (v := .pointer _) rfl) ?_
        refine OpsE.val (x_assign (v := .int .i64 _) rfl) ?_
        refine OpsE.nil ?_
        refine Then.normal ?_
        refine WP.ret ?_
        refine Then.ret ?_
        refine Leave0.ret (v := .tuple #[.pointer _, .int .i64 _]) rfl ?_
        exact .inl ⟨fun h => (by have := (risesB_iff ws).2 h.2.2.1; rw [c3] at this; cases this), rfl, H⟩
      case true =>
        refine OpsE.yes rfl ?_
        refine OpsE.val (x_not rfl) ?_
        refine OpsE.val (x_pickF rfl rfl) ?_
        refine OpsE.nil ?_
        refine Then.normal ?_
        refine WP.cond_f rfl rfl ?_
        refine WP.skip ?_
        refine Then.normal ?_
        refine WP.seq ?_
        refine WP.region ?_
        refine OpsE.val (x_move (v := .int .i64 _) rfl) ?_
        refine OpsE.val (x_build3_1 (vl := [.int .i64 _]) rfl Try.zeroValue82 Try.runUnderlying82 Try.sizeOf80 Try.sizeOf3 Try.sizeOf38 rfl) ?_
        refine OpsE.boxA (cs := [.slice none 0 0, .int .i64 0, .int .i64 seq, .slice none 0 0]) rfl H ?_
        intro b w H
        refine OpsE.val (x_assign (v := .pointer _) rfl) ?_
        refine OpsE.nil ?_
        refine Then.normal ?_
        refine WP.seq ?_
        refine WP.seq ?_
        refine WP.region ?_
        refine OpsE.val (x_move (v := .slice _ _ _) rfl) ?_
        refine OpsE.val (x_lenL rfl rfl Try.runUnderlying22) ?_
        refine OpsE.val (x_move (v := .int .i64 _) rfl) ?_
        refine OpsE.nil ?_
        refine Then.normal ?_
        refine WP.block ?_
        have g0 := (risesB_iff ws).1 c3
        obtain ⟨S0, hS0⟩ : ∃ S0 : SC, S0 = ⟨⟨[], none⟩, [], seq, ⟨[], none⟩⟩ := ⟨_, rfl⟩
        have ok0 : S0.Ok 0 := by
          rw [hS0]
          exact ⟨⟨⟨fun _ h => (by cases h), List.Pairwise.nil, Nat.zero_le _⟩, fun _ => rfl, fun _ _ _ h => by cases h⟩, rfl, fun _ h => (by cases h), Nat.zero_le _, Rw.empty_ok, fun _ h => (by cases h), by show 0 ≤ seq; omega, by show seq + 0 ≤ _; omega, by decide⟩
        have hst : Sat w (S0.h1 b :: S0.t.ap :: TC.Lvs S0.t.lv :: S0.h4 :: S0.h5 :: S0.h6 :: l) := by
          rw [hS0]
          refine H.perm ?_
          show _ = stars (TC.hd b [.slice none 0 0, .int .i64 0, .int .i64 seq, .slice none 0 0] TSt :: HP.one :: HP.one :: HP.one :: HP.one :: HP.one :: l)
          simp only [stars_cons]; ac_rfl
        refine WP.loopS [4, 5, 8, 25, 26, 27, 28, 29, 30, 31, 32, 33, 34, 35, 36, 37, 38, 39, 40, 41, 42] (fun (i : Nat) E w => ∃ Si : SC, E 25 = .int .i64 (i : Int) ∧ i ≤ n ∧ Si.Ok i ∧ Si.low = seq ∧ Si.hist.xs = [] ∧ ek Si.es = (ws.take i).foldl (newK seq) [] ∧ (∀ j x, j < i → ws[j]? = some x → x.gone = false) ∧ Sat w (Si.h1 b :: Si.t.ap :: TC.Lvs Si.t.lv :: Si.h4 :: Si.h5 :: Si.h6 :: l)) (fun i => n - i) 0 ⟨S0, rfl, Nat.zero_le _, ok0, by rw [hS0], by rw [hS0], by rw [hS0]; rfl, (fun j x h => absurd h (Nat.not_lt_zero _)), hst⟩ ?_
        clear H hst
        rintro i E1 w hs ⟨Si, e25, hin, oki, hlowi, hhisti, heki, hgi, H⟩
        refine WP.seq ?_
        refine WP.region ?_
        refine OpsE.val (x_lt e25 (hs 24 rfl)) ?_
        by_cases hlt : (i : Int) < (n : Int)
        · rw [decide_eq_true hlt]
          refine OpsE.nil ?_
          refine Then.normal ?_
          refine WP.seq ?_
          refine WP.cond_t rfl rfl ?_
          refine WP.skip ?_
          refine Then.normal ?_
          refine WP.seq ?_
          refine WP.block ?_
          refine WP.seq ?_
          obtain ⟨bb, off, B, fz, pre, post, rfl, hB, hBl, hpo⟩ := hr.some (by omega)
          obtain ⟨x, hx⟩ : ∃ x, ws[i]? = some x := ⟨_, List.getElem?_eq_getElem (by omega)⟩
          obtain ⟨hx1, hx2, hx3, hx4, hx5⟩ := okTo_at g0 hx
          refine WP.region ?_
          refine OpsE.val (x_indexAddro (i := i) (hs 23 rfl) e25 Try.runUnderlying22 Try.sizeOf26 rfl (by omega)) ?_
          refine OpsE.val (x_loadA (vs := wrc x) rfl Try.isAgg26 Try.sizeOf26 (hB w H.tail.tail.tail.tail.tail.tail) (row_el wrc_len hBl hpo hx) rfl) ?_
          refine OpsE.allocA Try.zeroValue26 H ?_
          intro b8 w H
          refine OpsE.storeA (vs := wrc x) rfl rfl Try.sizeOf26 H (wrc_one x) (Nat.le_refl _) ?_
          intro w H
          refine OpsE.nil ?_
          refine Then.normal ?_
          refine WP.seq ?_
          refine WP.seq ?_
          refine WP.region ?_
          refine OpsE.val (x_fieldAddr (o := 2) rfl Try.runUnderlying26 rfl rfl Try.sizeOf4) ?_
          refine OpsE.val (x_load (v := .bool x.gone) rfl Try.isAgg4 (H.look _) rfl) ?_
          refine OpsE.nil ?_
          refine Then.normal ?_
          refine WP.cond rfl (fun hgone => ?_) (fun hgone => ?_)
          · skip
            refine WP.seq ?_
            refine WP.region ?_
            refine OpsE.val (x_assign (v := .pointer _) rfl) ?_
            refine OpsE.val (x_assign (v := .int .i64 _) rfl) ?_
            refine OpsE.nil ?_
            refine Then.normal ?_
            refine WP.ret ?_
            refine Then.ret ?_
            refine InBlock.ret ?_
            refine Then.ret ?_
            refine Then.ret ?_
            refine InBlock.ret ?_
            refine Then.ret ?_
            refine Leave0.ret (v := .tuple #[.pointer _, .int .i64 _]) rfl ?_
            exact .inl ⟨fun h => (by have := h.2.2.2 x (List.mem_of_getElem? hx); rw [hgone] at this; cases this), rfl, H.tail.tail.tail.tail.tail.tail.tail⟩
          · skip
            refine WP.skip ?_
            refine Then.normal ?_
            refine WP.mix (kdOf [0, 0, 0, 0, 0, 0, 0, 0, 0, 1]) (fun w => Sat w _) (by kernel_rfl) (by kernel_rfl) (fun w hw => Sat.heap (H) hw) ?_
            intro w hw; replace H := H.heap hw; clear hw
            refine MixE.q rfl (fun w H => x_move (v := .pointer _) (hs 6 rfl)) ?_
            refine MixE.q rfl (fun w H => x_nilCheck rfl) ?_
            refine MixE.q rfl (fun w H => x_fieldAddr0 rfl Try.runUnderlying82 rfl rfl Try.sizeOf80) ?_
            refine MixE.q rfl (fun w H => x_fieldAddr0 rfl Try.runUnderlying26 rfl rfl Try.sizeOf9) ?_
            refine MixE.q rfl (fun w H => x_load (v := .string x.key) rfl Try.isAgg9 (H.look _) rfl) ?_
            refine MixE.q rfl (fun w H => x_move (v := .int .i64 _) (hs 0 rfl)) ?_
            refine MixE.q rfl (fun w H => x_fieldAddr (o := 1) rfl Try.runUnderlying26 rfl rfl Try.sizeOf9) ?_
            refine MixE.q rfl (fun w H => x_load (v := .string x.val) rfl Try.isAgg9 (H.look _) rfl) ?_
            refine MixE.q rfl (fun w H => x_build3_2 (vl := [.int .i64 _, .string _]) rfl Try.zeroValue90 Try.runUnderlying90 Try.sizeOf3 Try.sizeOf9 Try.sizeOf4 rfl) ?_
            refine MixE.one rfl ?_
            refine OpsE.buildSlice1 (vs := verc ⟨seq, x.val, false⟩) KV (by decide) rfl rfl rfl (by decide) H ?_
            intro g w H1
            refine OpsE.nil ⟨rfl, rfl, H1.tail, ?_⟩
            refine MixE.two _ (fun k _ => kdOf_ge (Nat.le_add_right _ _)) ?_
            have H2 := H1.take3 (Si.h1 b) Si.t.ap (TC.Lvs Si.t.lv)
            refine OpsE.call (x_call (vl := [.pointer _, .string _, .slice _ _ _]) rfl Try.call47) (TC.Put_spec (u := (some ⟨g, 0, none⟩, 1, 1)) H2 oki.hd oki.t (by rw [oki.its, List.length_map]; have := oki.num; omega)) ?_
            rintro _ w ⟨bb2, t', rfl, ht1, ht2, H⟩
            refine OpsE.nil ?_
            refine InBlock.normal ?_
            refine Then.normal ?_
            refine WP.region ?_
            refine OpsE.val (x_add (z := ((i + 1 : Nat) : Int)) e25 rfl (by rw [i64n (by omega) (by omega)]; omega)) ?_
            refine OpsE.val (x_move (v := .int .i64 _) rfl) ?_
            refine OpsE.nil ?_
            refine Then.normal ?_
            obtain ⟨e', he'⟩ : ∃ e' : Ent, e' = ⟨x.key, g, 1, [⟨seq, x.val, false⟩], []⟩ := ⟨_, rfl⟩
            have heO : e'.Ok := by
              rw [he']
              exact ⟨⟨List.pairwise_singleton _ _, fun v hv => by rcases List.mem_singleton.1 hv with rfl; exact ⟨by show 0 ≤ seq; omega, by show seq ≤ _; omega⟩, by show 1 ≤ _; decide⟩, by simp, by show 1 ≤ 1; decide⟩
            have okn := oki.put (e := e') (by omega) ht1 (by rw [ht2, he']; rfl) heO (by rw [he']; show 1 ≤ i + 1; omega) (fun v hv => by
              rw [he'] at hv
              rcases List.mem_singleton.1 hv with rfl
              show seq ≤ _; rw [hlowi]; omega)
            refine ⟨rfl, (by repeat (first | exact hs | refine Same.upd ?_ rfl)), i + 1, by omega, { Si with t := t', es := insE Si.es e' }, rfl, by omega, okn, hlowi, hhisti, ?_, ?_, ?_⟩
            · show ek (insE Si.es e') = _
              rw [insE_ek, heki, he', List.take_add_one, hx, Option.toList_some, List.foldl_append]; rfl
            · intro j y hj hy
              rcases Nat.lt_or_ge j i with h | h
              · exact hgi j y h hy
              · have : j = i := by omega
                subst this; rw [hx] at hy; cases hy; exact hgone
            · have h1 : Sat w (pt g (.cells (verc ⟨seq, x.val, false⟩).toArray 90 (0, 0)) :: TC.hd b (SC.cs { Si with t := t', es := insE Si.es e' }) TSt :: t'.ap :: TC.Lvs t'.lv :: pt b8 (.cells (wrc x).toArray TWr (0, 0)) :: stars (Si.es.map Ent.hp) :: Si.h5 :: Si.h6 :: l) := H.take (pt g (.cells (verc ⟨seq, x.val, false⟩).toArray 90 (0, 0)))
              have h2 : Sat w (e'.hp :: TC.hd b (SC.cs { Si with t := t', es := insE Si.es e' }) TSt :: t'.ap :: TC.Lvs t'.lv :: pt b8 (.cells (wrc x).toArray TWr (0, 0)) :: stars (Si.es.map Ent.hp) :: Si.h5 :: Si.h6 :: l) := by rw [he'] at h1 ⊢; exact h1.freeze
              have h3 := (sat_insE (Sat.take2 h2 (stars (Si.es.map Ent.hp)) e'.hp)).take (pt b8 (.cells (wrc x).toArray TWr (0, 0)))
              exact h3.tail.perm (by
                show stars _ = stars (TC.hd b (SC.cs { Si with t := t', es := insE Si.es e' }) TSt :: t'.ap :: TC.Lvs t'.lv :: stars ((insE Si.es e').map Ent.hp) :: Si.h5 :: Si.h6 :: l)
                simp only [stars_cons]; ac_rfl)
        · rw [decide_eq_false hlt]
          refine OpsE.nil ?_
          refine Then.normal ?_
          refine WP.seq ?_
          refine WP.cond_f rfl rfl ?_
          refine WP.exit ?_
          refine Then.exit ?_
          refine Then.exit ?_
          refine InBlock.hit ?_
          refine Then.normal ?_
          refine WP.seq ?_
          refine WP.region ?_
          refine OpsE.val (x_move (v := .pointer _) (hs 6 rfl)) ?_
          refine OpsE.val (x_assign (v := .pointer _) rfl) ?_
          refine OpsE.val (x_assign (v := .int .i64 _) rfl) ?_
          refine OpsE.nil ?_
          refine Then.normal ?_
          refine WP.ret ?_
          refine Leave0.ret (v := .tuple #[.pointer _, .int .i64 _]) rfl ?_
          have hie : i = ws.length := by omega
          refine .inr ⟨⟨by omega, by omega, g0, fun x hx => ?_⟩, b, Si, rfl, ?_, hlowi, hhisti, ?_, StP.open.2 H⟩
          · obtain ⟨j, hj, rfl⟩ := List.mem_iff_getElem.1 hx
            exact hgi j _ (by omega) (by simp)
          · rw [hlen, ← hie]; exact oki
          · rw [heki, hie, List.take_length]
end Go.Proofs.Ytbhbdpbhhfemhaa

/-
  The store: Versions.
-/
namespace Go.Proofs.Ytbhbdpbhhfemhaa
open Go Go.Proofs
set_option maxRecDepth 100000
set_option maxHeartbeats 8000000
set_option linter.unusedVariables false

def vcount (ks : List KVs) : Nat := (ks.map fun k => k.2.length).sum
theorem Versions_nil {w : World} {l : List HP} (H : Sat w l) : Calls Try.prog 20 #[.pointer none] w (Ret fun v w' => v = .int .i64 0 ∧ Sat w' l) := by
  refine Calls.of_wp_marks Try.func20 rfl Try.ntmps20 Try.results20 (Nat.le_of_ble_eq_true rfl) ?_
  refine WP.seq ?_
  refine WP.region ?_
  refine OpsE.val (x_assign (v := .int .i64 _) rfl) ?_
  refine OpsE.nil ?_
  refine Then.normal ?_
  refine WP.seq ?_
  refine WP.region ?_
  refine OpsE.alloc1 Try.zeroValue3 rfl H ?_
  intro b3 w H
  refine OpsE.store (v := .int .i64 _) rfl rfl rfl rfl Try.sizeOf3 H (by simp) ?_
  intro w H
  simp only [List.set_cons_zero, List.set_cons_succ] at H
  refine OpsE.nil ?_
  refine Then.normal ?_
  refine WP.seq ?_
  refine WP.seq ?_
  refine WP.region ?_
  refine OpsE.val (x_move (v := .pointer _) rfl) ?_
  refine OpsE.val (x_nePn rfl rfl Try.runUnderlying28) ?_
  refine OpsE.nil ?_
  refine Then.normal ?_
  refine WP.cond_f rfl rfl ?_
  refine WP.skip ?_
  refine Then.normal ?_
  refine WP.seq ?_
  refine WP.region ?_
  refine OpsE.val (x_load (v := .int .i64 _) rfl Try.isAgg3 (H.look _) rfl) ?_
  refine OpsE.val (x_assign (v := .int .i64 _) rfl) ?_
  refine OpsE.nil ?_
  refine Then.normal ?_
  refine WP.ret ?_
  refine Leave.ret (v := .int .i64 _) rfl ?_
  exact ⟨[], rfl, _, H, fun w H => ⟨rfl, H.tail⟩⟩
def vsum (es : List Ent) (i : Nat) : Nat := ((es.take i).map fun e => e.vs.length).sum
theorem vsum_succ {es : List Ent} {i : Nat} {e : Ent} (h : es[i]? = some e) : vsum es (i + 1) = vsum es i + e.vs.length := by
  unfold vsum; rw [List.take_add_one, h, Option.toList_some, List.map_append, List.sum_append]; simp
theorem vsum_le {es : List Ent} {N : Nat} (h : ∀ e ∈ es, e.vs.length ≤ N) : ∀ i, i ≤ es.length → vsum es i ≤ i * N := by
  intro i
  induction i with
  | zero => intro _; simp [vsum]
  | succ i ih =>
    intro hi
    have he : es[i]? = some (es[i]'(by omega)) := by simp
    have h1 := ih (by omega)
    have h2 := h _ (List.mem_of_getElem? he)
    rw [vsum_succ he, Nat.add_mul]; omega

theorem Versions_spec {w : World} {l : List HP} {b N : Nat} {S : SC} (H : Sat w (StP b S :: l)) (ok : S.Ok N) :
    Calls Try.prog 20 #[.pointer (some ⟨b, 0, none⟩)] w (Ret fun v w' => v = .int .i64 (vcount (ek S.es) : Int) ∧ Sat w' (StP b S :: l)) := by
  replace H := StP.open.1 H
  have hNN := ok.N
  have hnum := ok.num
  have hmul : S.es.length * N ≤ 500000 * 500000 := Nat.mul_le_mul (by omega) hNN
  refine Calls.of_wp_marks Try.func20 rfl Try.ntmps20 Try.results20 (Nat.le_of_ble_eq_true rfl) ?_
  refine WP.seq ?_
  refine WP.region ?_
  refine OpsE.val (x_assign (v := .int .i64 _) rfl) ?_
  refine OpsE.nil ?_
  refine Then.normal ?_
  refine WP.seq ?_
  refine WP.region ?_
  refine OpsE.alloc1 Try.zeroValue3 rfl H ?_
  intro b3 w H
  refine OpsE.store (v := .int .i64 _) rfl rfl rfl rfl Try.sizeOf3 H (by simp) ?_
  intro w H
  simp only [List.set_cons_zero, List.set_cons_succ] at H
  refine OpsE.nil ?_
  refine Then.normal ?_
  refine WP.seq ?_
  refine WP.seq ?_
  refine WP.region ?_
  refine OpsE.val (x_move (v := .pointer _) rfl) ?_
  refine OpsE.val (x_nePs rfl rfl Try.runUnderlying28) ?_
  refine OpsE.nil ?_
  refine Then.normal ?_
  refine WP.cond_t rfl rfl ?_
  refine WP.seq ?_
  refine WP.region ?_
  refine OpsE.val (x_move (v := .pointer _) rfl) ?_
  refine OpsE.val (x_nilCheck rfl) ?_
  refine OpsE.val (x_fieldAddr0 rfl Try.runUnderlying82 rfl rfl Try.sizeOf80) ?_
  refine OpsE.call (x_call (vl := [.pointer _, .string _]) rfl Try.call48) (TC.From_spec H) ?_
  rintro _ w ⟨f2, f3, rfl, H⟩
  refine OpsE.nil ?_
  refine Then.normal ?_
  refine WP.block ?_
  refine WP.rangeFunc (fun i => pt b3 (.cells [Value.int .i64 ((vsum S.es i : Nat) : Int)].toArray 3 (0, 0))) (fun i e => lift False) rfl (TC.From_seq (b2 := f2) (b3 := f3) (key := ⟨#[]⟩) (hb := b) (TH := TSt) (S.h4 :: S.h5 :: S.h6 :: l) ok.hd ok.t) (fun _ h => by obtain ⟨_, _, rfl⟩ := List.mem_map.1 h; rfl) (H.perm (by
    show _ = stars (pt b3 (.cells [Value.int .i64 0].toArray 3 (0, 0)) :: TC.bP f2 b 0 :: TC.bS f3 ⟨#[]⟩ :: S.h1 b :: S.t.ap :: TC.Lvs S.t.lv :: S.h4 :: S.h5 :: S.h6 :: l)
    simp only [stars_cons]; ac_rfl)) ?_ ?_ ?_
  · intro i args lp w hxi
    have hge : TC.geL ⟨#[]⟩ (TC.all S.t.lv) = S.es.map Ent.it := (geL_empty _).trans ok.its
    rw [hge, List.map_map] at hxi
    obtain ⟨e, he0, rfl⟩ : ∃ e, S.es[i]? = some e ∧ TC.ya e.it = args := by simpa using hxi
    have hil := (List.getElem?_eq_some_iff.1 he0).1
    have hv1 := vsum_le (fun e he => (ok.es e he).2.1) (i + 1) hil
    have hv2 := vsum_succ he0
    have hv3 : (i + 1) * N ≤ S.es.length * N := Nat.mul_le_mul_right _ hil
    refine WP.region ?_
    refine OpsE.val (x_assign (v := .slice _ _ _) rfl) ?_
    refine OpsE.nil ?_
    refine ⟨rfl, rfl, rfl, fun w Fr H => ?_⟩
    refine WP.block ?_
    refine WP.region ?_
    refine OpsE.val (x_load (v := .int .i64 _) rfl Try.isAgg3 (H.look _) rfl) ?_
    refine OpsE.val (x_move (v := .slice (some ⟨e.blk, 0, none⟩) e.vs.length e.cap) rfl) ?_
    refine OpsE.val (x_lenL rfl rfl Try.runUnderlying84) ?_
    refine OpsE.val (x_add (z := ((vsum S.es (i + 1) : Nat) : Int)) rfl rfl (by rw [i64n (by omega) (by omega)]; omega)) ?_
    refine OpsE.store (v := .int .i64 _) rfl rfl rfl rfl Try.sizeOf3 H (by simp) ?_
    intro w H
    simp only [List.set_cons_zero, List.set_cons_succ] at H
    refine OpsE.nil ?_
    refine InBlock.normal ?_
    exact H.swap
  · intro bm w H
    have hge : TC.geL ⟨#[]⟩ (TC.all S.t.lv) = S.es.map Ent.it := (geL_empty _).trans ok.its
    rw [List.length_map, hge, List.length_map] at H
    refine InBlock.normal ?_
    refine Then.normal ?_
    refine WP.seq ?_
    refine WP.region ?_
    refine OpsE.val (x_load (v := .int .i64 _) rfl Try.isAgg3 (H.look _) rfl) ?_
    refine OpsE.val (x_assign (v := .int .i64 _) rfl) ?_
    refine OpsE.nil ?_
    refine Then.normal ?_
    refine WP.ret ?_
    refine Leave.ret (v := .int .i64 _) rfl ?_
    have hvc : vsum S.es S.es.length = vcount (ek S.es) := by unfold vsum vcount ek; rw [List.take_length, List.map_map]; rfl
    rw [hvc] at H ⊢
    refine ⟨[bm], rfl, (pt b3 (.cells [Value.int .i64 (vcount (ek S.es) : Int)].toArray 3 (0, 0)) :: TC.bP f2 b 0 :: TC.bS f3 ⟨#[]⟩ :: S.h1 b :: S.t.ap :: TC.Lvs S.t.lv :: S.h4 :: S.h5 :: S.h6 :: l), H, fun w H => ⟨rfl, StP.open.2 H.tail.tail.tail⟩⟩
  · intro bm i e c w hi hj H
    cases e with
    | ret =>
      exact (sat_lift.1 H.swap).1.elim
    | exit id =>
      exact (sat_lift.1 H.swap).1.elim
    | _ => cases hj
end Go.Proofs.Ytbhbdpbhhfemhaa

/-
  The document's example (head) of the store's laws.
-/
namespace Go.Proofs.Ytbhbdpbhhfemhaa
open Go Go.Proofs
set_option maxRecDepth 100000
set_option maxHeartbeats 8000000
set_option linter.unusedVariables false

theorem head_spec {w : World} {l : List HP} (H : Sat w l) : Calls Try.prog 14 #[] w (Ret fun v w' => v = .bool true ∧ Sat w' l) := by
  refine Calls.of_wp Try.func14 rfl Try.ntmps14 Try.results14 (Nat.le_of_ble_eq_true rfl) ?_
  refine WP.seq ?_
  refine WP.region ?_
  refine OpsE.val (x_assign (v := .bool _) rfl) ?_
  refine OpsE.nil ?_
  refine Then.normal ?_
  refine WP.seq ?_
  refine WP.region ?_
  refine OpsE.call (x_call (vl := [.int .i64 _, .slice _ _ _]) rfl Try.call40) (New_spec (ws := []) H RIn.nil (by decide) (fun _ h => by cases h)) ?_
  rintro _ w (⟨hb, _⟩ | ⟨hg, b, S0, rfl, ok0, hl0, hh0, hk0, H⟩)
  · exact absurd ⟨by decide, by decide, fun j x h => absurd h (Nat.not_lt_zero _), fun x h => by cases h⟩ hb
  refine OpsE.val (x_move (v := .tuple _) rfl) ?_
  refine OpsE.val (x_extract (v := .pointer _) rfl rfl) ?_
  refine OpsE.val (x_extract (v := .int .i64 _) rfl rfl) ?_
  refine OpsE.val (x_assign (v := .pointer _) rfl) ?_
  refine OpsE.val (x_assign (v := .int .i64 _) rfl) ?_
  refine OpsE.nil ?_
  refine Then.normal ?_
  refine WP.seq ?_
  refine WP.region ?_
  refine OpsE.val (x_move (v := .pointer _) rfl) ?_
  refine OpsE.val (x_build3_2 (vl := [.string _, .string _]) rfl Try.zeroValue26 Try.runUnderlying26 Try.sizeOf9 Try.sizeOf9 Try.sizeOf4 rfl) ?_
  refine OpsE.buildSlice1 (vs := wrc ⟨⟨#[97]⟩, ⟨#[120]⟩, false⟩) KW (by decide) rfl rfl rfl (by decide) H ?_
  intro g1 w H
  refine OpsE.val (x_build3_2 (vl := [.int .i64 _, .slice _ _ _]) rfl Try.zeroValue33 Try.runUnderlying33 Try.sizeOf3 Try.sizeOf3 Try.sizeOf22 rfl) ?_
  have hr1 : RIn wrc TWr (pt g1 (.cells (wrc ⟨⟨#[97]⟩, ⟨#[120]⟩, false⟩).toArray TWr (0, 0)) :: l) (some ⟨g1, 0, none⟩) 1 1 [⟨⟨#[97]⟩, ⟨#[120]⟩, false⟩] := ⟨rfl, Nat.le_refl _, .inr ⟨g1, 0, _, (TWr, (0, 0)), [], [], rfl, fun w H => H.look g1, by simp, rfl⟩⟩
  refine OpsE.call (x_call (vl := [.pointer _, .agg _]) rfl Try.call18) (Commit_spec (seq := 1) (time := 0) H.swap ok0 (by decide) hr1 (by decide) (by intro x hx; rcases List.mem_singleton.1 hx with rfl; decide)) ?_
  rintro _ w (⟨hng, _, _⟩ | ⟨hgd, rfl, S1, ok1, hl1, hh1, hk1, H⟩)
  · refine absurd ⟨by unfold SC.last; rw [hl0, hh0]; rfl, by decide, by decide, by decide, ⟨by decide, fun j x hj hx => ?_⟩, fun c hc => by rw [hh0] at hc; cases hc⟩ hng
    have hj0 : j = 0 := by simp at hj; exact hj
    subst hj0
    simp at hx
    subst hx
    rfl
  refine OpsE.val (x_assign (v := .int .i64 _) rfl) ?_
  refine OpsE.nil ?_
  refine Then.normal ?_
  refine WP.seq ?_
  refine WP.region ?_
  refine OpsE.val (x_move (v := .pointer _) rfl) ?_
  refine OpsE.val (x_build3_2 (vl := [.string _, .bool _]) rfl Try.zeroValue26 Try.runUnderlying26 Try.sizeOf9 Try.sizeOf9 Try.sizeOf4 rfl) ?_
  refine OpsE.buildSlice1 (vs := wrc ⟨⟨#[97]⟩, ⟨#[]⟩, true⟩) KW (by decide) rfl rfl rfl (by decide) H ?_
  intro g2 w H
  refine OpsE.val (x_build3_2 (vl := [.int .i64 _, .slice _ _ _]) rfl Try.zeroValue33 Try.runUnderlying33 Try.sizeOf3 Try.sizeOf3 Try.sizeOf22 rfl) ?_
  have hr2 : RIn wrc TWr (pt g2 (.cells (wrc ⟨⟨#[97]⟩, ⟨#[]⟩, true⟩).toArray TWr (0, 0)) :: pt g1 (.cells (wrc ⟨⟨#[97]⟩, ⟨#[120]⟩, false⟩).toArray TWr (0, 0)) :: l) (some ⟨g2, 0, none⟩) 1 1 [⟨⟨#[97]⟩, ⟨#[]⟩, true⟩] := ⟨rfl, Nat.le_refl _, .inr ⟨g2, 0, _, (TWr, (0, 0)), [], [], rfl, fun w H => H.look g2, by simp, rfl⟩⟩
  have hcl1 : S1.hist.xs.map cma = [(1, 0, [⟨⟨#[97]⟩, ⟨#[120]⟩, false⟩])] := by rw [hh1, hh0]; rfl
  have hcn1 : S1.hist.xs.length = 1 := by have := congrArg List.length hcl1; simpa using this
  refine OpsE.call (x_call (vl := [.pointer _, .agg _]) rfl Try.call18) (Commit_spec (seq := 2) (time := 0) H.swap ok1 (by decide) hr2 (by decide) (by intro x hx; rcases List.mem_singleton.1 hx with rfl; decide)) ?_
  rintro _ w (⟨hng, _, _⟩ | ⟨hgd2, rfl, S2, ok2, hl2, hh2, hk2, H⟩)
  · refine absurd ⟨by unfold SC.last; rw [hl1, hl0, hcn1]; rfl, by decide, by decide, by decide, ⟨by decide, fun j x hj hx => ?_⟩, fun c hc => ?_⟩ hng
    · have hj0 : j = 0 := by simp at hj; exact hj
      subst hj0
      simp at hx
      subst hx
      rfl
    · have h1 := List.mem_of_getLast? hc
      have h2 : cma c ∈ S1.hist.xs.map cma := List.mem_map.2 ⟨c, h1, rfl⟩
      rw [hcl1] at h2
      have h3 := List.mem_singleton.1 h2
      have h4 : c.time = 0 := (Prod.mk.inj (Prod.mk.inj h3).2).1
      omega
  refine OpsE.val (x_assign (v := .int .i64 _) rfl) ?_
  refine OpsE.nil ?_
  refine Then.normal ?_
  refine WP.seq ?_
  refine WP.region ?_
  refine OpsE.val (x_move (v := .pointer _) rfl) ?_
  have hks1 : ek S1.es = [(⟨#[97]⟩, [⟨1, ⟨#[120]⟩, false⟩])] := by rw [hk1, hk0]; rfl
  have hks2 : ek S2.es = [(⟨#[97]⟩, [⟨1, ⟨#[120]⟩, false⟩, ⟨2, ⟨#[]⟩, true⟩])] := by rw [hk2, hks1]; simp [addK, putK, vsK, slt_irrefl]
  have hvs : vsOf S2.es ⟨#[97]⟩ = [⟨1, ⟨#[120]⟩, false⟩, ⟨2, ⟨#[]⟩, true⟩] := by rw [vsOf_ek, hks2]; simp [vsK]
  have hcn2 : S2.hist.xs.length = 2 := by have := congrArg List.length hh2; simpa [hcn1] using this
  have hG := SGet_spec (key := ⟨#[97]⟩) (q := 1) (StP.open.1 H) ok2
  rw [hvs] at hG
  refine OpsE.call (x_call (vl := [.pointer _, .string _, .int .i64 _]) rfl Try.call28) hG ?_
  rintro _ w ⟨rfl, H⟩
  refine OpsE.val (x_move (v := .tuple _) rfl) ?_
  refine OpsE.val (x_extract (v := .string ⟨#[120]⟩) rfl rfl) ?_
  refine OpsE.val (x_extract (v := .bool true) rfl rfl) ?_
  refine OpsE.val (x_assign (v := .string _) rfl) ?_
  refine OpsE.val (x_assign (v := .bool _) rfl) ?_
  refine OpsE.nil ?_
  refine Then.normal ?_
  refine WP.seq ?_
  refine WP.region ?_
  refine OpsE.val (x_move (v := .pointer _) rfl) ?_
  have hG := SGet_spec (key := ⟨#[97]⟩) (q := 2) H ok2
  rw [hvs] at hG
  refine OpsE.call (x_call (vl := [.pointer _, .string _, .int .i64 _]) rfl Try.call28) hG ?_
  rintro _ w ⟨rfl, H⟩
  refine OpsE.val (x_move (v := .tuple _) rfl) ?_
  refine OpsE.val (x_extract (v := .string ⟨#[]⟩) rfl rfl) ?_
  refine OpsE.val (x_extract (v := .bool false) rfl rfl) ?_
  refine OpsE.val (x_assign (v := .string _) rfl) ?_
  refine OpsE.val (x_assign (v := .bool _) rfl) ?_
  refine OpsE.nil ?_
  refine Then.normal ?_
  refine WP.seq ?_
  refine WP.region ?_
  refine OpsE.val (x_move (v := .int .i64 _) rfl) ?_
  refine OpsE.val (x_eqI rfl rfl) ?_
  rw [decide_eq_true (by decide)]
  refine OpsE.val (x_move (v := .bool _) rfl) ?_
  refine OpsE.yes rfl ?_
  refine OpsE.val (x_move (v := .int .i64 _) rfl) ?_
  refine OpsE.yes rfl ?_
  refine OpsE.val (x_eqI rfl rfl) ?_
  rw [decide_eq_true (by decide)]
  refine OpsE.val (x_pickT rfl rfl) ?_
  refine OpsE.val (x_move (v := .bool _) rfl) ?_
  refine OpsE.yes rfl ?_
  refine OpsE.val (x_move (v := .int .i64 _) rfl) ?_
  refine OpsE.yes rfl ?_
  refine OpsE.val (x_eqI rfl rfl) ?_
  rw [decide_eq_true (by decide)]
  refine OpsE.val (x_pickT rfl rfl) ?_
  refine OpsE.val (x_move (v := .bool _) rfl) ?_
  refine OpsE.yes rfl ?_
  refine OpsE.val (x_move (v := .string _) rfl) ?_
  refine OpsE.yes rfl ?_
  refine OpsE.val (x_eqS rfl rfl) ?_
  rw [decide_eq_true (by decide)]
  refine OpsE.val (x_pickT rfl rfl) ?_
  refine OpsE.val (x_move (v := .bool _) rfl) ?_
  refine OpsE.yes rfl ?_
  refine OpsE.val (x_move (v := .bool _) rfl) ?_
  refine OpsE.val (x_pickT rfl rfl) ?_
  refine OpsE.val (x_move (v := .bool _) rfl) ?_
  refine OpsE.yes rfl ?_
  refine OpsE.val (x_move (v := .bool _) rfl) ?_
  refine OpsE.yes rfl ?_
  refine OpsE.val (x_not rfl) ?_
  refine OpsE.val (x_pickT rfl rfl) ?_
  refine OpsE.val (x_move (v := .bool _) rfl) ?_
  refine OpsE.yes rfl ?_
  refine OpsE.val (x_move (v := .pointer _) rfl) ?_
  refine OpsE.yes rfl ?_
  refine OpsE.call (x_call (vl := [.pointer _, .int .i64 _]) rfl Try.call19) (Vacuum_spec (q := 2) (StP.open.2 H) ok2 (by rw [hcn2]; decide)) ?_
  rintro _ w (⟨hng, _, _⟩ | ⟨_, rfl, S3, ok3, hl3, hh3, hk3, H⟩)
  · refine absurd ⟨by rw [hl2, hl1, hl0]; decide, by unfold SC.last; rw [hl2, hl1, hl0, hcn2]; decide⟩ hng
  refine OpsE.yes rfl ?_
  refine OpsE.val (x_eqI rfl rfl) ?_
  rw [decide_eq_true (by decide)]
  refine OpsE.val (x_pickT rfl rfl) ?_
  refine OpsE.val (x_move (v := .bool _) rfl) ?_
  refine OpsE.yes rfl ?_
  refine OpsE.val (x_move (v := .pointer _) rfl) ?_
  refine OpsE.yes rfl ?_
  have hk4 : ek S3.es = [] := by
    cases hc : ek S3.es with
    | nil => rfl
    | cons p ps =>
      exfalso
      obtain ⟨k, vs⟩ := p
      obtain ⟨h1, vs0, h2, h3⟩ := (hk3 k vs).1 (by rw [hc]; simp)
      rw [hks2] at h2
      have h4 := (Prod.mk.inj (List.mem_singleton.1 h2)).2
      rw [h4] at h3
      exact h1 h3
  have hV := Versions_spec H ok3
  rw [hk4] at hV
  refine OpsE.call (x_call (vl := [.pointer _]) rfl Try.call20) hV ?_
  rintro _ w ⟨rfl, H⟩
  refine OpsE.yes rfl ?_
  refine OpsE.val (x_eqI rfl rfl) ?_
  rw [decide_eq_true (by decide)]
  refine OpsE.val (x_pickT rfl rfl) ?_
  refine OpsE.val (x_assign (v := .bool _) rfl) ?_
  refine OpsE.nil ?_
  refine Then.normal ?_
  refine WP.ret ?_
  refine Leave0.ret (v := .bool _) rfl ?_
  exact ⟨rfl, H.tail.tail.tail⟩
end Go.Proofs.Ytbhbdpbhhfemhaa

/-
  The store: Range, as an iterator.
-/
namespace Go.Proofs.Ytbhbdpbhhfemhaa
open Go Go.Proofs
set_option maxRecDepth 100000
set_option maxHeartbeats 8000000
set_option linter.unusedVariables false

abbrev bI (b : Nat) (z : Int) : HP := pt b (.cells [Value.int .i64 z].toArray 3 (0, 0))
abbrev bQ (b s : Nat) : HP := pt b (.cells [Value.pointer (some ⟨s, 0, none⟩)].toArray 28 (0, 0))
theorem SRange_spec {w : World} {l : List HP} {b : Nat} {x y : ByteArray} {q : Int} (H : Sat w l) :
    Calls Try.prog 32 #[.pointer (some ⟨b, 0, none⟩), .string x, .string y, .int .i64 q] w (Ret fun v w' => ∃ b2 b3 b4 b5, v = .func (.func 54) #[] #[.pointer (some ⟨b2, 0, none⟩), .pointer (some ⟨b3, 0, none⟩), .pointer (some ⟨b4, 0, none⟩), .pointer (some ⟨b5, 0, none⟩)] ∧
      Sat w' (bI b5 q :: TC.bS b4 y :: TC.bS b3 x :: bQ b2 b :: l)) := by
  refine Calls.of_wp Try.func32 rfl Try.ntmps32 Try.results32 (Nat.le_of_ble_eq_true rfl) ?_
  refine WP.seq ?_
  refine WP.region ?_
  refine OpsE.box1 (v := .pointer _) rfl rfl H ?_
  intro b4 w H
  refine OpsE.box1 (v := .string _) rfl rfl H ?_
  intro b5 w H
  refine OpsE.box1 (v := .string _) rfl rfl H ?_
  intro b6 w H
  refine OpsE.box1 (v := .int .i64 _) rfl rfl H ?_
  intro b7 w H
  refine OpsE.val (x_assign (v := .nilFunc) rfl) ?_
  refine OpsE.nil ?_
  refine Then.normal ?_
  refine WP.seq ?_
  refine WP.region ?_
  refine OpsE.val (x_makeFunc (vl := [.pointer _, .pointer _, .pointer _, .pointer _]) rfl) ?_
  refine OpsE.val (x_assign (v := .func _ _ _) rfl) ?_
  refine OpsE.nil ?_
  refine Then.normal ?_
  refine WP.ret ?_
  refine Leave0.ret (v := .func _ _ _) rfl ?_
  exact ⟨b4, b5, b6, b7, rfl, H⟩
/-- the entries from a key on, ahead of another one; an empty one: no end -/
def rgE (a b : ByteArray) (es : List Ent) : List Ent := (es.filter fun e => !slt e.key a).takeWhile fun e => decide (b = ByteArray.empty) || slt e.key b
theorem rgE_it (a b : ByteArray) (es : List Ent) : TC.rgL a b (es.map Ent.it) = (rgE a b es).map Ent.it := by
  unfold TC.rgL TC.geL rgE
  rw [List.filter_map, List.takeWhile_map]; rfl
def shE (q : Int) (e : Ent) : Option (List Value) := (atv e.vs q).map fun s => [.string e.key, .string s]
def cntF {α β : Type} (f : α → Option β) (zs : List α) (i : Nat) : Nat := ((zs.take i).filterMap f).length
theorem cntF_some {α β : Type} {f : α → Option β} {zs : List α} {i : Nat} {e : α} {v : β} (h : zs[i]? = some e) (hv : f e = some v) : (zs.filterMap f)[cntF f zs i]? = some v ∧ cntF f zs (i + 1) = cntF f zs i + 1 := by
  obtain ⟨hi, he⟩ := List.getElem?_eq_some_iff.1 h
  constructor
  · have e1 : zs = zs.take i ++ e :: zs.drop (i + 1) := by rw [← he, ← List.drop_eq_getElem_cons hi, List.take_append_drop]
    have e2 : zs.filterMap f = (zs.take i).filterMap f ++ v :: (zs.drop (i + 1)).filterMap f := by
      conv => lhs; rw [e1]
      rw [List.filterMap_append, List.filterMap_cons_some hv]
    rw [e2]; unfold cntF; simp
  · unfold cntF
    rw [List.take_add_one, h, Option.toList_some, List.filterMap_append]
    simp [hv]
theorem cntF_none {α β : Type} {f : α → Option β} {zs : List α} {i : Nat} {e : α} (h : zs[i]? = some e) (hv : f e = none) : cntF f zs (i + 1) = cntF f zs i := by
  unfold cntF
  rw [List.take_add_one, h, Option.toList_some, List.filterMap_append]
  simp [hv]
theorem cntF_all {α β : Type} (f : α → Option β) (zs : List α) : cntF f zs zs.length = (zs.filterMap f).length := by unfold cntF; rw [List.take_length]

theorem SRange1_seq {r : List HP} {b b2 b3 b4 b5 N : Nat} {S : SC} {x y : ByteArray} {q : Int} (ok : S.Ok N) :
    Seq Try.prog (.func (.func 54) #[] #[.pointer (some ⟨b2, 0, none⟩), .pointer (some ⟨b3, 0, none⟩), .pointer (some ⟨b4, 0, none⟩), .pointer (some ⟨b5, 0, none⟩)])
      (bQ b2 b :: TC.bS b3 x :: TC.bS b4 y :: bI b5 q :: TC.hd b S.cs TSt :: S.t.ap :: TC.Lvs S.t.lv :: S.h4 :: r) ((rgE x y S.es).filterMap (shE q)) := by
  refine ⟨_, [.pointer (some ⟨b2, 0, none⟩), .pointer (some ⟨b3, 0, none⟩), .pointer (some ⟨b4, 0, none⟩), .pointer (some ⟨b5, 0, none⟩)], rfl, Try.call54, fun yv K D hyc hy w H => ?_⟩
  obtain ⟨zs, hzs⟩ : ∃ zs, rgE x y S.es = zs := ⟨_, rfl⟩
  have hxs : TC.rgL x y (TC.all S.t.lv) = zs.map Ent.it := by rw [ok.its, rgE_it, hzs]
  rw [hzs] at hy ⊢
  show Calls _ _ #[yv, .pointer (some ⟨b2, 0, none⟩), .pointer (some ⟨b3, 0, none⟩), .pointer (some ⟨b4, 0, none⟩), .pointer (some ⟨b5, 0, none⟩)] _ _
  refine Calls.of_wp_marks Try.func54 rfl Try.ntmps54 Try.results54 (Nat.le_of_ble_eq_true rfl) ?_
  refine WP.seq ?_
  refine WP.region ?_
  refine OpsE.box1 (v := yv) rfl hyc H ?_
  intro yb w H
  refine OpsE.nil ?_
  refine Then.normal ?_
  refine WP.seq ?_
  refine WP.seq ?_
  refine WP.region ?_
  refine OpsE.val (x_load (v := .pointer (some ⟨b, 0, none⟩)) rfl Try.isAgg28 (H.look _) rfl) ?_
  refine OpsE.val (x_eqPs rfl rfl Try.runUnderlying28) ?_
  refine OpsE.nil ?_
  refine Then.normal ?_
  refine WP.cond_f rfl rfl ?_
  refine WP.skip ?_
  refine Then.normal ?_
  refine WP.seq ?_
  refine WP.mix (kdOf [0, 0, 0, 0, 0]) (fun w => Sat w _) (by kernel_rfl) (by kernel_rfl) (fun w hw => Sat.heap (H) hw) ?_
  intro w hw; replace H := H.heap hw; clear hw
  refine MixE.q rfl (fun w H => x_load (v := .pointer (some ⟨b, 0, none⟩)) rfl Try.isAgg28 (H.look _) rfl) ?_
  refine MixE.q rfl (fun w H => x_nilCheck rfl) ?_
  refine MixE.q rfl (fun w H => x_fieldAddr0 rfl Try.runUnderlying82 rfl rfl Try.sizeOf80) ?_
  refine MixE.q rfl (fun w H => x_load (v := .string x) rfl Try.isAgg9 (H.look _) rfl) ?_
  refine MixE.q rfl (fun w H => x_load (v := .string y) rfl Try.isAgg9 (H.look _) rfl) ?_
  refine MixE.two _ (fun k _ => kdOf_ge (Nat.le_add_right _ _)) ?_
  refine OpsE.call (x_call (vl := [.pointer _, .string _, .string _]) rfl Try.call55) (TC.Range_spec H) ?_
  rintro _ w ⟨c2, c3, c4, rfl, H⟩
  refine OpsE.nil ?_
  refine Then.normal ?_
  refine WP.block ?_
  refine WP.rangeFunc (fun i => HP.sep (pt yb (.cells [yv].toArray 101 (0, 0))) (K (cntF (shE q) zs i))) (fun i e => HP.sep (lift (e = .ret ∧ cntF (shE q) zs i < (zs.filterMap (shE q)).length)) (HP.sep (pt yb (.cells [yv].toArray 101 (0, 0))) (D (cntF (shE q) zs i)))) rfl (TC.Range1_seq (b2 := c2) (b3 := c3) (b4 := c4) (a := x) (b := y) (hb := b) (TH := TSt) (r := S.h4 :: bQ b2 b :: TC.bS b3 x :: TC.bS b4 y :: bI b5 q :: r) ok.hd ok.t) (fun _ h => by obtain ⟨_, _, rfl⟩ := List.mem_map.1 h; rfl) (sat_sep.2 (H.perm (by show _ = stars (pt yb (.cells [yv].toArray 101 (0, 0)) :: K 0 :: TC.bP c2 b 0 :: TC.bS c3 x :: TC.bS c4 y :: TC.hd b S.cs TSt :: S.t.ap :: TC.Lvs S.t.lv :: S.h4 :: bQ b2 b :: TC.bS b3 x :: TC.bS b4 y :: bI b5 q :: r); simp only [stars_cons]; ac_rfl))) ?_ ?_ ?_
  · intro i args lp w hxi
    rw [hxs, List.map_map] at hxi
    obtain ⟨e, he0, rfl⟩ : ∃ e, zs[i]? = some e ∧ TC.ya e.it = args := by simpa using hxi
    refine WP.seq ?_
    refine WP.region ?_
    refine OpsE.val (x_assign (v := .string _) rfl) ?_
    refine OpsE.nil ?_
    refine Then.normal ?_
    refine WP.region ?_
    refine OpsE.val (x_assign (v := .slice _ _ _) rfl) ?_
    refine OpsE.nil ?_
    refine ⟨rfl, rfl, rfl, fun w Fr H => ?_⟩
    replace H := sat_sep.1 H.swap
    refine WP.block ?_
    refine WP.seq ?_
    refine WP.region ?_
    refine OpsE.val (x_move (v := .slice _ _ _) rfl) ?_
    refine OpsE.val (x_load (v := .int .i64 q) rfl Try.isAgg3 (H.look _) rfl) ?_
    obtain ⟨hem, heo⟩ : e ∈ S.es ∧ e.Ok := by
      have h1 : e ∈ zs := List.mem_of_getElem? he0
      rw [← hzs] at h1
      have h2 := (List.mem_filter.1 ((List.takeWhile_sublist _).subset h1)).1
      exact ⟨h2, (ok.es e h2).1⟩
    refine OpsE.call (x_call (vl := [.slice (some ⟨e.blk, 0, none⟩) e.vs.length e.cap, .int .i64 q]) rfl Try.call53) (At_spec (v := (some ⟨e.blk, 0, none⟩, e.vs.length, e.cap)) (vs := e.vs) (q := q) H ⟨heo.ok, .inr ⟨e.blk, e.cap, heo.cap, rfl, e.tl, fun w H => ent_at hem (H.take S.h4)⟩⟩) ?_
    rintro _ w ⟨rfl, H⟩
    obtain ⟨s1, b1, hat, hrel⟩ : ∃ s1 b1, atT (atv e.vs q) = .tuple #[.string s1, .bool b1] ∧ atv e.vs q = bif b1 then some s1 else none := by
      cases atv e.vs q with
      | none => exact ⟨ByteArray.empty, false, rfl, rfl⟩
      | some s => exact ⟨s, true, rfl, rfl⟩
    rw [hat]
    refine OpsE.val (x_move (v := .tuple _) rfl) ?_
    refine OpsE.val (x_extract (v := .string _) rfl rfl) ?_
    refine OpsE.val (x_extract (v := .bool b1) rfl rfl) ?_
    cases hb1 : b1
    case false =>
      refine OpsE.val (x_assign (v := .string _) rfl) ?_
      refine OpsE.val (x_assign (v := .bool _) rfl) ?_
      refine OpsE.nil ?_
      refine Then.normal ?_
      refine WP.seq ?_
      refine WP.region ?_
      refine OpsE.val (x_move (v := .bool _) rfl) ?_
      refine OpsE.val (x_move (v := .bool _) rfl) ?_
      refine OpsE.no rfl ?_
      refine OpsE.no rfl ?_
      refine OpsE.no rfl ?_
      refine OpsE.no rfl ?_
      refine OpsE.no rfl ?_
      refine OpsE.val (x_pickF rfl rfl) ?_
      refine OpsE.nil ?_
      refine Then.normal ?_
      refine WP.cond_f rfl rfl ?_
      refine WP.skip ?_
      refine InBlock.normal ?_
      show Sat w (Fr :: HP.sep _ _ :: _)
      refine Sat.swap (sat_sep.2 ?_)
      subst hb1
      rw [cntF_none he0 (by unfold shE; rw [hrel]; rfl)]
      exact H
    case true =>
      refine OpsE.val (x_assign (v := .string _) rfl) ?_
      refine OpsE.val (x_assign (v := .bool _) rfl) ?_
      refine OpsE.nil ?_
      refine Then.normal ?_
      refine WP.seq ?_
      refine WP.region ?_
      refine OpsE.val (x_move (v := .bool _) rfl) ?_
      refine OpsE.val (x_move (v := .bool _) rfl) ?_
      refine OpsE.yes rfl ?_
      refine OpsE.val (x_load (v := yv) rfl Try.isAgg101 (H.look _) rfl) ?_
      refine OpsE.yes rfl ?_
      refine OpsE.val (x_move (v := .string _) rfl) ?_
      refine OpsE.yes rfl ?_
      refine OpsE.val (x_move (v := .string _) rfl) ?_
      refine OpsE.yes rfl ?_
      subst hb1
      have hv : shE q e = some [.string e.key, .string s1] := by unfold shE; rw [hrel]; rfl
      obtain ⟨hyi, hci⟩ := cntF_some he0 hv
      have H3 : Sat w (HP.sep (pt yb (.cells [yv].toArray 101 (0, 0))) (HP.sep Fr (HP.sep (TC.bP c2 b 0) (HP.sep (TC.bS c3 x) (TC.bS c4 y)))) :: K (cntF (shE q) zs i) :: bQ b2 b :: TC.bS b3 x :: TC.bS b4 y :: bI b5 q :: TC.hd b S.cs TSt :: S.t.ap :: TC.Lvs S.t.lv :: S.h4 :: r) := H.perm (by simp only [stars_cons]; ac_rfl)
      refine OpsE.yield (yv := yv) (args := [.string e.key, .string s1]) rfl rfl (hy _ _ _ w hyi H3) ?_
      rintro _ w ⟨bb, rfl, H⟩
      refine OpsE.yes rfl ?_
      refine OpsE.val (x_not rfl) ?_
      refine OpsE.val (x_pickT rfl rfl) ?_
      refine OpsE.nil ?_
      refine Then.normal ?_
      refine WP.cond rfl (fun hb3 => ?_) (fun hb3 => ?_)
      · skip
        refine WP.ret ?_
        refine InBlock.ret ?_
        have hbf : bb = false := by simpa using hb3
        subst hbf
        show Sat w (Fr :: HP.sep _ _ :: _)
        refine Sat.swap (sat_sep.2 (sat_lift.2 ⟨⟨rfl, (List.getElem?_eq_some_iff.1 hyi).1⟩, sat_sep.2 ?_⟩))
        exact H.perm (by simp only [stars_cons, cond]; ac_rfl)
      · skip
        refine WP.skip ?_
        refine InBlock.normal ?_
        have hbt : bb = true := by simpa using hb3
        subst hbt
        show Sat w (Fr :: HP.sep _ _ :: _)
        refine Sat.swap (sat_sep.2 ?_)
        rw [hci]
        exact H.perm (by simp only [stars_cons, cond]; ac_rfl)
  · intro bm w H
    refine InBlock.normal ?_
    refine Leave.normal (v := .tuple #[]) rfl ?_
    rw [List.length_map, hxs, List.length_map, cntF_all] at H
    have H1 := sat_sep.1 H.swap
    refine ⟨[bm], rfl, (pt yb (.cells [yv].toArray 101 (0, 0)) :: TC.bP c2 b 0 :: TC.bS c3 x :: TC.bS c4 y :: K (zs.filterMap (shE q)).length :: bQ b2 b :: TC.bS b3 x :: TC.bS b4 y :: bI b5 q :: TC.hd b S.cs TSt :: S.t.ap :: TC.Lvs S.t.lv :: S.h4 :: r), H1.perm (by simp only [List.map, List.cons_append, List.nil_append, stars_cons]; ac_rfl), fun w' H' => .inl H'.tail.tail.tail.tail⟩
  · intro bm i e c w hi hj H
    cases e with
    | ret =>
      have H1 := sat_sep.1 H.swap
      have hlt := (sat_lift.1 H1).1.2
      replace H := sat_sep.1 (sat_lift.1 H1).2
      refine InBlock.ret ?_
      refine Leave.ret (v := .tuple #[]) rfl ?_
      refine ⟨[bm], rfl, (pt yb (.cells [yv].toArray 101 (0, 0)) :: TC.bP c2 b 0 :: TC.bS c3 x :: TC.bS c4 y :: D (cntF (shE q) zs i) :: bQ b2 b :: TC.bS b3 x :: TC.bS b4 y :: bI b5 q :: TC.hd b S.cs TSt :: S.t.ap :: TC.Lvs S.t.lv :: S.h4 :: r), H.perm (by simp only [List.map, List.cons_append, List.nil_append, stars_cons]; ac_rfl), fun w' H' => .inr ⟨_, hlt, H'.tail.tail.tail.tail⟩⟩
    | exit id =>
      exact absurd (sat_lift.1 (sat_sep.1 H.swap)).1.1 (by simp)
    | _ => cases hj
end Go.Proofs.Ytbhbdpbhhfemhaa
