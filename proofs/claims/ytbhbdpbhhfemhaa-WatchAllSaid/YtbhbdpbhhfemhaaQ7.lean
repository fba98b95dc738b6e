/-
  Parts of the proof, joined in one file: WParts, Mixf, WAll.
-/
import Derived.Test.YtbhbdpbhhfemhaaQ6
import Derived.Laws.BytesString
import Derived.Test.YtbhbdpbhhfemhaaQ1
set_option linter.unusedSimpArgs false
set_option linter.unusedVariables false
/-
  WatchParts: the walk.
-/
namespace Go.Proofs.Ytbhbdpbhhfemhaa
open Go Go.Proofs
set_option maxRecDepth 100000
set_option maxHeartbeats 16000000
set_option linter.unusedVariables false

theorem KB : ElemOk Try.prog 67 5 1 1 (.int .u8 0) := ⟨Try.underlying67, ⟨Try.t5, Try.type5, rfl, rfl, rfl⟩, rfl⟩
theorem x_bytes1 {P : Program} {E : Env} {w : World} {ty src dst e : TypeId} {x : Operand} {g c : Nat} {n : Int} {t : TypeId} {fz : Nat × Nat} (hx : evE E x = .slice (some ⟨g, 0, none⟩) 1 c) (hs : P.underlying src = some (.slice e)) (he : P.underlying e = some (.int .u8)) (hd : P.underlying dst = some .string)
    (hg : w.heap[g]? = some (.cells [Value.int .u8 n].toArray t fz)) : (xop E (.convert src dst x) ty).run P w = .ok (.value (.string ⟨#[UInt8.ofNat n.toNat]⟩)) w := by
  have h1 : (loadCells ⟨g, 0, none⟩ 1).run P w = .ok ([n].map (Value.int .u8)).toArray w := by
    have := run_loadCells_list (P := P) (w := w) ⟨g, 0, none⟩ [Value.int .u8 n] (fun j v h => by
      have e : (⟨g, 0, none⟩ : Addr).add j = ⟨g, j, none⟩ := by unfold Addr.add; split <;> simp_all
      rw [e]
      exact cell_of hg (by simpa using h))
    simpa using this
  have h2 := run_bytesToString w ⟨g, 0, none⟩ 1 c [n] h1
  have h3 := run_convert_bytes_string w src dst e (some ⟨g, 0, none⟩) 1 c hs he hd
  rw [h2] at h3
  simp [xop, execOp, hx, h3]
  rfl

def kb (b : Nat) : ByteArray := ⟨#[107]⟩ ++ ⟨#[UInt8.ofNat b]⟩
theorem kb_data (b : Nat) : (kb b).data.toList = [107, UInt8.ofNat b] := by unfold kb; simp
theorem kb_size (b : Nat) : (kb b).size = 2 := by unfold kb; rw [ByteArray.size_append]; rfl
theorem hasP_kb {b : Nat} {s : ByteArray} {t : List UInt8} (hs : s.data.toList = 107 :: t) : hasP (kb b) s = decide (t[0]? = some (UInt8.ofNat b)) := by
  have h1 : s.size = t.length + 1 := by show s.data.size = _; rw [← Array.length_toList, hs]; rfl
  unfold hasP
  rw [kb_size, h1]
  have h2 : (s.extract 0 2 = kb b) ↔ t.take 1 = [UInt8.ofNat b] := by
    rw [ByteArray.ext_iff, ← Array.toList_inj, kb_data]
    simp [ByteArray.data_extract, hs]
  cases t with
  | nil => rfl
  | cons u t =>
    rw [decide_eq_true (by show 2 ≤ t.length + 1 + 1; omega), Bool.true_and]
    rw [decide_eq_decide]
    rw [h2]
    simp
/-- all writes of commits -/
def allW (cms : List Cmt) : List Wr := cms.flatMap fun c => c.2.2
theorem allW_snoc (cms : List Cmt) (c : Cmt) : allW (cms ++ [c]) = allW cms ++ c.2.2 := by unfold allW; rw [List.flatMap_append]; simp
theorem allW_only (p : ByteArray) : ∀ cms : List Cmt, allW (onlyL p cms) = (allW cms).filter fun x => hasP p x.key
  | [] => rfl
  | c :: cms => by
    have h1 : onlyL p (c :: cms) = onlyL p [c] ++ onlyL p cms := onlyL_app p [c] cms
    have h2 : onlyL p [c] = if 0 < (onlyW p c.2.2).length then onlyL p [] ++ [onlyC p c] else onlyL p [] := onlyL_snoc p [] c
    rw [h1, h2]
    show allW _ = (c.2.2 ++ allW cms).filter _
    rw [List.filter_append, ← allW_only p cms]
    split
    · rfl
    · rename_i h
      have : onlyW p c.2.2 = [] := List.length_eq_zero_iff.1 (by omega)
      unfold onlyW at this
      rw [this]; rfl
theorem allW_app (a b : List Cmt) : allW (a ++ b) = allW a ++ allW b := by unfold allW; rw [List.flatMap_append]
/-- writes whose second byte lies below a bound -/
def lowB (B : Nat) (x : Wr) : Bool := match x.key.data.toList[1]? with
  | none => false
  | some v => decide (v.toNat < B)
def longW (x : Wr) : Bool := decide ((x.key.size : Int) > 1)
def cntB (B : Nat) (ws : List Wr) : Nat := (ws.filter (lowB B)).length
def lng (ws : List Wr) : Nat := (ws.filter longW).length
theorem lng_app (a b : List Wr) : lng (a ++ b) = lng a + lng b := by unfold lng; rw [List.filter_append, List.length_append]
theorem lng_snoc (a : List Wr) (x : Wr) : lng (a ++ [x]) = lng a + (if (x.key.size : Int) > 1 then 1 else 0) := by
  rw [lng_app]
  unfold lng longW
  by_cases h : (x.key.size : Int) > 1
  · rw [if_pos h, List.filter_cons_of_pos (by exact decide_eq_true h)]; rfl
  · rw [if_neg h, List.filter_cons_of_neg (by exact fun e => h (of_decide_eq_true e))]; rfl
theorem lng_le (a : List Wr) : lng a ≤ a.length := List.length_filter_le _ _
theorem cntB_zero (ws : List Wr) : cntB 0 ws = 0 := by
  unfold cntB
  rw [List.length_eq_zero_iff, List.filter_eq_nil_iff]
  intro x _
  unfold lowB
  split <;> simp
theorem cntB_all (ws : List Wr) : cntB 256 ws = lng ws := by
  unfold cntB lng
  congr 1
  apply List.filter_congr
  intro x _
  unfold lowB longW
  have h1 : x.key.size = x.key.data.toList.length := by rw [Array.length_toList]; rfl
  split
  · rename_i h
    rw [List.getElem?_eq_none_iff] at h
    exact (decide_eq_false (by omega)).symm
  · rename_i v h
    have h2 := (List.getElem?_eq_some_iff.1 h).1
    have h3 := v.toNat_lt
    rw [decide_eq_true (by omega : (x.key.size : Int) > 1), decide_eq_true (by omega : v.toNat < 256)]
theorem cntB_succ {B : Nat} (hB : B < 256) : ∀ (ws : List Wr), (∀ x ∈ ws, ∃ t, x.key.data.toList = 107 :: t) → cntB (B + 1) ws = cntB B ws + (ws.filter fun x => hasP (kb B) x.key).length
  | [], _ => rfl
  | x :: ws, h => by
    have ih := cntB_succ hB ws fun y hy => h y (by simp [hy])
    obtain ⟨t, ht⟩ := h x (by simp)
    have h1 := hasP_kb (b := B) ht
    unfold cntB at ih ⊢
    rw [List.filter_cons, List.filter_cons, List.filter_cons]
    have h2 : x.key.data.toList[1]? = t[0]? := by rw [ht]; rfl
    have hl : ∀ B, lowB B x = (match t[0]? with | none => false | some v => decide (v.toNat < B)) := fun B => by unfold lowB; rw [h2]
    rw [hl, hl, h1]
    cases h3 : t[0]? with
    | none => simpa using ih
    | some v =>
      have h4 : (some v = some (UInt8.ofNat B)) ↔ v.toNat = B := by
        rw [Option.some.injEq]
        constructor
        · rintro rfl; simp; omega
        · intro h; rw [← h]; simp
      rw [show (decide (some v = some (UInt8.ofNat B))) = decide (v.toNat = B) from decide_eq_decide.2 h4]
      simp only [decide_eq_true_iff]
      rcases Nat.lt_trichotomy v.toNat B with h5 | h5 | h5
      · rw [if_pos (by omega), if_pos h5, if_neg (by omega), List.length_cons, List.length_cons]; omega
      · rw [if_pos (by omega), if_neg (by omega), if_pos h5, List.length_cons, List.length_cons]; omega
      · rw [if_neg (by omega), if_neg (by omega), if_neg (by omega)]
        exact ih
theorem trimK_head (k : ByteArray) : ∃ t, (trimK k).data.toList = 107 :: t := by
  have h0 : ((⟨#[107]⟩ ++ k : ByteArray)).data.toList = 107 :: k.data.toList := by simp
  unfold trimK cutS
  split
  · exact ⟨(k.data.toList.take 19), by rw [ByteArray.data_extract, Array.toList_extract, h0]; simp⟩
  · exact ⟨_, h0⟩
theorem allW_head {first : Int} {wss : List (List Wr)} {cms : List Cmt} (h : ListOf first wss cms) : ∀ x ∈ allW cms, ∃ t, x.key.data.toList = 107 :: t := by
  intro x hx
  obtain ⟨c, hc, hxc⟩ := List.mem_flatMap.1 hx
  obtain ⟨i, hi, rfl⟩ := List.mem_iff_getElem.1 hc
  obtain ⟨ws, hws⟩ : ∃ ws, wss[i]? = some ws := ⟨_, List.getElem?_eq_getElem (by rw [← h.1]; exact hi)⟩
  obtain ⟨y, _, rfl⟩ := some_mem (h.2 i _ ws (List.getElem?_eq_getElem hi) hws).2.2 hxc
  exact trimK_head _
theorem allW_len {cms : List Cmt} (h : ∀ c ∈ cms, rightB c.2.2) : (allW cms).length ≤ cms.length * 200 := by
  induction cms with
  | nil => exact Nat.le_refl _
  | cons c cms ih =>
    show (c.2.2 ++ allW cms).length ≤ _
    have h1 := right_len (h c (by simp))
    have h2 := ih fun d hd => h d (by simp [hd])
    rw [List.length_append, List.length_cons]; omega
theorem allW_take {cms : List Cmt} (h : ∀ c ∈ cms, rightB c.2.2) (i : Nat) : (allW (cms.take i)).length ≤ cms.length * 200 := by
  refine Nat.le_trans (allW_len fun c hc => h c (List.mem_of_mem_take hc)) (Nat.mul_le_mul_right _ ?_)
  rw [List.length_take]; omega

theorem WatchParts_walk {w : World} {l : List HP} {a : Option Addr} {n c : Nat} {xs : List Sl} (H : Sat w l) (hr : SlIn l a n c xs) :
    Calls Try.prog 11 #[.slice a n c] w (Ret fun v w' => v = .bool true ∧ Sat w' l) := by
  have hln := slIn_len hr
  refine Calls.of_wp Try.func11 rfl Try.ntmps11 Try.results11 (Nat.le_of_ble_eq_true rfl) ?_
  refine WP.seq ?_
  refine WP.region ?_
  refine OpsE.val (x_assign (v := .bool _) rfl) ?_
  refine OpsE.nil ?_
  refine Then.normal ?_
  refine WP.seq ?_
  refine WP.seq ?_
  refine WP.region ?_
  refine OpsE.call (x_call (vl := []) rfl Try.call33) (head17_spec H) ?_
  rintro _ w ⟨rfl, H⟩
  refine OpsE.val (x_not rfl) ?_
  refine OpsE.nil ?_
  refine Then.normal ?_
  refine WP.cond_f rfl rfl ?_
  refine WP.skip ?_
  refine Then.normal ?_
  refine WP.seq ?_
  refine WP.seq ?_
  refine WP.region ?_
  refine OpsE.val (x_move (v := .slice a n c) rfl) ?_
  refine OpsE.val (x_lenL rfl rfl Try.runUnderlying36) ?_
  refine OpsE.val (x_gt rfl rfl) ?_
  by_cases c0 : (n : Int) > 30
  · rw [decide_eq_true c0]
    refine OpsE.nil ?_
    refine Then.normal ?_
    refine WP.cond_t rfl rfl ?_
    refine WP.seq ?_
    refine WP.region ?_
    refine OpsE.val (x_assign (v := .bool _) rfl) ?_
    refine OpsE.nil ?_
    refine Then.normal ?_
    refine WP.ret ?_
    refine Then.ret ?_
    refine Leave0.ret (v := .bool _) rfl ?_
    exact ⟨rfl, H⟩
  · rw [decide_eq_false c0]
    refine OpsE.nil ?_
    refine Then.normal ?_
    refine WP.cond_f rfl rfl ?_
    refine WP.skip ?_
    refine Then.normal ?_
    refine WP.seq ?_
    refine WP.region ?_
    refine OpsE.val (x_move (v := .slice _ _ _) rfl) ?_
    refine OpsE.call (x_call (vl := [.slice _ _ _, .int .i64 _]) rfl Try.call34) (made17_zero H hr (by omega)) ?_
    rintro _ w ⟨b, S, rl, rfl, ok, hlow, hhist, hlof, hlro, hlrw, H⟩
    refine OpsE.val (x_move (v := .tuple #[.pointer (some ⟨b, 0, none⟩), rl.val]) rfl) ?_
    refine OpsE.val (x_extract (v := .pointer (some ⟨b, 0, none⟩)) rfl rfl) ?_
    refine OpsE.val (x_extract (v := rl.val) rfl rfl) ?_
    refine OpsE.val (x_assign (v := .pointer _) rfl) ?_
    refine OpsE.val (x_assign (v := .slice _ _ _) rfl) ?_
    refine OpsE.nil ?_
    refine Then.normal ?_
    refine WP.seq ?_
    have hlo' : ListOf (0 + 1) (xs.map Sl.ws) (rl.xs.map cma) := hlof
    have htk := takes_list hlo' (by omega) (by decide)
    have hhead := allW_head hlof
    obtain ⟨cms, hcms⟩ : ∃ cms, rl.xs.map cma = cms := ⟨_, rfl⟩
    have hrl : rl.xs.length = n := by rw [← hln, ← hlof.1, List.length_map]
    rw [hcms] at hhist htk hhead
    have hcl : cms.length = n := by rw [← hcms, List.length_map, hrl]
    have hcs : ∀ (i : Nat) (c : Cmt), cms[i]? = some c → c.1 = 0 + 1 + i := fun i c hc => (htk.seq i c hc).1
    have hWl := allW_len htk.right
    have hcB : ∀ B, cntB B (allW cms) ≤ 6000 := fun B => by have : cntB B (allW cms) ≤ (allW cms).length := List.length_filter_le _ _; omega
    obtain ⟨R, hR⟩ : ∃ R, R = (rl.own cmc TCm :: stars (rl.xs.map cmH) :: l) := ⟨_, rfl⟩
    have hli : CIn R rl.ad rl.xs.length rl.cp (rl.xs.map Cm.v) := by rw [hR]; exact CIn.of_rw hlro hlrw
    rw [← hR] at H
    refine WP.region ?_
    refine OpsE.val (x_assign (v := .int .i64 _) rfl) ?_
    refine OpsE.nil ?_
    refine Then.normal ?_
    refine WP.seq ?_
    refine WP.seq ?_
    refine WP.region ?_
    refine OpsE.val (x_assign (v := .int .i64 _) rfl) ?_
    refine OpsE.nil ?_
    refine Then.normal ?_
    refine WP.block ?_
    refine WP.loopS [2, 5, 6, 7, 8, 10, 25, 26, 27, 28, 29, 30, 31, 32, 33, 34, 35, 36, 37, 38, 39, 40, 41, 42, 43, 44, 45, 46, 47, 48, 49, 50, 51, 52, 53] (fun (B : Nat) E w => E 6 = .int .i64 (B : Int) ∧ E 5 = .int .i64 ((cntB B (allW cms) : Nat) : Int) ∧ B ≤ 256 ∧ Sat w (StP b S :: R)) (fun B => 256 - B) 0 ⟨rfl, (show Value.int .i64 0 = _ by rw [cntB_zero]; rfl), Nat.zero_le _, H⟩ ?_
    clear H
    rintro B E1 w hs ⟨e6, e5, hB256, H⟩
    refine WP.seq ?_
    refine WP.seq ?_
    refine WP.region ?_
    refine OpsE.val (x_move (v := .int .i64 (B : Int)) e6) ?_
    refine OpsE.val (x_lt rfl rfl) ?_
    by_cases g1 : (B : Int) < 256
    · rw [decide_eq_true g1]
      refine OpsE.nil ?_
      refine Then.normal ?_
      refine WP.cond_t rfl rfl ?_
      refine WP.skip ?_
      refine Then.normal ?_
      refine WP.seq ?_
      refine WP.block ?_
      refine WP.seq ?_
      refine WP.region ?_
      refine OpsE.val (x_move (v := .pointer (some ⟨b, 0, none⟩)) (hs 3 rfl)) ?_
      refine OpsE.val (x_move (v := .int .i64 (B : Int)) e6) ?_
      refine OpsE.val (x_convI (z := (B : Int)) rfl Try.runUnderlying3 Try.runUnderlying5 (by show IntKind.u8.wrap _ = _; simp [IntKind.wrap, IntKind.bits, IntKind.signed]; omega)) ?_
      refine OpsE.buildSlice1 (vs := [.int .u8 (B : Int)]) KB (by decide) rfl rfl rfl (by decide) H ?_
      intro g w H
      refine OpsE.val (x_bytes1 (n := (B : Int)) rfl Try.underlying67 Try.underlying5 Try.underlying9 (H.look g)) ?_
      refine OpsE.val (x_cat rfl rfl (by show 1 + 1 ≤ 9223372036854775807; decide)) ?_
      have hcnt := cntB_succ (B := B) (by omega) (allW cms) hhead
      have hcB1 := hcB (B + 1)
      refine OpsE.call (x_call (vl := [.pointer _, .int .i64 _, .string _, .int .i64 _]) rfl Try.call35) (Poll_ok (k := 0) (mm := 100) (p := kb B) (H.take (StP b S)) ok hlow hhist htk.right hcs (by omega) (Nat.zero_le _) (by decide) (by rw [kb_size]; decide)) ?_
      rintro _ w ⟨ra, ia, rfl, hpa, hroa, hrwa, H⟩
      have hia : ia = n := by
        have h1 := onlyL_len (kb B) (((cms.drop 0).take ia))
        rw [← hpa.is, List.length_take] at h1
        have h2 : (cms.drop 0).length = n := by rw [List.length_drop, hcl]; omega
        rcases hpa.full with h | h
        · omega
        · omega
      have hall : ra.xs.map cma = onlyL (kb B) cms := by rw [hpa.is, List.drop_zero, hia, List.take_of_length_le (by omega)]
      have hral : ra.xs.length = (onlyL (kb B) cms).length := by rw [← hall, List.length_map]
      have hran : ra.xs.length ≤ n := by rw [hral]; have := onlyL_len (kb B) cms; omega
      have hlast : (allW ((ra.xs.map cma))).length = ((allW cms).filter fun x => hasP (kb B) x.key).length := by rw [hall, allW_only]
      refine OpsE.val (x_move (v := .tuple #[.agg (btc ra ((0 + ia : Nat) : Int)).toArray, .int .i64 0]) rfl) ?_
      refine OpsE.val (x_extract (v := .agg _) rfl rfl) ?_
      refine OpsE.val (x_extract (v := .int .i64 0) rfl rfl) ?_
      refine OpsE.allocA Try.zeroValue58 H ?_
      intro b7 w H
      refine OpsE.storeA (vs := btc ra ((0 + ia : Nat) : Int)) rfl rfl Try.sizeOf58 H (btc_one _ _) (Nat.le_refl _) ?_
      intro w H
      refine OpsE.val (x_assign (v := .int .i64 _) rfl) ?_
      refine OpsE.nil ?_
      refine Then.normal ?_
      refine WP.seq ?_
      refine WP.seq ?_
      obtain ⟨R2, hR2⟩ : ∃ R2, R2 = (ra.own cmc TCm :: stars (ra.xs.map cmH) :: StP b S :: R) := ⟨_, rfl⟩
      have H0 : Sat w (pt b7 (.cells (btc ra ((0 + ia : Nat) : Int)).toArray TBt (0, 0)) :: R2) := by
        have H1 : Sat w (pt b7 (.cells (btc ra ((0 + ia : Nat) : Int)).toArray TBt (0, 0)) :: ra.own cmc TCm :: stars (ra.xs.map cmH) :: StP b S :: pt g (.cells [Value.int .u8 (B : Int)].toArray 5 (0, 0)) :: R) := H
        have H2 := (H1.take (pt g (.cells [Value.int .u8 (B : Int)].toArray 5 (0, 0)))).tail
        rw [hR2]; exact H2
      clear H
      replace H := H0
      clear H0
      have hai : CIn R2 ra.ad ra.xs.length ra.cp (ra.xs.map Cm.v) := by rw [hR2]; exact CIn.of_rw hroa hrwa
      obtain ⟨ys, hys⟩ : ∃ ys, ra.xs.map Cm.v = ys := ⟨_, rfl⟩
      rw [hys] at hai
      have hyl : ys.length = ra.xs.length := by rw [← hys, List.length_map]
      have hyab : ys.map CmV.ab = ra.xs.map cma := by rw [← hys, cm_ab]
      have hyt : ∀ j, (allW ((ys.take j).map CmV.ab)).length ≤ 6000 := fun j => by
        have h1 : allW (ys.map CmV.ab) = allW ((ys.take j).map CmV.ab) ++ allW ((ys.drop j).map CmV.ab) := by rw [← allW_app, ← List.map_append, List.take_append_drop]
        have h2 := congrArg List.length h1
        rw [List.length_append, hyab, hlast] at h2
        have h3 : ((allW cms).filter fun x => hasP (kb B) x.key).length ≤ (allW cms).length := List.length_filter_le _ _
        omega
      refine WP.region ?_
      refine OpsE.val (x_move (v := .int .i64 0) rfl) ?_
      refine OpsE.val (x_neI rfl rfl) ?_
      rw [decide_eq_false (by decide)]
      refine OpsE.nil ?_
      refine Then.normal ?_
      refine WP.cond_f rfl rfl ?_
      refine WP.skip ?_
      refine Then.normal ?_
      refine WP.seq ?_
      refine WP.region ?_
      refine OpsE.val (x_fieldAddr0 rfl Try.runUnderlying58 rfl rfl Try.sizeOf38) ?_
      refine OpsE.val (x_load (v := ra.val) rfl Try.isAgg38 (H.look _) rfl) ?_
      refine OpsE.val (x_lenL rfl rfl Try.runUnderlying38) ?_
      refine OpsE.val (x_move (v := .int .i64 _) rfl) ?_
      refine OpsE.nil ?_
      refine Then.normal ?_
      refine WP.block ?_
      refine WP.loopS [5, 10, 44, 45, 46, 47, 48, 49, 50, 51, 52, 53] (fun (j : Nat) E w => E 44 = .int .i64 (j : Int) ∧ E 5 = .int .i64 ((cntB B (allW cms) + (allW ((ys.take j).map CmV.ab)).length : Nat) : Int) ∧ j ≤ ra.xs.length ∧ Sat w (pt b7 (.cells (btc ra ((0 + ia : Nat) : Int)).toArray TBt (0, 0)) :: R2)) (fun j => ra.xs.length - j) 0 ⟨rfl, e5, Nat.zero_le _, H⟩ ?_
      clear H
      rintro j E2 w hs2 ⟨e44, e5', hjn, H⟩
      refine WP.seq ?_
      refine WP.region ?_
      refine OpsE.val (x_lt e44 (hs2 43 rfl)) ?_
      by_cases hlt : (j : Int) < (ra.xs.length : Int)
      · rw [decide_eq_true hlt]
        refine OpsE.nil ?_
        refine Then.normal ?_
        refine WP.seq ?_
        refine WP.cond_t rfl rfl ?_
        refine WP.skip ?_
        refine Then.normal ?_
        refine WP.seq ?_
        refine WP.block ?_
        refine WP.seq ?_
        obtain ⟨bb, off, B2, fz, pre, post, had, hB, hBl, hpo⟩ := hai.row.some (by omega)
        obtain ⟨y, hy⟩ : ∃ y, ys[j]? = some y := ⟨_, List.getElem?_eq_getElem (by omega)⟩
        have hym := List.mem_of_getElem? hy
        have hyn := (hai.ws y hym).len
        have hj1 := hyt (j + 1)
        have hjs : (allW ((ys.take (j + 1)).map CmV.ab)).length = (allW ((ys.take j).map CmV.ab)).length + y.n := by
          rw [List.take_add_one, hy, Option.toList_some, List.map_append]
          show (allW (_ ++ [y.ab])).length = _
          rw [allW_snoc, List.length_append, hyn]; rfl
        refine WP.region ?_
        refine OpsE.val (x_indexAddro (i := j) (len := ra.xs.length) (cap := ra.cp) ((hs2 42 rfl).trans (show ra.val = _ by unfold Rw.val; rw [had])) e44 Try.runUnderlying38 Try.sizeOf33 rfl (by omega)) ?_
        refine OpsE.val (x_loadA (vs := cvc y) rfl Try.isAgg33 Try.sizeOf33 (hB w H.tail) (row_el cvc_len hBl hpo hy) rfl) ?_
        refine OpsE.allocA Try.zeroValue33 H ?_
        intro b10 w H
        refine OpsE.storeA (vs := cvc y) rfl rfl Try.sizeOf33 H (cvc_one y) (Nat.le_refl _) ?_
        intro w H
        refine OpsE.nil ?_
        refine Then.normal ?_
        refine WP.region ?_
        refine OpsE.val (x_move (v := .int .i64 ((cntB B (allW cms) + (allW ((ys.take j).map CmV.ab)).length : Nat) : Int)) e5') ?_
        refine OpsE.val (x_fieldAddr (o := 2) rfl Try.runUnderlying33 rfl rfl Try.sizeOf22) ?_
        refine OpsE.val (x_load (v := .slice y.a y.n y.c) rfl Try.isAgg22 (H.look _) rfl) ?_
        refine OpsE.val (x_lenL rfl rfl Try.runUnderlying22) ?_
        refine OpsE.val (x_add (z := ((cntB B (allW cms) + (allW ((ys.take (j + 1)).map CmV.ab)).length : Nat) : Int)) rfl rfl (by have := hcB B; rw [i64n (by omega) (by omega)]; omega)) ?_
        refine OpsE.val (x_assign (v := .int .i64 _) rfl) ?_
        refine OpsE.nil ?_
        refine InBlock.normal ?_
        refine Then.normal ?_
        refine WP.region ?_
        refine OpsE.val (x_add (z := ((j + 1 : Nat) : Int)) e44 rfl (by rw [i64n (by omega) (by omega)]; omega)) ?_
        refine OpsE.val (x_move (v := .int .i64 _) rfl) ?_
        refine OpsE.nil ?_
        refine Then.normal ?_
        exact ⟨rfl, (by repeat (first | exact hs2 | refine Same.upd ?_ rfl)), j + 1, by omega, rfl, rfl, by omega, H.tail⟩
      · rw [decide_eq_false hlt]
        refine OpsE.nil ?_
        refine Then.normal ?_
        refine WP.seq ?_
        refine WP.cond_f rfl rfl ?_
        refine WP.exit ?_
        refine Then.exit ?_
        refine Then.exit ?_
        refine InBlock.hit ?_
        refine InBlock.normal ?_
        refine Then.normal ?_
        refine WP.region ?_
        refine OpsE.val (x_move (v := .int .i64 (B : Int)) ((hs2 6 rfl).trans e6)) ?_
        refine OpsE.val (x_add (z := ((B + 1 : Nat) : Int)) rfl rfl (by rw [i64n (by omega) (by omega)]; omega)) ?_
        refine OpsE.val (x_assign (v := .int .i64 _) rfl) ?_
        refine OpsE.nil ?_
        refine Then.normal ?_
        rw [hR2] at H
        refine ⟨rfl, (by repeat (first | exact hs | refine Same.upd ?_ rfl | refine Same.sub hs2 ?_ rfl)), B + 1, by omega, rfl, ?_, by omega, H.tail.tail.tail⟩
        rw [hcnt, ← hlast, ← hyab]
        rw [show j = ys.length by omega, List.take_length] at e5'
        exact e5'
    · rw [decide_eq_false g1]
      refine OpsE.nil ?_
      refine Then.normal ?_
      refine WP.cond_f rfl rfl ?_
      refine WP.exit ?_
      refine Then.exit ?_
      refine Then.exit ?_
      refine InBlock.hit ?_
      refine Then.normal ?_
      refine WP.seq ?_
      refine WP.seq ?_
      refine WP.region ?_
      refine OpsE.val (x_move (v := rl.val) (hs 4 rfl)) ?_
      refine OpsE.val (x_lenL rfl rfl Try.runUnderlying38) ?_
      refine OpsE.val (x_move (v := .int .i64 _) rfl) ?_
      refine OpsE.nil ?_
      refine Then.normal ?_
      refine WP.block ?_
      obtain rfl : B = 256 := by omega
      rw [cntB_all] at e5
      obtain ⟨ys, hys⟩ : ∃ ys, rl.xs.map Cm.v = ys := ⟨_, rfl⟩
      rw [hys] at hli
      have hyl : ys.length = rl.xs.length := by rw [← hys, List.length_map]
      have hyab : ys.map CmV.ab = cms := by rw [← hys, cm_ab, hcms]
      have htk2 := allW_take (cms := cms) htk.right
      have hlg := lng_le (allW cms)
      refine WP.loopS [5, 12, 14, 56, 57, 58, 59, 60, 61, 62, 63, 64, 65, 66, 67, 68, 69, 70, 71, 72, 73, 74] (fun (i : Nat) E w => E 56 = .int .i64 (i : Int) ∧ E 5 = .int .i64 (((lng (allW cms) : Nat) : Int) - ((lng (allW (cms.take i)) : Nat) : Int)) ∧ i ≤ rl.xs.length ∧ Sat w (StP b S :: R)) (fun i => rl.xs.length - i) 0 ⟨rfl, e5.trans (by show _ = Value.int .i64 (_ - 0); rw [Int.sub_zero]), Nat.zero_le _, H⟩ ?_
      clear H
      rintro i E2 w hs2 ⟨e56, e5', hin, H⟩
      refine WP.seq ?_
      refine WP.region ?_
      refine OpsE.val (x_lt e56 (hs2 55 rfl)) ?_
      by_cases hlt : (i : Int) < (rl.xs.length : Int)
      · rw [decide_eq_true hlt]
        refine OpsE.nil ?_
        refine Then.normal ?_
        refine WP.seq ?_
        refine WP.cond_t rfl rfl ?_
        refine WP.skip ?_
        refine Then.normal ?_
        refine WP.seq ?_
        refine WP.block ?_
        refine WP.seq ?_
        obtain ⟨bb, off, B2, fz, pre, post, had, hB, hBl, hpo⟩ := hli.row.some (by omega)
        obtain ⟨y, hy⟩ : ∃ y, ys[i]? = some y := ⟨_, List.getElem?_eq_getElem (by omega)⟩
        have hym := List.mem_of_getElem? hy
        have hry := hli.ws y hym
        have hyn := hry.len
        have hcy : cms[i]? = some y.ab := by rw [← hyab, List.getElem?_map, hy]; rfl
        have hy200 : y.ws.length ≤ 200 := right_len (htk.right _ (List.mem_of_getElem? hcy))
        have hlt1 := lng_le (allW (cms.take i))
        have hlt2 := htk2 i
        have hlt3 : lng (allW (cms.take (i + 1))) = lng (allW (cms.take i)) + lng y.ws := by
          rw [List.take_add_one, hcy, Option.toList_some, allW_snoc, lng_app]; rfl
        refine WP.region ?_
        refine OpsE.val (x_indexAddro (i := i) (len := rl.xs.length) (cap := rl.cp) ((hs2 54 rfl).trans (show rl.val = _ by unfold Rw.val; rw [had])) e56 Try.runUnderlying38 Try.sizeOf33 rfl (by omega)) ?_
        refine OpsE.val (x_loadA (vs := cvc y) rfl Try.isAgg33 Try.sizeOf33 (hB w H.tail) (row_el cvc_len hBl hpo hy) rfl) ?_
        refine OpsE.allocA Try.zeroValue33 H ?_
        intro b12 w H
        refine OpsE.storeA (vs := cvc y) rfl rfl Try.sizeOf33 H (cvc_one y) (Nat.le_refl _) ?_
        intro w H
        refine OpsE.nil ?_
        refine Then.normal ?_
        refine WP.seq ?_
        refine WP.region ?_
        refine OpsE.val (x_fieldAddr (o := 2) rfl Try.runUnderlying33 rfl rfl Try.sizeOf22) ?_
        refine OpsE.val (x_load (v := .slice y.a y.n y.c) rfl Try.isAgg22 (H.look _) rfl) ?_
        refine OpsE.val (x_lenL rfl rfl Try.runUnderlying22) ?_
        refine OpsE.val (x_move (v := .int .i64 _) rfl) ?_
        refine OpsE.nil ?_
        refine Then.normal ?_
        refine WP.block ?_
        have H0 : Sat w (pt b12 (.cells (cvc y).toArray TCm (0, 0)) :: StP b S :: R) := H
        refine WP.loopS [5, 14, 63, 64, 65, 66, 67, 68, 69, 70, 71, 72, 73] (fun (k : Nat) E w => E 63 = .int .i64 (k : Int) ∧ E 5 = .int .i64 (((lng (allW cms) : Nat) : Int) - ((lng (allW (cms.take i)) : Nat) : Int) - ((lng (y.ws.take k) : Nat) : Int)) ∧ k ≤ y.n ∧ Sat w (pt b12 (.cells (cvc y).toArray TCm (0, 0)) :: StP b S :: R)) (fun k => y.n - k) 0 ⟨rfl, e5'.trans (by show _ = Value.int .i64 (_ - 0); rw [Int.sub_zero]), Nat.zero_le _, H0⟩ ?_
        clear H H0
        rintro k E3 w hs3 ⟨e63, e5'', hkn, H⟩
        refine WP.seq ?_
        refine WP.region ?_
        refine OpsE.val (x_lt e63 (hs3 62 rfl)) ?_
        by_cases hlt2 : (k : Int) < (y.n : Int)
        · rw [decide_eq_true hlt2]
          refine OpsE.nil ?_
          refine Then.normal ?_
          refine WP.seq ?_
          refine WP.cond_t rfl rfl ?_
          refine WP.skip ?_
          refine Then.normal ?_
          refine WP.seq ?_
          refine WP.block ?_
          refine WP.seq ?_
          obtain ⟨bb2, off2, B3, fz2, pre2, post2, had2, hB2, hBl2, hpo2⟩ := hry.some (by omega)
          obtain ⟨x, hx⟩ : ∃ x, y.ws[k]? = some x := ⟨_, List.getElem?_eq_getElem (by omega)⟩
          have hk1 := lng_le (y.ws.take k)
          rw [List.length_take] at hk1
          have hk2 : lng (y.ws.take (k + 1)) = lng (y.ws.take k) + (if (x.key.size : Int) > 1 then 1 else 0) := by rw [List.take_add_one, hx, Option.toList_some, lng_snoc]
          refine WP.region ?_
          refine OpsE.val (x_indexAddro (i := k) (len := y.n) (cap := y.c) ((hs3 61 rfl).trans (show Value.slice y.a y.n y.c = _ by rw [had2])) e63 Try.runUnderlying22 Try.sizeOf26 rfl (by omega)) ?_
          refine OpsE.val (x_loadA (vs := wrc x) rfl Try.isAgg26 Try.sizeOf26 (hB2 w H.tail.tail) (row_el wrc_len hBl2 hpo2 hx) rfl) ?_
          refine OpsE.allocA Try.zeroValue26 H ?_
          intro b14 w H
          refine OpsE.storeA (vs := wrc x) rfl rfl Try.sizeOf26 H (wrc_one x) (Nat.le_refl _) ?_
          intro w H
          refine OpsE.nil ?_
          refine Then.normal ?_
          refine WP.seq ?_
          refine WP.region ?_
          refine OpsE.val (x_fieldAddr0 rfl Try.runUnderlying26 rfl rfl Try.sizeOf9) ?_
          refine OpsE.val (x_load (v := .string x.key) rfl Try.isAgg9 (H.look _) rfl) ?_
          refine OpsE.val (x_lenS rfl rfl Try.runUnderlying9) ?_
          refine OpsE.val (x_gt rfl rfl) ?_
          by_cases c4 : (x.key.size : Int) > 1
          · rw [decide_eq_true c4]
            refine OpsE.nil ?_
            refine Then.normal ?_
            refine WP.cond_t rfl rfl ?_
            refine WP.region ?_
            refine OpsE.val (x_move (v := .int .i64 (((lng (allW cms) : Nat) : Int) - ((lng (allW (cms.take i)) : Nat) : Int) - ((lng (y.ws.take k) : Nat) : Int))) e5'') ?_
            refine OpsE.val (x_sub (z := (((lng (allW cms) : Nat) : Int) - ((lng (allW (cms.take i)) : Nat) : Int) - ((lng (y.ws.take (k + 1)) : Nat) : Int))) rfl rfl (by rw [hk2, if_pos c4, i64n (by omega) (by omega)]; omega)) ?_
            refine OpsE.val (x_assign (v := .int .i64 _) rfl) ?_
            refine OpsE.nil ?_
            refine InBlock.normal ?_
            refine Then.normal ?_
            refine WP.region ?_
            refine OpsE.val (x_add (z := ((k + 1 : Nat) : Int)) e63 rfl (by rw [i64n (by omega) (by omega)]; omega)) ?_
            refine OpsE.val (x_move (v := .int .i64 _) rfl) ?_
            refine OpsE.nil ?_
            refine Then.normal ?_
            exact ⟨rfl, (by repeat (first | exact hs3 | refine Same.upd ?_ rfl)), k + 1, by omega, rfl, rfl, by omega, H.tail⟩
          · rw [decide_eq_false c4]
            refine OpsE.nil ?_
            refine Then.normal ?_
            refine WP.cond_f rfl rfl ?_
            refine WP.skip ?_
            refine InBlock.normal ?_
            refine Then.normal ?_
            refine WP.region ?_
            refine OpsE.val (x_add (z := ((k + 1 : Nat) : Int)) e63 rfl (by rw [i64n (by omega) (by omega)]; omega)) ?_
            refine OpsE.val (x_move (v := .int .i64 _) rfl) ?_
            refine OpsE.nil ?_
            refine Then.normal ?_
            refine ⟨rfl, (by repeat (first | exact hs3 | refine Same.upd ?_ rfl)), k + 1, by omega, rfl, ?_, by omega, H.tail⟩
            rw [hk2, if_neg c4]; exact e5''
        · rw [decide_eq_false hlt2]
          refine OpsE.nil ?_
          refine Then.normal ?_
          refine WP.seq ?_
          refine WP.cond_f rfl rfl ?_
          refine WP.exit ?_
          refine Then.exit ?_
          refine Then.exit ?_
          refine InBlock.hit ?_
          refine InBlock.normal ?_
          refine Then.normal ?_
          refine WP.region ?_
          refine OpsE.val (x_add (z := ((i + 1 : Nat) : Int)) ((hs3 56 rfl).trans e56) rfl (by rw [i64n (by omega) (by omega)]; omega)) ?_
          refine OpsE.val (x_move (v := .int .i64 _) rfl) ?_
          refine OpsE.nil ?_
          refine Then.normal ?_
          refine ⟨rfl, (by repeat (first | exact hs2 | refine Same.upd ?_ rfl | refine Same.sub hs3 ?_ rfl)), i + 1, by omega, rfl, ?_, by omega, H.tail⟩
          rw [show y.ws.take k = y.ws from List.take_of_length_le (by omega)] at e5''
          refine Eq.trans e5'' ?_
          rw [hlt3]
          congr 1
          omega
      · rw [decide_eq_false hlt]
        refine OpsE.nil ?_
        refine Then.normal ?_
        refine WP.seq ?_
        refine WP.cond_f rfl rfl ?_
        refine WP.exit ?_
        refine Then.exit ?_
        refine Then.exit ?_
        refine InBlock.hit ?_
        refine Then.normal ?_
        refine WP.seq ?_
        refine WP.region ?_
        refine OpsE.val (x_move (v := .int .i64 (((lng (allW cms) : Nat) : Int) - ((lng (allW (cms.take i)) : Nat) : Int))) e5') ?_
        refine OpsE.val (x_eqI rfl rfl) ?_
        rw [decide_eq_true (by rw [List.take_of_length_le (by omega)]; omega)]
        refine OpsE.val (x_assign (v := .bool _) rfl) ?_
        refine OpsE.nil ?_
        refine Then.normal ?_
        refine WP.ret ?_
        refine Leave0.ret (v := .bool _) rfl ?_
        rw [hR] at H
        exact ⟨rfl, H.tail.tail.tail⟩
end Go.Proofs.Ytbhbdpbhhfemhaa

/-
  A region that draws its order, with one effect (x) that waits for none of the others and is waited for only by what stands behind all: the orders of the effects are walked one by one. Nothing of the program.
-/
namespace Go.Proofs.Ytbhbdpbhhfemhaa
open Go
set_option linter.unusedVariables false

section
variable {P : Program} {ops : Array Oper} {B : World → Prop} {kd : Nat → Nat} {Q : Act → World → Prop}

structure MixOkX (ops : Array Oper) (kd : Nat → Nat) (x : Nat) : Prop where
  sel : ∀ (j : Nat) (o : Oper), ops[j]? = some o → ∀ cs b, o.op ≠ .select cs b
  le : ∀ (j : Nat) (o : Oper), ops[j]? = some o → kd j ≤ 4
  no4 : ∀ (j : Nat) (o : Oper), ops[j]? = some o → kd j ≠ 4
  lt : ∀ (j : Nat) (o : Oper), ops[j]? = some o → ∀ e ∈ o.after, Region.binds .any e = true → e.on < j
  mono : ∀ (p j : Nat) (op oj : Oper), ops[p]? = some op → ops[j]? = some oj → p < j → kd p = 2 → kd j = 2
  four : ∀ (p j : Nat) (op oj : Oper), ops[p]? = some op → ops[j]? = some oj → p < j → kd p = 4 → 2 ≤ kd j
  two : ∀ (p j : Nat) (op oj : Oper), ops[p]? = some op → ops[j]? = some oj → p < j → p ≠ x → j ≠ x → reachB ops ops.size p j = true ∨ (op.apart ops oj = true ∧ kd p ≠ 2 ∧ kd j ≠ 2 ∧ ((kd p = 0 ∨ kd p = 3) ∨ (kd j = 0 ∨ kd j = 3)) ∧ (kd j = 4 → kd p = 3) ∧ (kd p = 4 → kd j = 3))
  xk : kd x = 1
  xo : ∃ o, ops[x]? = some o
  xw : ∀ (j : Nat) (o : Oper), ops[j]? = some o → kd j = 2 → reachB ops ops.size x j = true
  xa : ∀ (j : Nat) (o ox : Oper), ops[j]? = some o → ops[x]? = some ox → j ≠ x → kd j ≠ 2 → o.apart ops ox = true ∧ ox.apart ops o = true

def mixBX (ops : Array Oper) (kd : Nat → Nat) (x : Nat) : Bool :=
  Region.noSelect ops && Nat.beq (kd x) 1 && Nat.blt x ops.size && (List.range ops.size).all fun j =>
    match ops[j]? with
    | none => true
    | some oj => Nat.ble (kd j) 3 && (oj.after.all fun e => !Region.binds .any e || Nat.blt e.on j) && (!Nat.beq (kd j) 2 || reachB ops ops.size x j) && (match ops[x]? with | none => true | some ox => Nat.beq j x || Nat.beq (kd j) 2 || (oj.apart ops ox && ox.apart ops oj)) && (List.range j).all fun p =>
      match ops[p]? with
      | none => true
      | some op => (!Nat.beq (kd p) 2 || Nat.beq (kd j) 2) && (Nat.beq p x || Nat.beq j x || reachB ops ops.size p j || (op.apart ops oj && !Nat.beq (kd p) 2 && !Nat.beq (kd j) 2 && ((Nat.beq (kd p) 0 || Nat.beq (kd p) 3) || (Nat.beq (kd j) 0 || Nat.beq (kd j) 3))))

theorem beq_of {a b : Nat} (h : Nat.beq a b = true) : a = b := Nat.eq_of_beq_eq_true h
theorem mixOkX_of {x : Nat} (h : mixBX ops kd x = true) : MixOkX ops kd x := by
  unfold mixBX at h
  simp only [Bool.and_eq_true] at h
  obtain ⟨⟨⟨h1, hk⟩, hxs⟩, h2⟩ := h
  rw [List.all_eq_true] at h2
  have key : ∀ (j : Nat) (oj : Oper), ops[j]? = some oj → _ := fun j oj hj => by
    have := h2 j (List.mem_range.2 (Array.getElem?_eq_some_iff.1 hj).1)
    simp only [hj, Bool.and_eq_true] at this
    exact this
  have hle : ∀ (j : Nat) (o : Oper), ops[j]? = some o → kd j ≤ 3 := fun j o ho => Nat.le_of_ble_eq_true (key j o ho).1.1.1.1
  have pair : ∀ (p j : Nat) (op oj : Oper), ops[p]? = some op → ops[j]? = some oj → p < j → ((!Nat.beq (kd p) 2 || Nat.beq (kd j) 2) = true ∧ (Nat.beq p x || Nat.beq j x || reachB ops ops.size p j || (op.apart ops oj && !Nat.beq (kd p) 2 && !Nat.beq (kd j) 2 && ((Nat.beq (kd p) 0 || Nat.beq (kd p) 3) || (Nat.beq (kd j) 0 || Nat.beq (kd j) 3)))) = true) := fun p j op oj hp hj hlt => by
    have h3 := List.all_eq_true.1 (key j oj hj).2 p (List.mem_range.2 hlt)
    simp only [hp] at h3
    rw [Bool.and_eq_true] at h3
    exact h3
  have hxlt : x < ops.size := by rwa [Nat.blt_eq] at hxs
  refine ⟨fun j o ho cs b => Region.noSelect_spec h1 j o cs b ho, fun j o ho => by have := hle j o ho; omega, fun j o ho => by have := hle j o ho; omega, fun j o ho e he hb => ?_, fun p j op oj hp hj hlt h2 => ?_, fun p j op oj hp hj hlt h4 => ?_, fun p j op oj hp hj hlt hpx hjx => ?_, beq_of hk, ⟨ops[x], by simp [hxlt]⟩, fun j o ho hj2 => ?_, fun j o ox ho hox hjx hj2 => ?_⟩
  · have h3 := Array.all_eq_true_iff_forall_mem.1 (key j o ho).1.1.1.2 e he
    rw [hb] at h3
    have h4 : Nat.blt e.on j = true := by simpa only [Bool.not_true, Bool.false_or] using h3
    rwa [Nat.blt_eq] at h4
  · have h4 := (pair p j op oj hp hj hlt).1
    rw [h2] at h4
    exact beq_of (by simpa only [Nat.beq_refl, Bool.not_true, Bool.false_or] using h4)
  · have := hle p op hp; omega
  · have h4 := (pair p j op oj hp hj hlt).2
    simp only [Bool.or_eq_true, Bool.and_eq_true] at h4
    rcases h4 with ((h4 | h4) | h4) | ⟨⟨⟨h5, h6⟩, h7⟩, h8⟩
    · exact absurd (beq_of h4) hpx
    · exact absurd (beq_of h4) hjx
    · exact .inl h4
    · refine .inr ⟨h5, fun e => ?_, fun e => ?_, ?_, fun e => ?_, fun e => ?_⟩
      · rw [e] at h6; cases h6
      · rw [e] at h7; cases h7
      · exact h8.imp (fun h => h.imp beq_of beq_of) (fun h => h.imp beq_of beq_of)
      · have := hle j oj hj; omega
      · have := hle p op hp; omega
  · have h4 := (key j o ho).1.1.2
    rw [hj2] at h4
    simpa only [Nat.beq_refl, Bool.not_true, Bool.false_or] using h4
  · have h4 := (key j o ho).1.2
    rw [hox] at h4
    simp only [Bool.or_eq_true, Bool.and_eq_true] at h4
    rcases h4 with (h4 | h4) | h4
    · exact absurd (beq_of h4) hjx
    · exact absurd (beq_of h4) hj2
    · exact h4

theorem Mix.frontX {x : Nat} (ok : MixOkX ops kd x) {j : Nat} {oj : Oper} (hj : ops[j]? = some oj) {is : List Nat} : ∀ (pre : List Nat) (a : Act) (w : World), (∀ p ∈ pre, ∃ op, ops[p]? = some op ∧ op.apart ops oj = true ∧ kd p ≠ 2 ∧ kd j ≠ 2 ∧ ((kd p = 0 ∨ kd p = 3) ∨ (kd j = 0 ∨ kd j = 3)) ∧ (kd j = 4 → kd p = 3) ∧ (kd p = 4 → kd j = 3)) → (kd j = 0 → B w) →
    Mix P ops kd B Q (pre ++ j :: is) a w → Mix P ops kd B Q (j :: (pre ++ is)) a w
  | [], _, _, _, _, h => h
  | p :: pre, a, w, hpre, hB, h => by
    obtain ⟨op, hp, hap, hp2, _, k3, _, k5⟩ := hpre p (by simp)
    refine Mix.swap hp hj hap (ok.sel p op hp) (ok.sel j oj hj) k3 hB ?_
    have ih := fun a w hB => Mix.frontX ok hj pre a w (fun q hq => hpre q (by simp [hq])) hB (is := is)
    simp only [List.cons_append, Mix, hp] at h ⊢
    by_cases hp0 : kd p = 0 ∨ kd p = 3
    · rw [if_pos hp0] at h ⊢
      obtain ⟨v, hv, h⟩ := h
      exact ⟨v, hv, ih _ w hB h⟩
    · have hp1 : kd p = 1 ∨ kd p = 4 := by have := ok.le p op hp; omega
      rw [if_neg hp0] at h ⊢
      split
      · rename_i hw
        rw [if_pos hw] at h
        exact h.mono fun v w' ⟨hb, h⟩ => ⟨hb, ih _ w' (fun hj0 => hp1.elim hb fun h4 => by have := k5 h4; omega) h⟩
      · rename_i hw
        rw [if_neg hw] at h
        exact ih _ w hB h

theorem mixX_sound {r : Option Nat} {x : Nat} (ok : MixOkX ops kd x) {Q' : Exit → Act → World → Prop} (hQ : ∀ a w, Q a w → Q' .normal a w) : ∀ (fuel : Nat) (is : List Nat) (listed : Array Bool) (a : Act) (w : World), is.length = fuel → MixIx ops is listed → x ∉ is →
    ((∃ i ∈ is, kd i = 0) → B w) → Mix P ops kd B Q is a w → wpAnyIn (Wd r) 0 P .any ops Q' fuel listed a w := by
  intro fuel
  induction fuel with
  | zero =>
    intro is listed a w hl hx hx0 hB h
    have : is = [] := List.length_eq_zero_iff.1 hl
    subst this
    refine ⟨?_, hQ a w h⟩
    cases hr : Region.ready .any ops listed with
    | nil => rfl
    | cons j rs =>
      have := (mem_ready.1 (by rw [hr]; exact List.mem_cons_self : j ∈ Region.ready .any ops listed)).1
      exact absurd ((hx.mem j).2 this) (by simp)
  | succ fuel ih =>
    intro is listed a w hl hx hx0 hB h
    refine ⟨fun hr => ?_, fun j hj => ?_⟩
    · -- the first one left is ready
      cases is with
      | nil => simp at hl
      | cons i is =>
        exfalso
        have hun := (hx.mem i).1 (by simp)
        have hi : i < ops.size := by
          rcases Nat.lt_or_ge i ops.size with h' | h'
          · exact h'
          · rw [← hx.size] at h'; simp [Array.getElem?_eq_none h'] at hun
        have ho : ops[i]? = some ops[i] := by simp [hi]
        have : i ∈ Region.ready .any ops listed := mem_ready.2 ⟨hun, ops[i], ho, fun e he hb => by
          have hlt := ok.lt i _ ho e he hb
          have hnot : e.on ∉ i :: is := by
            intro hm
            rcases List.mem_cons.1 hm with rfl | hm
            · omega
            · have := (List.pairwise_cons.1 hx.srt).1 _ hm; omega
          have h1 : listed.getD e.on true ≠ false := fun h => hnot ((hx.mem _).2 h)
          have h2 : e.on < listed.size := by rw [hx.size]; omega
          simp only [Array.getD_eq_getD_getElem?, Array.getElem?_eq_getElem h2, Option.getD_some] at h1 ⊢
          simpa using h1⟩
        rw [hr] at this; cases this
    · obtain ⟨hun, oj, ho, hdeps⟩ := mem_ready.1 hj
      have hjm : j ∈ is := (hx.mem j).2 hun
      obtain ⟨pre, post, rfl⟩ := List.append_of_mem hjm
      have hpre : ∀ p ∈ pre, ∃ op, ops[p]? = some op ∧ op.apart ops oj = true ∧ kd p ≠ 2 ∧ kd j ≠ 2 ∧ ((kd p = 0 ∨ kd p = 3) ∨ (kd j = 0 ∨ kd j = 3)) ∧ (kd j = 4 → kd p = 3) ∧ (kd p = 4 → kd j = 3) := by
        intro p hp
        have hpl : listed.getD p true = false := (hx.mem p).1 (by simp [hp])
        have hps : p < ops.size := by
          rcases Nat.lt_or_ge p ops.size with h' | h'
          · exact h'
          · rw [← hx.size] at h'; simp [Array.getElem?_eq_none h'] at hpl
        have hop : ops[p]? = some ops[p] := by simp [hps]
        have hlt : p < j := by
          have := List.pairwise_append.1 hx.srt
          exact this.2.2 p hp j (by simp)
        rcases ok.two p j _ oj hop ho hlt (fun e => hx0 (by rw [← e]; simp [hp])) (fun e => hx0 (by rw [← e]; exact hjm)) with hre | h2
        · have := reach_listed hx.closed hx.size _ p j hre (fun o ho' e he hb => by rw [ho] at ho'; cases ho'; exact hdeps e he hb)
          have h2 : p < listed.size := by rw [hx.size]; exact hps
          simp only [Array.getD_eq_getD_getElem?, Array.getElem?_eq_getElem h2, Option.getD_some] at this hpl
          rw [this] at hpl; cases hpl
        · exact ⟨_, hop, h2⟩
      have hlen : (pre ++ post).length = fuel := by simp at hl ⊢; omega
      have hx' : MixIx ops (pre ++ post) (listed.setIfInBounds j true) := by
        have hjs : j < listed.size := by
          rcases Nat.lt_or_ge j listed.size with h' | h'
          · exact h'
          · simp [Array.getElem?_eq_none h'] at hun
        refine ⟨fun k o hk hkl e he hb => ?_, by simp [hx.size], fun i => ?_, ?_⟩
        · by_cases hjk : j = k
          · subst hjk
            rw [ho] at hk; cases hk
            exact getD_set_true (hdeps e he hb)
          · rw [getD_set_ne true hjk] at hkl
            exact getD_set_true (hx.closed k o hk hkl e he hb)
        · by_cases hij : j = i
          · subst hij
            have hs := hx.srt
            have : j ∉ pre ++ post := by
              intro hm
              have hp := List.pairwise_append.1 hs
              rcases List.mem_append.1 hm with hm | hm
              · have := hp.2.2 j hm j (by simp); omega
              · have := (List.pairwise_cons.1 hp.2.1).1 j hm; omega
            constructor
            · intro hm; exact absurd hm this
            · intro hm; simp [hjs] at hm
          · rw [getD_set_ne true hij, ← hx.mem i]
            simp only [List.mem_append, List.mem_cons]
            constructor
            · rintro (h | h)
              · exact .inl h
              · exact .inr (.inr h)
            · rintro (h | h | h)
              · exact .inl h
              · exact absurd h.symm hij
              · exact .inr h
        · have hp := List.pairwise_append.1 hx.srt
          exact List.pairwise_append.2 ⟨hp.1, (List.pairwise_cons.1 hp.2.1).2, fun x hx y hy => hp.2.2 x hx y (by simp [hy])⟩
      -- j comes to the front
      have hfront : Mix P ops kd B Q (j :: (pre ++ post)) a w := by
        cases pre with
        | nil => exact h
        | cons p pre' =>
          exact Mix.frontX ok ho _ a w hpre (fun h0 => hB ⟨j, hjm, h0⟩) h
      have hx0' : x ∉ pre ++ post := fun hm => hx0 (by
        rcases List.mem_append.1 hm with h | h
        · simp [h]
        · simp [h])
      have hB' : (∃ i ∈ pre ++ post, kd i = 0) → B w := fun ⟨i, hi, k⟩ => hB ⟨i, by
        rcases List.mem_append.1 hi with h | h
        · simp [h]
        · simp [h], k⟩
      simp only [Mix, ho] at hfront
      unfold wpOpIn
      simp only [ho]
      by_cases hj0 : kd j = 0 ∨ kd j = 3
      · rw [if_pos hj0] at hfront
        obtain ⟨v, hv, hrest⟩ := hfront
        rcases hv with ⟨hw, hrun⟩ | ⟨hw, rfl⟩
        · rw [if_pos hw]
          have hrun := hrun w (hj0.elim (fun h => .inr (hB ⟨j, hjm, h⟩)) .inl)
          refine ⟨fun _ _ => trivial, ?_⟩
          have hd : ∀ c, oj.op ≠ .defer c := by
            intro c hc
            unfold execOp at hrun
            rw [hc] at hrun
            simp only at hrun
            unfold resolve at hrun
            cases hcal : c.callee with
            | builtin b => simp [hcal] at hrun
            | invoke x y => simp [hcal] at hrun
            | value f =>
              simp only [hcal] at hrun
              cases hf : a.eval f <;> simp [hf, Deferred.ofValue] at hrun
          rw [semAt_plain hd, hrun]
          exact ih _ _ _ _ hlen hx' hx0' hB' hrest
        · rw [if_neg (by rw [hw]; simp)]
          exact ⟨fun _ _ => trivial, ih _ _ _ _ hlen hx' hx0' hB' hrest⟩
      · rw [if_neg hj0] at hfront
        by_cases hw : Region.wanted oj (yielded ops a.tmps) = true
        · rw [if_pos hw] at hfront
          rw [if_pos hw]
          have hrep : Rep a.tmps.size (fun t => a.tmps.getD t undef) a.defers a := ⟨rfl, fun _ => rfl, rfl⟩
          have hst : StepK P (fun v w' => (kd j = 1 → B w') ∧ Mix P ops kd B Q (pre ++ post) (a.put oj.dst v) w') ((xop (fun t => a.tmps.getD t undef) oj.op oj.type).run P w) := by
            rw [← execOp_xop, ← hrep.eval]; exact hfront
          refine stepK_in hrep hst fun v w' ⟨hb, hrest⟩ => ih _ _ _ w' hlen hx' hx0' (fun hex => ?_) hrest
          by_cases hj1 : kd j = 1
          · exact hb hj1
          · -- kind 2: whatever is left is of kind 2 as well; kind 4: nothing is left that looks at worlds
            exfalso
            obtain ⟨i, hi, hne⟩ := hex
            have hj2 : kd j = 2 ∨ kd j = 4 := by have := ok.le j oj ho; omega
            rcases List.mem_append.1 hi with hm | hm
            · obtain ⟨op, h⟩ := hpre i hm
              rcases hj2 with hj2 | hj2
              · exact h.2.2.2.1 hj2
              · have := h.2.2.2.2.2.1 hj2; omega
            · have hlt : j < i := by
                have hp := List.pairwise_append.1 hx.srt
                exact (List.pairwise_cons.1 hp.2.1).1 i hm
              have hil : listed.getD i true = false := (hx.mem i).1 (by simp [hm])
              have his : i < ops.size := by
                rcases Nat.lt_or_ge i ops.size with h' | h'
                · exact h'
                · rw [← hx.size] at h'; simp [Array.getElem?_eq_none h'] at hil
              rcases hj2 with hj2 | hj2
              · have := ok.mono j i oj _ ho (by simp [his] : ops[i]? = some ops[i]) hlt hj2; omega
              · have := ok.four j i oj _ ho (by simp [his] : ops[i]? = some ops[i]) hlt hj2; omega
        · rw [if_neg hw] at hfront
          rw [if_neg hw]
          exact ⟨fun _ _ => trivial, ih _ _ _ _ hlen hx' hx0' hB' hfront⟩


/-- what is walked while x is still to come: before each other effect x may stand -/
def MixF (P : Program) (ops : Array Oper) (kd : Nat → Nat) (B : World → Prop) (Q : Act → World → Prop) (x : Nat) : List Nat → Act → World → Prop
  | [], a, w => Mix P ops kd B Q [x] a w
  | i :: is, a, w =>
    match ops[i]? with
    | none => False
    | some o =>
      if kd i = 0 ∨ kd i = 3 then ∃ v, Yi P ops (fun w => kd i = 3 ∨ B w) o v a ∧ MixF P ops kd B Q x is (a.put o.dst v) w
      else if kd i = 1 then Mix P ops kd B Q (x :: i :: is) a w ∧ (if Region.wanted o (yielded ops a.tmps) = true then StepK P (fun v w' => B w' ∧ MixF P ops kd B Q x is (a.put o.dst v) w') ((execOp a.eval o).run P w) else MixF P ops kd B Q x is (a.put o.dst undef) w)
      else Mix P ops kd B Q (x :: i :: is) a w

theorem Mix.und {i : Nat} {o : Oper} (ho : ops[i]? = some o) (h1 : kd i = 0 ∨ kd i = 1 ∨ kd i = 3) {A A' : List Nat} {a : Act} {w : World} (hB : B w) (k : ∀ a w, B w → Mix P ops kd B Q A a w → Mix P ops kd B Q A' a w) (h : Mix P ops kd B Q (i :: A) a w) : Mix P ops kd B Q (i :: A') a w := by
  simp only [Mix, ho] at h ⊢
  by_cases hp0 : kd i = 0 ∨ kd i = 3
  · rw [if_pos hp0] at h ⊢
    obtain ⟨v, hv, h⟩ := h
    exact ⟨v, hv, k _ _ hB h⟩
  · rw [if_neg hp0] at h ⊢
    have hi1 : kd i = 1 := by omega
    split
    · rename_i hw
      rw [if_pos hw] at h
      exact h.mono fun v w' ⟨hb, h⟩ => ⟨hb, k _ _ (hb hi1) h⟩
    · rename_i hw
      rw [if_neg hw] at h
      exact k _ _ hB h

theorem MixF.first {x : Nat} (ok : MixOkX ops kd x) : ∀ (is : List Nat) (a : Act) (w : World), x ∉ is → MixF P ops kd B Q x is a w → Mix P ops kd B Q (x :: is) a w
  | [], _, _, _, h => h
  | i :: is, a, w, hx, h => by
    obtain ⟨ox, hox⟩ := ok.xo
    cases ho : ops[i]? with
    | none => simp only [MixF, ho] at h
    | some o =>
      simp only [MixF, ho] at h
      by_cases h0 : kd i = 0 ∨ kd i = 3
      · rw [if_pos h0] at h
        obtain ⟨v, hv, h⟩ := h
        have h2 := MixF.first ok is _ w (fun hm => hx (by simp [hm])) h
        refine Mix.swap ho hox (ok.xa i o ox ho hox (fun e => hx (by simp [e])) (by omega)).1 (ok.sel i o ho) (ok.sel x ox hox) (.inl h0) (fun h => by have := ok.xk; omega) ?_
        show Mix P ops kd B Q (i :: x :: is) a w
        unfold Mix
        simp only [ho]
        rw [if_pos h0]
        exact ⟨v, hv, h2⟩
      · rw [if_neg h0] at h
        by_cases h1 : kd i = 1
        · rw [if_pos h1] at h; exact h.1
        · rw [if_neg h1] at h; exact h

theorem MixF.swap {x p j : Nat} (ok : MixOkX ops kd x) {op oj : Oper} {is : List Nat} {a : Act} {w : World} (hp : ops[p]? = some op) (hj : ops[j]? = some oj) (hap : op.apart ops oj = true) (hpx : p ≠ x) (hjx : j ≠ x) (hp2 : kd p ≠ 2) (hj2 : kd j ≠ 2)
    (k3 : (kd p = 0 ∨ kd p = 3) ∨ (kd j = 0 ∨ kd j = 3)) (hB : B w) (h : MixF P ops kd B Q x (p :: j :: is) a w) : MixF P ops kd B Q x (j :: p :: is) a w := by
  obtain ⟨ox, hox⟩ := ok.xo
  have hsp := ok.sel p op hp
  have hsj := ok.sel j oj hj
  have hpk : kd p = 0 ∨ kd p = 3 ∨ kd p = 1 := by have := ok.le p op hp; have := ok.no4 p op hp; omega
  have hjk : kd j = 0 ∨ kd j = 3 ∨ kd j = 1 := by have := ok.le j oj hj; have := ok.no4 j oj hj; omega
  obtain ⟨c1, c2, c3⟩ := Oper.apart_spec hap
  have keepj : ∀ (a : Act) (u : Value), execOp (a.put op.dst u).eval oj = execOp a.eval oj := fun a u => execOp_put oj hsj a op.dst u c1
  have keepp : ∀ (a : Act) (u : Value), execOp (a.put oj.dst u).eval op = execOp a.eval op := fun a u => execOp_put op hsp a oj.dst u c3
  have wj : ∀ (a : Act) (u : Value), Region.wanted oj (yielded ops (a.put op.dst u).tmps) = Region.wanted oj (yielded ops a.tmps) := fun a u => wanted_put oj a op.dst u c1
  have wp : ∀ (a : Act) (u : Value), Region.wanted op (yielded ops (a.put oj.dst u).tmps) = Region.wanted op (yielded ops a.tmps) := fun a u => wanted_put op a oj.dst u c3
  by_cases hp0 : kd p = 0 ∨ kd p = 3
  · simp only [MixF, hp, hj, if_pos hp0] at h ⊢
    obtain ⟨v, hv, h⟩ := h
    by_cases hj0 : kd j = 0 ∨ kd j = 3
    · rw [if_pos hj0] at h ⊢
      obtain ⟨u, hu, h⟩ := h
      refine ⟨u, hu.same (keepj a v).symm (wj a v).symm, v, hv.same (keepp a u) (wp a u), ?_⟩
      rw [← Act.put_comm a v u c2]; exact h
    · have hj1 : kd j = 1 := by omega
      rw [if_neg hj0, if_pos hj1] at h ⊢
      obtain ⟨hm, h⟩ := h
      constructor
      · have m1 : Mix P ops kd B Q (p :: x :: j :: is) a w := by
          unfold Mix
          simp only [hp]
          rw [if_pos hp0]
          exact ⟨v, hv, hm⟩
        have m2 := Mix.swap hp hox (ok.xa p op ox hp hox hpx hp2).1 hsp (ok.sel x ox hox) (.inl hp0) (fun h => by have := ok.xk; omega) m1
        exact Mix.und hox (.inr (.inl ok.xk)) hB (fun a w _ m => Mix.swap hp hj hap hsp hsj (.inl hp0) (fun h => by omega) m) m2
      · rw [keepj, wj] at h
        split
        · rename_i hw
          rw [if_pos hw] at h
          refine h.mono fun u w' ⟨hb, h⟩ => ⟨hb, v, hv.same (keepp a u) (wp a u), ?_⟩
          rw [← Act.put_comm a v u c2]; exact h
        · rename_i hw
          rw [if_neg hw] at h
          refine ⟨v, hv.same (keepp a undef) (wp a undef), ?_⟩
          rw [← Act.put_comm a v undef c2]; exact h
  · have hj0 : kd j = 0 ∨ kd j = 3 := k3.resolve_left hp0
    have hp1 : kd p = 1 := by omega
    simp only [MixF, hp, hj, if_neg hp0, if_pos hj0, if_pos hp1] at h ⊢
    obtain ⟨hm, h⟩ := h
    have m2 : Mix P ops kd B Q (j :: x :: p :: is) a w := by
      refine Mix.frontX ok hj [x, p] a w (fun q hq => ?_) (fun _ => hB) hm
      rcases List.mem_cons.1 hq with rfl | hq
      · exact ⟨ox, hox, (ok.xa j oj ox hj hox hjx hj2).2, by have := ok.xk; omega, hj2, .inr hj0, fun h => by omega, fun h => by have := ok.xk; omega⟩
      · rcases List.mem_singleton.1 hq with rfl
        exact ⟨op, hp, hap, hp2, hj2, .inr hj0, fun h => by omega, fun h => by omega⟩
    unfold Mix at m2
    simp only [hj] at m2
    rw [if_pos hj0] at m2
    obtain ⟨u, hu, m3⟩ := m2
    refine ⟨u, hu, m3, ?_⟩
    have hone : ∀ {v : Value}, Yi P ops (fun w => kd j = 3 ∨ B w) oj v a → v = u := fun hv => Yi.one hv hu (hj0.elim (fun _ => .inr hB) .inl)
    by_cases hw : Region.wanted op (yielded ops a.tmps) = true
    · rw [if_pos hw] at h
      rw [wp, keepp, if_pos hw]
      refine h.mono fun v w' ⟨hb, v2, hv2, h⟩ => ⟨hb, ?_⟩
      have e : v2 = u := hone (hv2.same (keepj a v).symm (wj a v).symm)
      subst e
      rw [← Act.put_comm a v v2 c2]; exact h
    · rw [if_neg hw] at h
      obtain ⟨v2, hv2, h⟩ := h
      have e : v2 = u := hone (hv2.same (keepj a undef).symm (wj a undef).symm)
      subst e
      rw [wp, if_neg hw, ← Act.put_comm a undef v2 c2]; exact h

theorem MixF.front {x : Nat} (ok : MixOkX ops kd x) {j : Nat} {oj : Oper} (hj : ops[j]? = some oj) (hjx : j ≠ x) {is : List Nat} : ∀ (pre : List Nat) (a : Act) (w : World), (∀ p ∈ pre, p ≠ x ∧ ∃ op, ops[p]? = some op ∧ op.apart ops oj = true ∧ kd p ≠ 2 ∧ kd j ≠ 2 ∧ ((kd p = 0 ∨ kd p = 3) ∨ (kd j = 0 ∨ kd j = 3)) ∧ (kd j = 4 → kd p = 3) ∧ (kd p = 4 → kd j = 3)) → B w →
    MixF P ops kd B Q x (pre ++ j :: is) a w → MixF P ops kd B Q x (j :: (pre ++ is)) a w
  | [], _, _, _, _, h => h
  | p :: pre, a, w, hpre, hB, h => by
    obtain ⟨hpx, op, hp, hap, hp2, hj2, k3, k4, k5⟩ := hpre p (by simp)
    obtain ⟨ox, hox⟩ := ok.xo
    refine MixF.swap ok hp hj hap hpx hjx hp2 hj2 k3 hB ?_
    have ih := fun a w hB => MixF.front ok hj hjx pre a w (fun q hq => hpre q (by simp [hq])) hB (is := is)
    have fr : ∀ a w, B w → Mix P ops kd B Q (pre ++ j :: is) a w → Mix P ops kd B Q (j :: (pre ++ is)) a w := fun a w hb m => Mix.frontX ok hj pre a w (fun q hq => (hpre q (by simp [hq])).2) (fun _ => hb) m
    simp only [List.cons_append, MixF, hp] at h ⊢
    by_cases hp0 : kd p = 0 ∨ kd p = 3
    · rw [if_pos hp0] at h ⊢
      obtain ⟨v, hv, h⟩ := h
      exact ⟨v, hv, ih _ w hB h⟩
    · have hp1 : kd p = 1 := by have := ok.le p op hp; have := ok.no4 p op hp; omega
      rw [if_neg hp0, if_pos hp1] at h ⊢
      obtain ⟨hm, h⟩ := h
      refine ⟨Mix.und hox (.inr (.inl ok.xk)) hB (fun a w hb m => Mix.und hp (.inr (.inl hp1)) hb fr m) hm, ?_⟩
      split
      · rename_i hw
        rw [if_pos hw] at h
        exact h.mono fun v w' ⟨hb, h⟩ => ⟨hb, ih _ w' hb h⟩
      · rename_i hw
        rw [if_neg hw] at h
        exact ih _ w hB h

structure MixIxF (ops : Array Oper) (x : Nat) (is : List Nat) (listed : Array Bool) : Prop where
  closed : Closed ops listed
  size : listed.size = ops.size
  mem : ∀ i, (i ∈ is ∨ i = x) ↔ listed.getD i true = false
  srt : is.Pairwise (· < ·)
  nx : x ∉ is

theorem mixF_sound {r : Option Nat} {x : Nat} (ok : MixOkX ops kd x) {Q' : Exit → Act → World → Prop} (hQ : ∀ a w, Q a w → Q' .normal a w) : ∀ (fuel : Nat) (is : List Nat) (listed : Array Bool) (a : Act) (w : World), is.length + 1 = fuel → MixIxF ops x is listed →
    B w → MixF P ops kd B Q x is a w → wpAnyIn (Wd r) 0 P .any ops Q' fuel listed a w := by
  intro fuel
  induction fuel with
  | zero => intro is listed a w hl; omega
  | succ fuel ih =>
    intro is listed a w hl hx hB h
    obtain ⟨ox, hox⟩ := ok.xo
    have hsz : ∀ i, listed.getD i true = false → i < ops.size := fun i hi => by
      rcases Nat.lt_or_ge i ops.size with h' | h'
      · exact h'
      · rw [← hx.size] at h'; simp [Array.getElem?_eq_none h'] at hi
    refine ⟨fun hr => ?_, fun j hj => ?_⟩
    · -- the least one left is ready
      have least : ∃ m, listed.getD m true = false ∧ ∀ k, listed.getD k true = false → m ≤ k := by
        cases is with
        | nil =>
          refine ⟨x, (hx.mem x).1 (.inr rfl), fun k hk => ?_⟩
          rcases (hx.mem k).2 hk with h | h
          · cases h
          · omega
        | cons i is =>
          have hi : ∀ k ∈ i :: is, i ≤ k := fun k hk => by
            rcases List.mem_cons.1 hk with rfl | hk
            · exact Nat.le_refl _
            · exact Nat.le_of_lt ((List.pairwise_cons.1 hx.srt).1 k hk)
          rcases Nat.lt_or_ge x i with hxi | hxi
          · refine ⟨x, (hx.mem x).1 (.inr rfl), fun k hk => ?_⟩
            rcases (hx.mem k).2 hk with h | h
            · have := hi k h; omega
            · omega
          · refine ⟨i, (hx.mem i).1 (.inl (by simp)), fun k hk => ?_⟩
            rcases (hx.mem k).2 hk with h | h
            · exact hi k h
            · omega
      obtain ⟨m, hm, hml⟩ := least
      have hms := hsz m hm
      have hom : ops[m]? = some ops[m] := by simp [hms]
      have : m ∈ Region.ready .any ops listed := mem_ready.2 ⟨hm, ops[m], hom, fun e he hb => by
        have hlt := ok.lt m _ hom e he hb
        have h1 : listed.getD e.on true ≠ false := fun h => by have := hml _ h; omega
        have h2 : e.on < listed.size := by rw [hx.size]; omega
        simp only [Array.getD_eq_getD_getElem?, Array.getElem?_eq_getElem h2, Option.getD_some] at h1 ⊢
        simpa using h1⟩
      rw [hr] at this; cases this
    · obtain ⟨hun, oj, ho, hdeps⟩ := mem_ready.1 hj
      have hjs : j < listed.size := by rw [hx.size]; exact hsz j hun
      have hclosed' : Closed ops (listed.setIfInBounds j true) := fun k o hk hkl e he hb => by
        by_cases hjk : j = k
        · subst hjk
          rw [ho] at hk; cases hk
          exact getD_set_true (hdeps e he hb)
        · rw [getD_set_ne true hjk] at hkl
          exact getD_set_true (hx.closed k o hk hkl e he hb)
      by_cases hjx : j = x
      · subst hjx
        have hm := MixF.first ok is a w hx.nx h
        have hx' : MixIx ops is (listed.setIfInBounds j true) := by
          refine ⟨hclosed', by simp [hx.size], fun i => ?_, hx.srt⟩
          by_cases hij : j = i
          · subst hij
            constructor
            · intro hm; exact absurd hm hx.nx
            · intro hm; simp [hjs] at hm
          · rw [getD_set_ne true hij, ← hx.mem i]
            exact ⟨.inl, fun h => h.resolve_right fun e => hij e.symm⟩
        have hk1 := ok.xk
        simp only [Mix, ho] at hm
        unfold wpOpIn
        simp only [ho]
        rw [if_neg (by omega)] at hm
        by_cases hw : Region.wanted oj (yielded ops a.tmps) = true
        · rw [if_pos hw] at hm
          rw [if_pos hw]
          have hrep : Rep a.tmps.size (fun t => a.tmps.getD t undef) a.defers a := ⟨rfl, fun _ => rfl, rfl⟩
          have hst : StepK P (fun v w' => (kd j = 1 → B w') ∧ Mix P ops kd B Q is (a.put oj.dst v) w') ((xop (fun t => a.tmps.getD t undef) oj.op oj.type).run P w) := by
            rw [← execOp_xop, ← hrep.eval]; exact hm
          exact stepK_in hrep hst fun v w' ⟨hb, hrest⟩ => mixX_sound ok hQ fuel is _ _ w' (by omega) hx' hx.nx (fun _ => hb hk1) hrest
        · rw [if_neg hw] at hm
          rw [if_neg hw]
          exact ⟨fun _ _ => trivial, mixX_sound ok hQ fuel is _ _ w (by omega) hx' hx.nx (fun _ => hB) hm⟩
      · have hjm : j ∈ is := ((hx.mem j).2 hun).resolve_right hjx
        have hj2 : kd j ≠ 2 := fun e => by
          have hre := ok.xw j oj ho e
          have := reach_listed hx.closed hx.size _ x j hre (fun o ho' e he hb => by rw [ho] at ho'; cases ho'; exact hdeps e he hb)
          have hxl := (hx.mem x).1 (.inr rfl)
          have h2 : x < listed.size := by rw [hx.size]; exact hsz x hxl
          simp only [Array.getD_eq_getD_getElem?, Array.getElem?_eq_getElem h2, Option.getD_some] at this hxl
          rw [this] at hxl; cases hxl
        obtain ⟨pre, post, rfl⟩ := List.append_of_mem hjm
        have hpre : ∀ p ∈ pre, p ≠ x ∧ ∃ op, ops[p]? = some op ∧ op.apart ops oj = true ∧ kd p ≠ 2 ∧ kd j ≠ 2 ∧ ((kd p = 0 ∨ kd p = 3) ∨ (kd j = 0 ∨ kd j = 3)) ∧ (kd j = 4 → kd p = 3) ∧ (kd p = 4 → kd j = 3) := by
          intro p hp
          have hpx : p ≠ x := fun e => hx.nx (by rw [← e]; simp [hp])
          have hpl : listed.getD p true = false := (hx.mem p).1 (.inl (by simp [hp]))
          have hps := hsz p hpl
          have hop : ops[p]? = some ops[p] := by simp [hps]
          have hlt : p < j := (List.pairwise_append.1 hx.srt).2.2 p hp j (by simp)
          rcases ok.two p j _ oj hop ho hlt hpx hjx with hre | h2
          · have := reach_listed hx.closed hx.size _ p j hre (fun o ho' e he hb => by rw [ho] at ho'; cases ho'; exact hdeps e he hb)
            have h2 : p < listed.size := by rw [hx.size]; exact hps
            simp only [Array.getD_eq_getD_getElem?, Array.getElem?_eq_getElem h2, Option.getD_some] at this hpl
            rw [this] at hpl; cases hpl
          · exact ⟨hpx, _, hop, h2⟩
        have hlen : (pre ++ post).length + 1 = fuel := by simp at hl ⊢; omega
        have hx' : MixIxF ops x (pre ++ post) (listed.setIfInBounds j true) := by
          refine ⟨hclosed', by simp [hx.size], fun i => ?_, ?_, fun hm => hx.nx (by
            rcases List.mem_append.1 hm with h | h
            · simp [h]
            · simp [h])⟩
          · by_cases hij : j = i
            · subst hij
              have hs := hx.srt
              have hnot : j ∉ pre ++ post := by
                intro hm
                have hp := List.pairwise_append.1 hs
                rcases List.mem_append.1 hm with hm | hm
                · have := hp.2.2 j hm j (by simp); omega
                · have := (List.pairwise_cons.1 hp.2.1).1 j hm; omega
              constructor
              · rintro (hm | hm)
                · exact absurd hm hnot
                · exact absurd hm hjx
              · intro hm; simp [hjs] at hm
            · rw [getD_set_ne true hij, ← hx.mem i]
              simp only [List.mem_append, List.mem_cons]
              constructor
              · rintro ((h | h) | h)
                · exact .inl (.inl h)
                · exact .inl (.inr (.inr h))
                · exact .inr h
              · rintro ((h | h | h) | h)
                · exact .inl (.inl h)
                · exact absurd h.symm hij
                · exact .inl (.inr h)
                · exact .inr h
          · have hp := List.pairwise_append.1 hx.srt
            exact List.pairwise_append.2 ⟨hp.1, (List.pairwise_cons.1 hp.2.1).2, fun x hx y hy => hp.2.2 x hx y (by simp [hy])⟩
        have hfront := MixF.front ok ho hjx pre a w hpre hB h
        simp only [MixF, ho] at hfront
        unfold wpOpIn
        simp only [ho]
        by_cases hj0 : kd j = 0 ∨ kd j = 3
        · rw [if_pos hj0] at hfront
          obtain ⟨v, hv, hrest⟩ := hfront
          rcases hv with ⟨hw, hrun⟩ | ⟨hw, rfl⟩
          · rw [if_pos hw]
            have hrun := hrun w (.inr hB)
            refine ⟨fun _ _ => trivial, ?_⟩
            have hd : ∀ c, oj.op ≠ .defer c := by
              intro c hc
              unfold execOp at hrun
              rw [hc] at hrun
              simp only at hrun
              unfold resolve at hrun
              cases hcal : c.callee with
              | builtin b => simp [hcal] at hrun
              | invoke x y => simp [hcal] at hrun
              | value f =>
                simp only [hcal] at hrun
                cases hf : a.eval f <;> simp [hf, Deferred.ofValue] at hrun
            rw [semAt_plain hd, hrun]
            exact ih _ _ _ _ hlen hx' hB hrest
          · rw [if_neg (by rw [hw]; simp)]
            exact ⟨fun _ _ => trivial, ih _ _ _ _ hlen hx' hB hrest⟩
        · have hj1 : kd j = 1 := by have := ok.le j oj ho; have := ok.no4 j oj ho; omega
          rw [if_neg hj0, if_pos hj1] at hfront
          have hfront := hfront.2
          by_cases hw : Region.wanted oj (yielded ops a.tmps) = true
          · rw [if_pos hw] at hfront
            rw [if_pos hw]
            have hrep : Rep a.tmps.size (fun t => a.tmps.getD t undef) a.defers a := ⟨rfl, fun _ => rfl, rfl⟩
            have hst : StepK P (fun v w' => B w' ∧ MixF P ops kd B Q x (pre ++ post) (a.put oj.dst v) w') ((xop (fun t => a.tmps.getD t undef) oj.op oj.type).run P w) := by
              rw [← execOp_xop, ← hrep.eval]; exact hfront
            exact stepK_in hrep hst fun v w' ⟨hb, hrest⟩ => ih _ _ _ w' hlen hx' hb hrest
          · rw [if_neg hw] at hfront
            rw [if_neg hw]
            exact ⟨fun _ _ => trivial, ih _ _ _ _ hlen hx' hB hfront⟩

/-! ### over environments -/
theorem mixE_ix {N : Nat} {Q : Post} {kd' : Nat → Nat} (l : List Oper) : ∀ (is : List Nat) (i : Nat) (E : Env) (ds : List Deferred) (a : Act) (w : World), is.length = l.length → (∀ k j, is[k]? = some j → l[k]? = ops[j]? ∧ kd' (i + k) = kd j) → Rep N E ds a → MixE P N ops kd' B Q i l E ds w →
    Mix P ops kd B (PostA N Q .normal) is a w := by
  induction l with
  | nil =>
    intro is i E ds a w hlen hl hr h
    have : is = [] := List.length_eq_zero_iff.1 hlen
    subst this
    exact ⟨E, ds, hr, h⟩
  | cons o rest ih =>
    intro is i E ds a w hlen hl hr h
    cases is with
    | nil => cases hlen
    | cons j is =>
      obtain ⟨h0, hk0⟩ := hl 0 j rfl
      have h0 : ops[j]? = some o := by simpa using h0.symm
      rw [Nat.add_zero] at hk0
      have ih' := fun E ds a w => ih is (i + 1) E ds a w (by simpa using hlen) (fun k j hk => by have := hl (k + 1) j (by simpa using hk); rw [Nat.add_assoc, Nat.add_comm 1 k]; simpa using this)
      simp only [MixE] at h
      rw [hk0] at h
      simp only [Mix, h0]
      rw [yieldE_eq hr]
      by_cases hk : kd j = 0 ∨ kd j = 3
      · rw [if_pos hk] at h ⊢
        obtain ⟨v, hv, h⟩ := h
        refine ⟨v, ?_, ih' _ ds _ w (hr.put _ _) h⟩
        unfold Yi
        rw [yieldE_eq hr, hr.eval, execOp_xop]
        exact hv
      · rw [if_neg hk] at h ⊢
        rw [hr.eval, execOp_xop]
        split
        · rename_i hw
          rw [if_pos hw] at h
          exact h.mono fun v w' ⟨hb, h⟩ => ⟨hb, ih' _ ds _ w' (hr.put _ _) h⟩
        · rename_i hw
          rw [if_neg hw] at h
          exact ih' _ ds _ w (hr.put _ _) h

def MixFE (P : Program) (N : Nat) (ops : Array Oper) (B : World → Prop) (Q : Post) (ox : Oper) : List Nat → List Oper → Env → List Deferred → World → Prop
  | [], l, E, ds, w => MixE P N ops (kdOf [1]) B Q 0 (ox :: l) E ds w
  | _ :: _, [], E, ds, w => MixE P N ops (kdOf [1]) B Q 0 [ox] E ds w
  | k :: ks, o :: rest, E, ds, w =>
    if k = 0 ∨ k = 3 then ∃ v, ((Region.wanted o (yieldE ops E) = true ∧ ∀ w, (k = 3 ∨ B w) → (xop E o.op o.type).run P w = .ok (.value v) w) ∨ (Region.wanted o (yieldE ops E) = false ∧ v = undef)) ∧ MixFE P N ops B Q ox ks rest (putE N o.dst E v) ds w
    else if k = 1 then MixE P N ops (kdOf (1 :: k :: ks)) B Q 0 (ox :: o :: rest) E ds w ∧ (if Region.wanted o (yieldE ops E) = true then StepK P (fun v w' => B w' ∧ MixFE P N ops B Q ox ks rest (putE N o.dst E v) ds w') ((xop E o.op o.type).run P w) else MixFE P N ops B Q ox ks rest (putE N o.dst E undef) ds w)
    else MixE P N ops (kdOf (1 :: k :: ks)) B Q 0 (ox :: o :: rest) E ds w

theorem mixFE_in {N : Nat} {Q : Post} {x : Nat} {ox : Oper} (hox : ops[x]? = some ox) (hkx : kd x = 1) (l : List Oper) : ∀ (ks : List Nat) (is : List Nat) (E : Env) (ds : List Deferred) (a : Act) (w : World), is.length = l.length → (∀ k j, is[k]? = some j → l[k]? = ops[j]? ∧ kdOf ks k = kd j) → Rep N E ds a → MixFE P N ops B Q ox ks l E ds w →
    MixF P ops kd B (PostA N Q .normal) x is a w := by
  have now : ∀ (ks : List Nat) (l : List Oper) (is : List Nat) (E : Env) (ds : List Deferred) (a : Act) (w : World), is.length = l.length → (∀ k j, is[k]? = some j → l[k]? = ops[j]? ∧ kdOf ks k = kd j) → Rep N E ds a → MixE P N ops (kdOf (1 :: ks)) B Q 0 (ox :: l) E ds w → Mix P ops kd B (PostA N Q .normal) (x :: is) a w := by
    intro ks l is E ds a w hlen hl hr h
    refine mixE_ix (ox :: l) (x :: is) 0 E ds a w (by simp [hlen]) (fun k j hk => ?_) hr h
    cases k with
    | zero =>
      simp only [List.getElem?_cons_zero, Option.some.injEq] at hk
      subst hk
      exact ⟨by simp [hox], by rw [hkx]; rfl⟩
    | succ k =>
      obtain ⟨h1, h2⟩ := hl k j (by simpa using hk)
      refine ⟨by simpa using h1, ?_⟩
      rw [← h2, Nat.zero_add]; rfl
  induction l with
  | nil =>
    intro ks is E ds a w hlen hl hr h
    have : is = [] := List.length_eq_zero_iff.1 hlen
    subst this
    cases ks with
    | nil => exact now [] [] [] E ds a w rfl (fun k j hk => by simp at hk) hr h
    | cons k ks => exact now [] [] [] E ds a w rfl (fun k j hk => by simp at hk) hr h
  | cons o rest ih =>
    intro ks is E ds a w hlen hl hr h
    cases is with
    | nil => cases hlen
    | cons j is =>
      obtain ⟨h0, hk0⟩ := hl 0 j rfl
      have h0 : ops[j]? = some o := by simpa using h0.symm
      cases ks with
      | nil =>
        have hm := now [] (o :: rest) (j :: is) E ds a w hlen hl hr h
        have hkj : kd j = 2 := hk0.symm
        simp only [MixF, h0]
        rw [if_neg (by omega), if_neg (by omega)]
        exact hm
      | cons k ks =>
        have hkj : k = kd j := hk0
        have ih' := fun E ds a w => ih ks is E ds a w (by simpa using hlen) (fun k' j hk => by have := hl (k' + 1) j (by simpa using hk); simpa [kdOf] using this)
        simp only [MixFE] at h
        simp only [MixF, h0]
        rw [hkj] at h
        rw [yieldE_eq hr]
        by_cases hk : kd j = 0 ∨ kd j = 3
        · rw [if_pos hk] at h ⊢
          obtain ⟨v, hv, h⟩ := h
          refine ⟨v, ?_, ih' _ ds _ w (hr.put _ _) h⟩
          unfold Yi
          rw [yieldE_eq hr, hr.eval, execOp_xop]
          exact hv
        · rw [if_neg hk] at h ⊢
          by_cases hk1 : kd j = 1
          · rw [if_pos hk1] at h ⊢
            obtain ⟨hm, h⟩ := h
            refine ⟨now (kd j :: ks) (o :: rest) (j :: is) E ds a w hlen (by rw [← hkj]; exact hl) hr hm, ?_⟩
            rw [hr.eval, execOp_xop]
            split
            · rename_i hw
              rw [if_pos hw] at h
              exact h.mono fun v w' ⟨hb, h⟩ => ⟨hb, ih' _ ds _ w' (hr.put _ _) h⟩
            · rename_i hw
              rw [if_neg hw] at h
              exact ih' _ ds _ w (hr.put _ _) h
          · rw [if_neg hk1] at h ⊢
            exact now (kd j :: ks) (o :: rest) (j :: is) E ds a w hlen (by rw [← hkj]; exact hl) hr h

theorem WP.mixf {r : Option Nat} {N : Nat} {Q : Post} {E : Env} {ds : List Deferred} {w : World} {id : Nat} (kl : List Nat) (x : Nat) (B : World → Prop) (hm : P.follows .mixedOrders = true) (hc : mixBX ops (kdOf kl) x = true) (hB : ∀ w', World.core w' = World.core w → B w') {ox : Oper} {l : List Oper} {ks : List Nat} (hox : ops[x]? = some ox) (hl : ops.toList.eraseIdx x = l) (hks : ∀ k, k < ops.size → kdOf ks k = kdOf kl (if k < x then k else k + 1))
    (h : ∀ w', World.core w' = World.core w → MixFE P N ops B Q ox ks l E ds w') : WP P r N (.region id ops true) Q E ds w := by
  subst hl
  have ok := mixOkX_of hc
  intro a hr
  have hx : x < ops.size := (Array.getElem?_eq_some_iff.1 hox).1
  have hix : ∀ k, ((List.range ops.size).eraseIdx x)[k]? = if k < x then (if k < ops.size then some k else none) else (if k + 1 < ops.size then some (k + 1) else none) := fun k => by
    rw [List.getElem?_eraseIdx]
    split
    · split
      · rename_i h; simp [h]
      · rename_i h; simp; omega
    · split
      · rename_i h; simp [h]
      · rename_i h; simp; omega
  have hlen : ((List.range ops.size).eraseIdx x).length = (ops.toList.eraseIdx x).length := by
    rw [List.length_eraseIdx, List.length_eraseIdx]; simp
  have hmem : ∀ i, i ∈ (List.range ops.size).eraseIdx x ↔ (i < ops.size ∧ i ≠ x) := fun i => by
    rw [List.mem_iff_getElem?]
    constructor
    · rintro ⟨k, hk⟩
      rw [hix] at hk
      split at hk
      · split at hk
        · cases hk; omega
        · cases hk
      · split at hk
        · cases hk; omega
        · cases hk
    · rintro ⟨h1, h2⟩
      rcases Nat.lt_or_ge i x with h3 | h3
      · exact ⟨i, by rw [hix, if_pos h3, if_pos h1]⟩
      · exact ⟨i - 1, by rw [hix, if_neg (by omega), Nat.sub_add_cancel (by omega), if_pos h1]⟩
  have h1 := mixFE_in (kd := kdOf kl) hox ok.xk (ops.toList.eraseIdx x) ks ((List.range ops.size).eraseIdx x) E ds a _ hlen (fun k j hk => by
    have hks := hks k
    rw [hix] at hk
    rw [List.getElem?_eraseIdx]
    split at hk
    · rename_i hkx
      split at hk
      · cases hk
        rw [if_pos hkx] at hks
        exact ⟨by rw [if_pos hkx]; simp, hks (by omega)⟩
      · cases hk
    · rename_i hkx
      split at hk
      · cases hk
        rw [if_neg hkx] at hks
        exact ⟨by rw [if_neg hkx]; simp, hks (by omega)⟩
      · cases hk) hr (h { w with drawn := w.drawn + 1 } rfl)
  refine wpIn_region_any hm (mixF_sound ok (fun _ _ h => h) ops.size ((List.range ops.size).eraseIdx x) _ a _ (by rw [List.length_eraseIdx]; simp [hx]; omega) ⟨fun k o hk hkl => ?_, by simp, fun i => ?_, ?_, fun hm => ((hmem x).1 hm).2 rfl⟩ (hB _ rfl) h1)
  · have hlt : k < ops.size := (Array.getElem?_eq_some_iff.1 hk).1
    simp [hlt] at hkl
  · rw [hmem]
    constructor
    · intro hi
      have : i < ops.size := by rcases hi with h | h <;> omega
      simp [this]
    · intro hi
      rcases Nat.lt_or_ge i ops.size with h' | h'
      · omega
      · simp [Array.getElem?_eq_none (show (Array.replicate ops.size false).size ≤ i by simpa using h')] at hi
  · exact List.pairwise_lt_range.sublist (List.eraseIdx_sublist _ _)

variable {N : Nat} {Q' : Post} {E : Env} {ds : List Deferred} {w : World} {ks : List Nat} {ox : Oper} {l rest : List Oper} {d : Nat} {op : Op} {ty : TypeId} {pos : String} {af : Array Edge}
theorem MixFE.q {v : Value} (h : ∀ w, B w → (xop E op ty).run P w = .ok (.value v) w) (k : MixFE P N ops B Q' ox ks rest (upd N E d v) ds w) :
    MixFE P N ops B Q' ox (0 :: ks) (⟨some d, op, ty, pos, af, none⟩ :: rest) E ds w := by
  unfold MixFE
  rw [if_pos (.inl rfl)]
  exact ⟨v, .inl ⟨rfl, fun w hw => h w (hw.resolve_left (by omega))⟩, k⟩
theorem MixFE.p {v : Value} (h : ∀ w, (xop E op ty).run P w = .ok (.value v) w) (k : MixFE P N ops B Q' ox ks rest (upd N E d v) ds w) :
    MixFE P N ops B Q' ox (3 :: ks) (⟨some d, op, ty, pos, af, none⟩ :: rest) E ds w := by
  unfold MixFE
  rw [if_pos (.inr rfl)]
  exact ⟨v, .inl ⟨rfl, fun w _ => h w⟩, k⟩
theorem MixFE.eff {o : Oper} (h1 : MixE P N ops (kdOf (1 :: 1 :: ks)) B Q' 0 (ox :: o :: rest) E ds w) (h : OpsE P N ops (fun e E' ds' w' => e = .normal ∧ ds' = ds ∧ B w' ∧ MixFE P N ops B Q' ox ks rest E' ds w') [o] E ds w) : MixFE P N ops B Q' ox (1 :: ks) (o :: rest) E ds w := by
  unfold MixFE
  rw [if_neg (by omega), if_pos rfl]
  refine ⟨h1, ?_⟩
  unfold OpsE at h
  split
  · rename_i hw
    rw [if_pos hw] at h
    exact h.mono fun v w' h => ⟨h.2.2.1, h.2.2.2⟩
  · rename_i hw
    rw [if_neg hw] at h
    exact h.2.2.2
theorem MixFE.fin (h : MixE P N ops (kdOf [1]) B Q' 0 (ox :: l) E ds w) : MixFE P N ops B Q' ox [] l E ds w := h

end
end Go.Proofs.Ytbhbdpbhhfemhaa

/-
  WatchAll: the walk.
-/
namespace Go.Proofs.Ytbhbdpbhhfemhaa
open Go Go.Proofs
set_option maxRecDepth 100000
set_option maxHeartbeats 32000000
set_option linter.unusedVariables false

structure AInv (p : ByteArray) (n n2 : Nat) (S : SC) (cms : List Cmt) (rl tl : Rw Cm) (m nx i : Nat) : Prop where
  ok : S.Ok (300000 + 200 * nx)
  low : S.low = 0
  hist : S.hist.xs.map cma = cms
  list : rl.xs.map cma = cms
  told : tl.xs.map cma = onlyL p (cms.take m)
  rlo : rl.Ok 3
  rlw : ∀ c ∈ rl.xs, c.w.Ok 3
  tlo : tl.Ok 3
  tlw : ∀ c ∈ tl.xs, c.w.Ok 3
  len : cms.length = n + nx
  mle : m ≤ cms.length
  nxle : nx ≤ n2
  cnt : i ≤ nx + tl.xs.length
  rt : ∀ c ∈ cms, rightB c.2.2
  seq : ∀ (i : Nat) (c : Cmt), cms[i]? = some c → c.1 = 0 + 1 + i
  time : ∀ c ∈ cms, c.2.1 ≤ 1048576
theorem AInv.last {p : ByteArray} {n n2 m nx i : Nat} {S : SC} {cms : List Cmt} {rl tl : Rw Cm} (h : AInv p n n2 S cms rl tl m nx i) : S.last = (cms.length : Int) := by
  have h1 := rw_len h.hist
  unfold SC.last; rw [h.low, h1]; omega
theorem AInv.tl {p : ByteArray} {n n2 m nx i : Nat} {S : SC} {cms : List Cmt} {rl tl : Rw Cm} (h : AInv p n n2 S cms rl tl m nx i) : tl.xs.length ≤ n + nx := by
  have h1 := rw_len h.told
  have h2 := onlyL_len p (cms.take m)
  rw [List.length_take] at h2
  have := h.len; omega
theorem stars_snoc (xs ys : List Cm) : stars ((xs ++ ys).map cmH) = HP.sep (stars (xs.map cmH)) (stars (ys.map cmH)) := by rw [List.map_append, stars_append]

theorem WatchAll_walk {w : World} {l : List HP} {a a2 a4 : Option Addr} {n c n2 c2 n4 c4 : Nat} {xs xs2 : List Sl} {zs : List Int} {p : ByteArray} (H : Sat w l) (hr : SlIn l a n c xs) (hr2 : SlIn l a2 n2 c2 xs2) (h4 : RIn intc TIn l a4 n4 c4 zs) :
    Calls Try.prog 9 #[.slice a n c, .slice a2 n2 c2, .string p, .slice a4 n4 c4] w (Ret fun v w' => v = .bool true ∧ Sat w' l) := by
  have hln := slIn_len hr
  have hln2 := slIn_len hr2
  have hln2' := hr2.row.len
  have hl4 := h4.len
  refine Calls.of_wp Try.func9 rfl Try.ntmps9 Try.results9 (Nat.le_of_ble_eq_true rfl) ?_
  refine WP.seq ?_
  refine WP.region ?_
  refine OpsE.val (x_assign (v := .bool _) rfl) ?_
  refine OpsE.nil ?_
  refine Then.normal ?_
  refine WP.seq ?_
  refine WP.seq ?_
  refine WP.region ?_
  refine OpsE.call (x_call (vl := []) rfl Try.call33) (head17_spec H) ?_
  rintro _ w ⟨rfl, H⟩
  refine OpsE.val (x_not rfl) ?_
  refine OpsE.nil ?_
  refine Then.normal ?_
  refine WP.cond_f rfl rfl ?_
  refine WP.skip ?_
  refine Then.normal ?_
  refine WP.seq ?_
  refine WP.seq ?_
  refine WP.region ?_
  refine OpsE.val (x_move (v := .slice a n c) rfl) ?_
  refine OpsE.val (x_lenL rfl rfl Try.runUnderlying36) ?_
  refine OpsE.val (x_gt rfl rfl) ?_
  by_cases c0 : (n : Int) > 20
  · rw [decide_eq_true c0]
    refine OpsE.val (x_move (v := .bool _) rfl) ?_
    refine OpsE.no rfl ?_
    refine OpsE.no rfl ?_
    refine OpsE.no rfl ?_
    refine OpsE.val (x_pickT rfl rfl) ?_
    refine OpsE.val (x_move (v := .bool _) rfl) ?_
    refine OpsE.no rfl ?_
    refine OpsE.no rfl ?_
    refine OpsE.no rfl ?_
    refine OpsE.val (x_pickT rfl rfl) ?_
    refine OpsE.val (x_move (v := .bool _) rfl) ?_
    refine OpsE.no rfl ?_
    refine OpsE.no rfl ?_
    refine OpsE.no rfl ?_
    refine OpsE.val (x_pickT rfl rfl) ?_
    refine OpsE.nil ?_
    refine Then.normal ?_
    refine WP.cond_t rfl rfl ?_
    refine WP.seq ?_
    refine WP.region ?_
    refine OpsE.val (x_assign (v := .bool _) rfl) ?_
    refine OpsE.nil ?_
    refine Then.normal ?_
    refine WP.ret ?_
    refine Then.ret ?_
    refine Leave0.ret (v := .bool _) rfl ?_
    exact ⟨rfl, H⟩
  · rw [decide_eq_false c0]
    refine OpsE.val (x_move (v := .bool _) rfl) ?_
    refine OpsE.yes rfl ?_
    refine OpsE.val (x_move (v := .slice a2 n2 c2) rfl) ?_
    refine OpsE.yes rfl ?_
    refine OpsE.val (x_lenL rfl rfl Try.runUnderlying36) ?_
    refine OpsE.yes rfl ?_
    refine OpsE.val (x_gt rfl rfl) ?_
    by_cases c00 : (n2 : Int) > 20
    · rw [decide_eq_true c00]
      refine OpsE.val (x_pickF rfl rfl) ?_
      refine OpsE.val (x_move (v := .bool _) rfl) ?_
      refine OpsE.no rfl ?_
      refine OpsE.no rfl ?_
      refine OpsE.no rfl ?_
      refine OpsE.val (x_pickT rfl rfl) ?_
      refine OpsE.val (x_move (v := .bool _) rfl) ?_
      refine OpsE.no rfl ?_
      refine OpsE.no rfl ?_
      refine OpsE.no rfl ?_
      refine OpsE.val (x_pickT rfl rfl) ?_
      refine OpsE.nil ?_
      refine Then.normal ?_
      refine WP.cond_t rfl rfl ?_
      refine WP.seq ?_
      refine WP.region ?_
      refine OpsE.val (x_assign (v := .bool _) rfl) ?_
      refine OpsE.nil ?_
      refine Then.normal ?_
      refine WP.ret ?_
      refine Then.ret ?_
      refine Leave0.ret (v := .bool _) rfl ?_
      exact ⟨rfl, H⟩
    · rw [decide_eq_false c00]
      refine OpsE.val (x_pickF rfl rfl) ?_
      refine OpsE.val (x_move (v := .bool _) rfl) ?_
      refine OpsE.yes rfl ?_
      refine OpsE.val (x_move (v := .string _) rfl) ?_
      refine OpsE.yes rfl ?_
      refine OpsE.val (x_lenS rfl rfl Try.runUnderlying9) ?_
      refine OpsE.yes rfl ?_
      refine OpsE.val (x_gt rfl rfl) ?_
      by_cases c000 : (p.size : Int) > 60
      · rw [decide_eq_true c000]
        refine OpsE.val (x_pickF rfl rfl) ?_
        refine OpsE.val (x_move (v := .bool _) rfl) ?_
        refine OpsE.no rfl ?_
        refine OpsE.no rfl ?_
        refine OpsE.no rfl ?_
        refine OpsE.val (x_pickT rfl rfl) ?_
        refine OpsE.nil ?_
        refine Then.normal ?_
        refine WP.cond_t rfl rfl ?_
        refine WP.seq ?_
        refine WP.region ?_
        refine OpsE.val (x_assign (v := .bool _) rfl) ?_
        refine OpsE.nil ?_
        refine Then.normal ?_
        refine WP.ret ?_
        refine Then.ret ?_
        refine Leave0.ret (v := .bool _) rfl ?_
        exact ⟨rfl, H⟩
      · rw [decide_eq_false c000]
        refine OpsE.val (x_pickF rfl rfl) ?_
        refine OpsE.val (x_move (v := .bool _) rfl) ?_
        refine OpsE.yes rfl ?_
        refine OpsE.val (x_move (v := .slice a4 n4 c4) rfl) ?_
        refine OpsE.yes rfl ?_
        refine OpsE.val (x_lenL rfl rfl Try.runUnderlying64) ?_
        refine OpsE.yes rfl ?_
        refine OpsE.val (x_gt rfl rfl) ?_
        by_cases c0000 : (n4 : Int) > 30
        · rw [decide_eq_true c0000]
          refine OpsE.val (x_pickF rfl rfl) ?_
          refine OpsE.nil ?_
          refine Then.normal ?_
          refine WP.cond_t rfl rfl ?_
          refine WP.seq ?_
          refine WP.region ?_
          refine OpsE.val (x_assign (v := .bool _) rfl) ?_
          refine OpsE.nil ?_
          refine Then.normal ?_
          refine WP.ret ?_
          refine Then.ret ?_
          refine Leave0.ret (v := .bool _) rfl ?_
          exact ⟨rfl, H⟩
        · rw [decide_eq_false c0000]
          refine OpsE.val (x_pickF rfl rfl) ?_
          refine OpsE.nil ?_
          refine Then.normal ?_
          refine WP.cond_f rfl rfl ?_
          refine WP.skip ?_
          refine Then.normal ?_
          refine WP.seq ?_
          refine WP.region ?_
          refine OpsE.val (x_move (v := .slice _ _ _) rfl) ?_
          refine OpsE.call (x_call (vl := [.slice _ _ _, .int .i64 _]) rfl Try.call34) (made17_zero H hr (by omega)) ?_
          rintro _ w ⟨b, S0, rl0, rfl, ok0, hlow0, hhist0, hlof, hlro, hlrw, H⟩
          refine OpsE.val (x_move (v := .tuple #[.pointer (some ⟨b, 0, none⟩), rl0.val]) rfl) ?_
          refine OpsE.val (x_extract (v := .pointer (some ⟨b, 0, none⟩)) rfl rfl) ?_
          refine OpsE.val (x_extract (v := rl0.val) rfl rfl) ?_
          refine OpsE.val (x_assign (v := .pointer _) rfl) ?_
          refine OpsE.val (x_assign (v := .slice _ _ _) rfl) ?_
          refine OpsE.nil ?_
          refine Then.normal ?_
          refine WP.seq ?_
          have hlo' : ListOf (0 + 1) (xs.map Sl.ws) (rl0.xs.map cma) := hlof
          have htk := takes_list hlo' (by omega) (by decide)
          have hrl0 : rl0.xs.length = n := by rw [← hln, ← hlof.1, List.length_map]
          refine WP.region ?_
          refine OpsE.buildSlice0 CM.K H ?_
          intro g0 w H
          refine OpsE.val (x_assign (v := .slice _ _ _) rfl) ?_
          refine OpsE.nil ?_
          refine Then.normal ?_
          refine WP.seq ?_
          refine WP.region ?_
          refine OpsE.val (x_assign (v := .int .i64 _) rfl) ?_
          refine OpsE.nil ?_
          refine Then.normal ?_
          refine WP.seq ?_
          refine WP.region ?_
          refine OpsE.val (x_assign (v := .int .i64 _) rfl) ?_
          refine OpsE.nil ?_
          refine Then.normal ?_
          refine WP.seq ?_
          refine WP.seq ?_
          refine WP.region ?_
          refine OpsE.val (x_assign (v := .int .i64 _) rfl) ?_
          refine OpsE.nil ?_
          refine Then.normal ?_
          refine WP.block ?_
          have hinv0 : AInv p n n2 S0 (rl0.xs.map cma) rl0 ⟨[], some (g0, 0, [])⟩ 0 0 0 := ⟨ok0.mono (by omega) (by omega), hlow0, hhist0, rfl, rfl, hlro, hlrw, ⟨fun h => (by cases h), fun p h => by cases h; exact ⟨Nat.le_refl _, rfl⟩⟩, (fun _ h => by cases h), by rw [List.length_map, hrl0]; rfl, Nat.zero_le _, Nat.zero_le _, Nat.zero_le _, htk.right, fun i c hc => (htk.seq i c hc).1, fun c hc => by
            obtain ⟨i, hi, rfl⟩ := List.mem_iff_getElem.1 hc
            obtain ⟨ws, hws⟩ : ∃ ws, (xs.map Sl.ws)[i]? = some ws := ⟨_, List.getElem?_eq_getElem (by rw [hlof.1] at hi; exact hi)⟩
            have h1 := (hlof.2 i _ ws (List.getElem?_eq_getElem hi) hws).2.1
            rw [List.length_map] at hi
            rw [h1]; omega⟩
          have H0 : Sat w (StP b S0 :: rl0.own cmc TCm :: stars (rl0.xs.map cmH) :: (⟨[], some (g0, 0, [])⟩ : Rw Cm).own cmc TCm :: stars (([] : List Cm).map cmH) :: l) := by
            have H1 : Sat w ((⟨[], some (g0, 0, [])⟩ : Rw Cm).own cmc TCm :: StP b S0 :: rl0.own cmc TCm :: stars (rl0.xs.map cmH) :: l) := H
            have H2 := sat_one.2 H1
            exact H2.perm (by show _ = stars (StP b S0 :: rl0.own cmc TCm :: stars (rl0.xs.map cmH) :: (⟨[], some (g0, 0, [])⟩ : Rw Cm).own cmc TCm :: HP.one :: l); simp only [stars_cons]; ac_rfl)
          refine WP.loopS [8, 10, 11, 12, 13, 14, 15, 16, 17, 18, 47, 48, 49, 50, 51, 52, 53, 54, 55, 56, 57, 58, 59, 60, 61, 62, 63, 64, 65, 66, 67, 68, 69, 70, 71, 72, 73, 74, 75, 76, 77, 78, 79, 80, 81, 82, 83, 84, 85, 86, 87, 88, 89, 90, 91, 92, 93, 94, 95, 96, 97, 98, 99, 100, 101, 102, 103, 104, 105, 106, 107, 108, 109, 110, 111, 112, 113, 114, 115, 116] (fun (i : Nat) E w => ∃ (S : SC) (cms : List Cmt) (rl tl : Rw Cm) (m nx : Nat), E 14 = .int .i64 (i : Int) ∧ E 13 = .int .i64 (nx : Int) ∧ E 12 = .int .i64 (m : Int) ∧ E 11 = tl.val ∧ E 10 = rl.val ∧ AInv p n n2 S cms rl tl m nx i ∧ Sat w (StP b S :: rl.own cmc TCm :: stars (rl.xs.map cmH) :: tl.own cmc TCm :: stars (tl.xs.map cmH) :: l)) (fun i => 100 - i) 0 ⟨S0, _, rl0, ⟨[], some (g0, 0, [])⟩, 0, 0, rfl, rfl, rfl, rfl, rfl, hinv0, H0⟩ ?_
          clear H H0 hinv0
          rintro i E1 w hs ⟨S, cms, rl, tl, m, nx, e14, e13, e12, e11, e10, hinv, H⟩
          have hI1 := hinv.len
          have hI2 := hinv.mle
          have hI3 := hinv.nxle
          have hI4 := hinv.cnt
          have hI5 := hinv.tl
          have hI6 := rw_len hinv.list
          have hlast := hinv.last
          refine WP.seq ?_
          refine WP.seq ?_
          refine WP.region ?_
          refine OpsE.val (x_move (v := .int .i64 (i : Int)) e14) ?_
          refine OpsE.val (x_lt rfl rfl) ?_
          by_cases g1 : (i : Int) < 100
          · rw [decide_eq_true g1]
            refine OpsE.nil ?_
            refine Then.normal ?_
            refine WP.cond_t rfl rfl ?_
            refine WP.skip ?_
            refine Then.normal ?_
            refine WP.seq ?_
            refine WP.block ?_
            refine WP.seq ?_
            refine WP.region ?_
            refine OpsE.val (x_assign (v := .int .i64 _) rfl) ?_
            refine OpsE.nil ?_
            refine Then.normal ?_
            refine WP.cutS [15, 51, 52, 53, 54, 55, 56, 57, 58, 59, 60] (fun E w => ∃ kk : Nat, E 15 = .int .i64 (kk : Int) ∧ 1 ≤ kk ∧ kk ≤ 8 ∧ Sat w (StP b S :: rl.own cmc TCm :: stars (rl.xs.map cmH) :: tl.own cmc TCm :: stars (tl.xs.map cmH) :: l)) ?_ ?_
            · skip
              refine WP.seq ?_
              refine WP.region ?_
              refine OpsE.val (x_move (v := .int .i64 (i : Int)) e14) ?_
              refine OpsE.val (x_move (v := .slice a4 n4 c4) (hs 3 rfl)) ?_
              refine OpsE.val (x_lenL rfl rfl Try.runUnderlying64) ?_
              refine OpsE.val (x_lt rfl rfl) ?_
              refine OpsE.nil ?_
              refine Then.normal ?_
              refine WP.cond rfl (fun hk => ?_) (fun hk => ?_)
              · skip
                have hk' : (i : Int) < (n4 : Int) := of_decide_eq_true hk
                obtain ⟨bb, off, B, fz, pre, post, rfl, hB, hBl, hpo⟩ := h4.some (by omega)
                obtain ⟨z, hz⟩ : ∃ z, zs[i]? = some z := ⟨_, List.getElem?_eq_getElem (by omega)⟩
                refine WP.region ?_
                refine OpsE.val (x_move (v := .slice _ _ _) (hs 3 rfl)) ?_
                refine OpsE.val (x_move (v := .int .i64 _) e14) ?_
                refine OpsE.val (x_indexAddro1 (i := i) rfl rfl Try.runUnderlying64 Try.sizeOf3 rfl (by omega)) ?_
                refine OpsE.val (x_load (v := .int .i64 z) rfl Try.isAgg3 (hB w H.tail.tail.tail.tail.tail) (by have := row_cell intc_len hBl hpo (j := 0) hz rfl; simpa using this)) ?_
                refine OpsE.andM (m := 7) rfl rfl (by decide) ?_
                intro f hf
                refine OpsE.val (x_add (z := ((1 + f : Nat) : Int)) rfl rfl (by rw [i64n (by omega) (by omega)]; omega)) ?_
                refine OpsE.val (x_assign (v := .int .i64 _) rfl) ?_
                refine OpsE.nil ?_
                refine Then.normal ?_
                exact ⟨rfl, (by repeat (first | exact Same.refl _ _ | refine Same.upd ?_ rfl)), 1 + f, rfl, by omega, by omega, H⟩
              · skip
                refine WP.skip ?_
                refine Then.normal ?_
                exact ⟨rfl, (by repeat (first | exact Same.refl _ _ | refine Same.upd ?_ rfl)), 3, rfl, by omega, by omega, H⟩
            · skip
              rintro E2 w hs2 ⟨kk, e15, hk1, hk2, H⟩
              refine WP.seq ?_
              refine WP.region ?_
              refine OpsE.val (x_move (v := .pointer (some ⟨b, 0, none⟩)) ((hs2 9 rfl).trans (hs 9 rfl))) ?_
              refine OpsE.val (x_move (v := .int .i64 (m : Int)) ((hs2 12 rfl).trans e12)) ?_
              refine OpsE.val (x_move (v := .string p) ((hs2 2 rfl).trans (hs 2 rfl))) ?_
              refine OpsE.val (x_move (v := .int .i64 (kk : Int)) e15) ?_
              refine OpsE.call (x_call (vl := [.pointer _, .int .i64 _, .string _, .int .i64 _]) rfl Try.call35) (Poll_ok (k := m) (mm := kk) (p := p) H hinv.ok hinv.low hinv.hist hinv.rt hinv.seq (by omega) (by omega) (by omega) (by omega)) ?_
              rintro _ w ⟨r, i2, rfl, hp, hro, hrw, H⟩
              have hile := hp.le
              rw [List.length_drop] at hile
              have htop := hp.top
              rw [List.length_map] at htop
              refine OpsE.val (x_move (v := .tuple #[.agg (btc r ((m + i2 : Nat) : Int)).toArray, .int .i64 0]) rfl) ?_
              refine OpsE.val (x_extract (v := .agg _) rfl rfl) ?_
              refine OpsE.val (x_extract (v := .int .i64 0) rfl rfl) ?_
              refine OpsE.allocA Try.zeroValue58 H ?_
              intro b16 w H
              refine OpsE.storeA (vs := btc r ((m + i2 : Nat) : Int)) rfl rfl Try.sizeOf58 H (btc_one _ _) (Nat.le_refl _) ?_
              intro w H
              refine OpsE.val (x_assign (v := .int .i64 _) rfl) ?_
              refine OpsE.nil ?_
              refine Then.normal ?_
              refine WP.seq ?_
              refine WP.seq ?_
              have H0 : Sat w (pt b16 (.cells (btc r ((m + i2 : Nat) : Int)).toArray TBt (0, 0)) :: r.own cmc TCm :: stars (r.xs.map cmH) :: StP b S :: rl.own cmc TCm :: stars (rl.xs.map cmH) :: tl.own cmc TCm :: stars (tl.xs.map cmH) :: l) := H
              clear H
              replace H := H0
              clear H0
              refine WP.region ?_
              refine OpsE.val (x_move (v := .int .i64 0) rfl) ?_
              refine OpsE.val (x_neI rfl rfl) ?_
              rw [decide_eq_false (by decide)]
              refine OpsE.val (x_move (v := .bool _) rfl) ?_
              refine OpsE.yes rfl ?_
              refine OpsE.val (x_fieldAddr (o := 1) rfl Try.runUnderlying58 rfl rfl Try.sizeOf3) ?_
              refine OpsE.yes rfl ?_
              refine OpsE.val (x_load (v := .int .i64 ((m + i2 : Nat) : Int)) rfl Try.isAgg3 (H.look _) rfl) ?_
              refine OpsE.yes rfl ?_
              refine OpsE.val (x_move (v := .int .i64 (m : Int)) ((hs2 12 rfl).trans e12)) ?_
              refine OpsE.yes rfl ?_
              refine OpsE.val (x_lt rfl rfl) ?_
              rw [decide_eq_false (by omega)]
              refine OpsE.val (x_pickF rfl rfl) ?_
              refine OpsE.val (x_move (v := .bool _) rfl) ?_
              refine OpsE.yes rfl ?_
              refine OpsE.val (x_fieldAddr0 rfl Try.runUnderlying58 rfl rfl Try.sizeOf38) ?_
              refine OpsE.yes rfl ?_
              refine OpsE.val (x_load (v := r.val) rfl Try.isAgg38 (H.look _) rfl) ?_
              refine OpsE.yes rfl ?_
              refine OpsE.val (x_lenL rfl rfl Try.runUnderlying38) ?_
              refine OpsE.yes rfl ?_
              refine OpsE.val (x_move (v := .int .i64 (kk : Int)) e15) ?_
              refine OpsE.yes rfl ?_
              refine OpsE.val (x_gt rfl rfl) ?_
              rw [decide_eq_false (by omega)]
              refine OpsE.val (x_pickF rfl rfl) ?_
              refine OpsE.nil ?_
              refine Then.normal ?_
              refine WP.cond_f rfl rfl ?_
              refine WP.skip ?_
              refine Then.normal ?_
              refine WP.seq ?_
              refine WP.region ?_
              refine OpsE.val (x_move (v := tl.val) ((hs2 11 rfl).trans e11)) ?_
              refine OpsE.val (x_fieldAddr0 rfl Try.runUnderlying58 rfl rfl Try.sizeOf38) ?_
              refine OpsE.val (x_load (v := r.val) rfl Try.isAgg38 (H.look _) rfl) ?_
              refine OpsE.append_rin (f := cmc) (r := tl) (ys := r.xs) rfl CM.K cmc_len cmc_one rfl rfl H hinv.tlo (Rw.rin_own r hro) (by omega) (by omega) ?_
              intro tl2 w ht1 ht2 H
              replace H : Sat w (tl2.own cmc TCm :: pt b16 (.cells (btc r ((m + i2 : Nat) : Int)).toArray TBt (0, 0)) :: r.own cmc TCm :: stars (r.xs.map cmH) :: StP b S :: rl.own cmc TCm :: stars (rl.xs.map cmH) :: stars (tl.xs.map cmH) :: l) := H
              have htold : tl2.xs.map cma = onlyL p (cms.take (m + i2)) := by rw [ht1, List.map_append, hinv.told, hp.step]
              have htlw : ∀ c ∈ tl2.xs, c.w.Ok 3 := fun c hc => by
                rw [ht1] at hc
                rcases List.mem_append.1 hc with h | h
                · exact hinv.tlw c h
                · exact hrw c h
              have htll : tl2.xs.length = tl.xs.length + r.xs.length := by rw [ht1, List.length_append]
              have hst : stars (tl2.xs.map cmH) = HP.sep (stars (tl.xs.map cmH)) (stars (r.xs.map cmH)) := by rw [ht1]; exact stars_snoc _ _
              refine OpsE.val (x_assign (v := .slice _ _ _) rfl) ?_
              refine OpsE.nil ?_
              refine Then.normal ?_
              refine WP.seq ?_
              refine WP.region ?_
              refine OpsE.val (x_fieldAddr (o := 1) rfl Try.runUnderlying58 rfl rfl Try.sizeOf3) ?_
              refine OpsE.val (x_load (v := .int .i64 ((m + i2 : Nat) : Int)) rfl Try.isAgg3 (H.look _) rfl) ?_
              refine OpsE.val (x_assign (v := .int .i64 _) rfl) ?_
              refine OpsE.nil ?_
              refine Then.normal ?_
              refine WP.seq ?_
              refine WP.region ?_
              refine OpsE.val (x_move (v := .int .i64 (nx : Int)) ((hs2 13 rfl).trans e13)) ?_
              refine OpsE.val (x_move (v := .slice a2 n2 c2) ((hs2 1 rfl).trans (hs 1 rfl))) ?_
              refine OpsE.val (x_lenL rfl rfl Try.runUnderlying36) ?_
              refine OpsE.val (x_lt rfl rfl) ?_
              by_cases g3 : (nx : Int) < (n2 : Int)
              · rw [decide_eq_true g3]
                refine OpsE.nil ?_
                refine Then.normal ?_
                refine WP.cond_t rfl rfl ?_
                refine WP.seq ?_
                have H0 : Sat w (StP b S :: pt b16 (.cells (btc r ((m + i2 : Nat) : Int)).toArray TBt (0, 0)) :: rl.own cmc TCm :: stars (rl.xs.map cmH) :: tl2.own cmc TCm :: stars (tl2.xs.map cmH) :: l) := by
                  have H1 := (H.take (r.own cmc TCm)).tail
                  exact H1.perm (by simp only [stars_cons]; rw [hst]; ac_rfl)
                clear H
                replace H := H0
                clear H0
                obtain ⟨LL, hLL⟩ : ∃ LL, LL = (StP b S :: pt b16 (.cells (btc r ((m + i2 : Nat) : Int)).toArray TBt (0, 0)) :: rl.own cmc TCm :: stars (rl.xs.map cmH) :: tl2.own cmc TCm :: stars (tl2.xs.map cmH) :: l) := ⟨_, rfl⟩
                have hr2' : SlIn LL a2 n2 c2 xs2 := by rw [hLL]; exact hr2.more.more.more.more.more.more
                have hbS : ∀ w, Sat w LL → w.heap[b]? = some (.cells S.cs.toArray TSt (0, 0)) := fun w H => by rw [hLL] at H; exact (StP.open.1 H).look b
                rw [← hLL] at H
                obtain ⟨bb, off, B, fz, pre, post, rfl, hB, hBl, hpo⟩ := hr2'.row.some (by omega)
                obtain ⟨s, hsx⟩ : ∃ s, xs2[nx]? = some s := ⟨_, List.getElem?_eq_getElem (by omega)⟩
                have hsm := List.mem_of_getElem? hsx
                refine WP.mixf [0, 1, 0, 0, 0, 0, 0, 1, 0, 1] 9 (fun w => Sat w _) (by kernel_rfl) (by kernel_rfl) (fun w hw => Sat.heap (H) hw) (ks := [0, 1, 0, 0, 0, 0, 0, 1, 0]) rfl rfl (by decide +kernel) ?_
                intro w hw; replace H := H.heap hw; clear hw
                refine MixFE.q (fun w H => x_move (v := .pointer (some ⟨b, 0, none⟩)) ((hs2 9 rfl).trans (hs 9 rfl))) ?_
                refine MixFE.eff ?_ ?_
                · skip
                  refine MixE.one rfl ?_
                  refine OpsE.allocA Try.zeroValue33 H ?_
                  intro b18 w H
                  refine OpsE.nil ⟨rfl, rfl, H.tail, ?_⟩
                  refine MixE.one rfl ?_
                  refine OpsE.call (x_call (vl := [.pointer _]) rfl Try.call16) (SLast_spec H (fun w H => hbS w H.tail) hinv.ok) ?_
                  rintro _ w ⟨rfl, H⟩
                  refine OpsE.nil ⟨rfl, rfl, H.tail, ?_⟩
                  refine MixE.q rfl (fun w H => x_add (z := ((cms.length + 1 : Nat) : Int)) rfl rfl (by rw [hlast, i64n (by omega) (by omega)]; omega)) ?_
                  refine MixE.q rfl (fun w H => x_move (v := .slice (some ⟨bb, off, none⟩) n2 c2) ((hs2 1 rfl).trans (hs 1 rfl))) ?_
                  refine MixE.q rfl (fun w H => x_move (v := .int .i64 (nx : Int)) ((hs2 13 rfl).trans e13)) ?_
                  refine MixE.q rfl (fun w H => x_indexAddro1 (i := nx) rfl rfl Try.runUnderlying36 Try.sizeOf22 rfl (by omega)) ?_
                  refine MixE.q rfl (fun w H => x_load (v := .slice s.a s.n s.c) rfl Try.isAgg22 (hB w H) (by have := row_cell slc_len hBl hpo (j := 0) hsx rfl; simpa using this)) ?_
                  refine MixE.one rfl ?_
                  refine OpsE.call (x_call (vl := [.slice _ _ _]) rfl Try.call31) (Some_spec H (hr2'.ws s hsm).more (hr2'.sz s hsm).2 (hr2'.sz s hsm).1) ?_
                  rintro _ w ⟨rs, rfl, hso, hrso, hrsl, H⟩
                  refine OpsE.nil ⟨rfl, rfl, H.tail.tail, ?_⟩
                  refine MixE.q rfl (fun w H => x_build3 (vl := [.int .i64 _, .int .i64 _, .slice _ _ _]) rfl Try.zeroValue33 Try.runUnderlying33 Try.sizeOf3 Try.sizeOf3 Try.sizeOf22 rfl) ?_
                  refine MixE.two _ (fun k _ => kdOf_ge (Nat.le_add_right _ _)) ?_
                  refine OpsE.storeA (vs := cmc ⟨((cms.length + 1 : Nat) : Int), 1048576, rs⟩) rfl rfl Try.sizeOf33 H (cmc_one _) (Nat.le_refl _) ?_
                  intro w H
                  refine OpsE.nil ?_
                  refine Then.normal ?_
                  refine WP.seq ?_
                  refine WP.seq ?_
                  obtain ⟨cm, hcm⟩ : ∃ cm : Cm, cm = ⟨((cms.length + 1 : Nat) : Int), 1048576, rs⟩ := ⟨_, rfl⟩
                  have hq1 : cm.seq = ((cms.length + 1 : Nat) : Int) := by rw [hcm]
                  have hq2 : cm.time = 1048576 := by rw [hcm]
                  have hq3 : SomeOf s.ws cm.w.xs := by rw [hcm]; exact hso
                  have hq4 : cm.w.Ok 3 := by rw [hcm]; exact hrso
                  have hq5 : cm.w.xs.length ≤ 12 := by rw [hcm]; exact hrsl
                  have hrg := some_right hq3
                  have H0 : Sat w (StP b S :: pt b18 (.cells (cmc cm).toArray TCm (0, 0)) :: cm.w.own wrc TWr :: pt b16 (.cells (btc r ((m + i2 : Nat) : Int)).toArray TBt (0, 0)) :: rl.own cmc TCm :: stars (rl.xs.map cmH) :: tl2.own cmc TCm :: stars (tl2.xs.map cmH) :: l) := by
                    have H1 : Sat w (pt b18 (.cells (cmc cm).toArray TCm (0, 0)) :: cm.w.own wrc TWr :: LL) := by rw [hcm]; exact H
                    rw [hLL] at H1
                    exact H1.perm (by simp only [stars_cons]; ac_rfl)
                  clear H
                  replace H := H0
                  clear H0
                  refine WP.region ?_
                  refine OpsE.val (x_move (v := .pointer (some ⟨b, 0, none⟩)) ((hs2 9 rfl).trans (hs 9 rfl))) ?_
                  refine OpsE.val (x_loadA (vs := cmc cm) rfl Try.isAgg33 Try.sizeOf33 (H.look _) rfl rfl) ?_
                  refine OpsE.call (x_call (vl := [.pointer _, .agg _]) rfl Try.call18) (Commit_spec (seq := cm.seq) (time := cm.time) H hinv.ok (by omega) (Rw.rin_own cm.w hq4) (by omega) (right_sz hrg)) ?_
                  rintro _ w (⟨hng, _, _⟩ | ⟨_, rfl, S1, ok1, hl1, hh1, hk1, H⟩)
                  · refine absurd ⟨by rw [hlast, hq1]; omega, by rw [hq1]; omega, by rw [hq2]; decide, by rw [hq2]; decide, hrg, fun c hc => ?_⟩ hng
                    have h2 : cma c ∈ cms := by rw [← hinv.hist]; exact List.mem_map.2 ⟨c, List.mem_of_getLast? hc, rfl⟩
                    have h3 : c.time ≤ 1048576 := hinv.time _ h2
                    omega
                  refine OpsE.val (x_neI rfl rfl) ?_
                  rw [decide_eq_false (by decide)]
                  refine OpsE.nil ?_
                  refine Then.normal ?_
                  refine WP.cond_f rfl rfl ?_
                  refine WP.skip ?_
                  refine Then.normal ?_
                  refine WP.seq ?_
                  refine WP.region ?_
                  refine OpsE.val (x_move (v := rl.val) ((hs2 10 rfl).trans e10)) ?_
                  refine OpsE.val (x_loadA (vs := cmc cm) rfl Try.isAgg33 Try.sizeOf33 (H.look _) rfl rfl) ?_
                  refine OpsE.buildSlice1 (vs := cmc cm) CM.K (by decide) rfl rfl rfl (by decide) H ?_
                  intro g w H
                  refine OpsE.append_rw (f := cmc) (r := rl) (ys := [cm]) rfl CM.K cmc_len cmc_one rfl rfl H hinv.rlo (H.look g) (by simp) rfl (by decide) (by omega) (by omega) ?_
                  intro rl2 w hl1' hl2' hl3' H
                  replace H : Sat w (rl2.own cmc TCm :: _) := H
                  refine OpsE.val (x_assign (v := .slice _ _ _) rfl) ?_
                  refine OpsE.nil ?_
                  refine Then.normal ?_
                  refine WP.region ?_
                  refine OpsE.val (x_move (v := .int .i64 (nx : Int)) ((hs2 13 rfl).trans e13)) ?_
                  refine OpsE.val (x_add (z := ((nx + 1 : Nat) : Int)) rfl rfl (by rw [i64n (by omega) (by omega)]; omega)) ?_
                  refine OpsE.val (x_assign (v := .int .i64 _) rfl) ?_
                  refine OpsE.nil ?_
                  refine InBlock.normal ?_
                  refine Then.normal ?_
                  refine WP.region ?_
                  refine OpsE.val (x_move (v := .int .i64 (i : Int)) ((hs2 14 rfl).trans e14)) ?_
                  refine OpsE.val (x_add (z := ((i + 1 : Nat) : Int)) rfl rfl (by rw [i64n (by omega) (by omega)]; omega)) ?_
                  refine OpsE.val (x_assign (v := .int .i64 _) rfl) ?_
                  refine OpsE.nil ?_
                  refine Then.normal ?_
                  have hcl' : (cms ++ [cma cm]).length = cms.length + 1 := by rw [List.length_append]; rfl
                  have hinv' : AInv p n n2 S1 (cms ++ [cma cm]) rl2 tl2 (m + i2) (nx + 1) (i + 1) := ⟨ok1.mono (by omega) (by omega), hl1.trans hinv.low, by rw [hh1, hinv.hist]; rfl, by rw [hl1', List.map_append, hinv.list]; rfl, by rw [htold, List.take_append_of_le_length (by omega)], hl2', (fun c' hc' => by
                      rw [hl1'] at hc'
                      rcases List.mem_append.1 hc' with h | h
                      · exact hinv.rlw c' h
                      · rcases List.mem_singleton.1 h with rfl; exact hq4), ht2, htlw, by omega, by omega, by omega, by omega, (fun c' hc' => by
                      rcases List.mem_append.1 hc' with h | h
                      · exact hinv.rt c' h
                      · rcases List.mem_singleton.1 h with rfl; exact hrg), (fun j c' hc' => by
                      rcases Nat.lt_or_ge j cms.length with hj | hj
                      · rw [List.getElem?_append_left hj] at hc'; exact hinv.seq j c' hc'
                      · rw [List.getElem?_append_right hj] at hc'
                        have hj0 : j - cms.length = 0 := by
                          have := (List.getElem?_eq_some_iff.1 hc').1
                          simp only [List.length_cons, List.length_nil] at this; omega
                        rw [hj0] at hc'
                        obtain rfl : cma cm = c' := by simpa using hc'
                        show cm.seq = _
                        rw [hq1]; omega), (fun c' hc' => by
                      rcases List.mem_append.1 hc' with h | h
                      · exact hinv.time c' h
                      · rcases List.mem_singleton.1 h with rfl
                        show cm.time ≤ _
                        rw [hq2]; decide)⟩
                  refine ⟨rfl, (by repeat (first | exact hs | refine Same.upd ?_ rfl | refine Same.sub hs2 ?_ rfl)), i + 1, by omega, S1, _, rl2, tl2, m + i2, nx + 1, rfl, rfl, rfl, rfl, rfl, hinv', ?_⟩
                  have h1 := (H.take (pt g (.cells (cmc cm).toArray TCm (0, 0)))).tail
                  have h2 := (h1.take (pt b18 (.cells (cmc cm).toArray TCm (0, 0)))).tail
                  have h3 := (h2.take (pt b16 (.cells (btc r ((m + i2 : Nat) : Int)).toArray TBt (0, 0)))).tail
                  have h4' := Rw.freeze (h3.take (cm.w.own wrc TWr))
                  exact h4'.perm (by
                    have e1 : stars (rl2.xs.map cmH) = HP.sep (stars (rl.xs.map cmH)) (cm.w.ror wrc TWr) := by
                      rw [hl1', List.map_append, stars_append, show stars ([cm].map cmH) = HP.sep (cmH cm) HP.one from rfl, HP.sep_one]; rfl
                    simp only [stars_cons]
                    rw [e1]
                    ac_rfl)
                · skip
                  refine OpsE.call (x_call (vl := [.pointer _]) rfl Try.call16) (SLast_spec H hbS hinv.ok) ?_
                  rintro _ w ⟨rfl, H⟩
                  refine OpsE.nil ⟨rfl, rfl, H, ?_⟩
                  refine MixFE.q (fun w H => x_add (z := ((cms.length + 1 : Nat) : Int)) rfl rfl (by rw [hlast, i64n (by omega) (by omega)]; omega)) ?_
                  refine MixFE.q (fun w H => x_move (v := .slice (some ⟨bb, off, none⟩) n2 c2) ((hs2 1 rfl).trans (hs 1 rfl))) ?_
                  refine MixFE.q (fun w H => x_move (v := .int .i64 (nx : Int)) ((hs2 13 rfl).trans e13)) ?_
                  refine MixFE.q (fun w H => x_indexAddro1 (i := nx) rfl rfl Try.runUnderlying36 Try.sizeOf22 rfl (by omega)) ?_
                  refine MixFE.q (fun w H => x_load (v := .slice s.a s.n s.c) rfl Try.isAgg22 (hB w H) (by have := row_cell slc_len hBl hpo (j := 0) hsx rfl; simpa using this)) ?_
                  refine MixFE.eff ?_ ?_
                  · skip
                    refine MixE.one rfl ?_
                    refine OpsE.allocA Try.zeroValue33 H ?_
                    intro b18 w H
                    refine OpsE.nil ⟨rfl, rfl, H.tail, ?_⟩
                    refine MixE.one rfl ?_
                    refine OpsE.call (x_call (vl := [.slice _ _ _]) rfl Try.call31) (Some_spec H (hr2'.ws s hsm).more (hr2'.sz s hsm).2 (hr2'.sz s hsm).1) ?_
                    rintro _ w ⟨rs, rfl, hso, hrso, hrsl, H⟩
                    refine OpsE.nil ⟨rfl, rfl, H.tail.tail, ?_⟩
                    refine MixE.q rfl (fun w H => x_build3 (vl := [.int .i64 _, .int .i64 _, .slice _ _ _]) rfl Try.zeroValue33 Try.runUnderlying33 Try.sizeOf3 Try.sizeOf3 Try.sizeOf22 rfl) ?_
                    refine MixE.two _ (fun k _ => kdOf_ge (Nat.le_add_right _ _)) ?_
                    refine OpsE.storeA (vs := cmc ⟨((cms.length + 1 : Nat) : Int), 1048576, rs⟩) rfl rfl Try.sizeOf33 H (cmc_one _) (Nat.le_refl _) ?_
                    intro w H
                    refine OpsE.nil ?_
                    refine Then.normal ?_
                    refine WP.seq ?_
                    refine WP.seq ?_
                    obtain ⟨cm, hcm⟩ : ∃ cm : Cm, cm = ⟨((cms.length + 1 : Nat) : Int), 1048576, rs⟩ := ⟨_, rfl⟩
                    have hq1 : cm.seq = ((cms.length + 1 : Nat) : Int) := by rw [hcm]
                    have hq2 : cm.time = 1048576 := by rw [hcm]
                    have hq3 : SomeOf s.ws cm.w.xs := by rw [hcm]; exact hso
                    have hq4 : cm.w.Ok 3 := by rw [hcm]; exact hrso
                    have hq5 : cm.w.xs.length ≤ 12 := by rw [hcm]; exact hrsl
                    have hrg := some_right hq3
                    have H0 : Sat w (StP b S :: pt b18 (.cells (cmc cm).toArray TCm (0, 0)) :: cm.w.own wrc TWr :: pt b16 (.cells (btc r ((m + i2 : Nat) : Int)).toArray TBt (0, 0)) :: rl.own cmc TCm :: stars (rl.xs.map cmH) :: tl2.own cmc TCm :: stars (tl2.xs.map cmH) :: l) := by
                      have H1 : Sat w (pt b18 (.cells (cmc cm).toArray TCm (0, 0)) :: cm.w.own wrc TWr :: LL) := by rw [hcm]; exact H
                      rw [hLL] at H1
                      exact H1.perm (by simp only [stars_cons]; ac_rfl)
                    clear H
                    replace H := H0
                    clear H0
                    refine WP.region ?_
                    refine OpsE.val (x_move (v := .pointer (some ⟨b, 0, none⟩)) ((hs2 9 rfl).trans (hs 9 rfl))) ?_
                    refine OpsE.val (x_loadA (vs := cmc cm) rfl Try.isAgg33 Try.sizeOf33 (H.look _) rfl rfl) ?_
                    refine OpsE.call (x_call (vl := [.pointer _, .agg _]) rfl Try.call18) (Commit_spec (seq := cm.seq) (time := cm.time) H hinv.ok (by omega) (Rw.rin_own cm.w hq4) (by omega) (right_sz hrg)) ?_
                    rintro _ w (⟨hng, _, _⟩ | ⟨_, rfl, S1, ok1, hl1, hh1, hk1, H⟩)
                    · refine absurd ⟨by rw [hlast, hq1]; omega, by rw [hq1]; omega, by rw [hq2]; decide, by rw [hq2]; decide, hrg, fun c hc => ?_⟩ hng
                      have h2 : cma c ∈ cms := by rw [← hinv.hist]; exact List.mem_map.2 ⟨c, List.mem_of_getLast? hc, rfl⟩
                      have h3 : c.time ≤ 1048576 := hinv.time _ h2
                      omega
                    refine OpsE.val (x_neI rfl rfl) ?_
                    rw [decide_eq_false (by decide)]
                    refine OpsE.nil ?_
                    refine Then.normal ?_
                    refine WP.cond_f rfl rfl ?_
                    refine WP.skip ?_
                    refine Then.normal ?_
                    refine WP.seq ?_
                    refine WP.region ?_
                    refine OpsE.val (x_move (v := rl.val) ((hs2 10 rfl).trans e10)) ?_
                    refine OpsE.val (x_loadA (vs := cmc cm) rfl Try.isAgg33 Try.sizeOf33 (H.look _) rfl rfl) ?_
                    refine OpsE.buildSlice1 (vs := cmc cm) CM.K (by decide) rfl rfl rfl (by decide) H ?_
                    intro g w H
                    refine OpsE.append_rw (f := cmc) (r := rl) (ys := [cm]) rfl CM.K cmc_len cmc_one rfl rfl H hinv.rlo (H.look g) (by simp) rfl (by decide) (by omega) (by omega) ?_
                    intro rl2 w hl1' hl2' hl3' H
                    replace H : Sat w (rl2.own cmc TCm :: _) := H
                    refine OpsE.val (x_assign (v := .slice _ _ _) rfl) ?_
                    refine OpsE.nil ?_
                    refine Then.normal ?_
                    refine WP.region ?_
                    refine OpsE.val (x_move (v := .int .i64 (nx : Int)) ((hs2 13 rfl).trans e13)) ?_
                    refine OpsE.val (x_add (z := ((nx + 1 : Nat) : Int)) rfl rfl (by rw [i64n (by omega) (by omega)]; omega)) ?_
                    refine OpsE.val (x_assign (v := .int .i64 _) rfl) ?_
                    refine OpsE.nil ?_
                    refine InBlock.normal ?_
                    refine Then.normal ?_
                    refine WP.region ?_
                    refine OpsE.val (x_move (v := .int .i64 (i : Int)) ((hs2 14 rfl).trans e14)) ?_
                    refine OpsE.val (x_add (z := ((i + 1 : Nat) : Int)) rfl rfl (by rw [i64n (by omega) (by omega)]; omega)) ?_
                    refine OpsE.val (x_assign (v := .int .i64 _) rfl) ?_
                    refine OpsE.nil ?_
                    refine Then.normal ?_
                    have hcl' : (cms ++ [cma cm]).length = cms.length + 1 := by rw [List.length_append]; rfl
                    have hinv' : AInv p n n2 S1 (cms ++ [cma cm]) rl2 tl2 (m + i2) (nx + 1) (i + 1) := ⟨ok1.mono (by omega) (by omega), hl1.trans hinv.low, by rw [hh1, hinv.hist]; rfl, by rw [hl1', List.map_append, hinv.list]; rfl, by rw [htold, List.take_append_of_le_length (by omega)], hl2', (fun c' hc' => by
                        rw [hl1'] at hc'
                        rcases List.mem_append.1 hc' with h | h
                        · exact hinv.rlw c' h
                        · rcases List.mem_singleton.1 h with rfl; exact hq4), ht2, htlw, by omega, by omega, by omega, by omega, (fun c' hc' => by
                        rcases List.mem_append.1 hc' with h | h
                        · exact hinv.rt c' h
                        · rcases List.mem_singleton.1 h with rfl; exact hrg), (fun j c' hc' => by
                        rcases Nat.lt_or_ge j cms.length with hj | hj
                        · rw [List.getElem?_append_left hj] at hc'; exact hinv.seq j c' hc'
                        · rw [List.getElem?_append_right hj] at hc'
                          have hj0 : j - cms.length = 0 := by
                            have := (List.getElem?_eq_some_iff.1 hc').1
                            simp only [List.length_cons, List.length_nil] at this; omega
                          rw [hj0] at hc'
                          obtain rfl : cma cm = c' := by simpa using hc'
                          show cm.seq = _
                          rw [hq1]; omega), (fun c' hc' => by
                        rcases List.mem_append.1 hc' with h | h
                        · exact hinv.time c' h
                        · rcases List.mem_singleton.1 h with rfl
                          show cm.time ≤ _
                          rw [hq2]; decide)⟩
                    refine ⟨rfl, (by repeat (first | exact hs | refine Same.upd ?_ rfl | refine Same.sub hs2 ?_ rfl)), i + 1, by omega, S1, _, rl2, tl2, m + i2, nx + 1, rfl, rfl, rfl, rfl, rfl, hinv', ?_⟩
                    have h1 := (H.take (pt g (.cells (cmc cm).toArray TCm (0, 0)))).tail
                    have h2 := (h1.take (pt b18 (.cells (cmc cm).toArray TCm (0, 0)))).tail
                    have h3 := (h2.take (pt b16 (.cells (btc r ((m + i2 : Nat) : Int)).toArray TBt (0, 0)))).tail
                    have h4' := Rw.freeze (h3.take (cm.w.own wrc TWr))
                    exact h4'.perm (by
                      have e1 : stars (rl2.xs.map cmH) = HP.sep (stars (rl.xs.map cmH)) (cm.w.ror wrc TWr) := by
                        rw [hl1', List.map_append, stars_append, show stars ([cm].map cmH) = HP.sep (cmH cm) HP.one from rfl, HP.sep_one]; rfl
                      simp only [stars_cons]
                      rw [e1]
                      ac_rfl)
                  · skip
                    refine OpsE.call (x_call (vl := [.slice _ _ _]) rfl Try.call31) (Some_spec H (hr2'.ws s hsm) (hr2'.sz s hsm).2 (hr2'.sz s hsm).1) ?_
                    rintro _ w ⟨rs, rfl, hso, hrso, hrsl, H⟩
                    refine OpsE.nil ⟨rfl, rfl, H.tail, ?_⟩
                    refine MixFE.q (fun w H => x_build3 (vl := [.int .i64 _, .int .i64 _, .slice _ _ _]) rfl Try.zeroValue33 Try.runUnderlying33 Try.sizeOf3 Try.sizeOf3 Try.sizeOf22 rfl) ?_
                    refine MixFE.fin ?_
                    refine MixE.one rfl ?_
                    refine OpsE.allocA Try.zeroValue33 H ?_
                    intro b18 w H
                    refine OpsE.nil ⟨rfl, rfl, H.tail.tail, ?_⟩
                    refine MixE.two _ (fun k _ => kdOf_ge (Nat.le_add_right _ _)) ?_
                    refine OpsE.storeA (vs := cmc ⟨((cms.length + 1 : Nat) : Int), 1048576, rs⟩) rfl rfl Try.sizeOf33 H (cmc_one _) (Nat.le_refl _) ?_
                    intro w H
                    refine OpsE.nil ?_
                    refine Then.normal ?_
                    refine WP.seq ?_
                    refine WP.seq ?_
                    obtain ⟨cm, hcm⟩ : ∃ cm : Cm, cm = ⟨((cms.length + 1 : Nat) : Int), 1048576, rs⟩ := ⟨_, rfl⟩
                    have hq1 : cm.seq = ((cms.length + 1 : Nat) : Int) := by rw [hcm]
                    have hq2 : cm.time = 1048576 := by rw [hcm]
                    have hq3 : SomeOf s.ws cm.w.xs := by rw [hcm]; exact hso
                    have hq4 : cm.w.Ok 3 := by rw [hcm]; exact hrso
                    have hq5 : cm.w.xs.length ≤ 12 := by rw [hcm]; exact hrsl
                    have hrg := some_right hq3
                    have H0 : Sat w (StP b S :: pt b18 (.cells (cmc cm).toArray TCm (0, 0)) :: cm.w.own wrc TWr :: pt b16 (.cells (btc r ((m + i2 : Nat) : Int)).toArray TBt (0, 0)) :: rl.own cmc TCm :: stars (rl.xs.map cmH) :: tl2.own cmc TCm :: stars (tl2.xs.map cmH) :: l) := by
                      have H1 : Sat w (pt b18 (.cells (cmc cm).toArray TCm (0, 0)) :: cm.w.own wrc TWr :: LL) := by rw [hcm]; exact H
                      rw [hLL] at H1
                      exact H1.perm (by simp only [stars_cons]; ac_rfl)
                    clear H
                    replace H := H0
                    clear H0
                    refine WP.region ?_
                    refine OpsE.val (x_move (v := .pointer (some ⟨b, 0, none⟩)) ((hs2 9 rfl).trans (hs 9 rfl))) ?_
                    refine OpsE.val (x_loadA (vs := cmc cm) rfl Try.isAgg33 Try.sizeOf33 (H.look _) rfl rfl) ?_
                    refine OpsE.call (x_call (vl := [.pointer _, .agg _]) rfl Try.call18) (Commit_spec (seq := cm.seq) (time := cm.time) H hinv.ok (by omega) (Rw.rin_own cm.w hq4) (by omega) (right_sz hrg)) ?_
                    rintro _ w (⟨hng, _, _⟩ | ⟨_, rfl, S1, ok1, hl1, hh1, hk1, H⟩)
                    · refine absurd ⟨by rw [hlast, hq1]; omega, by rw [hq1]; omega, by rw [hq2]; decide, by rw [hq2]; decide, hrg, fun c hc => ?_⟩ hng
                      have h2 : cma c ∈ cms := by rw [← hinv.hist]; exact List.mem_map.2 ⟨c, List.mem_of_getLast? hc, rfl⟩
                      have h3 : c.time ≤ 1048576 := hinv.time _ h2
                      omega
                    refine OpsE.val (x_neI rfl rfl) ?_
                    rw [decide_eq_false (by decide)]
                    refine OpsE.nil ?_
                    refine Then.normal ?_
                    refine WP.cond_f rfl rfl ?_
                    refine WP.skip ?_
                    refine Then.normal ?_
                    refine WP.seq ?_
                    refine WP.region ?_
                    refine OpsE.val (x_move (v := rl.val) ((hs2 10 rfl).trans e10)) ?_
                    refine OpsE.val (x_loadA (vs := cmc cm) rfl Try.isAgg33 Try.sizeOf33 (H.look _) rfl rfl) ?_
                    refine OpsE.buildSlice1 (vs := cmc cm) CM.K (by decide) rfl rfl rfl (by decide) H ?_
                    intro g w H
                    refine OpsE.append_rw (f := cmc) (r := rl) (ys := [cm]) rfl CM.K cmc_len cmc_one rfl rfl H hinv.rlo (H.look g) (by simp) rfl (by decide) (by omega) (by omega) ?_
                    intro rl2 w hl1' hl2' hl3' H
                    replace H : Sat w (rl2.own cmc TCm :: _) := H
                    refine OpsE.val (x_assign (v := .slice _ _ _) rfl) ?_
                    refine OpsE.nil ?_
                    refine Then.normal ?_
                    refine WP.region ?_
                    refine OpsE.val (x_move (v := .int .i64 (nx : Int)) ((hs2 13 rfl).trans e13)) ?_
                    refine OpsE.val (x_add (z := ((nx + 1 : Nat) : Int)) rfl rfl (by rw [i64n (by omega) (by omega)]; omega)) ?_
                    refine OpsE.val (x_assign (v := .int .i64 _) rfl) ?_
                    refine OpsE.nil ?_
                    refine InBlock.normal ?_
                    refine Then.normal ?_
                    refine WP.region ?_
                    refine OpsE.val (x_move (v := .int .i64 (i : Int)) ((hs2 14 rfl).trans e14)) ?_
                    refine OpsE.val (x_add (z := ((i + 1 : Nat) : Int)) rfl rfl (by rw [i64n (by omega) (by omega)]; omega)) ?_
                    refine OpsE.val (x_assign (v := .int .i64 _) rfl) ?_
                    refine OpsE.nil ?_
                    refine Then.normal ?_
                    have hcl' : (cms ++ [cma cm]).length = cms.length + 1 := by rw [List.length_append]; rfl
                    have hinv' : AInv p n n2 S1 (cms ++ [cma cm]) rl2 tl2 (m + i2) (nx + 1) (i + 1) := ⟨ok1.mono (by omega) (by omega), hl1.trans hinv.low, by rw [hh1, hinv.hist]; rfl, by rw [hl1', List.map_append, hinv.list]; rfl, by rw [htold, List.take_append_of_le_length (by omega)], hl2', (fun c' hc' => by
                        rw [hl1'] at hc'
                        rcases List.mem_append.1 hc' with h | h
                        · exact hinv.rlw c' h
                        · rcases List.mem_singleton.1 h with rfl; exact hq4), ht2, htlw, by omega, by omega, by omega, by omega, (fun c' hc' => by
                        rcases List.mem_append.1 hc' with h | h
                        · exact hinv.rt c' h
                        · rcases List.mem_singleton.1 h with rfl; exact hrg), (fun j c' hc' => by
                        rcases Nat.lt_or_ge j cms.length with hj | hj
                        · rw [List.getElem?_append_left hj] at hc'; exact hinv.seq j c' hc'
                        · rw [List.getElem?_append_right hj] at hc'
                          have hj0 : j - cms.length = 0 := by
                            have := (List.getElem?_eq_some_iff.1 hc').1
                            simp only [List.length_cons, List.length_nil] at this; omega
                          rw [hj0] at hc'
                          obtain rfl : cma cm = c' := by simpa using hc'
                          show cm.seq = _
                          rw [hq1]; omega), (fun c' hc' => by
                        rcases List.mem_append.1 hc' with h | h
                        · exact hinv.time c' h
                        · rcases List.mem_singleton.1 h with rfl
                          show cm.time ≤ _
                          rw [hq2]; decide)⟩
                    refine ⟨rfl, (by repeat (first | exact hs | refine Same.upd ?_ rfl | refine Same.sub hs2 ?_ rfl)), i + 1, by omega, S1, _, rl2, tl2, m + i2, nx + 1, rfl, rfl, rfl, rfl, rfl, hinv', ?_⟩
                    have h1 := (H.take (pt g (.cells (cmc cm).toArray TCm (0, 0)))).tail
                    have h2 := (h1.take (pt b18 (.cells (cmc cm).toArray TCm (0, 0)))).tail
                    have h3 := (h2.take (pt b16 (.cells (btc r ((m + i2 : Nat) : Int)).toArray TBt (0, 0)))).tail
                    have h4' := Rw.freeze (h3.take (cm.w.own wrc TWr))
                    exact h4'.perm (by
                      have e1 : stars (rl2.xs.map cmH) = HP.sep (stars (rl.xs.map cmH)) (cm.w.ror wrc TWr) := by
                        rw [hl1', List.map_append, stars_append, show stars ([cm].map cmH) = HP.sep (cmH cm) HP.one from rfl, HP.sep_one]; rfl
                      simp only [stars_cons]
                      rw [e1]
                      ac_rfl)
              · rw [decide_eq_false g3]
                refine OpsE.nil ?_
                refine Then.normal ?_
                refine WP.cond_f rfl rfl ?_
                refine WP.seq ?_
                refine WP.region ?_
                refine OpsE.val (x_fieldAddr0 rfl Try.runUnderlying58 rfl rfl Try.sizeOf38) ?_
                refine OpsE.val (x_load (v := r.val) rfl Try.isAgg38 (H.look _) rfl) ?_
                refine OpsE.val (x_lenL rfl rfl Try.runUnderlying38) ?_
                refine OpsE.val (x_eqI rfl rfl) ?_
                by_cases g4 : ((r.xs.length : Nat) : Int) = 0
                · rw [decide_eq_true g4]
                  refine OpsE.nil ?_
                  refine Then.normal ?_
                  refine WP.cond_t rfl rfl ?_
                  refine WP.exit ?_
                  refine InBlock.miss rfl ?_
                  refine Then.exit ?_
                  refine Then.exit ?_
                  refine InBlock.hit ?_
                  refine Then.normal ?_
                  refine WP.seq ?_
                  obtain ⟨RR, hRR⟩ : ∃ RR, RR = (rl.own cmc TCm :: stars (rl.xs.map cmH) :: tl2.own cmc TCm :: stars (tl2.xs.map cmH) :: l) := ⟨_, rfl⟩
                  have H0 : Sat w RR := by
                    have h1 := (H.take (pt b16 (.cells (btc r ((m + i2 : Nat) : Int)).toArray TBt (0, 0)))).tail
                    have h2 := (h1.take (r.own cmc TCm)).tail
                    have h3 := (h2.take (StP b S)).tail
                    rw [hRR]
                    exact h3.perm (by simp only [stars_cons]; rw [hst]; ac_rfl)
                  clear H
                  replace H := H0
                  clear H0
                  have hi2e : m + i2 = cms.length := by
                    rcases hp.full with h | h
                    · rw [List.length_drop] at h; omega
                    · rw [List.length_map] at h; omega
                  rw [hi2e, List.take_length] at htold
                  have hti : CIn RR tl2.ad tl2.xs.length tl2.cp (tl2.xs.map Cm.v) := by rw [hRR]; exact CIn.of_rw ht2 htlw
                  have hli : CIn RR rl.ad rl.xs.length rl.cp (rl.xs.map Cm.v) := by rw [hRR]; exact CIn.of_rw hinv.rlo hinv.rlw
                  have hlw := hw_of (cms := cms) (cs := cms) (xs := rl.xs) hinv.rt (fun c h => h) hinv.list
                  refine WP.region ?_
                  refine OpsE.val (x_move (v := rl.val) ((hs2 10 rfl).trans e10)) ?_
                  refine OpsE.val (x_move (v := .string p) ((hs2 2 rfl).trans (hs 2 rfl))) ?_
                  refine OpsE.call (x_call (vl := [.slice _ _ _, .string _]) rfl Try.call36) (Only_spec H hli (by omega) (by omega) hlw) ?_
                  rintro _ w ⟨r2, rfl, hr2o, hro2, hrw2, H⟩
                  refine OpsE.val (x_assign (v := .slice _ _ _) rfl) ?_
                  refine OpsE.nil ?_
                  refine Then.normal ?_
                  refine WP.seq ?_
                  refine WP.seq ?_
                  rw [cm_ab, hinv.list] at hr2o
                  obtain ⟨R2, hR2⟩ : ∃ R2, R2 = (r2.own cmc TCm :: stars (r2.xs.map cmH) :: RR) := ⟨_, rfl⟩
                  have hr2i : CIn R2 r2.ad r2.xs.length r2.cp (r2.xs.map Cm.v) := by rw [hR2]; exact CIn.of_rw hro2 hrw2
                  have hti2 : CIn R2 tl2.ad tl2.xs.length tl2.cp (tl2.xs.map Cm.v) := by rw [hR2]; exact hti.more.more
                  rw [← hR2] at H
                  have hlen12 : tl2.xs.length = r2.xs.length := by rw [rw_len htold, rw_len hr2o]
                  refine WP.region ?_
                  refine OpsE.val (x_move (v := tl2.val) rfl) ?_
                  refine OpsE.val (x_lenL rfl rfl Try.runUnderlying38) ?_
                  refine OpsE.val (x_move (v := r2.val) rfl) ?_
                  refine OpsE.val (x_lenL rfl rfl Try.runUnderlying38) ?_
                  refine OpsE.val (x_neI rfl rfl) ?_
                  rw [decide_eq_false (by omega)]
                  refine OpsE.val (x_move (v := .bool _) rfl) ?_
                  refine OpsE.yes rfl ?_
                  refine OpsE.val (x_move (v := .int .i64 ((m + i2 : Nat) : Int)) rfl) ?_
                  refine OpsE.yes rfl ?_
                  refine OpsE.val (x_move (v := rl.val) ((hs2 10 rfl).trans e10)) ?_
                  refine OpsE.yes rfl ?_
                  refine OpsE.val (x_lenL rfl rfl Try.runUnderlying38) ?_
                  refine OpsE.yes rfl ?_
                  refine OpsE.val (x_neI rfl rfl) ?_
                  rw [decide_eq_false (by omega)]
                  refine OpsE.val (x_pickF rfl rfl) ?_
                  refine OpsE.nil ?_
                  refine Then.normal ?_
                  refine WP.cond_f rfl rfl ?_
                  refine WP.skip ?_
                  refine Then.normal ?_
                  refine WP.seq ?_
                  refine WP.seq ?_
                  refine WP.region ?_
                  refine OpsE.val (x_move (v := tl2.val) rfl) ?_
                  refine OpsE.val (x_lenL rfl rfl Try.runUnderlying38) ?_
                  refine OpsE.val (x_move (v := .int .i64 _) rfl) ?_
                  refine OpsE.nil ?_
                  refine Then.normal ?_
                  refine WP.block ?_
                  refine WP.loopS [8, 20, 133, 134, 135, 136, 137, 138, 139, 140, 141, 142, 143, 144, 145, 146] (fun (j : Nat) E w => E 133 = .int .i64 (j : Int) ∧ j ≤ tl2.xs.length ∧ Sat w R2) (fun j => tl2.xs.length - j) 0 ⟨rfl, Nat.zero_le _, H⟩ ?_
                  clear H
                  rintro j E3 w hs3 ⟨e133, hjn, H⟩
                  refine WP.seq ?_
                  refine WP.region ?_
                  refine OpsE.val (x_lt e133 (hs3 132 rfl)) ?_
                  by_cases hlt : (j : Int) < (tl2.xs.length : Int)
                  · rw [decide_eq_true hlt]
                    refine OpsE.nil ?_
                    refine Then.normal ?_
                    refine WP.seq ?_
                    refine WP.cond_t rfl rfl ?_
                    refine WP.skip ?_
                    refine Then.normal ?_
                    refine WP.seq ?_
                    refine WP.block ?_
                    refine WP.seq ?_
                    refine WP.region ?_
                    refine OpsE.val (x_move (v := .int .i64 (j : Int)) e133) ?_
                    refine OpsE.val (x_assign (v := .int .i64 _) rfl) ?_
                    refine OpsE.nil ?_
                    refine Then.normal ?_
                    refine WP.seq ?_
                    obtain ⟨bb, off, B, fz, pre, post, had, hB, hBl, hpo⟩ := hti2.row.some (by omega)
                    obtain ⟨bb2, off2, B2, fz2, pre2, post2, had2, hB2, hBl2, hpo2⟩ := hr2i.row.some (by omega)
                    obtain ⟨x, hx⟩ : ∃ x, (tl2.xs.map Cm.v)[j]? = some x := ⟨_, List.getElem?_eq_getElem (by rw [List.length_map]; omega)⟩
                    obtain ⟨y, hy⟩ : ∃ y, (r2.xs.map Cm.v)[j]? = some y := ⟨_, List.getElem?_eq_getElem (by rw [List.length_map]; omega)⟩
                    have hxm := List.mem_of_getElem? hx
                    have hym := List.mem_of_getElem? hy
                    have hxy : x.ab = y.ab := by
                      have e1 := v_at hx
                      have e2 := v_at hy
                      rw [htold] at e1
                      rw [hr2o, e1] at e2
                      exact Option.some.inj e2
                    have hxn : x.n ≤ 1000000 := by
                      have h4 := (hti2.ws x hxm).len
                      have h5 := only_sz (p := p) hinv.rt (c := x.ab) (by rw [← htold]; exact List.mem_of_getElem? (v_at hx))
                      have h6 : x.ws.length ≤ 200 := h5
                      omega
                    refine WP.mix (kdOf [0, 0, 0, 0, 0, 0, 0, 0]) (fun w => Sat w _) (by kernel_rfl) (by kernel_rfl) (fun w hw => Sat.heap (H) hw) ?_
                    intro w hw; replace H := H.heap hw; clear hw
                    refine MixE.q rfl (fun w H => x_move (v := .slice (some ⟨bb, off, none⟩) tl2.xs.length tl2.cp) (show evE _ _ = _ from (hs3 11 rfl).trans (by rw [← had]; rfl))) ?_
                    refine MixE.q rfl (fun w H => x_move (v := .int .i64 (j : Int)) rfl) ?_
                    refine MixE.q rfl (fun w H => x_indexAddro (i := j) rfl rfl Try.runUnderlying38 Try.sizeOf33 rfl (by omega)) ?_
                    refine MixE.q rfl (fun w H => x_loadA (vs := cvc x) rfl Try.isAgg33 Try.sizeOf33 (hB w H) (row_el cvc_len hBl hpo hx) rfl) ?_
                    refine MixE.q rfl (fun w H => x_move (v := .slice (some ⟨bb2, off2, none⟩) r2.xs.length r2.cp) (show evE _ _ = _ from (hs3 19 rfl).trans (by rw [← had2]; rfl))) ?_
                    refine MixE.q rfl (fun w H => x_move (v := .int .i64 (j : Int)) rfl) ?_
                    refine MixE.q rfl (fun w H => x_indexAddro (i := j) rfl rfl Try.runUnderlying38 Try.sizeOf33 rfl (by omega)) ?_
                    refine MixE.q rfl (fun w H => x_loadA (vs := cvc y) rfl Try.isAgg33 Try.sizeOf33 (hB2 w H) (row_el cvc_len hBl2 hpo2 hy) rfl) ?_
                    refine MixE.two _ (fun k _ => kdOf_ge (Nat.le_add_right _ _)) ?_
                    refine OpsE.call (x_call (vl := [.agg _, .agg _]) rfl Try.call37) (Same_spec H (hti2.ws x hxm) (hr2i.ws y hym) hxn hxy) ?_
                    rintro _ w ⟨rfl, H⟩
                    refine OpsE.val (x_not rfl) ?_
                    refine OpsE.nil ?_
                    refine Then.normal ?_
                    refine WP.cond_f rfl rfl ?_
                    refine WP.skip ?_
                    refine InBlock.normal ?_
                    refine Then.normal ?_
                    refine WP.region ?_
                    refine OpsE.val (x_add (z := ((j + 1 : Nat) : Int)) e133 rfl (by rw [i64n (by omega) (by omega)]; omega)) ?_
                    refine OpsE.val (x_move (v := .int .i64 _) rfl) ?_
                    refine OpsE.nil ?_
                    refine Then.normal ?_
                    exact ⟨rfl, (by repeat (first | exact hs3 | refine Same.upd ?_ rfl)), j + 1, by omega, rfl, by omega, H⟩
                  · rw [decide_eq_false hlt]
                    refine OpsE.nil ?_
                    refine Then.normal ?_
                    refine WP.seq ?_
                    refine WP.cond_f rfl rfl ?_
                    refine WP.exit ?_
                    refine Then.exit ?_
                    refine Then.exit ?_
                    refine InBlock.hit ?_
                    refine Then.normal ?_
                    refine WP.seq ?_
                    refine WP.region ?_
                    refine OpsE.val (x_assign (v := .bool _) rfl) ?_
                    refine OpsE.nil ?_
                    refine Then.normal ?_
                    refine WP.ret ?_
                    refine Leave0.ret (v := .bool _) rfl ?_
                    rw [hR2, hRR] at H
                    exact ⟨rfl, H.tail.tail.tail.tail.tail.tail⟩
                · rw [decide_eq_false g4]
                  refine OpsE.nil ?_
                  refine Then.normal ?_
                  refine WP.cond_f rfl rfl ?_
                  refine WP.skip ?_
                  refine InBlock.normal ?_
                  refine Then.normal ?_
                  refine WP.region ?_
                  refine OpsE.val (x_move (v := .int .i64 (i : Int)) ((hs2 14 rfl).trans e14)) ?_
                  refine OpsE.val (x_add (z := ((i + 1 : Nat) : Int)) rfl rfl (by rw [i64n (by omega) (by omega)]; omega)) ?_
                  refine OpsE.val (x_assign (v := .int .i64 _) rfl) ?_
                  refine OpsE.nil ?_
                  refine Then.normal ?_
                  have hinv' : AInv p n n2 S cms rl tl2 (m + i2) nx (i + 1) := ⟨hinv.ok, hinv.low, hinv.hist, hinv.list, htold, hinv.rlo, hinv.rlw, ht2, htlw, hI1, by omega, hI3, by omega, hinv.rt, hinv.seq, hinv.time⟩
                  refine ⟨rfl, (by repeat (first | exact hs | refine Same.upd ?_ rfl | refine Same.sub hs2 ?_ rfl)), i + 1, by omega, S, cms, rl, tl2, m + i2, nx, rfl, (hs2 13 rfl).trans e13, rfl, rfl, (hs2 10 rfl).trans e10, hinv', ?_⟩
                  have h1 := (H.take (pt b16 (.cells (btc r ((m + i2 : Nat) : Int)).toArray TBt (0, 0)))).tail
                  have h2 := (h1.take (r.own cmc TCm)).tail
                  exact h2.perm (by simp only [stars_cons]; rw [hst]; ac_rfl)
          · rw [decide_eq_false g1]
            refine OpsE.nil ?_
            refine Then.normal ?_
            refine WP.cond_f rfl rfl ?_
            refine WP.exit ?_
            refine Then.exit ?_
            refine Then.exit ?_
            refine InBlock.hit ?_
            refine Then.normal ?_
            refine WP.seq ?_
            exfalso; omega 
end Go.Proofs.Ytbhbdpbhhfemhaa
