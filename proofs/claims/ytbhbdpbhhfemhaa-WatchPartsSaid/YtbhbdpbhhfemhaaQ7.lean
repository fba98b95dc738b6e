/-
  Parts of the proof, joined in one file: WParts.
-/
import Derived.Test.YtbhbdpbhhfemhaaQ6
import Derived.Laws.BytesString
set_option linter.unusedSimpArgs false
set_option linter.unusedVariables false
/-
  WatchParts: the walk.
-/
namespace Go.Proofs.Ytbhbdpbhhfemhaa
open Go Go.Proofs
set_option maxRecDepth 100000
set_option maxHeartbeats 16000000
set_option linter.unusedVariables false

theorem KB : ElemOk Try.prog 67 5 1 1 (.int .u8 0) := ⟨Try.underlying67, ⟨Try.t5, Try.type5, rfl, rfl, rfl⟩, rfl⟩
theorem x_bytes1 {P : Program} {E : Env} {w : World} {ty src dst e : TypeId} {x : Operand} {g c : Nat} {n : Int} {t : TypeId} {fz : Nat × Nat} (hx : evE E x = .slice (some ⟨g, 0, none⟩) 1 c) (hs : P.underlying src = some (.slice e)) (he : P.underlying e = some (.int .u8)) (hd : P.underlying dst = some .string)
    (hg : w.heap[g]? = some (.cells [Value.int .u8 n].toArray t fz)) : (xop E (.convert src dst x) ty).run P w = .ok (.value (.string ⟨#[UInt8.ofNat n.toNat]⟩)) w := by
  have h1 : (loadCells ⟨g, 0, none⟩ 1).run P w = .ok ([n].map (Value.int .u8)).toArray w := by
    have := run_loadCells_list (P := P) (w := w) ⟨g, 0, none⟩ [Value.int .u8 n] (fun j v h => by
      have e : (⟨g, 0, none⟩ : Addr).add j = ⟨g, j, none⟩ := by unfold Addr.add; split <;> simp_all
      rw [e]
      exact cell_of hg (by simpa using h))
    simpa using this
  have h2 := run_bytesToString w ⟨g, 0, none⟩ 1 c [n] h1
  have h3 := run_convert_bytes_string w src dst e (some ⟨g, 0, none⟩) 1 c hs he hd
  rw [h2] at h3
  simp [xop, execOp, hx, h3]
  rfl

def kb (b : Nat) : ByteArray := ⟨#[107]⟩ ++ ⟨#[UInt8.ofNat b]⟩
theorem kb_data (b : Nat) : (kb b).data.toList = [107, UInt8.ofNat b] := by unfold kb; simp
theorem kb_size (b : Nat) : (kb b).size = 2 := by unfold kb; rw [ByteArray.size_append]; rfl
theorem hasP_kb {b : Nat} {s : ByteArray} {t : List UInt8} (hs : s.data.toList = 107 :: t) : hasP (kb b) s = decide (t[0]? = some (UInt8.ofNat b)) := by
  have h1 : s.size = t.length + 1 := by show s.data.size = _; rw [← Array.length_toList, hs]; rfl
  unfold hasP
  rw [kb_size, h1]
  have h2 : (s.extract 0 2 = kb b) ↔ t.take 1 = [UInt8.ofNat b] := by
    rw [ByteArray.ext_iff, ← Array.toList_inj, kb_data]
    simp [ByteArray.data_extract, hs]
  cases t with
  | nil => rfl
  | cons u t =>
    rw [decide_eq_true (by show 2 ≤ t.length + 1 + 1; omega), Bool.true_and]
    rw [decide_eq_decide]
    rw [h2]
    simp
/-- all writes of commits -/
def allW (cms : List Cmt) : List Wr := cms.flatMap fun c => c.2.2
theorem allW_snoc (cms : List Cmt) (c : Cmt) : allW (cms ++ [c]) = allW cms ++ c.2.2 := by unfold allW; rw [List.flatMap_append]; simp
theorem allW_only (p : ByteArray) : ∀ cms : List Cmt, allW (onlyL p cms) = (allW cms).filter fun x => hasP p x.key
  | [] => rfl
  | c :: cms => by
    have h1 : onlyL p (c :: cms) = onlyL p [c] ++ onlyL p cms := onlyL_app p [c] cms
    have h2 : onlyL p [c] = if 0 < (onlyW p c.2.2).length then onlyL p [] ++ [onlyC p c] else onlyL p [] := onlyL_snoc p [] c
    rw [h1, h2]
    show allW _ = (c.2.2 ++ allW cms).filter _
    rw [List.filter_append, ← allW_only p cms]
    split
    · rfl
    · rename_i h
      have : onlyW p c.2.2 = [] := List.length_eq_zero_iff.1 (by omega)
      unfold onlyW at this
      rw [this]; rfl
theorem allW_app (a b : List Cmt) : allW (a ++ b) = allW a ++ allW b := by unfold allW; rw [List.flatMap_append]
/-- writes whose second byte lies below a bound -/
def lowB (B : Nat) (x : Wr) : Bool := match x.key.data.toList[1]? with
  | none => false
  | some v => decide (v.toNat < B)
def longW (x : Wr) : Bool := decide ((x.key.size : Int) > 1)
def cntB (B : Nat) (ws : List Wr) : Nat := (ws.filter (lowB B)).length
def lng (ws : List Wr) : Nat := (ws.filter longW).length
theorem lng_app (a b : List Wr) : lng (a ++ b) = lng a + lng b := by unfold lng; rw [List.filter_append, List.length_append]
theorem lng_snoc (a : List Wr) (x : Wr) : lng (a ++ [x]) = lng a + (if (x.key.size : Int) > 1 then 1 else 0) := by
  rw [lng_app]
  unfold lng longW
  by_cases h : (x.key.size : Int) > 1
  · rw [if_pos h, List.filter_cons_of_pos (by exact decide_eq_true h)]; rfl
  · rw [if_neg h, List.filter_cons_of_neg (by exact fun e => h (of_decide_eq_true e))]; rfl
theorem lng_le (a : List Wr) : lng a ≤ a.length := List.length_filter_le _ _
theorem cntB_zero (ws : List Wr) : cntB 0 ws = 0 := by
  unfold cntB
  rw [List.length_eq_zero_iff, List.filter_eq_nil_iff]
  intro x _
  unfold lowB
  split <;> simp
theorem cntB_all (ws : List Wr) : cntB 256 ws = lng ws := by
  unfold cntB lng
  congr 1
  apply List.filter_congr
  intro x _
  unfold lowB longW
  have h1 : x.key.size = x.key.data.toList.length := by rw [Array.length_toList]; rfl
  split
  · rename_i h
    rw [List.getElem?_eq_none_iff] at h
    exact (decide_eq_false (by omega)).symm
  · rename_i v h
    have h2 := (List.getElem?_eq_some_iff.1 h).1
    have h3 := v.toNat_lt
    rw [decide_eq_true (by omega : (x.key.size : Int) > 1), decide_eq_true (by omega : v.toNat < 256)]
theorem cntB_succ {B : Nat} (hB : B < 256) : ∀ (ws : List Wr), (∀ x ∈ ws, ∃ t, x.key.data.toList = 107 :: t) → cntB (B + 1) ws = cntB B ws + (ws.filter fun x => hasP (kb B) x.key).length
  | [], _ => rfl
  | x :: ws, h => by
    have ih := cntB_succ hB ws fun y hy => h y (by simp [hy])
    obtain ⟨t, ht⟩ := h x (by simp)
    have h1 := hasP_kb (b := B) ht
    unfold cntB at ih ⊢
    rw [List.filter_cons, List.filter_cons, List.filter_cons]
    have h2 : x.key.data.toList[1]? = t[0]? := by rw [ht]; rfl
    have hl : ∀ B, lowB B x = (match t[0]? with | none => false | some v => decide (v.toNat < B)) := fun B => by unfold lowB; rw [h2]
    rw [hl, hl, h1]
    cases h3 : t[0]? with
    | none => simpa using ih
    | some v =>
      have h4 : (some v = some (UInt8.ofNat B)) ↔ v.toNat = B := by
        rw [Option.some.injEq]
        constructor
        · rintro rfl; simp; omega
        · intro h; rw [← h]; simp
      rw [show (decide (some v = some (UInt8.ofNat B))) = decide (v.toNat = B) from decide_eq_decide.2 h4]
      simp only [decide_eq_true_iff]
      rcases Nat.lt_trichotomy v.toNat B with h5 | h5 | h5
      · rw [if_pos (by omega), if_pos h5, if_neg (by omega), List.length_cons, List.length_cons]; omega
      · rw [if_pos (by omega), if_neg (by omega), if_pos h5, List.length_cons, List.length_cons]; omega
      · rw [if_neg (by omega), if_neg (by omega), if_neg (by omega)]
        exact ih
theorem trimK_head (k : ByteArray) : ∃ t, (trimK k).data.toList = 107 :: t := by
  have h0 : ((⟨#[107]⟩ ++ k : ByteArray)).data.toList = 107 :: k.data.toList := by simp
  unfold trimK cutS
  split
  · exact ⟨(k.data.toList.take 19), by rw [ByteArray.data_extract, Array.toList_extract, h0]; simp⟩
  · exact ⟨_, h0⟩
theorem allW_head {first : Int} {wss : List (List Wr)} {cms : List Cmt} (h : ListOf first wss cms) : ∀ x ∈ allW cms, ∃ t, x.key.data.toList = 107 :: t := by
  intro x hx
  obtain ⟨c, hc, hxc⟩ := List.mem_flatMap.1 hx
  obtain ⟨i, hi, rfl⟩ := List.mem_iff_getElem.1 hc
  obtain ⟨ws, hws⟩ : ∃ ws, wss[i]? = some ws := ⟨_, List.getElem?_eq_getElem (by rw [← h.1]; exact hi)⟩
  obtain ⟨y, _, rfl⟩ := some_mem (h.2 i _ ws (List.getElem?_eq_getElem hi) hws).2.2 hxc
  exact trimK_head _
theorem allW_len {cms : List Cmt} (h : ∀ c ∈ cms, rightB c.2.2) : (allW cms).length ≤ cms.length * 200 := by
  induction cms with
  | nil => exact Nat.le_refl _
  | cons c cms ih =>
    show (c.2.2 ++ allW cms).length ≤ _
    have h1 := right_len (h c (by simp))
    have h2 := ih fun d hd => h d (by simp [hd])
    rw [List.length_append, List.length_cons]; omega
theorem allW_take {cms : List Cmt} (h : ∀ c ∈ cms, rightB c.2.2) (i : Nat) : (allW (cms.take i)).length ≤ cms.length * 200 := by
  refine Nat.le_trans (allW_len fun c hc => h c (List.mem_of_mem_take hc)) (Nat.mul_le_mul_right _ ?_)
  rw [List.length_take]; omega

theorem WatchParts_walk {w : World} {l : List HP} {a : Option Addr} {n c : Nat} {xs : List Sl} (H : Sat w l) (hr : SlIn l a n c xs) :
    Calls Try.prog 11 #[.slice a n c] w (Ret fun v w' => v = .bool true ∧ Sat w' l) := by
  have hln := slIn_len hr
  refine Calls.of_wp Try.func11 rfl Try.ntmps11 Try.results11 (Nat.le_of_ble_eq_true rfl) ?_
  refine WP.seq ?_
  refine WP.region ?_
  refine OpsE.val (x_assign (v := .bool _) rfl) ?_
  refine OpsE.nil ?_
  refine Then.normal ?_
  refine WP.seq ?_
  refine WP.seq ?_
  refine WP.region ?_
  refine OpsE.call (x_call (vl := []) rfl Try.call33) (head17_spec H) ?_
  rintro _ w ⟨rfl, H⟩
  refine OpsE.val (x_not rfl) ?_
  refine OpsE.nil ?_
  refine Then.normal ?_
  refine WP.cond_f rfl rfl ?_
  refine WP.skip ?_
  refine Then.normal ?_
  refine WP.seq ?_
  refine WP.seq ?_
  refine WP.region ?_
  refine OpsE.val (x_move (v := .slice a n c) rfl) ?_
  refine OpsE.val (x_lenL rfl rfl Try.runUnderlying36) ?_
  refine OpsE.val (x_gt rfl rfl) ?_
  by_cases c0 : (n : Int) > 30
  · rw [decide_eq_true c0]
    refine OpsE.nil ?_
    refine Then.normal ?_
    refine WP.cond_t rfl rfl ?_
    refine WP.seq ?_
    refine WP.region ?_
    refine OpsE.val (x_assign (v := .bool _) rfl) ?_
    refine OpsE.nil ?_
    refine Then.normal ?_
    refine WP.ret ?_
    refine Then.ret ?_
    refine Leave0.ret (v := .bool _) rfl ?_
    exact ⟨rfl, H⟩
  · rw [decide_eq_false c0]
    refine OpsE.nil ?_
    refine Then.normal ?_
    refine WP.cond_f rfl rfl ?_
    refine WP.skip ?_
    refine Then.normal ?_
    refine WP.seq ?_
    refine WP.region ?_
    refine OpsE.val (x_move (v := .slice _ _ _) rfl) ?_
    refine OpsE.call (x_call (vl := [.slice _ _ _, .int .i64 _]) rfl Try.call34) (made17_zero H hr (by omega)) ?_
    rintro _ w ⟨b, S, rl, rfl, ok, hlow, hhist, hlof, hlro, hlrw, H⟩
    refine OpsE.val (x_move (v := .tuple #[.pointer (some ⟨b, 0, none⟩), rl.val]) rfl) ?_
    refine OpsE.val (x_extract (v := .pointer (some ⟨b, 0, none⟩)) rfl rfl) ?_
    refine OpsE.val (x_extract (v := rl.val) rfl rfl) ?_
    refine OpsE.val (x_assign (v := .pointer _) rfl) ?_
    refine OpsE.val (x_assign (v := .slice _ _ _) rfl) ?_
    refine OpsE.nil ?_
    refine Then.normal ?_
    refine WP.seq ?_
    have hlo' : ListOf (0 + 1) (xs.map Sl.ws) (rl.xs.map cma) := hlof
    have htk := takes_list hlo' (by omega) (by decide)
    have hhead := allW_head hlof
    obtain ⟨cms, hcms⟩ : ∃ cms, rl.xs.map cma = cms := ⟨_, rfl⟩
    have hrl : rl.xs.length = n := by rw [← hln, ← hlof.1, List.length_map]
    rw [hcms] at hhist htk hhead
    have hcl : cms.length = n := by rw [← hcms, List.length_map, hrl]
    have hcs : ∀ (i : Nat) (c : Cmt), cms[i]? = some c → c.1 = 0 + 1 + i := fun i c hc => (htk.seq i c hc).1
    have hWl := allW_len htk.right
    have hcB : ∀ B, cntB B (allW cms) ≤ 6000 := fun B => by have : cntB B (allW cms) ≤ (allW cms).length := List.length_filter_le _ _; omega
    obtain ⟨R, hR⟩ : ∃ R, R = (rl.own cmc TCm :: stars (rl.xs.map cmH) :: l) := ⟨_, rfl⟩
    have hli : CIn R rl.ad rl.xs.length rl.cp (rl.xs.map Cm.v) := by rw [hR]; exact CIn.of_rw hlro hlrw
    rw [← hR] at H
    refine WP.region ?_
    refine OpsE.val (x_assign (v := .int .i64 _) rfl) ?_
    refine OpsE.nil ?_
    refine Then.normal ?_
    refine WP.seq ?_
    refine WP.seq ?_
    refine WP.region ?_
    refine OpsE.val (x_assign (v := .int .i64 _) rfl) ?_
    refine OpsE.nil ?_
    refine Then.normal ?_
    refine WP.block ?_
    refine WP.loopS [2, 5, 6, 7, 8, 10, 25, 26, 27, 28, 29, 30, 31, 32, 33, 34, 35, 36, 37, 38, 39, 40, 41, 42, 43, 44, 45, 46, 47, 48, 49, 50, 51, 52, 53] (fun (B : Nat) E w => E 6 = .int .i64 (B : Int) ∧ E 5 = .int .i64 ((cntB B (allW cms) : Nat) : Int) ∧ B ≤ 256 ∧ Sat w (StP b S :: R)) (fun B => 256 - B) 0 ⟨rfl, (show Value.int .i64 0 = _ by rw [cntB_zero]; rfl), Nat.zero_le _, H⟩ ?_
    clear H
    rintro B E1 w hs ⟨e6, e5, hB256, H⟩
    refine WP.seq ?_
    refine WP.seq ?_
    refine WP.region ?_
    refine OpsE.val (x_move (v := .int .i64 (B : Int)) e6) ?_
    refine OpsE.val (x_lt rfl rfl) ?_
    by_cases g1 : (B : Int) < 256
    · rw [decide_eq_true g1]
      refine OpsE.nil ?_
      refine Then.normal ?_
      refine WP.cond_t rfl rfl ?_
      refine WP.skip ?_
      refine Then.normal ?_
      refine WP.seq ?_
      refine WP.block ?_
      refine WP.seq ?_
      refine WP.region ?_
      refine OpsE.val (x_move (v := .pointer (some ⟨b, 0, none⟩)) (hs 3 rfl)) ?_
      refine OpsE.val (x_move (v := .int .i64 (B : Int)) e6) ?_
      refine OpsE.val (x_convI (z := (B : Int)) rfl Try.runUnderlying3 Try.runUnderlying5 (by show IntKind.u8.wrap _ = _; simp [IntKind.wrap, IntKind.bits, IntKind.signed]; omega)) ?_
      refine OpsE.buildSlice1 (vs := [.int .u8 (B : Int)]) KB (by decide) rfl rfl rfl (by decide) H ?_
      intro g w H
      refine OpsE.val (x_bytes1 (n := (B : Int)) rfl Try.underlying67 Try.underlying5 Try.underlying9 (H.look g)) ?_
      refine OpsE.val (x_cat rfl rfl (by show 1 + 1 ≤ 9223372036854775807; decide)) ?_
      have hcnt := cntB_succ (B := B) (by omega) (allW cms) hhead
      have hcB1 := hcB (B + 1)
      refine OpsE.call (x_call (vl := [.pointer _, .int .i64 _, .string _, .int .i64 _]) rfl Try.call35) (Poll_ok (k := 0) (mm := 100) (p := kb B) (H.take (StP b S)) ok hlow hhist htk.right hcs (by omega) (Nat.zero_le _) (by decide) (by rw [kb_size]; decide)) ?_
      rintro _ w ⟨ra, ia, rfl, hpa, hroa, hrwa, H⟩
      have hia : ia = n := by
        have h1 := onlyL_len (kb B) (((cms.drop 0).take ia))
        rw [← hpa.is, List.length_take] at h1
        have h2 : (cms.drop 0).length = n := by rw [List.length_drop, hcl]; omega
        rcases hpa.full with h | h
        · omega
        · omega
      have hall : ra.xs.map cma = onlyL (kb B) cms := by rw [hpa.is, List.drop_zero, hia, List.take_of_length_le (by omega)]
      have hral : ra.xs.length = (onlyL (kb B) cms).length := by rw [← hall, List.length_map]
      have hran : ra.xs.length ≤ n := by rw [hral]; have := onlyL_len (kb B) cms; omega
      have hlast : (allW ((ra.xs.map cma))).length = ((allW cms).filter fun x => hasP (kb B) x.key).length := by rw [hall, allW_only]
      refine OpsE.val (x_move (v := .tuple #[.agg (btc ra ((0 + ia : Nat) : Int)).toArray, .int .i64 0]) rfl) ?_
      refine OpsE.val (x_extract (v := .agg _) rfl rfl) ?_
      refine OpsE.val (x_extract (v := .int .i64 0) rfl rfl) ?_
      refine OpsE.allocA Try.zeroValue58 H ?_
      intro b7 w H
      refine OpsE.storeA (vs := btc ra ((0 + ia : Nat) : Int)) rfl rfl Try.sizeOf58 H (btc_one _ _) (Nat.le_refl _) ?_
      intro w H
      refine OpsE.val (x_assign (v := .int .i64 _) rfl) ?_
      refine OpsE.nil ?_
      refine Then.normal ?_
      refine WP.seq ?_
      refine WP.seq ?_
      obtain ⟨R2, hR2⟩ : ∃ R2, R2 = (ra.own cmc TCm :: stars (ra.xs.map cmH) :: StP b S :: R) := ⟨_, rfl⟩
      have H0 : Sat w (pt b7 (.cells (btc ra ((0 + ia : Nat) : Int)).toArray TBt (0, 0)) :: R2) := by
        have H1 : Sat w (pt b7 (.cells (btc ra ((0 + ia : Nat) : Int)).toArray TBt (0, 0)) :: ra.own cmc TCm :: stars (ra.xs.map cmH) :: StP b S :: pt g (.cells [Value.int .u8 (B : Int)].toArray 5 (0, 0)) :: R) := H
        have H2 := (H1.take (pt g (.cells [Value.int .u8 (B : Int)].toArray 5 (0, 0)))).tail
        rw [hR2]; exact H2
      clear H
      replace H := H0
      clear H0
      have hai : CIn R2 ra.ad ra.xs.length ra.cp (ra.xs.map Cm.v) := by rw [hR2]; exact CIn.of_rw hroa hrwa
      obtain ⟨ys, hys⟩ : ∃ ys, ra.xs.map Cm.v = ys := ⟨_, rfl⟩
      rw [hys] at hai
      have hyl : ys.length = ra.xs.length := by rw [← hys, List.length_map]
      have hyab : ys.map CmV.ab = ra.xs.map cma := by rw [← hys, cm_ab]
      have hyt : ∀ j, (allW ((ys.take j).map CmV.ab)).length ≤ 6000 := fun j => by
        have h1 : allW (ys.map CmV.ab) = allW ((ys.take j).map CmV.ab) ++ allW ((ys.drop j).map CmV.ab) := by rw [← allW_app, ← List.map_append, List.take_append_drop]
        have h2 := congrArg List.length h1
        rw [List.length_append, hyab, hlast] at h2
        have h3 : ((allW cms).filter fun x => hasP (kb B) x.key).length ≤ (allW cms).length := List.length_filter_le _ _
        omega
      refine WP.region ?_
      refine OpsE.val (x_move (v := .int .i64 0) rfl) ?_
      refine OpsE.val (x_neI rfl rfl) ?_
      rw [decide_eq_false (by decide)]
      refine OpsE.nil ?_
      refine Then.normal ?_
      refine WP.cond_f rfl rfl ?_
      refine WP.skip ?_
      refine Then.normal ?_
      refine WP.seq ?_
      refine WP.region ?_
      refine OpsE.val (x_fieldAddr0 rfl Try.runUnderlying58 rfl rfl Try.sizeOf38) ?_
      refine OpsE.val (x_load (v := ra.val) rfl Try.isAgg38 (H.look _) rfl) ?_
      refine OpsE.val (x_lenL rfl rfl Try.runUnderlying38) ?_
      refine OpsE.val (x_move (v := .int .i64 _) rfl) ?_
      refine OpsE.nil ?_
      refine Then.normal ?_
      refine WP.block ?_
      refine WP.loopS [5, 10, 44, 45, 46, 47, 48, 49, 50, 51, 52, 53] (fun (j : Nat) E w => E 44 = .int .i64 (j : Int) ∧ E 5 = .int .i64 ((cntB B (allW cms) + (allW ((ys.take j).map CmV.ab)).length : Nat) : Int) ∧ j ≤ ra.xs.length ∧ Sat w (pt b7 (.cells (btc ra ((0 + ia : Nat) : Int)).toArray TBt (0, 0)) :: R2)) (fun j => ra.xs.length - j) 0 ⟨rfl, e5, Nat.zero_le _, H⟩ ?_
      clear H
      rintro j E2 w hs2 ⟨e44, e5', hjn, H⟩
      refine WP.seq ?_
      refine WP.region ?_
      refine OpsE.val (x_lt e44 (hs2 43 rfl)) ?_
      by_cases hlt : (j : Int) < (ra.xs.length : Int)
      · rw [decide_eq_true hlt]
        refine OpsE.nil ?_
        refine Then.normal ?_
        refine WP.seq ?_
        refine WP.cond_t rfl rfl ?_
        refine WP.skip ?_
        refine Then.normal ?_
        refine WP.seq ?_
        refine WP.block ?_
        refine WP.seq ?_
        obtain ⟨bb, off, B2, fz, pre, post, had, hB, hBl, hpo⟩ := hai.row.some (by omega)
        obtain ⟨y, hy⟩ : ∃ y, ys[j]? = some y := ⟨_, List.getElem?_eq_getElem (by omega)⟩
        have hym := List.mem_of_getElem? hy
        have hyn := (hai.ws y hym).len
        have hj1 := hyt (j + 1)
        have hjs : (allW ((ys.take (j + 1)).map CmV.ab)).length = (allW ((ys.take j).map CmV.ab)).length + y.n := by
          rw [List.take_add_one, hy, Option.toList_some, List.map_append]
          show (allW (_ ++ [y.ab])).length = _
          rw [allW_snoc, List.length_append, hyn]; rfl
        refine WP.region ?_
        refine OpsE.val (x_indexAddro (i := j) (len := ra.xs.length) (cap := ra.cp) ((hs2 42 rfl).trans (show ra.val = _ by unfold Rw.val; rw [had])) e44 Try.runUnderlying38 Try.sizeOf33 rfl (by omega)) ?_
        refine OpsE.val (x_loadA (vs := cvc y) rfl Try.isAgg33 Try.sizeOf33 (hB w H.tail) (row_el cvc_len hBl hpo hy) rfl) ?_
        refine OpsE.allocA Try.zeroValue33 H ?_
        intro b10 w H
        refine OpsE.storeA (vs := cvc y) rfl rfl Try.sizeOf33 H (cvc_one y) (Nat.le_refl _) ?_
        intro w H
        refine OpsE.nil ?_
        refine Then.normal ?_
        refine WP.region ?_
        refine OpsE.val (x_move (v := .int .i64 ((cntB B (allW cms) + (allW ((ys.take j).map CmV.ab)).length : Nat) : Int)) e5') ?_
        refine OpsE.val (x_fieldAddr (o := 2) rfl Try.runUnderlying33 rfl rfl Try.sizeOf22) ?_
        refine OpsE.val (x_load (v := .slice y.a y.n y.c) rfl Try.isAgg22 (H.look _) rfl) ?_
        refine OpsE.val (x_lenL rfl rfl Try.runUnderlying22) ?_
        refine OpsE.val (x_add (z := ((cntB B (allW cms) + (allW ((ys.take (j + 1)).map CmV.ab)).length : Nat) : Int)) rfl rfl (by have := hcB B; rw [i64n (by omega) (by omega)]; omega)) ?_
        refine OpsE.val (x_assign (v := .int .i64 _) rfl) ?_
        refine OpsE.nil ?_
        refine InBlock.normal ?_
        refine Then.normal ?_
        refine WP.region ?_
        refine OpsE.val (x_add (z := ((j + 1 : Nat) : Int)) e44 rfl (by rw [i64n (by omega) (by omega)]; omega)) ?_
        refine OpsE.val (x_move (v := .int .i64 _) rfl) ?_
        refine OpsE.nil ?_
        refine Then.normal ?_
        exact ⟨rfl, (by repeat (first | exact hs2 | refine Same.upd ?_ rfl)), j + 1, by omega, rfl, rfl, by omega, H.tail⟩
      · rw [decide_eq_false hlt]
        refine OpsE.nil ?_
        refine Then.normal ?_
        refine WP.seq ?_
        refine WP.cond_f rfl rfl ?_
        refine WP.exit ?_
        refine Then.exit ?_
        refine Then.exit ?_
        refine InBlock.hit ?_
        refine InBlock.normal ?_
        refine Then.normal ?_
        refine WP.region ?_
        refine OpsE.val (x_move (v := .int .i64 (B : Int)) ((hs2 6 rfl).trans e6)) ?_
        refine OpsE.val (x_add (z := ((B + 1 : Nat) : Int)) rfl rfl (by rw [i64n (by omega) (by omega)]; omega)) ?_
        refine OpsE.val (x_assign (v := .int .i64 _) rfl) ?_
        refine OpsE.nil ?_
        refine Then.normal ?_
        rw [hR2] at H
        refine ⟨rfl, (by repeat (first | exact hs | refine Same.upd ?_ rfl | refine Same.sub hs2 ?_ rfl)), B + 1, by omega, rfl, ?_, by omega, H.tail.tail.tail⟩
        rw [hcnt, ← hlast, ← hyab]
        rw [show j = ys.length by omega, List.take_length] at e5'
        exact e5'
    · rw [decide_eq_false g1]
      refine OpsE.nil ?_
      refine Then.normal ?_
      refine WP.cond_f rfl rfl ?_
      refine WP.exit ?_
      refine Then.exit ?_
      refine Then.exit ?_
      refine InBlock.hit ?_
      refine Then.normal ?_
      refine WP.seq ?_
      refine WP.seq ?_
      refine WP.region ?_
      refine OpsE.val (x_move (v := rl.val) (hs 4 rfl)) ?_
      refine OpsE.val (x_lenL rfl rfl Try.runUnderlying38) ?_
      refine OpsE.val (x_move (v := .int .i64 _) rfl) ?_
      refine OpsE.nil ?_
      refine Then.normal ?_
      refine WP.block ?_
      obtain rfl : B = 256 := by omega
      rw [cntB_all] at e5
      obtain ⟨ys, hys⟩ : ∃ ys, rl.xs.map Cm.v = ys := ⟨_, rfl⟩
      rw [hys] at hli
      have hyl : ys.length = rl.xs.length := by rw [← hys, List.length_map]
      have hyab : ys.map CmV.ab = cms := by rw [← hys, cm_ab, hcms]
      have htk2 := allW_take (cms := cms) htk.right
      have hlg := lng_le (allW cms)
      refine WP.loopS [5, 12, 14, 56, 57, 58, 59, 60, 61, 62, 63, 64, 65, 66, 67, 68, 69, 70, 71, 72, 73, 74] (fun (i : Nat) E w => E 56 = .int .i64 (i : Int) ∧ E 5 = .int .i64 (((lng (allW cms) : Nat) : Int) - ((lng (allW (cms.take i)) : Nat) : Int)) ∧ i ≤ rl.xs.length ∧ Sat w (StP b S :: R)) (fun i => rl.xs.length - i) 0 ⟨rfl, e5.trans (by show _ = Value.int .i64 (_ - 0); rw [Int.sub_zero]), Nat.zero_le _, H⟩ ?_
      clear H
      rintro i E2 w hs2 ⟨e56, e5', hin, H⟩
      refine WP.seq ?_
      refine WP.region ?_
      refine OpsE.val (x_lt e56 (hs2 55 rfl)) ?_
      by_cases hlt : (i : Int) < (rl.xs.length : Int)
      · rw [decide_eq_true hlt]
        refine OpsE.nil ?_
        refine Then.normal ?_
        refine WP.seq ?_
        refine WP.cond_t rfl rfl ?_
        refine WP.skip ?_
        refine Then.normal ?_
        refine WP.seq ?_
        refine WP.block ?_
        refine WP.seq ?_
        obtain ⟨bb, off, B2, fz, pre, post, had, hB, hBl, hpo⟩ := hli.row.some (by omega)
        obtain ⟨y, hy⟩ : ∃ y, ys[i]? = some y := ⟨_, List.getElem?_eq_getElem (by omega)⟩
        have hym := List.mem_of_getElem? hy
        have hry := hli.ws y hym
        have hyn := hry.len
        have hcy : cms[i]? = some y.ab := by rw [← hyab, List.getElem?_map, hy]; rfl
        have hy200 : y.ws.length ≤ 200 := right_len (htk.right _ (List.mem_of_getElem? hcy))
        have hlt1 := lng_le (allW (cms.take i))
        have hlt2 := htk2 i
        have hlt3 : lng (allW (cms.take (i + 1))) = lng (allW (cms.take i)) + lng y.ws := by
          rw [List.take_add_one, hcy, Option.toList_some, allW_snoc, lng_app]; rfl
        refine WP.region ?_
        refine OpsE.val (x_indexAddro (i := i) (len := rl.xs.length) (cap := rl.cp) ((hs2 54 rfl).trans (show rl.val = _ by unfold Rw.val; rw [had])) e56 Try.runUnderlying38 Try.sizeOf33 rfl (by omega)) ?_
        refine OpsE.val (x_loadA (vs := cvc y) rfl Try.isAgg33 Try.sizeOf33 (hB w H.tail) (row_el cvc_len hBl hpo hy) rfl) ?_
        refine OpsE.allocA Try.zeroValue33 H ?_
        intro b12 w H
        refine OpsE.storeA (vs := cvc y) rfl rfl Try.sizeOf33 H (cvc_one y) (Nat.le_refl _) ?_
        intro w H
        refine OpsE.nil ?_
        refine Then.normal ?_
        refine WP.seq ?_
        refine WP.region ?_
        refine OpsE.val (x_fieldAddr (o := 2) rfl Try.runUnderlying33 rfl rfl Try.sizeOf22) ?_
        refine OpsE.val (x_load (v := .slice y.a y.n y.c) rfl Try.isAgg22 (H.look _) rfl) ?_
        refine OpsE.val (x_lenL rfl rfl Try.runUnderlying22) ?_
        refine OpsE.val (x_move (v := .int .i64 _) rfl) ?_
        refine OpsE.nil ?_
        refine Then.normal ?_
        refine WP.block ?_
        have H0 : Sat w (pt b12 (.cells (cvc y).toArray TCm (0, 0)) :: StP b S :: R) := H
        refine WP.loopS [5, 14, 63, 64, 65, 66, 67, 68, 69, 70, 71, 72, 73] (fun (k : Nat) E w => E 63 = .int .i64 (k : Int) ∧ E 5 = .int .i64 (((lng (allW cms) : Nat) : Int) - ((lng (allW (cms.take i)) : Nat) : Int) - ((lng (y.ws.take k) : Nat) : Int)) ∧ k ≤ y.n ∧ Sat w (pt b12 (.cells (cvc y).toArray TCm (0, 0)) :: StP b S :: R)) (fun k => y.n - k) 0 ⟨rfl, e5'.trans (by show _ = Value.int .i64 (_ - 0); rw [Int.sub_zero]), Nat.zero_le _, H0⟩ ?_
        clear H H0
        rintro k E3 w hs3 ⟨e63, e5'', hkn, H⟩
        refine WP.seq ?_
        refine WP.region ?_
        refine OpsE.val (x_lt e63 (hs3 62 rfl)) ?_
        by_cases hlt2 : (k : Int) < (y.n : Int)
        · rw [decide_eq_true hlt2]
          refine OpsE.nil ?_
          refine Then.normal ?_
          refine WP.seq ?_
          refine WP.cond_t rfl rfl ?_
          refine WP.skip ?_
          refine Then.normal ?_
          refine WP.seq ?_
          refine WP.block ?_
          refine WP.seq ?_
          obtain ⟨bb2, off2, B3, fz2, pre2, post2, had2, hB2, hBl2, hpo2⟩ := hry.some (by omega)
          obtain ⟨x, hx⟩ : ∃ x, y.ws[k]? = some x := ⟨_, List.getElem?_eq_getElem (by omega)⟩
          have hk1 := lng_le (y.ws.take k)
          rw [List.length_take] at hk1
          have hk2 : lng (y.ws.take (k + 1)) = lng (y.ws.take k) + (if (x.key.size : Int) > 1 then 1 else 0) := by rw [List.take_add_one, hx, Option.toList_some, lng_snoc]
          refine WP.region ?_
          refine OpsE.val (x_indexAddro (i := k) (len := y.n) (cap := y.c) ((hs3 61 rfl).trans (show Value.slice y.a y.n y.c = _ by rw [had2])) e63 Try.runUnderlying22 Try.sizeOf26 rfl (by omega)) ?_
          refine OpsE.val (x_loadA (vs := wrc x) rfl Try.isAgg26 Try.sizeOf26 (hB2 w H.tail.tail) (row_el wrc_len hBl2 hpo2 hx) rfl) ?_
          refine OpsE.allocA Try.zeroValue26 H ?_
          intro b14 w H
          refine OpsE.storeA (vs := wrc x) rfl rfl Try.sizeOf26 H (wrc_one x) (Nat.le_refl _) ?_
          intro w H
          refine OpsE.nil ?_
          refine Then.normal ?_
          refine WP.seq ?_
          refine WP.region ?_
          refine OpsE.val (x_fieldAddr0 rfl Try.runUnderlying26 rfl rfl Try.sizeOf9) ?_
          refine OpsE.val (x_load (v := .string x.key) rfl Try.isAgg9 (H.look _) rfl) ?_
          refine OpsE.val (x_lenS rfl rfl Try.runUnderlying9) ?_
          refine OpsE.val (x_gt rfl rfl) ?_
          by_cases c4 : (x.key.size : Int) > 1
          · rw [decide_eq_true c4]
            refine OpsE.nil ?_
            refine Then.normal ?_
            refine WP.cond_t rfl rfl ?_
            refine WP.region ?_
            refine OpsE.val (x_move (v := .int .i64 (((lng (allW cms) : Nat) : Int) - ((lng (allW (cms.take i)) : Nat) : Int) - ((lng (y.ws.take k) : Nat) : Int))) e5'') ?_
            refine OpsE.val (x_sub (z := (((lng (allW cms) : Nat) : Int) - ((lng (allW (cms.take i)) : Nat) : Int) - ((lng (y.ws.take (k + 1)) : Nat) : Int))) rfl rfl (by rw [hk2, if_pos c4, i64n (by omega) (by omega)]; omega)) ?_
            refine OpsE.val (x_assign (v := .int .i64 _) rfl) ?_
            refine OpsE.nil ?_
            refine InBlock.normal ?_
            refine Then.normal ?_
            refine WP.region ?_
            refine OpsE.val (x_add (z := ((k + 1 : Nat) : Int)) e63 rfl (by rw [i64n (by omega) (by omega)]; omega)) ?_
            refine OpsE.val (x_move (v := .int .i64 _) rfl) ?_
            refine OpsE.nil ?_
            refine Then.normal ?_
            exact ⟨rfl, (by repeat (first | exact hs3 | refine Same.upd ?_ rfl)), k + 1, by omega, rfl, rfl, by omega, H.tail⟩
          · rw [decide_eq_false c4]
            refine OpsE.nil ?_
            refine Then.normal ?_
            refine WP.cond_f rfl rfl ?_
            refine WP.skip ?_
            refine InBlock.normal ?_
            refine Then.normal ?_
            refine WP.region ?_
            refine OpsE.val (x_add (z := ((k + 1 : Nat) : Int)) e63 rfl (by rw [i64n (by omega) (by omega)]; omega)) ?_
            refine OpsE.val (x_move (v := .int .i64 _) rfl) ?_
            refine OpsE.nil ?_
            refine Then.normal ?_
            refine ⟨rfl, (by repeat (first | exact hs3 | refine Same.upd ?_ rfl)), k + 1, by omega, rfl, ?_, by omega, H.tail⟩
            rw [hk2, if_neg c4]; exact e5''
        · rw [decide_eq_false hlt2]
          refine OpsE.nil ?_
          refine Then.normal ?_
          refine WP.seq ?_
          refine WP.cond_f rfl rfl ?_
          refine WP.exit ?_
          refine Then.exit ?_
          refine Then.exit ?_
          refine InBlock.hit ?_
          refine InBlock.normal ?_
          refine Then.normal ?_
          refine WP.region ?_
          refine OpsE.val (x_add (z := ((i + 1 : Nat) : Int)) ((hs3 56 rfl).trans e56) rfl (by rw [i64n (by omega) (by omega)]; omega)) ?_
          refine OpsE.val (x_move (v := .int .i64 _) rfl) ?_
          refine OpsE.nil ?_
          refine Then.normal ?_
          refine ⟨rfl, (by repeat (first | exact hs2 | refine Same.upd ?_ rfl | refine Same.sub hs3 ?_ rfl)), i + 1, by omega, rfl, ?_, by omega, H.tail⟩
          rw [show y.ws.take k = y.ws from List.take_of_length_le (by omega)] at e5''
          refine Eq.trans e5'' ?_
          rw [hlt3]
          congr 1
          omega
      · rw [decide_eq_false hlt]
        refine OpsE.nil ?_
        refine Then.normal ?_
        refine WP.seq ?_
        refine WP.cond_f rfl rfl ?_
        refine WP.exit ?_
        refine Then.exit ?_
        refine Then.exit ?_
        refine InBlock.hit ?_
        refine Then.normal ?_
        refine WP.seq ?_
        refine WP.region ?_
        refine OpsE.val (x_move (v := .int .i64 (((lng (allW cms) : Nat) : Int) - ((lng (allW (cms.take i)) : Nat) : Int))) e5') ?_
        refine OpsE.val (x_eqI rfl rfl) ?_
        rw [decide_eq_true (by rw [List.take_of_length_le (by omega)]; omega)]
        refine OpsE.val (x_assign (v := .bool _) rfl) ?_
        refine OpsE.nil ?_
        refine Then.normal ?_
        refine WP.ret ?_
        refine Leave0.ret (v := .bool _) rfl ?_
        rw [hR] at H
        exact ⟨rfl, H.tail.tail.tail⟩
end Go.Proofs.Ytbhbdpbhhfemhaa
