/-
  Parts of the proof, joined in one file: Sep, Eng, Ops, Mix, Str, Lib1, Seq, TreeC, TreePC, Slices, Slices2, Slices3, InsC.
-/
import Derived.Below
import Derived.CallsIn
import Derived.Carry
import Derived.ChangeOld
import Derived.Deep.Quiet
import Derived.KernelRfl
import Derived.Laws.AppendOwn
import Derived.Laws.Cells
import Derived.Laws.CopyRow
import Derived.Laws.Externs
import Derived.Laws.StructEq
import Derived.Lib.Bytealg
import Derived.Lib.Bytes
import Derived.Lib.Overlaps
import Derived.OpenShut
import Derived.OrdersIn
import Derived.ProofKit
import Derived.RangeFuncIn
import Derived.RangeFuncLeaves
import Derived.RangeFuncRecord
import Derived.Scope
import Derived.ShutString
import Derived.SizedLaws
import Derived.Sort.AssemblyPlain
import Derived.TacticsIn
import Derived.Test.YtbhbdpbhhfemhaaRows
import Derived.Test.YtbhbdpbhhfemhaaProg
set_option linter.unusedSimpArgs false
set_option linter.unusedVariables false
/-
  A small separation logic over the heap of the model: pieces of heaps whose blocks are owned or shared (read only),
  lists of assertions, and what a world says of them. Nothing of the program.
-/
namespace Go.Proofs.Ytbhbdpbhhfemhaa
open Go

/-- a block, or what a world has beside its heap: the system and what was written out -/
inductive Cel where
  | obj (o : Obj)
  | env (e : Os × Array (Nat × ByteArray) × (Nat → Question → Nat))
def World.beside (w : World) : Os × Array (Nat × ByteArray) × (Nat → Question → Nat) := (w.os, w.output, w.tape)
def World.core (w : World) : Array Obj × Os × Array (Nat × ByteArray) × (Nat → Question → Nat) := (w.heap, w.os, w.output, w.tape)
abbrev Cl := Bool × Cel
abbrev Hp := Nat → Option Cl
def Hp.comp (h k : Hp) : Prop := ∀ b x y, h b = some x → k b = some y → x = y ∧ x.1 = true
def Hp.un (h k : Hp) : Hp := fun b => (h b).or (k b)
def HP : Type := Hp → Prop
def HP.one : HP := fun h => h = fun _ => none
def HP.sep (A B : HP) : HP := fun h => ∃ h1 h2, Hp.comp h1 h2 ∧ h = Hp.un h1 h2 ∧ A h1 ∧ B h2

theorem Hp.comp.symm {h k : Hp} (c : Hp.comp h k) : Hp.comp k h := fun b x y hx hy => by
  obtain ⟨e, t⟩ := c b y x hy hx
  subst e; exact ⟨rfl, t⟩

theorem Hp.un_comm {h k : Hp} (c : Hp.comp h k) : Hp.un h k = Hp.un k h := by
  funext b
  unfold Hp.un
  cases h1 : h b with
  | none => cases k b <;> rfl
  | some x =>
    cases h2 : k b with
    | none => rfl
    | some y => obtain ⟨e, _⟩ := c b x y h1 h2; subst e; rfl

theorem HP.sep_comm (A B : HP) : HP.sep A B = HP.sep B A := by
  funext h
  apply propext
  constructor
  · rintro ⟨h1, h2, c, rfl, a, b⟩
    exact ⟨h2, h1, c.symm, Hp.un_comm c, b, a⟩
  · rintro ⟨h1, h2, c, rfl, a, b⟩
    exact ⟨h2, h1, c.symm, Hp.un_comm c, b, a⟩

theorem Hp.un_assoc (h k m : Hp) : Hp.un (Hp.un h k) m = Hp.un h (Hp.un k m) := by
  funext b; unfold Hp.un; cases h b <;> rfl

theorem HP.sep_assoc1 (A B C : HP) (h : Hp) (H : HP.sep (HP.sep A B) C h) : HP.sep A (HP.sep B C) h := by
  obtain ⟨h12, h3, c, rfl, ⟨h1, h2, d, rfl, a, b⟩, cc⟩ := H
  have e23 : Hp.comp h2 h3 := fun x y z hy hz => by
    refine c x y z ?_ hz
    unfold Hp.un
    cases e : h1 x with
    | none => simpa using hy
    | some z => obtain ⟨r, _⟩ := d x z y e hy; subst r; rfl
  refine ⟨h1, Hp.un h2 h3, fun x y z hy hz => ?_, Hp.un_assoc _ _ _, a, h2, h3, e23, rfl, b, cc⟩
  unfold Hp.un at hz
  cases e : h2 x with
  | some q => rw [e] at hz; cases hz; exact d x y _ hy e
  | none =>
    rw [e] at hz
    exact c x y z (by unfold Hp.un; rw [hy]; rfl) (by simpa using hz)

theorem HP.sep_assoc (A B C : HP) : HP.sep (HP.sep A B) C = HP.sep A (HP.sep B C) := by
  funext h
  apply propext
  constructor
  · exact HP.sep_assoc1 A B C h
  · intro H
    rw [HP.sep_comm A, HP.sep_comm B] at H
    have := HP.sep_assoc1 C B A h H
    rw [HP.sep_comm C, HP.sep_comm B A] at this
    exact this

theorem HP.sep_left (A B C : HP) : HP.sep A (HP.sep B C) = HP.sep B (HP.sep A C) := by
  rw [← HP.sep_assoc, HP.sep_comm A B, HP.sep_assoc]

theorem HP.sep_one (A : HP) : HP.sep A HP.one = A := by
  funext h
  apply propext
  constructor
  · rintro ⟨h1, h2, _, rfl, a, rfl⟩
    have : Hp.un h1 (fun _ => none) = h1 := by funext b; unfold Hp.un; cases h1 b <;> rfl
    rw [this]; exact a
  · intro a
    refine ⟨h, fun _ => none, fun _ _ _ _ hz => (nomatch hz), ?_, a, rfl⟩
    funext b; unfold Hp.un; cases h b <;> rfl

/-- the assertions -/
def pt (b : Nat) (o : Obj) : HP := fun h => h = fun k => if k = b + 1 then some (false, .obj o) else none
def ro (b : Nat) (o : Obj) : HP := fun h => h = fun k => if k = b + 1 then some (true, .obj o) else none
def lift (p : Prop) : HP := fun h => p ∧ h = fun _ => none
def ex {α : Type} (f : α → HP) : HP := fun h => ∃ x, f x h
/-- all that lay in a world, read only -/
def initH (w : World) : Hp := fun k => match k with
  | 0 => some (true, .env (World.beside w))
  | k + 1 => (w.heap[k]?).map fun o => (true, .obj o)
def init (w : World) : HP := fun h => h = initH w

def stars : List HP → HP
  | [] => HP.one
  | A :: l => HP.sep A (stars l)

theorem stars_cons (A : HP) (l : List HP) : stars (A :: l) = HP.sep A (stars l) := rfl
theorem stars_append (l m : List HP) : stars (l ++ m) = HP.sep (stars l) (stars m) := by
  induction l with
  | nil => rw [List.nil_append, HP.sep_comm]; exact (HP.sep_one _).symm
  | cons A l ih => rw [List.cons_append, stars_cons, ih, stars_cons, HP.sep_assoc]

def Cel.at (w : World) : Nat → Cel → Prop
  | 0, .env e => World.beside w = e
  | k + 1, .obj o => w.heap[k]? = some o
  | _, _ => False
theorem Cel.at_mono {w w' : World} {k : Nat} {x : Cel} (he : World.beside w' = World.beside w) (hk : ∀ j, k = j + 1 → w'.heap[j]? = w.heap[j]?) (h : Cel.at w k x) : Cel.at w' k x := by
  cases k with
  | zero => cases x with
    | obj o => exact h.elim
    | env e => exact he.trans h
  | succ k => cases x with
    | obj o => exact (hk k rfl).trans h
    | env e => exact h.elim
def Hp.sub (h : Hp) (w : World) : Prop := ∀ b x, h b = some x → Cel.at w b x.2
def Sat (w : World) (l : List HP) : Prop := ∃ h, stars l h ∧ Hp.sub h w

theorem Sat.heap {w w' : World} {l : List HP} (H : Sat w l) (e : World.core w' = World.core w) : Sat w' l := by
  obtain ⟨h, a, s⟩ := H
  have e1 : w'.heap = w.heap := (Prod.mk.inj e).1
  have e2 : World.beside w' = World.beside w := (Prod.mk.inj e).2
  refine ⟨h, a, fun b x hx => ?_⟩
  have := s b x hx
  unfold Cel.at at *
  rw [e1, e2]; exact this

theorem Sat.perm {w : World} {l m : List HP} (H : Sat w l) (e : stars l = stars m) : Sat w m := by
  obtain ⟨h, a, s⟩ := H
  exact ⟨h, e ▸ a, s⟩

theorem Sat.nil (w : World) : Sat w [] := ⟨fun _ => none, rfl, fun _ _ h => by cases h⟩

/-- what lay in the beginning -/
theorem Sat.start (w : World) : Sat w [init w] := by
  refine ⟨_, (show stars [init w] _ from ⟨_, fun _ => none, fun _ _ _ _ h => (nomatch h), rfl, rfl, rfl⟩), fun b x hx => ?_⟩
  simp only [Hp.un] at hx
  cases b with
  | zero => cases hx; rfl
  | succ b =>
    cases e : w.heap[b]? with
    | none => simp [initH, e] at hx
    | some o => simp [initH, e] at hx; subst hx; exact e

theorem Sat.tail {w : World} {A : HP} {l : List HP} (H : Sat w (A :: l)) : Sat w l := by
  obtain ⟨h, ⟨h1, h2, c, rfl, _, b⟩, s⟩ := H
  refine ⟨h2, b, fun k x hx => s k x ?_⟩
  unfold Hp.un
  cases e : h1 k with
  | none => simpa using hx
  | some y => obtain ⟨r, _⟩ := c k y x e hx; subst r; rfl

theorem Sat.head {w : World} {A B : HP} {l : List HP} (H : Sat w (A :: l)) (f : ∀ h, A h → B h) : Sat w (B :: l) := by
  obtain ⟨h, ⟨h1, h2, c, e, a, b⟩, s⟩ := H
  exact ⟨h, ⟨h1, h2, c, e, f _ a, b⟩, s⟩

theorem sat_ex {w : World} {α : Type} {f : α → HP} {l : List HP} : Sat w (ex f :: l) ↔ ∃ x, Sat w (f x :: l) := by
  constructor
  · rintro ⟨h, ⟨h1, h2, c, e, ⟨x, a⟩, b⟩, s⟩
    exact ⟨x, h, ⟨h1, h2, c, e, a, b⟩, s⟩
  · rintro ⟨x, h, ⟨h1, h2, c, e, a, b⟩, s⟩
    exact ⟨h, ⟨h1, h2, c, e, ⟨x, a⟩, b⟩, s⟩

theorem sat_sep {w : World} {A B : HP} {l : List HP} : Sat w (HP.sep A B :: l) ↔ Sat w (A :: B :: l) := by
  unfold Sat
  rw [stars_cons, stars_cons, stars_cons, HP.sep_assoc]

theorem sat_stars {w : World} {m l : List HP} : Sat w (stars m :: l) ↔ Sat w (m ++ l) := by
  unfold Sat
  rw [stars_cons, stars_append]

theorem sat_lift {w : World} {p : Prop} {l : List HP} : Sat w (lift p :: l) ↔ p ∧ Sat w l := by
  constructor
  · intro H
    refine ⟨?_, H.tail⟩
    obtain ⟨h, ⟨h1, h2, c, e, a, b⟩, s⟩ := H
    exact a.1
  · rintro ⟨hp, h, a, s⟩
    refine ⟨h, ⟨fun _ => none, h, fun _ _ _ hx => (nomatch hx), ?_, ⟨hp, rfl⟩, a⟩, s⟩
    funext b; unfold Hp.un; rfl

/-- an assertion found in a list -/
class Take (l : List HP) (A : HP) (r : outParam (List HP)) : Prop where
  perm : stars l = HP.sep A (stars r)
instance takeHead (A : HP) (l : List HP) : Take (A :: l) A l := ⟨rfl⟩
instance takeTail (A B : HP) (l r : List HP) [t : Take l A r] : Take (B :: l) A (B :: r) :=
  ⟨by rw [stars_cons, t.perm, stars_cons, HP.sep_left]⟩

/-- a block found in a list: owned -/
class TakePt (l : List HP) (b : Nat) (o : outParam Obj) (r : outParam (List HP)) : Prop where
  perm : stars l = HP.sep (pt b o) (stars r)
instance takePtHead (b : Nat) (o : Obj) (l : List HP) : TakePt (pt b o :: l) b o l := ⟨rfl⟩
instance takePtTail (b : Nat) (o : Obj) (B : HP) (l r : List HP) [t : TakePt l b o r] : TakePt (B :: l) b o (B :: r) :=
  ⟨by rw [stars_cons, t.perm, stars_cons, HP.sep_left]⟩

theorem Sat.take {w : World} {l r : List HP} (H : Sat w l) (A : HP) [t : Take l A r] : Sat w (A :: r) := H.perm t.perm
theorem Sat.take2 {w : World} {l r1 r2 : List HP} (H : Sat w l) (A B : HP) [t : Take l A r1] [t2 : Take r1 B r2] : Sat w (A :: B :: r2) :=
  H.perm (by rw [t.perm, t2.perm]; rfl)
theorem Sat.take3 {w : World} {l r1 r2 r3 : List HP} (H : Sat w l) (A B C : HP) [t : Take l A r1] [t2 : Take r1 B r2] [t3 : Take r2 C r3] : Sat w (A :: B :: C :: r3) :=
  H.perm (by rw [t.perm, t2.perm, t3.perm]; rfl)
theorem Sat.takePt {w : World} {l r : List HP} {o : Obj} (H : Sat w l) (b : Nat) [t : TakePt l b o r] : Sat w (pt b o :: r) := H.perm t.perm

theorem Sat.back {w : World} {l r : List HP} {A : HP} (H : Sat w (A :: r)) [t : Take l A r] : Sat w l := H.perm t.perm.symm

theorem Sat.pt_get {w : World} {b : Nat} {o : Obj} {l : List HP} (H : Sat w (pt b o :: l)) : w.heap[b]? = some o := by
  obtain ⟨h, ⟨h1, h2, c, rfl, rfl, _⟩, s⟩ := H
  exact s (b + 1) (false, .obj o) (by simp [Hp.un])
theorem Sat.ro_get {w : World} {b : Nat} {o : Obj} {l : List HP} (H : Sat w (ro b o :: l)) : w.heap[b]? = some o := by
  obtain ⟨h, ⟨h1, h2, c, rfl, rfl, _⟩, s⟩ := H
  exact s (b + 1) (true, .obj o) (by simp [Hp.un])
theorem Sat.init_get {w w0 : World} {b : Nat} {o : Obj} {l : List HP} (H : Sat w (init w0 :: l)) (e : w0.heap[b]? = some o) : w.heap[b]? = some o := by
  obtain ⟨h, ⟨h1, h2, c, rfl, rfl, _⟩, s⟩ := H
  exact s (b + 1) (true, .obj o) (by simp [Hp.un, initH, e])
/-- the system and what was written out are as they were -/
theorem Sat.init_env {w w0 : World} {l : List HP} (H : Sat w (init w0 :: l)) : World.beside w = World.beside w0 := by
  obtain ⟨h, ⟨h1, h2, c, rfl, rfl, _⟩, s⟩ := H
  exact s 0 (true, .env (World.beside w0)) (by simp [Hp.un, initH])

/-- what block b holds, owned or read only -/
class Look (l : List HP) (b : Nat) (o : outParam Obj) : Prop where
  get : ∀ w, Sat w l → w.heap[b]? = some o
instance lookPt (b : Nat) (o : Obj) (l : List HP) : Look (pt b o :: l) b o := ⟨fun _ H => H.pt_get⟩
instance lookRo (b : Nat) (o : Obj) (l : List HP) : Look (ro b o :: l) b o := ⟨fun _ H => H.ro_get⟩
instance lookTail (b : Nat) (o : Obj) (A : HP) (l : List HP) [t : Look l b o] : Look (A :: l) b o := ⟨fun w H => t.get w H.tail⟩
theorem Sat.look {w : World} {l : List HP} (H : Sat w l) (b : Nat) {o : Obj} [t : Look l b o] : w.heap[b]? = some o := t.get w H

/-- two owned blocks are two -/
theorem Sat.ne {w : World} {b k : Nat} {o u : Obj} {l : List HP} (H : Sat w (pt b o :: pt k u :: l)) : b ≠ k := by
  rintro rfl
  obtain ⟨h, ⟨h1, h2, c, rfl, rfl, ⟨h3, h4, c', rfl, rfl, _⟩⟩, s⟩ := H
  have := (c (b + 1) (false, .obj o) (false, .obj u) (by simp) (by simp [Hp.un])).2
  simp at this

theorem Sat.lt {w : World} {b : Nat} {o : Obj} (e : w.heap[b]? = some o) : b < w.heap.size := (Array.getElem?_eq_some_iff.1 e).1

/-- an owned block is turned -/
theorem Sat.set {w w' : World} {b : Nat} {o o' : Obj} {l : List HP} (H : Sat w (pt b o :: l)) (hb : w'.heap[b]? = some o') (hk : ∀ k, k ≠ b → w'.heap[k]? = w.heap[k]?) (he : World.beside w' = World.beside w := by rfl) : Sat w' (pt b o' :: l) := by
  obtain ⟨h, ⟨h1, h2, c, rfl, rfl, a⟩, s⟩ := H
  have h2b : h2 (b + 1) = none := by
    cases e : h2 (b + 1) with
    | none => rfl
    | some y => have := (c (b + 1) (false, .obj o) y (by simp) e).2; simp at this
  refine ⟨_, ⟨fun k => if k = b + 1 then some (false, .obj o') else none, h2, ?_, rfl, rfl, a⟩, ?_⟩
  · intro k x y hx hy
    by_cases e : k = b + 1
    · subst e; rw [h2b] at hy; cases hy
    · simp [e] at hx
  · intro k x hx
    by_cases e : k = b + 1
    · subst e; simp [Hp.un] at hx; subst hx; exact hb
    · exact Cel.at_mono he (fun j hj => hk j fun h => e (by rw [hj, h])) (s k x (by simpa [Hp.un, e] using hx))

/-- a new block -/
theorem Sat.new {w w' : World} {o : Obj} {l : List HP} (H : Sat w l) (e : w'.heap = w.heap.push o) (he : World.beside w' = World.beside w := by rfl) : Sat w' (pt w.heap.size o :: l) := by
  obtain ⟨h, a, s⟩ := H
  have hn : h (w.heap.size + 1) = none := by
    cases e : h (w.heap.size + 1) with
    | none => rfl
    | some y =>
      have h1 := s _ _ e
      obtain ⟨y1, y2⟩ := y
      cases y2 with
      | obj o => have := Sat.lt (show w.heap[w.heap.size]? = some o from h1); omega
      | env e => exact h1.elim
  refine ⟨_, ⟨fun k => if k = w.heap.size + 1 then some (false, .obj o) else none, h, ?_, rfl, rfl, a⟩, ?_⟩
  · intro k x y hx hy
    by_cases e : k = w.heap.size + 1
    · subst e; rw [hn] at hy; cases hy
    · simp [e] at hx
  · intro k x hx
    by_cases e' : k = w.heap.size + 1
    · subst e'; simp [Hp.un] at hx; subst hx; show w'.heap[w.heap.size]? = some o; rw [e]; simp
    · have hx' : h k = some x := by simpa [Hp.un, e'] using hx
      exact Cel.at_mono he (fun j hj => by rw [e, Array.getElem?_push, if_neg (fun h => e' (by rw [hj, h]))]) (s k x hx')

/-- an owned block becomes one that is only read -/
theorem Sat.freeze {w : World} {b : Nat} {o : Obj} {l : List HP} (H : Sat w (pt b o :: l)) : Sat w (ro b o :: l) := by
  obtain ⟨h, ⟨h1, h2, c, rfl, rfl, a⟩, s⟩ := H
  have h2b : h2 (b + 1) = none := by
    cases e : h2 (b + 1) with
    | none => rfl
    | some y => have := (c (b + 1) (false, .obj o) y (by simp) e).2; simp at this
  refine ⟨_, ⟨fun k => if k = b + 1 then some (true, .obj o) else none, h2, ?_, rfl, rfl, a⟩, ?_⟩
  · intro k x y hx hy
    by_cases e : k = b + 1
    · subst e; rw [h2b] at hy; cases hy
    · simp [e] at hx
  · intro k x hx
    by_cases e : k = b + 1
    · subst e; simp [Hp.un] at hx; subst hx; exact s (b + 1) (false, .obj o) (by simp [Hp.un])
    · refine s k x ?_; simpa [Hp.un, e] using hx

/-- assertions that may be had twice -/
def Dup (A : HP) : Prop := A = HP.sep A A
theorem ro_dup (b : Nat) (o : Obj) : Dup (ro b o) := by
  funext h
  apply propext
  constructor
  · rintro rfl
    refine ⟨_, _, fun k x y hx hy => ?_, ?_, rfl, rfl⟩
    · by_cases e : k = b + 1
      · subst e; simp at hx hy; subst hx; subst hy; exact ⟨rfl, rfl⟩
      · simp [e] at hx
    · funext k; by_cases e : k = b + 1 <;> simp [Hp.un, e]
  · rintro ⟨h1, h2, c, rfl, rfl, rfl⟩
    funext k; by_cases e : k = b + 1 <;> simp [Hp.un, e]
theorem one_dup : Dup HP.one := (HP.sep_one _).symm
theorem sep_dup {A B : HP} (a : Dup A) (b : Dup B) : Dup (HP.sep A B) := by
  unfold Dup at *
  rw [HP.sep_assoc, HP.sep_left B, ← HP.sep_assoc A A, ← a, ← b]
theorem stars_dup {l : List HP} (h : ∀ A ∈ l, Dup A) : Dup (stars l) := by
  induction l with
  | nil => exact one_dup
  | cons A l ih => exact sep_dup (h A (by simp)) (ih fun B hB => h B (by simp [hB]))
theorem lift_dup (p : Prop) : Dup (lift p) := by
  funext h
  apply propext
  constructor
  · rintro ⟨hp, rfl⟩
    exact ⟨fun _ => none, fun _ => none, fun _ _ _ hx => (nomatch hx), rfl, ⟨hp, rfl⟩, ⟨hp, rfl⟩⟩
  · rintro ⟨h1, h2, c, rfl, ⟨hp, rfl⟩, ⟨_, rfl⟩⟩
    exact ⟨hp, rfl⟩
theorem Sat.dup {w : World} {A : HP} {l : List HP} (H : Sat w (A :: l)) (d : Dup A) : Sat w (A :: A :: l) := by
  refine H.perm ?_
  rw [stars_cons, stars_cons, stars_cons, ← HP.sep_assoc, ← d]

/-- a block of the beginning, read only, beside it -/
theorem init_sep_ro {w0 : World} {b : Nat} {o : Obj} (e : w0.heap[b]? = some o) : init w0 = HP.sep (ro b o) (init w0) := by
  have e0 : initH w0 (b + 1) = some (true, .obj o) := by simp [initH, e]
  funext h
  apply propext
  constructor
  · rintro rfl
    refine ⟨_, _, fun k x y hx hy => ?_, ?_, rfl, rfl⟩
    · by_cases e' : k = b + 1
      · subst e'; rw [e0] at hy; simp at hx hy; subst hx; subst hy; exact ⟨rfl, rfl⟩
      · simp [e'] at hx
    · funext k
      by_cases e' : k = b + 1
      · subst e'; simp [Hp.un, e0]
      · simp [Hp.un, e']
  · rintro ⟨h1, h2, c, rfl, rfl, rfl⟩
    funext k
    by_cases e' : k = b + 1
    · subst e'; simp [Hp.un, e0]
    · simp [Hp.un, e']
theorem Sat.init_ro {w w0 : World} {b : Nat} {o : Obj} {l : List HP} (H : Sat w (init w0 :: l)) (e : w0.heap[b]? = some o) : Sat w (ro b o :: init w0 :: l) := by
  refine H.perm ?_
  rw [stars_cons, stars_cons, stars_cons, ← HP.sep_assoc, ← init_sep_ro e]

theorem Sat.size {w w0 : World} {l : List HP} (H : Sat w (init w0 :: l)) : w0.heap.size ≤ w.heap.size := by
  rcases Nat.eq_zero_or_pos w0.heap.size with h | h
  · omega
  · have e : w0.heap[w0.heap.size - 1]? = some (w0.heap[w0.heap.size - 1]'(by omega)) := by simp
    have := Sat.lt (H.init_get e)
    omega

end Go.Proofs.Ytbhbdpbhhfemhaa

/-
  A calculus over environments: what a piece of code comes to, from the temporaries as a function and a world.
  Sound by the library's own rules. Nothing of the program.
-/
namespace Go.Proofs.Ytbhbdpbhhfemhaa
open Go

abbrev Wd (r : Option Nat) : Fence := { Fence.wide with round := r }
abbrev Env := Nat → Value
def upd (N : Nat) (E : Env) (t : Nat) (v : Value) : Env := fun u => bif Nat.beq u t then (bif Nat.blt t N then v else E u) else E u
def evE (E : Env) : Operand → Value
  | .tmp t => E t
  | .const v => v
  | .global g => .pointer (some ⟨g, 0, none⟩)
  | .func f => .func (.func f) #[] #[]
def putE (N : Nat) (d : Option Tmp) (E : Env) (v : Value) : Env := match d with | some t => upd N E t v | none => E

structure Rep (N : Nat) (E : Env) (ds : List Deferred) (a : Act) : Prop where
  size : a.tmps.size = N
  env : ∀ t, a.tmps.getD t undef = E t
  ds : a.defers = ds

theorem Rep.eval {N : Nat} {E : Env} {ds : List Deferred} {a : Act} (h : Rep N E ds a) : a.eval = evE E := by
  funext x
  cases x with
  | tmp t => exact h.env t
  | const v => rfl
  | global g => rfl
  | func f => rfl

theorem upd_get (N : Nat) (E : Env) (t : Nat) (v : Value) (u : Nat) : upd N E t v u = if u = t ∧ t < N then v else E u := by
  unfold upd
  cases hb : Nat.beq u t with
  | false =>
    have : ¬ u = t := fun h => by subst h; rw [Nat.beq_refl] at hb; cases hb
    simp [this]
  | true =>
    have e : u = t := Nat.eq_of_beq_eq_true hb
    cases hl : Nat.blt t N with
    | true =>
      have : t < N := by simpa [Nat.blt_eq] using hl
      simp [e, this]
    | false =>
      have : ¬ t < N := fun h => by rw [← Nat.blt_eq] at h; rw [h] at hl; cases hl
      simp [this]

theorem Rep.put {N : Nat} {E : Env} {ds : List Deferred} {a : Act} (h : Rep N E ds a) (d : Option Tmp) (v : Value) : Rep N (putE N d E v) ds (a.put d v) := by
  cases d with
  | none => exact h
  | some t =>
    refine ⟨by simp [Act.put, h.size], fun u => ?_, h.ds⟩
    simp only [putE, upd_get, Act.put]
    rw [← h.env u, ← h.size]
    simp only [Array.getD_eq_getD_getElem?, Array.getElem?_setIfInBounds]
    by_cases e : t = u
    · subst e
      by_cases g : t < a.tmps.size
      · simp [g]
      · simp [g]
    · have e' : ¬ u = t := fun h => e h.symm
      simp [e, e']

def yieldE (ops : Array Oper) (E : Env) (j : Nat) : Option Bool :=
  match (ops[j]?).bind (·.dst) with
  | some d => (match E d with | .bool b => some b | _ => none)
  | none => none

theorem yieldE_eq {N : Nat} {E : Env} {ds : List Deferred} {a : Act} (h : Rep N E ds a) (ops : Array Oper) : yielded ops a.tmps = yieldE ops E := by
  funext j
  unfold yielded yieldE
  cases e : (ops[j]?).bind (·.dst) with
  | none => rfl
  | some d =>
    simp only [Option.bind_some]
    rw [← h.env d]
    by_cases g : d < a.tmps.size
    · simp only [Array.getD_eq_getD_getElem?, Array.getElem?_eq_getElem g, Option.getD_some]
      cases a.tmps[d] <;> rfl
    · simp only [Array.getD_eq_getD_getElem?, Array.getElem?_eq_none (Nat.le_of_not_lt g), Option.getD_none]
      rfl

def Ret (K : Value → World → Prop) : Ending → World → Prop := fun e w => ∃ v, e = .returned v ∧ K v w

theorem calls_wd {r : Option Nat} {n : Nat} {P : Program} {f : FuncId} {args : Array Value} {w : World} {R : Ending → World → Prop} : CallsIn (Wd r) n P f args w R ↔ Calls P f args w R :=
  callsIn_wide (n := n)

def Rnd (P : Program) (l : Nat) (f : FuncId) (tmps : Array Value) (assign body : Code) (w : World) (R : Ending → World → Prop) : Prop :=
  RoundIn Fence.wide 0 P l f tmps assign body w R

def xop (E : Env) (op : Op) (ty : TypeId) : Sem Next := execOp (evE E) { dst := none, op, type := ty, pos := "", after := #[], guard := none }
theorem execOp_xop (E : Env) (o : Oper) : execOp (evE E) o = xop E o.op o.type := rfl

def StepK (P : Program) (K : Value → World → Prop) : Result Next → Prop
  | .ok (.value v) w' => K v w'
  | .ok .skip w' => K undef w'
  | .ok (.enter f args) w' => Calls P f args w' (Ret K)
  | .ok (.round l f tmps assign body) w' => Rnd P l f tmps assign body w' (Ret K)
  | _ => False

abbrev Post := Exit → Env → List Deferred → World → Prop

def OpsE (P : Program) (N : Nat) (ops : Array Oper) (Q : Post) : List Oper → Env → List Deferred → World → Prop
  | [], E, ds, w => Q .normal E ds w
  | o :: rest, E, ds, w =>
    if Region.wanted o (yieldE ops E) then StepK P (fun v w' => OpsE P N ops Q rest (putE N o.dst E v) ds w') ((xop E o.op o.type).run P w)
    else OpsE P N ops Q rest (putE N o.dst E undef) ds w

def PostA (N : Nat) (Q : Post) : Exit → Act → World → Prop := fun e a w => ∃ E ds, Rep N E ds a ∧ Q e E ds w

theorem semAt_plain {r : Option Nat} {ρ : Operand → Value} {o : Oper} (h : ∀ c, o.op ≠ .defer c) : o.semAt r ρ = execOp ρ o := by
  cases r with
  | none => exact Oper.semAt_none ρ o
  | some l => exact Oper.semAt_some l ρ o h

theorem stepK_in {r : Option Nat} {P : Program} {N : Nat} {o : Oper} {E : Env} {ds : List Deferred} {a : Act} {w : World} {K : Value → World → Prop} {next : Act → World → Prop} {Q : Exit → Act → World → Prop}
    (hr : Rep N E ds a) (h : StepK P K ((xop E o.op o.type).run P w)) (hk : ∀ v w', K v w' → next (a.put o.dst v) w') :
    o.wpIn (Wd r) 0 P a w next Q := by
  refine ⟨fun _ _ => trivial, ?_⟩
  have hd : ∀ c, o.op ≠ .defer c := by
    intro c hc
    rw [hc] at h
    simp only [xop, execOp] at h
    unfold resolve at h
    cases hcal : c.callee with
    | builtin b => simp [hcal, StepK] at h
    | invoke x y => simp [hcal, StepK] at h
    | value f =>
      simp only [hcal] at h
      cases hf : evE E f <;> simp [hf, Deferred.ofValue, StepK] at h
  rw [semAt_plain hd, hr.eval, execOp_xop]
  generalize (xop E o.op o.type).run P w = res at h
  cases res with
  | halt x w' => exact h.elim
  | ok x w' =>
    cases x with
    | value v => exact hk v w' h
    | skip => exact hk _ w' h
    | enter f args =>
      refine ⟨fun hx => by simp [Fence.wide] at hx, calls_wd.2 (h.mono ?_)⟩
      rintro e w'' ⟨v, rfl, hv⟩
      exact hk v w'' hv
    | round l f tmps assign body =>
      refine ⟨fun hx => by simp [Fence.wide] at hx, ?_⟩
      have h' : RoundIn (Wd r) (0 - 1) P l f tmps assign body w' (Ret K) := h
      refine h'.mono ?_
      rintro e w'' ⟨v, rfl, hv⟩
      exact hk v w'' hv
    | _ => exact h.elim

theorem opsE_in {r : Option Nat} {P : Program} {N : Nat} {ops : Array Oper} {Q : Post} (l : List Oper) : ∀ (E : Env) (ds : List Deferred) (a : Act) (w : World), Rep N E ds a → OpsE P N ops Q l E ds w →
    wpListIn (Wd r) 0 P ops (PostA N Q) l a w := by
  induction l with
  | nil => exact fun E ds a w hr h => ⟨E, ds, hr, h⟩
  | cons o rest ih =>
    intro E ds a w hr h
    simp only [OpsE] at h
    simp only [wpListIn]
    rw [yieldE_eq hr]
    by_cases hw : Region.wanted o (yieldE ops E) = true
    · rw [if_pos hw] at h
      rw [if_pos hw]
      exact stepK_in hr h fun v w' hv => ih _ ds _ w' (hr.put _ _) hv
    · rw [if_neg hw] at h
      rw [if_neg hw]
      exact ⟨fun _ _ => trivial, ih _ ds _ w (hr.put _ _) h⟩

def WP (P : Program) (r : Option Nat) (N : Nat) (c : Code) (Q : Post) (E : Env) (ds : List Deferred) (w : World) : Prop :=
  ∀ a, Rep N E ds a → c.wpIn (Wd r) 0 P (PostA N Q) a w

section rules
variable {P : Program} {r : Option Nat} {N : Nat} {Q : Post} {E : Env} {ds : List Deferred} {w : World}

def Then (K : Env → List Deferred → World → Prop) (Q : Post) : Post
  | .normal, E, ds, w => K E ds w
  | e, E, ds, w => Q e E ds w
def InBlock (id : Nat) (Q : Post) : Post
  | .exit id', E, ds, w => if id' = id then Q .normal E ds w else Q (.exit id') E ds w
  | e, E, ds, w => Q e E ds w

theorem WP.mono {c : Code} {Q' : Post} (h : WP P r N c Q E ds w) (hq : ∀ e E ds w, Q e E ds w → Q' e E ds w) : WP P r N c Q' E ds w :=
  fun a hr => wpIn_mono (h a hr) fun _ _ _ ⟨E, ds, hr, q⟩ => ⟨E, ds, hr, hq _ _ _ _ q⟩

theorem WP.seq {x y : Code} (h : WP P r N x (Then (fun E ds w => WP P r N y Q E ds w) Q) E ds w) : WP P r N (.seq x y) Q E ds w := by
  intro a hr
  refine wpIn_seq (wpIn_mono (h a hr) ?_)
  rintro e a' w' ⟨E', ds', hr', q⟩
  cases e with
  | normal => exact q a' hr'
  | _ => exact ⟨E', ds', hr', q⟩
theorem WP.skip (h : Q .normal E ds w) : WP P r N .skip Q E ds w := fun _ hr => wpIn_skip ⟨E, ds, hr, h⟩
theorem WP.label {l : Nat} (h : Q .normal E ds w) : WP P r N (.label l) Q E ds w := fun _ hr => wpIn_label ⟨E, ds, hr, h⟩
theorem WP.exit {id : Nat} (h : Q (.exit id) E ds w) : WP P r N (.exit id) Q E ds w := fun _ hr => wpIn_exit ⟨E, ds, hr, h⟩
theorem WP.ret (h : Q .ret E ds w) : WP P r N .ret Q E ds w := fun _ hr => wpIn_ret ⟨E, ds, hr, h⟩
theorem WP.cond {c : Operand} {x y : Code} {b : Bool} (hc : evE E c = .bool b) (ht : b = true → WP P r N x Q E ds w) (hf : b = false → WP P r N y Q E ds w) : WP P r N (.cond c x y) Q E ds w := by
  intro a hr
  refine wpIn_cond (t := b) (by rw [hr.eval]; exact hc) ?_
  cases b with
  | true => exact ht rfl a hr
  | false => exact hf rfl a hr
theorem WP.cond_t {c : Operand} {x y : Code} {b : Bool} (hc : evE E c = .bool b) (hb : b = true) (ht : WP P r N x Q E ds w) : WP P r N (.cond c x y) Q E ds w :=
  WP.cond hc (fun _ => ht) fun h => by rw [h] at hb; cases hb
theorem WP.cond_f {c : Operand} {x y : Code} {b : Bool} (hc : evE E c = .bool b) (hb : b = false) (hf : WP P r N y Q E ds w) : WP P r N (.cond c x y) Q E ds w :=
  WP.cond hc (fun h => by rw [h] at hb; cases hb) fun _ => hf
theorem WP.block {id : Nat} {c : Code} (h : WP P r N c (InBlock id Q) E ds w) : WP P r N (.block id c) Q E ds w := by
  intro a hr
  refine wpIn_block (wpIn_mono (h a hr) ?_)
  rintro e a' w' ⟨E', ds', hr', q⟩
  cases e with
  | exit id' =>
    simp only [InBlock] at q
    simp only [Exit.inBlock]
    split
    · rename_i hi; rw [if_pos hi] at q; exact ⟨E', ds', hr', q⟩
    · rename_i hi; rw [if_neg hi] at q; exact ⟨E', ds', hr', q⟩
  | _ => exact ⟨E', ds', hr', q⟩
theorem WP.region {id : Nat} {ops : Array Oper} (h : OpsE P N ops Q ops.toList E ds w) : WP P r N (.region id ops false) Q E ds w :=
  fun a hr => wpIn_region_list (opsE_in _ E ds a w hr h)

theorem least {p : Nat → Prop} (h : ∃ n, p n) : ∃ n, p n ∧ ∀ m, p m → n ≤ m := by
  obtain ⟨n, hn⟩ := h
  induction n using Nat.strongRecOn with
  | _ n ih =>
    by_cases hm : ∃ m, m < n ∧ p m
    · obtain ⟨m, hlt, hm⟩ := hm
      exact ih m hlt hm
    · exact ⟨n, hn, fun m hp => Nat.le_of_not_lt fun hlt => hm ⟨m, hlt, hp⟩⟩

open Classical in
theorem WP.loop {σ : Type} {c : Code} (I : σ → Env → List Deferred → World → Prop) (μ : σ → Nat) (s0 : σ) (h0 : I s0 E ds w)
    (round : ∀ s E ds w, I s E ds w → WP P r N c (Then (fun E' ds' w' => ∃ s', μ s' < μ s ∧ I s' E' ds' w') Q) E ds w) : WP P r N (.loop c) Q E ds w := by
  intro a hr
  have hex : ∀ (a : Act) (w : World), (∃ n E ds s, Rep N E ds a ∧ I s E ds w ∧ μ s = n) → ∃ n, (∃ E ds s, Rep N E ds a ∧ I s E ds w ∧ μ s = n) ∧ ∀ m, (∃ E ds s, Rep N E ds a ∧ I s E ds w ∧ μ s = m) → n ≤ m :=
    fun a w h => least h
  let ν : Act → World → Nat := fun a w => if h : (∃ n E ds s, Rep N E ds a ∧ I s E ds w ∧ μ s = n) then (hex a w h).choose else 0
  refine wpIn_loop (fun a w => ∃ n E ds s, Rep N E ds a ∧ I s E ds w ∧ μ s = n) ν ⟨_, E, ds, s0, hr, h0, rfl⟩ ?_
  intro a w hI
  obtain ⟨⟨E, ds, s, hr, hs, hn⟩, hmin⟩ := (hex a w hI).choose_spec
  have hν : ν a w = μ s := by
    show (if h : _ then _ else 0) = _
    rw [dif_pos hI]; exact hn.symm
  refine wpIn_mono (round s E ds w hs a hr) ?_
  rintro e a' w' ⟨E', ds', hr', q⟩
  cases e with
  | normal =>
    obtain ⟨s', hlt, hs'⟩ := q
    have hI' : ∃ n E ds s, Rep N E ds a' ∧ I s E ds w' ∧ μ s = n := ⟨_, E', ds', s', hr', hs', rfl⟩
    refine ⟨hI', ?_⟩
    have h1 : ν a' w' ≤ μ s' := by
      show (if h : _ then _ else 0) ≤ _
      rw [dif_pos hI']
      exact (hex a' w' hI').choose_spec.2 _ ⟨E', ds', s', hr', hs', rfl⟩
    omega
  | _ => exact ⟨E', ds', hr', q⟩

theorem Then.normal {K : Env → List Deferred → World → Prop} (h : K E ds w) : Then K Q .normal E ds w := h
theorem Then.ret {K : Env → List Deferred → World → Prop} (h : Q .ret E ds w) : Then K Q .ret E ds w := h
theorem Then.exit {K : Env → List Deferred → World → Prop} {id : Nat} (h : Q (.exit id) E ds w) : Then K Q (.exit id) E ds w := h
theorem InBlock.normal {id : Nat} (h : Q .normal E ds w) : InBlock id Q .normal E ds w := h
theorem InBlock.ret {id : Nat} (h : Q .ret E ds w) : InBlock id Q .ret E ds w := h
theorem InBlock.hit {id : Nat} (h : Q .normal E ds w) : InBlock id Q (.exit id) E ds w := by
  show (if id = id then _ else _)
  rw [if_pos rfl]; exact h
theorem InBlock.miss {id id' : Nat} (hn : Nat.beq id' id = false) (h : Q (.exit id') E ds w) : InBlock id Q (.exit id') E ds w := by
  show (if id' = id then _ else _)
  rw [if_neg (fun e => by subst e; rw [Nat.beq_refl] at hn; cases hn)]; exact h

/-- the same but for some temporaries -/
def Same (L : List Nat) (E E0 : Env) : Prop := ∀ t, L.elem t = false → E t = E0 t
theorem Same.refl (L : List Nat) (E : Env) : Same L E E := fun _ _ => rfl
theorem Same.upd {L : List Nat} {E E0 : Env} {t : Nat} {v : Value} (h : Same L E E0) (ht : L.elem t = true) : Same L (upd N E t v) E0 := fun u hu => by
  rw [upd_get, if_neg]
  · exact h u hu
  · rintro ⟨rfl, _⟩; rw [ht] at hu; cases hu

theorem WP.loopS {σ : Type} {c : Code} (L : List Nat) (I : σ → Env → World → Prop) (μ : σ → Nat) (s0 : σ) (h0 : I s0 E w)
    (round : ∀ s E' w', Same L E' E → I s E' w' → WP P r N c (Then (fun E'' ds'' w'' => ds'' = ds ∧ Same L E'' E ∧ ∃ s', μ s' < μ s ∧ I s' E'' w'') Q) E' ds w') : WP P r N (.loop c) Q E ds w := by
  refine WP.loop (fun s E' ds' w' => ds' = ds ∧ Same L E' E ∧ I s E' w') μ s0 ⟨rfl, Same.refl L E, h0⟩ ?_
  rintro s E' ds' w' ⟨rfl, hs, hI⟩
  refine (round s E' w' hs hI).mono ?_
  intro e E'' ds'' w'' q
  cases e with
  | normal => obtain ⟨h1, h2, s', hlt, h3⟩ := q; exact ⟨s', hlt, h1, h2, h3⟩
  | _ => exact q

/-- a piece of code, what stands behind it asked once -/
theorem WP.cut {x y : Code} (M : Env → List Deferred → World → Prop) (h : WP P r N x (Then M Q) E ds w) (k : ∀ E' ds' w', M E' ds' w' → WP P r N y Q E' ds' w') : WP P r N (.seq x y) Q E ds w := by
  refine WP.seq (h.mono ?_)
  intro e E' ds' w' q
  cases e with
  | normal => exact k E' ds' w' q
  | _ => exact q
theorem WP.cutS {x y : Code} (L : List Nat) (M : Env → World → Prop) (h : WP P r N x (Then (fun E' ds' w' => ds' = ds ∧ Same L E' E ∧ M E' w') Q) E ds w) (k : ∀ E' w', Same L E' E → M E' w' → WP P r N y Q E' ds w') : WP P r N (.seq x y) Q E ds w := by
  refine WP.cut _ h ?_
  rintro E' ds' w' ⟨rfl, hs, hm⟩
  exact k E' w' hs hm

/-! ### operations -/
variable {ops : Array Oper} {rest : List Oper} {d : Nat} {op : Op} {ty : TypeId} {pos : String} {af : Array Edge}

theorem OpsE.nil (h : Q .normal E ds w) : OpsE P N ops Q [] E ds w := h
theorem OpsE.val {v : Value} {w' : World} (h : (xop E op ty).run P w = .ok (.value v) w') (k : OpsE P N ops Q rest (upd N E d v) ds w') :
    OpsE P N ops Q (⟨some d, op, ty, pos, af, none⟩ :: rest) E ds w := by
  unfold OpsE
  rw [if_pos (by rfl)]
  simp only [h]
  exact k
theorem OpsE.val0 {v : Value} {w' : World} (h : (xop E op ty).run P w = .ok (.value v) w') (k : OpsE P N ops Q rest E ds w') :
    OpsE P N ops Q (⟨none, op, ty, pos, af, none⟩ :: rest) E ds w := by
  unfold OpsE
  rw [if_pos (by rfl)]
  simp only [h]
  exact k
theorem OpsE.skip {w' : World} (h : (xop E op ty).run P w = .ok .skip w') (k : OpsE P N ops Q rest E ds w') :
    OpsE P N ops Q (⟨none, op, ty, pos, af, none⟩ :: rest) E ds w := by
  unfold OpsE
  rw [if_pos (by rfl)]
  simp only [h]
  exact k
theorem OpsE.call {f : FuncId} {args : Array Value} {w' : World} {K : Value → World → Prop} (h : (xop E op ty).run P w = .ok (.enter f args) w') (c : Calls P f args w' (Ret K))
    (k : ∀ v w'', K v w'' → OpsE P N ops Q rest (upd N E d v) ds w'') : OpsE P N ops Q (⟨some d, op, ty, pos, af, none⟩ :: rest) E ds w := by
  unfold OpsE
  rw [if_pos (by rfl)]
  simp only [h]
  refine c.mono ?_
  rintro e w'' ⟨v, rfl, hv⟩
  exact ⟨v, rfl, k v w'' hv⟩
theorem OpsE.call0 {f : FuncId} {args : Array Value} {w' : World} {K : Value → World → Prop} (h : (xop E op ty).run P w = .ok (.enter f args) w') (c : Calls P f args w' (Ret K))
    (k : ∀ v w'', K v w'' → OpsE P N ops Q rest E ds w'') : OpsE P N ops Q (⟨none, op, ty, pos, af, none⟩ :: rest) E ds w := by
  unfold OpsE
  rw [if_pos (by rfl)]
  simp only [h]
  refine c.mono ?_
  rintro e w'' ⟨v, rfl, hv⟩
  exact ⟨v, rfl, k v w'' hv⟩
/-- a guarded operation that is wanted; one that is not -/
theorem OpsE.yes {o : Option Nat} {g : Nat × Bool} (hw : Region.wanted ⟨o, op, ty, pos, af, some g⟩ (yieldE ops E) = true) (k : OpsE P N ops Q (⟨o, op, ty, pos, af, none⟩ :: rest) E ds w) :
    OpsE P N ops Q (⟨o, op, ty, pos, af, some g⟩ :: rest) E ds w := by
  unfold OpsE at *
  rw [if_pos hw]
  rw [if_pos (by rfl)] at k
  exact k
theorem OpsE.no {g : Nat × Bool} (hw : Region.wanted ⟨some d, op, ty, pos, af, some g⟩ (yieldE ops E) = false) (k : OpsE P N ops Q rest (upd N E d undef) ds w) :
    OpsE P N ops Q (⟨some d, op, ty, pos, af, some g⟩ :: rest) E ds w := by
  unfold OpsE
  rw [if_neg (by rw [hw]; simp)]
  exact k
theorem OpsE.no0 {g : Nat × Bool} (hw : Region.wanted ⟨none, op, ty, pos, af, some g⟩ (yieldE ops E) = false) (k : OpsE P N ops Q rest E ds w) :
    OpsE P N ops Q (⟨none, op, ty, pos, af, some g⟩ :: rest) E ds w := by
  unfold OpsE
  rw [if_neg (by rw [hw]; simp)]
  exact k
end rules

/-! ### a region that draws its order, all of whose operations keep to a class of worlds -/
def QStep (P : Program) (C : World → Prop) (op : Op) (ty : TypeId) (E : Env) (v : Value) : Prop :=
  ∀ w, C w → Oper.quietUpon P C w v ((xop E op ty).run P w)

def QuietE (P : Program) (N : Nat) (ops : Array Oper) (C : World → Prop) (K : Env → Prop) : List Oper → Env → Prop
  | [], E => K E
  | o :: rest, E =>
    if Region.wanted o (yieldE ops E) then ∃ v, QStep P C o.op o.type E v ∧ QuietE P N ops C K rest (putE N o.dst E v)
    else QuietE P N ops C K rest (putE N o.dst E undef)

theorem quietE_in {P : Program} {N : Nat} {ops : Array Oper} {C : World → Prop} {K : Env → Prop} {ds : List Deferred} (l : List Oper) : ∀ (E : Env) (a : Act), Rep N E ds a → QuietE P N ops C K l E →
    wpQuiet P ops C (fun a' => ∃ E', Rep N E' ds a' ∧ K E') l a := by
  induction l with
  | nil => exact fun E a hr h => ⟨E, hr, h⟩
  | cons o rest ih =>
    intro E a hr h
    simp only [QuietE] at h
    simp only [wpQuiet]
    rw [yieldE_eq hr]
    by_cases hw : Region.wanted o (yieldE ops E) = true
    · rw [if_pos hw] at h
      rw [if_pos hw]
      obtain ⟨v, hv, h⟩ := h
      refine ⟨v, fun w hC => ?_, ih _ _ (hr.put _ _) h⟩
      unfold Oper.quietAt
      rw [hr.eval, execOp_xop]
      exact hv w hC
    · rw [if_neg hw] at h
      rw [if_neg hw]
      exact ih _ _ (hr.put _ _) h

theorem wpIn_of_quiet {r : Option Nat} {P : Program} {o : Oper} {C : World → Prop} {a : Act} {K : Act → Prop} {K' : Act → World → Prop} {Q' : Exit → Act → World → Prop} {w : World} (hw : C w)
    (h : ∀ a w', C w' → K a → K' a w') (hh : o.quiet P a C K) : o.wpIn (Wd r) 0 P a w K' Q' := by
  obtain ⟨v, h1, h2⟩ := hh
  have h3 := h1 w hw
  unfold Oper.quietAt at h3
  refine ⟨fun _ _ => trivial, ?_⟩
  have hd : ∀ c, o.op ≠ .defer c := by
    intro c hc
    unfold execOp at h3
    rw [hc] at h3
    simp only at h3
    unfold resolve at h3
    cases hcal : c.callee with
    | builtin b => simp [hcal, Oper.quietUpon] at h3
    | invoke x y => simp [hcal, Oper.quietUpon] at h3
    | value f =>
      simp only [hcal] at h3
      cases hf : a.eval f <;> simp [hf, Deferred.ofValue, Oper.quietUpon] at h3
  rw [semAt_plain hd]
  generalize (execOp a.eval o).run P w = res at h3
  cases res with
  | halt x w' => exact h3.elim
  | ok x w' =>
    cases x with
    | value u =>
      obtain ⟨e1, e2⟩ := h3
      rw [e1, e2]
      exact h _ _ hw h2
    | skip =>
      obtain ⟨e1, e2⟩ := h3
      have h4 := h _ _ hw h2
      rw [e2] at h4
      rw [e1]
      exact h4
    | enter f args =>
      obtain ⟨e1, hc⟩ := h3
      rw [e1]
      refine ⟨fun hx => by simp [Fence.wide] at hx, calls_wd.2 (hc.mono ?_)⟩
      rintro e w'' ⟨he, hw''⟩
      subst he
      exact h _ _ hw'' h2
    | _ => exact h3.elim

theorem wpOpIn_of_q {r : Option Nat} {P : Program} {ops : Array Oper} {C : World → Prop} {i : Nat} {a : Act} {K : Act → Prop} {K' : Act → World → Prop} {Q' : Exit → Act → World → Prop} {w : World} (hC : C w)
    (h : ∀ a w', C w' → K a → K' a w') (hh : qOp P ops C i K a) : wpOpIn (Wd r) 0 P ops Q' i K' a w := by
  unfold qOp at hh
  unfold wpOpIn
  cases ho : ops[i]? with
  | none => simp only [ho] at hh ⊢; exact h _ _ hC hh
  | some o =>
    simp only [ho] at hh ⊢
    by_cases hw : Region.wanted o (yielded ops a.tmps) = true
    · simp only [hw, if_true] at hh ⊢; exact wpIn_of_quiet hC h hh
    · simp only [hw] at hh ⊢; exact ⟨fun _ _ => trivial, h _ _ hC hh⟩

theorem wpAnyIn_of_q {r : Option Nat} {P : Program} {md : Region.Mode} {ops : Array Oper} {C : World → Prop} {Q : Act → Prop} {Q' : Exit → Act → World → Prop} (hQ : ∀ a w, C w → Q a → Q' .normal a w) :
    ∀ (fuel : Nat) (listed : Array Bool) (a : Act) (w : World), C w → wpAnyQ P md ops C Q fuel listed a → wpAnyIn (Wd r) 0 P md ops Q' fuel listed a w
  | 0, _, _, _, hw, h => ⟨h.1, hQ _ _ hw h.2⟩
  | fuel + 1, _, _, _, hw, h => ⟨fun h0 => hQ _ _ hw (h.1 h0), fun i hi => wpOpIn_of_q hw (fun a' w' hw' => wpAnyIn_of_q hQ fuel _ a' w' hw') (h.2 i hi)⟩

section quiet
variable {P : Program} {r : Option Nat} {N : Nat} {Q : Post} {E : Env} {ds : List Deferred} {w : World} {C : World → Prop} {K : Env → Prop}
variable {ops : Array Oper} {rest : List Oper} {d : Nat} {op : Op} {ty : TypeId} {pos : String} {af : Array Edge}

theorem WP.draw (C : World → Prop) {id : Nat} (hm : P.follows .mixedOrders = true) (hB : Region.lexB .any ops = true) (hC : C { w with drawn := w.drawn + 1 })
    (h : QuietE P N ops C (fun E' => ∀ w', C w' → Q .normal E' ds w') ops.toList E) : WP P r N (.region id ops true) Q E ds w := by
  intro a hr
  simp only [Region.lexB, Bool.and_eq_true] at hB
  have h1 := quietE_in ops.toList E a hr h
  have h2 := wpAnyQ_lex (C := C) (md := .any) hB.1 ops.toList 0 (Array.replicate ops.size false) a (by simp) (by simpa using hB.2) h1
  refine wpIn_region_any hm (wpAnyIn_of_q (Q := fun a' => ∃ E', Rep N E' ds a' ∧ ∀ w', C w' → Q .normal E' ds w') ?_ _ _ _ _ hC (by simpa using h2))
  rintro a' w' hC' ⟨E', hr', hk⟩
  exact ⟨E', ds, hr', hk w' hC'⟩

theorem QuietE.nil (h : K E) : QuietE P N ops C K [] E := h
theorem QuietE.val {v : Value} (h : ∀ w, C w → (xop E op ty).run P w = .ok (.value v) w) (k : QuietE P N ops C K rest (upd N E d v)) :
    QuietE P N ops C K (⟨some d, op, ty, pos, af, none⟩ :: rest) E := by
  unfold QuietE
  rw [if_pos (by rfl)]
  refine ⟨v, fun w hC => ?_, k⟩
  show Oper.quietUpon P C w v ((xop E op ty).run P w)
  rw [h w hC]
  exact ⟨rfl, rfl⟩
theorem QuietE.call {v : Value} {f : FuncId} {args : Array Value} (h : ∀ w, C w → (xop E op ty).run P w = .ok (.enter f args) w) (c : ∀ w, C w → Calls P f args w (Ret fun v' w' => v' = v ∧ C w'))
    (k : QuietE P N ops C K rest (upd N E d v)) : QuietE P N ops C K (⟨some d, op, ty, pos, af, none⟩ :: rest) E := by
  unfold QuietE
  rw [if_pos (by rfl)]
  refine ⟨v, fun w hC => ?_, k⟩
  show Oper.quietUpon P C w v ((xop E op ty).run P w)
  rw [h w hC]
  refine ⟨rfl, (c w hC).mono ?_⟩
  rintro e w' ⟨v', rfl, rfl, hw'⟩
  exact ⟨rfl, hw'⟩
theorem QuietE.yes {o : Option Nat} {g : Nat × Bool} (hw : Region.wanted ⟨o, op, ty, pos, af, some g⟩ (yieldE ops E) = true) (k : QuietE P N ops C K (⟨o, op, ty, pos, af, none⟩ :: rest) E) :
    QuietE P N ops C K (⟨o, op, ty, pos, af, some g⟩ :: rest) E := by
  unfold QuietE at *
  rw [if_pos hw]
  rw [if_pos (by rfl)] at k
  exact k
theorem QuietE.no {g : Nat × Bool} (hw : Region.wanted ⟨some d, op, ty, pos, af, some g⟩ (yieldE ops E) = false) (k : QuietE P N ops C K rest (upd N E d undef)) :
    QuietE P N ops C K (⟨some d, op, ty, pos, af, some g⟩ :: rest) E := by
  unfold QuietE
  rw [if_neg (by rw [hw]; simp)]
  exact k
end quiet

/-! ### a function out of its body -/
def envOf (args : Array Value) : Env := fun t => args.getD t undef
def mark (b : Nat) : Deferred := { target := .collected b, args := #[] }

theorem rep_start (args : Array Value) (N : Nat) (h : args.size ≤ N) : Rep N (envOf args) [] { tmps := args ++ Array.replicate (N - args.size) undef, defers := [] } := by
  refine ⟨by simp; omega, fun t => ?_, rfl⟩
  unfold envOf
  simp only [Array.getD_eq_getD_getElem?, Array.getElem?_append]
  by_cases h1 : t < args.size
  · simp [h1]
  · simp only [if_neg h1, Array.getElem?_eq_none (Nat.le_of_not_lt h1)]
    simp only [Array.getElem?_replicate]
    split <;> rfl

/-- the value handed back, out of the temporaries -/
def resE (rs : Array ResultVar) (E : Env) : Option Value :=
  match rs.toList with
  | [] => some (.tuple #[])
  | [.tmp t] => some (E t)
  | [.tmp t, .tmp u] => some (.tuple #[E t, E u])
  | [.tmp t, .tmp u, .tmp v] => some (.tuple #[E t, E u, E v])
  | _ => none

theorem resE_run {fn : Func} {N : Nat} {E : Env} {ds : List Deferred} {a : Act} {P : Program} {w : World} {v : Value} (hr : Rep N E ds a) (h : resE fn.results E = some v) :
    (results fn a.tmps).run P w = .ok v w := by
  unfold resE at h
  obtain ⟨rs, hrs⟩ : ∃ rs, fn.results.toList = rs := ⟨_, rfl⟩
  have hA : fn.results = rs.toArray := by rw [← hrs]
  rw [hrs] at h
  split at h
  · cases h; rw [results_none (by simpa using hA)]
  · cases h; rw [results_tmp (by simpa using hA), hr.env]
  · cases h; rw [results_tmp2 (by simpa using hA), hr.env, hr.env]
  · cases h
    simp [results, hA, ← hr.env]
  · cases h

/-- what is asked where a body is left: its value; and the blocks of deferred calls that ranges over functions have laid, all of them empty -/
def Leave (res : Array ResultVar) (K : Value → World → Prop) : Post
  | .normal, E, ds, w | .ret, E, ds, w => ∃ (v : Value) (bs : List Nat), resE res E = some v ∧ ds = bs.map mark ∧ ∃ l, Sat w (bs.map (fun b => pt b (.deferred (some []))) ++ l) ∧ ∀ w', Sat w' l → K v w'
  | _, _, _, _ => False
/-- the same without any -/
def Leave0 (res : Array ResultVar) (K : Value → World → Prop) : Post
  | .normal, E, ds, w | .ret, E, ds, w => ds = [] ∧ ∃ v, resE res E = some v ∧ K v w
  | _, _, _, _ => False

theorem Leave0.ret {res : Array ResultVar} {K : Value → World → Prop} {E : Env} {w : World} {v : Value} (h : resE res E = some v) (k : K v w) : Leave0 res K .ret E [] w := ⟨rfl, v, h, k⟩
theorem Leave0.normal {res : Array ResultVar} {K : Value → World → Prop} {E : Env} {w : World} {v : Value} (h : resE res E = some v) (k : K v w) : Leave0 res K .normal E [] w := ⟨rfl, v, h, k⟩

theorem Calls.of_wp {P : Program} {f : FuncId} {fn : Func} {c : Code} {args : Array Value} {w : World} {K : Value → World → Prop}
    (hf : P.funcs[f]? = some fn) (hb : fn.body = some c) {N : Nat} (hN : fn.ntmps = N) {rs : Array ResultVar} (hrs : fn.results = rs) (hs : args.size ≤ N) (h : WP P none N c (Leave0 rs K) (envOf args) [] w) : Calls P f args w (Ret K) := by
  subst hN; subst hrs
  refine calls_wd.1 (callsIn_of_wp (F := Wd none) (n := 0) hf hb trivial (wpIn_mono (h _ (rep_start args _ hs)) ?_))
  rintro e a w' ⟨E, ds, hr, q⟩
  cases e with
  | normal =>
    obtain ⟨rfl, v, hv, hk⟩ := q
    exact ⟨hr.ds, v, resE_run hr hv, v, rfl, hk⟩
  | ret =>
    obtain ⟨rfl, v, hv, hk⟩ := q
    exact ⟨hr.ds, v, resE_run hr hv, v, rfl, hk⟩
  | _ => exact q.elim

theorem run_take {w : World} {P : Program} {b : Nat} {l : List HP} (H : Sat w (pt b (.deferred (some [])) :: l)) : ∃ w', (Instr.takeDeferred b).run P w = .ok [] w' ∧ Sat w' (pt b (.deferred none) :: l) := by
  have hb := H.pt_get
  refine ⟨{ w with heap := w.heap.setIfInBounds b (.deferred none) }, by simp [Instr.takeDeferred, getObj, setObj, Sem.run, hb, Sem.run_bind, Result.andThen], ?_⟩
  have hlt := Sat.lt hb
  refine H.set (by simp [hlt]) fun k hk => ?_
  simp only [Array.getElem?_setIfInBounds]
  rw [if_neg (fun h => hk h.symm)]

theorem leaves_in {P : Program} {fn : Func} {tmps : Array Value} {K : Value → World → Prop} {v : Value} {l : List HP} (hv : ∀ w, (results fn tmps).run P w = .ok v w) (hK : ∀ w', Sat w' l → K v w') (bs : List Nat) :
    ∀ (w : World), Sat w (bs.map (fun b => pt b (.deferred (some []))) ++ l) → LeavesInM (Wd none) 0 P fn tmps (Ret K) (bs.map mark) .returning w := by
  induction bs with
  | nil => exact fun w H => ⟨v, hv w, v, rfl, hK w H⟩
  | cons b bs ih =>
    intro w H
    obtain ⟨w', hrun, H'⟩ := run_take (P := P) H
    exact ⟨by simp, .inl ⟨b, w', rfl, hrun, ih w' H'.tail⟩⟩

theorem Calls.of_wp_marks {P : Program} {f : FuncId} {fn : Func} {c : Code} {args : Array Value} {w : World} {K : Value → World → Prop}
    (hf : P.funcs[f]? = some fn) (hb : fn.body = some c) {N : Nat} (hN : fn.ntmps = N) {rs : Array ResultVar} (hrs : fn.results = rs) (hs : args.size ≤ N) (h : WP P none N c (Leave rs K) (envOf args) [] w) : Calls P f args w (Ret K) := by
  subst hN; subst hrs
  refine calls_wd.1 (callsIn_of_wp_marks (F := Wd none) (n := 0) hf hb trivial (wpIn_mono (h _ (rep_start args _ hs)) ?_))
  rintro e a w' ⟨E, ds, hr, q⟩
  cases e with
  | normal =>
    obtain ⟨v, bs, hv, rfl, l, H, hk⟩ := q
    show LeavesInM _ _ _ _ a.tmps _ a.defers _ _
    rw [hr.ds]
    exact leaves_in (fun w => resE_run hr hv) hk bs w' H
  | ret =>
    obtain ⟨v, bs, hv, rfl, l, H, hk⟩ := q
    show LeavesInM _ _ _ _ a.tmps _ a.defers _ _
    rw [hr.ds]
    exact leaves_in (fun w => resE_run hr hv) hk bs w' H
  | _ => exact q.elim

theorem Calls.ret {P : Program} {f : FuncId} {args : Array Value} {w : World} {K K' : Value → World → Prop} (h : Calls P f args w (Ret K)) (hk : ∀ v w', K v w' → K' v w') : Calls P f args w (Ret K') :=
  h.mono fun _ _ ⟨v, e, q⟩ => ⟨v, e, hk v _ q⟩

end Go.Proofs.Ytbhbdpbhhfemhaa

/-
  What the operations of the model's code come to, one lemma a kind, over environments and lists of assertions.
  Nothing of the program.
-/
namespace Go.Proofs.Ytbhbdpbhhfemhaa
open Go

section
variable {P : Program} {E : Env} {w : World} {ty T : TypeId} {x y : Operand}

theorem x_move {v : Value} (h : evE E x = v) : (xop E (.move x) ty).run P w = .ok (.value v) w := by subst h; rfl
theorem x_assign {v : Value} (h : evE E x = v) : (xop E (.assign x) ty).run P w = .ok (.value v) w := by subst h; rfl

theorem x_pickT {v : Value} {z : Operand} (hx : evE E x = .bool true) (hy : evE E y = v) : (xop E (.pick x y z) ty).run P w = .ok (.value v) w := by
  subst hy
  simp [xop, execOp, hx, asBool]
theorem x_pickF {v : Value} {z : Operand} (hx : evE E x = .bool false) (hz : evE E z = v) : (xop E (.pick x y z) ty).run P w = .ok (.value v) w := by
  subst hz
  simp [xop, execOp, hx, asBool]

theorem cell_of {b i : Nat} {cs : Array Value} {t : TypeId} {fz : Nat × Nat} {v : Value} (hb : w.heap[b]? = some (.cells cs t fz)) (hv : cs[i]? = some v) : w.cell? ⟨b, i, none⟩ = some v := by
  simp [World.cell?, hb, hv]

theorem x_load {b i : Nat} {cs : Array Value} {t : TypeId} {fz : Nat × Nat} {v : Value} (hx : evE E x = .pointer (some ⟨b, i, none⟩)) (ha : ∀ w, (isAgg T).run P w = .ok false w)
    (hb : w.heap[b]? = some (.cells cs t fz)) (hv : cs[i]? = some v) : (xop E (.load T x) ty).run P w = .ok (.value v) w := by
  simp [xop, execOp, hx, Instr.loadAt, Instr.sureAddr, loadVar, ha, load, Sem.run, cell_of hb hv]

theorem x_loadA {b i n : Nat} {cs : Array Value} {t : TypeId} {fz : Nat × Nat} {vs : List Value} (hx : evE E x = .pointer (some ⟨b, i, none⟩)) (ha : ∀ w, (isAgg T).run P w = .ok true w) (hs : ∀ w, (sizeOf T).run P w = .ok n w)
    (hb : w.heap[b]? = some (.cells cs t fz)) (hv : (cs.toList.drop i).take n = vs) (hn : vs.length = n) : (xop E (.load T x) ty).run P w = .ok (.value (.agg vs.toArray)) w := by
  subst hn
  have := run_loadCells_list (P := P) (w := w) ⟨b, i, none⟩ vs (fun j v h => by
    have e : (⟨b, i, none⟩ : Addr).add j = ⟨b, i + j, none⟩ := by unfold Addr.add; split <;> simp_all
    rw [e]
    refine cell_of hb ?_
    rw [← hv, List.getElem?_take, List.getElem?_drop] at h
    split at h
    · simpa using h
    · cases h)
  simp [xop, execOp, hx, Instr.loadAt, Instr.sureAddr, loadVar, ha, hs, this]

theorem x_nilCheck {a : Addr} (hx : evE E x = .pointer (some a)) : (xop E (.nilCheck x) ty).run P w = .ok (.value (.pointer (some a))) w := by
  simp [xop, execOp, hx]

theorem x_fieldAddr {f b i n o : Nat} {fs : Array Field} {fd : Field} (hx : evE E x = .pointer (some ⟨b, i, none⟩)) (hu : ∀ w, (underlying T).run P w = .ok (.struct fs) w) (hf : fs[f]? = some fd) (ho : fd.offset = o) (hs : ∀ w, (sizeOf fd.type).run P w = .ok (n + 1) w) :
    (xop E (.fieldAddr T x f) ty).run P w = .ok (.value (.pointer (some ⟨b, i + o, none⟩))) w := by
  subst ho
  have e : (⟨b, i, none⟩ : Addr).add fd.offset = ⟨b, i + fd.offset, none⟩ := by unfold Addr.add; split <;> simp_all
  simp [xop, execOp, hx, Instr.fieldAt, hu, hf, Instr.sureAddr, fieldPlace, hs, e]
theorem x_fieldAddr0 {f b i n : Nat} {fs : Array Field} {fd : Field} (hx : evE E x = .pointer (some ⟨b, i, none⟩)) (hu : ∀ w, (underlying T).run P w = .ok (.struct fs) w) (hf : fs[f]? = some fd) (ho : fd.offset = 0) (hs : ∀ w, (sizeOf fd.type).run P w = .ok (n + 1) w) :
    (xop E (.fieldAddr T x f) ty).run P w = .ok (.value (.pointer (some ⟨b, i, none⟩))) w := x_fieldAddr (o := 0) hx hu hf ho hs

theorem x_indexAddro {b off len cap n i : Nat} {k : IntKind} {e : TypeId} {z : Int} (hx : evE E x = .slice (some ⟨b, off, none⟩) len cap) (hy : evE E y = .int k z) (hu : ∀ w, (underlying T).run P w = .ok (.slice e) w)
    (hs : ∀ w, (sizeOf e).run P w = .ok n w) (hz : z = (i : Int)) (hl : i < len) : (xop E (.indexAddr T x y) ty).run P w = .ok (.value (.pointer (some ⟨b, off + i * n, none⟩))) w := by
  subst hz
  have e : (⟨b, off, none⟩ : Addr).add (i * n) = ⟨b, off + i * n, none⟩ := by unfold Addr.add; split <;> simp_all
  simp [xop, execOp, hx, hy, Instr.indexAt, asIntOf, hu, hs, hl, e]
theorem x_indexAddr {b len cap n i : Nat} {k : IntKind} {e : TypeId} {z : Int} (hx : evE E x = .slice (some ⟨b, 0, none⟩) len cap) (hy : evE E y = .int k z) (hu : ∀ w, (underlying T).run P w = .ok (.slice e) w)
    (hs : ∀ w, (sizeOf e).run P w = .ok n w) (hz : z = (i : Int)) (hl : i < len) : (xop E (.indexAddr T x y) ty).run P w = .ok (.value (.pointer (some ⟨b, i * n, none⟩))) w := by
  have := x_indexAddro (P := P) (w := w) (ty := ty) hx hy hu hs hz hl
  rw [Nat.zero_add] at this; exact this
theorem x_indexAddro1 {b off len cap i : Nat} {k : IntKind} {e : TypeId} {z : Int} (hx : evE E x = .slice (some ⟨b, off, none⟩) len cap) (hy : evE E y = .int k z) (hu : ∀ w, (underlying T).run P w = .ok (.slice e) w)
    (hs : ∀ w, (sizeOf e).run P w = .ok 1 w) (hz : z = (i : Int)) (hl : i < len) : (xop E (.indexAddr T x y) ty).run P w = .ok (.value (.pointer (some ⟨b, off + i, none⟩))) w := by
  have := x_indexAddro (P := P) (w := w) (ty := ty) hx hy hu hs hz hl
  rw [Nat.mul_one] at this; exact this
theorem x_indexAddr1 {b len cap i : Nat} {k : IntKind} {e : TypeId} {z : Int} (hx : evE E x = .slice (some ⟨b, 0, none⟩) len cap) (hy : evE E y = .int k z) (hu : ∀ w, (underlying T).run P w = .ok (.slice e) w)
    (hs : ∀ w, (sizeOf e).run P w = .ok 1 w) (hz : z = (i : Int)) (hl : i < len) : (xop E (.indexAddr T x y) ty).run P w = .ok (.value (.pointer (some ⟨b, i, none⟩))) w := by
  have := x_indexAddr (P := P) (w := w) (ty := ty) hx hy hu hs hz hl
  rw [Nat.mul_one] at this; exact this

theorem x_indexStr {s : ByteArray} {k : IntKind} {i : Nat} {z : Int} {c : UInt8} (hx : evE E x = .string s) (hy : evE E y = .int k z) (hu : ∀ w, (underlying T).run P w = .ok .string w) (hz : z = (i : Int)) (hc : s[i]? = some c) :
    (xop E (.index T x y) ty).run P w = .ok (.value (.int .u8 (c.toNat : Int))) w := by
  subst hz
  simp [xop, execOp, hx, hy, Instr.index, asIntOf, hu, hc]

/-! ### arithmetic and comparison -/
variable {k : IntKind} {a c z : Int} {yt : TypeId}

theorem eqGuard_int (op : BinOp) (w : World) : (eqGuard op T x y (.int k a) (.int k c)).run P w = .ok () w := by
  unfold eqGuard; cases op <;> rfl

theorem x_add (hx : evE E x = .int k a) (hy : evE E y = .int k c) (hz : k.wrap (a + c) = z) : (xop E (.binOp .add T x y yt) ty).run P w = .ok (.value (.int k z)) w := by
  subst hz; simp [xop, execOp, hx, hy, eqGuard_int, binOp, Op.intArith]
theorem x_sub (hx : evE E x = .int k a) (hy : evE E y = .int k c) (hz : k.wrap (a - c) = z) : (xop E (.binOp .sub T x y yt) ty).run P w = .ok (.value (.int k z)) w := by
  subst hz; simp [xop, execOp, hx, hy, eqGuard_int, binOp, Op.intArith]
theorem x_mul (hx : evE E x = .int k a) (hy : evE E y = .int k c) (hz : k.wrap (a * c) = z) : (xop E (.binOp .mul T x y yt) ty).run P w = .ok (.value (.int k z)) w := by
  subst hz; simp [xop, execOp, hx, hy, eqGuard_int, binOp, Op.intArith]
theorem x_eqI (hx : evE E x = .int k a) (hy : evE E y = .int k c) : (xop E (.binOp .eql T x y yt) ty).run P w = .ok (.value (.bool (decide (a = c)))) w := by
  simp [xop, execOp, hx, hy, eqGuard_int, binOp, Op.intCmp]; rfl
theorem x_neI (hx : evE E x = .int k a) (hy : evE E y = .int k c) : (xop E (.binOp .neq T x y yt) ty).run P w = .ok (.value (.bool (decide (a ≠ c)))) w := by
  simp [xop, execOp, hx, hy, eqGuard_int, binOp, Op.intCmp]; rfl
theorem x_lt (hx : evE E x = .int k a) (hy : evE E y = .int k c) : (xop E (.binOp .lss T x y yt) ty).run P w = .ok (.value (.bool (decide (a < c)))) w := by
  simp [xop, execOp, hx, hy, eqGuard_int, binOp, Op.intCmp]
theorem x_le (hx : evE E x = .int k a) (hy : evE E y = .int k c) : (xop E (.binOp .leq T x y yt) ty).run P w = .ok (.value (.bool (decide (a ≤ c)))) w := by
  simp [xop, execOp, hx, hy, eqGuard_int, binOp, Op.intCmp]
theorem x_gt (hx : evE E x = .int k a) (hy : evE E y = .int k c) : (xop E (.binOp .gtr T x y yt) ty).run P w = .ok (.value (.bool (decide (a > c)))) w := by
  simp [xop, execOp, hx, hy, eqGuard_int, binOp, Op.intCmp]
theorem x_ge (hx : evE E x = .int k a) (hy : evE E y = .int k c) : (xop E (.binOp .geq T x y yt) ty).run P w = .ok (.value (.bool (decide (a ≥ c)))) w := by
  simp [xop, execOp, hx, hy, eqGuard_int, binOp, Op.intCmp]

theorem i64n {z : Int} (h1 : -9223372036854775808 ≤ z) (h2 : z ≤ 9223372036854775807) : IntKind.i64.wrap z = z := by
  have e : IntKind.i64.wrap z = if z % 18446744073709551616 ≥ 9223372036854775808 then z % 18446744073709551616 - 18446744073709551616 else z % 18446744073709551616 := by
    simp [IntKind.wrap, IntKind.bits, IntKind.signed]
  rw [e]; split <;> omega
theorem u64n {z : Int} (h1 : 0 ≤ z) (h2 : z < 18446744073709551616) : IntKind.u64.wrap z = z := by
  have e : IntKind.u64.wrap z = z % 18446744073709551616 := by simp [IntKind.wrap, IntKind.bits, IntKind.signed]
  rw [e]; omega
theorem x_convI {k' : IntKind} {k2 : IntKind} {T' : TypeId} (hx : evE E x = .int k a) (hu : ∀ w, (underlying T).run P w = .ok (.int k2) w) (hv : ∀ w, (underlying T').run P w = .ok (.int k') w) (hz : k'.wrap a = z) :
    (xop E (.convert T T' x) ty).run P w = .ok (.value (.int k' z)) w := by
  subst hz
  simp [xop, execOp, hx, convert, hu, hv, Conv.intToInt]

variable {s t : ByteArray}
theorem eqGuard_str (op : BinOp) (w : World) : (eqGuard op T x y (.string s) (.string t)).run P w = .ok () w := by
  unfold eqGuard; cases op <;> rfl
theorem toList_data (s : ByteArray) : s.toList = s.data.toList := Lib.toList_data s
theorem eq_toList : (s.toList == t.toList) = decide (s = t) := by
  rw [toList_data, toList_data]
  by_cases h : s = t
  · subst h; simp
  · have : ¬ s.data = t.data := fun e => h (ByteArray.ext e)
    simp [h, this]
/-- the order of strings -/
def slt (s t : ByteArray) : Bool := Op.bytesLess s.toList t.toList
theorem x_eqS (hx : evE E x = .string s) (hy : evE E y = .string t) : (xop E (.binOp .eql T x y yt) ty).run P w = .ok (.value (.bool (decide (s = t)))) w := by
  simp [xop, execOp, hx, hy, eqGuard_str, binOp, Op.stringOp, ← eq_toList]
theorem x_neS (hx : evE E x = .string s) (hy : evE E y = .string t) : (xop E (.binOp .neq T x y yt) ty).run P w = .ok (.value (.bool (decide (s ≠ t)))) w := by
  have h : decide (s ≠ t) = !(s.toList == t.toList) := by rw [eq_toList]; simp
  simp only [h]
  simp [xop, execOp, hx, hy, eqGuard_str, binOp, Op.stringOp]
theorem x_ltS (hx : evE E x = .string s) (hy : evE E y = .string t) : (xop E (.binOp .lss T x y yt) ty).run P w = .ok (.value (.bool (slt s t))) w := by
  simp [xop, execOp, hx, hy, eqGuard_str, binOp, Op.stringOp, slt]
theorem x_geS (hx : evE E x = .string s) (hy : evE E y = .string t) : (xop E (.binOp .geq T x y yt) ty).run P w = .ok (.value (.bool (!slt s t))) w := by
  simp [xop, execOp, hx, hy, eqGuard_str, binOp, Op.stringOp, slt]
theorem x_leS (hx : evE E x = .string s) (hy : evE E y = .string t) : (xop E (.binOp .leq T x y yt) ty).run P w = .ok (.value (.bool (slt s t || decide (s = t)))) w := by
  rw [← eq_toList]
  simp [xop, execOp, hx, hy, eqGuard_str, binOp, Op.stringOp, slt]
theorem x_gtS (hx : evE E x = .string s) (hy : evE E y = .string t) : (xop E (.binOp .gtr T x y yt) ty).run P w = .ok (.value (.bool (!(slt s t || decide (s = t))))) w := by
  rw [← eq_toList]
  simp [xop, execOp, hx, hy, eqGuard_str, binOp, Op.stringOp, slt]
theorem x_cat (hx : evE E x = .string s) (hy : evE E y = .string t) (hs : s.size + t.size ≤ 9223372036854775807) : (xop E (.binOp .add T x y yt) ty).run P w = .ok (.value (.string (s ++ t))) w := by
  have h : (s.size : Int) + (t.size : Int) ≤ 9223372036854775807 := by omega
  simp [xop, execOp, hx, hy, eqGuard_str, binOp, Op.stringOp, h]

/-- a pointer against nil -/
theorem x_eqP {a : Option Addr} {e : TypeId} (hx : evE E x = .pointer a) (hy : evE E y = .pointer none) (hu : ∀ w, (underlying T).run P w = .ok (.pointer e) w) : (xop E (.binOp .eql T x y yt) ty).run P w = .ok (.value (.bool a.isNone)) w := by
  have h : (Op.equal T (.pointer a) (.pointer none)).run P w = .ok a.isNone w := by
    show (Op.equalIn (9999 + 1) T _ _).run P w = _
    generalize 9999 = n
    cases a <;> simp [Op.equalIn, hu]
  cases a <;> simp [xop, execOp, hx, hy, eqGuard, binOp, h]
theorem x_neP {a : Option Addr} {e : TypeId} (hx : evE E x = .pointer a) (hy : evE E y = .pointer none) (hu : ∀ w, (underlying T).run P w = .ok (.pointer e) w) : (xop E (.binOp .neq T x y yt) ty).run P w = .ok (.value (.bool a.isSome)) w := by
  have h : (Op.equal T (.pointer a) (.pointer none)).run P w = .ok a.isNone w := by
    show (Op.equalIn (9999 + 1) T _ _).run P w = _
    generalize 9999 = n
    cases a <;> simp [Op.equalIn, hu]
  cases a <;> simp [xop, execOp, hx, hy, eqGuard, binOp, h]
theorem x_eqPs {a : Addr} {e : TypeId} (hx : evE E x = .pointer (some a)) (hy : evE E y = .pointer none) (hu : ∀ w, (underlying T).run P w = .ok (.pointer e) w) : (xop E (.binOp .eql T x y yt) ty).run P w = .ok (.value (.bool false)) w := x_eqP hx hy hu
theorem x_eqPn {e : TypeId} (hx : evE E x = .pointer none) (hy : evE E y = .pointer none) (hu : ∀ w, (underlying T).run P w = .ok (.pointer e) w) : (xop E (.binOp .eql T x y yt) ty).run P w = .ok (.value (.bool true)) w := x_eqP hx hy hu
theorem x_nePs {a : Addr} {e : TypeId} (hx : evE E x = .pointer (some a)) (hy : evE E y = .pointer none) (hu : ∀ w, (underlying T).run P w = .ok (.pointer e) w) : (xop E (.binOp .neq T x y yt) ty).run P w = .ok (.value (.bool true)) w := x_neP hx hy hu
theorem x_nePn {e : TypeId} (hx : evE E x = .pointer none) (hy : evE E y = .pointer none) (hu : ∀ w, (underlying T).run P w = .ok (.pointer e) w) : (xop E (.binOp .neq T x y yt) ty).run P w = .ok (.value (.bool false)) w := x_neP hx hy hu
/-- a slice against nil -/
theorem x_eqL {a : Option Addr} {n m : Nat} {e : TypeId} (hx : evE E x = .slice a n m) (hy : evE E y = .slice none 0 0) (hu : ∀ w, (underlying T).run P w = .ok (.slice e) w) : (xop E (.binOp .eql T x y yt) ty).run P w = .ok (.value (.bool a.isNone)) w := by
  have h : (Op.equal T (.slice a n m) (.slice none 0 0)).run P w = .ok a.isNone w := by
    show (Op.equalIn (9999 + 1) T _ _).run P w = _
    generalize 9999 = q
    cases a <;> simp [Op.equalIn, hu]
  cases a <;> simp [xop, execOp, hx, hy, eqGuard, binOp, h]
theorem x_eqLs {a : Addr} {n m : Nat} {e : TypeId} (hx : evE E x = .slice (some a) n m) (hy : evE E y = .slice none 0 0) (hu : ∀ w, (underlying T).run P w = .ok (.slice e) w) : (xop E (.binOp .eql T x y yt) ty).run P w = .ok (.value (.bool false)) w := x_eqL hx hy hu
theorem x_eqLn {n m : Nat} {e : TypeId} (hx : evE E x = .slice none n m) (hy : evE E y = .slice none 0 0) (hu : ∀ w, (underlying T).run P w = .ok (.slice e) w) : (xop E (.binOp .eql T x y yt) ty).run P w = .ok (.value (.bool true)) w := x_eqL hx hy hu
theorem x_eqB {a c : Bool} (hx : evE E x = .bool a) (hy : evE E y = .bool c) (hu : ∀ w, (underlying T).run P w = .ok .bool w) : (xop E (.binOp .eql T x y yt) ty).run P w = .ok (.value (.bool (a == c))) w := by
  have h : (Op.equal T (.bool a) (.bool c)).run P w = .ok (a == c) w := by
    show (Op.equalIn (9999 + 1) T _ _).run P w = _
    generalize 9999 = q
    simp [Op.equalIn, hu]
  simp [xop, execOp, hx, hy, eqGuard, binOp, h]
theorem x_neB {a c : Bool} (hx : evE E x = .bool a) (hy : evE E y = .bool c) (hu : ∀ w, (underlying T).run P w = .ok .bool w) : (xop E (.binOp .neq T x y yt) ty).run P w = .ok (.value (.bool (!(a == c)))) w := by
  have h : (Op.equal T (.bool a) (.bool c)).run P w = .ok (a == c) w := by
    show (Op.equalIn (9999 + 1) T _ _).run P w = _
    generalize 9999 = q
    simp [Op.equalIn, hu]
  simp [xop, execOp, hx, hy, eqGuard, binOp, h]
theorem x_not {b : Bool} (hx : evE E x = .bool b) : (xop E (.unOp .not T x) ty).run P w = .ok (.value (.bool (!b))) w := by
  simp [xop, execOp, hx, Op.unary]

theorem x_extract {vs : Array Value} {i : Nat} {v : Value} (hx : evE E x = .tuple vs) (hv : vs[i]? = some v) : (xop E (.extract x i) ty).run P w = .ok (.value v) w := by
  simp [xop, execOp, hx, Instr.extract, hv]

theorem x_makeFunc {f : FuncId} {cl : List Operand} {vl : List Value} (h : cl.map (evE E) = vl) : (xop E (.makeFunc (.func f) #[] cl.toArray) ty).run P w = .ok (.value (.func (.func f) #[] vl.toArray)) w := by
  subst h; simp [xop, execOp, Instr.makeFunc]

/-! ### calls -/
theorem x_call {f : FuncId} {al : List Operand} {ats : Array TypeId} {vl : List Value} (h : al.map (evE E) = vl) (hc : ∀ args w, (callFunc f args).run P w = .ok (.enter f args) w) :
    (xop E (.call { callee := .value (.func f), args := al.toArray, argTypes := ats }) ty).run P w = .ok (.enter f vl.toArray) w := by
  subst h
  simp [xop, execOp, resolve, evE, Deferred.ofValue, invoke, hc]
theorem x_callV {f : FuncId} {al : List Operand} {ats : Array TypeId} {vl cl : List Value} (hx : evE E x = .func (.func f) #[] cl.toArray) (h : al.map (evE E) = vl) (hc : ∀ args w, (callFunc f args).run P w = .ok (.enter f args) w) :
    (xop E (.call { callee := .value x, args := al.toArray, argTypes := ats }) ty).run P w = .ok (.enter f (vl ++ cl).toArray) w := by
  subst h
  simp [xop, execOp, resolve, hx, Deferred.ofValue, invoke, hc]
/-- a function without a body -/
theorem x_callX {f : FuncId} {al : List Operand} {ats : Array TypeId} {vl : List Value} {v : Value} (h : al.map (evE E) = vl) (hc : (callFunc f vl.toArray).run P w = .ok (.value v) w) :
    (xop E (.call { callee := .value (.func f), args := al.toArray, argTypes := ats }) ty).run P w = .ok (.value v) w := by
  subst h
  simp [xop, execOp, resolve, evE, Deferred.ofValue, invoke, hc]
theorem x_lenS {ats : Array TypeId} (hx : evE E x = .string s) (ht : ats[0]? = some T) (hu : ∀ w, (underlying T).run P w = .ok .string w) :
    (xop E (.call { callee := .builtin .len, args := #[x], argTypes := ats }) ty).run P w = .ok (.value (.int .i64 (s.size : Int))) w := by
  simp [xop, execOp, resolve, hx, invoke, builtin, Builtin.len_, ht, hu, goInt]
theorem x_lenL {ats : Array TypeId} {a : Option Addr} {n m : Nat} {e : TypeId} (hx : evE E x = .slice a n m) (ht : ats[0]? = some T) (hu : ∀ w, (underlying T).run P w = .ok (.slice e) w) :
    (xop E (.call { callee := .builtin .len, args := #[x], argTypes := ats }) ty).run P w = .ok (.value (.int .i64 (n : Int))) w := by
  simp [xop, execOp, resolve, hx, invoke, builtin, Builtin.len_, ht, hu, goInt]
theorem x_max {ats : Array TypeId} (hx : evE E x = .int k a) (hy : evE E y = .int k c) (hz : (if a < c then c else a) = z) :
    (xop E (.call { callee := .builtin .max, args := #[x, y], argTypes := ats }) ty).run P w = .ok (.value (.int k z)) w := by
  subst hz
  simp [xop, execOp, resolve, hx, hy, invoke, builtin, Builtin.max_, Builtin.max2]
theorem x_min {ats : Array TypeId} (hx : evE E x = .int k a) (hy : evE E y = .int k c) (hz : (if c < a then c else a) = z) :
    (xop E (.call { callee := .builtin .min, args := #[x, y], argTypes := ats }) ty).run P w = .ok (.value (.int k z)) w := by
  subst hz
  simp [xop, execOp, resolve, hx, hy, invoke, builtin, Builtin.min_, Builtin.min2]

/-! ### a struct out of its fields -/
theorem x_build2 {f0 f1 : Field} {o0 o1 : Operand} {i0 i1 n0 n1 : Nat} {vl : List Value} {cs : List Value} {zv : Value} (h : [o0, o1].map (evE E) = vl) (hz : ∀ w, (zeroValue T).run P w = .ok zv w) (hu : ∀ w, (underlying T).run P w = .ok (.struct #[f0, f1]) w)
    (s0 : ∀ w, (sizeOf f0.type).run P w = .ok n0 w) (s1 : ∀ w, (sizeOf f1.type).run P w = .ok n1 w)
    (hf : Instr.fill (fun i => [(f0.offset, n0), (f1.offset, n1)][i]?) zv.cells ([i0, i1].zip vl) = some cs.toArray) : (xop E (.build T #[(i0, o0), (i1, o1)]) ty).run P w = .ok (.value (.agg cs.toArray)) w := by
  subst h
  simp only [List.map_cons, List.map_nil, List.zip_cons_cons, List.zip_nil_left] at hf
  simp [xop, execOp, Instr.build, hz, hu, s0, s1, hf]
theorem x_build3 {f0 f1 f2 : Field} {o0 o1 o2 : Operand} {i0 i1 i2 n0 n1 n2 : Nat} {vl : List Value} {cs : List Value} {zv : Value} (h : [o0, o1, o2].map (evE E) = vl) (hz : ∀ w, (zeroValue T).run P w = .ok zv w) (hu : ∀ w, (underlying T).run P w = .ok (.struct #[f0, f1, f2]) w)
    (s0 : ∀ w, (sizeOf f0.type).run P w = .ok n0 w) (s1 : ∀ w, (sizeOf f1.type).run P w = .ok n1 w) (s2 : ∀ w, (sizeOf f2.type).run P w = .ok n2 w)
    (hf : Instr.fill (fun i => [(f0.offset, n0), (f1.offset, n1), (f2.offset, n2)][i]?) zv.cells ([i0, i1, i2].zip vl) = some cs.toArray) : (xop E (.build T #[(i0, o0), (i1, o1), (i2, o2)]) ty).run P w = .ok (.value (.agg cs.toArray)) w := by
  subst h
  simp only [List.map_cons, List.map_nil, List.zip_cons_cons, List.zip_nil_left] at hf
  simp [xop, execOp, Instr.build, hz, hu, s0, s1, s2, hf]
theorem x_field {f o : Nat} {fs : Array Field} {fd : Field} {cs : Array Value} {v : Value} (hx : evE E x = .agg cs) (hu : ∀ w, (underlying T).run P w = .ok (.struct fs) w) (hf : fs[f]? = some fd) (ho : fd.offset = o) (ha : ∀ w, (isAgg fd.type).run P w = .ok false w) (hv : cs[o]? = some v) :
    (xop E (.field T x f) ty).run P w = .ok (.value v) w := by
  subst ho
  simp [xop, execOp, Instr.field, hx, hu, hf, asAgg, part, ha, hv]
end

/-! ### operations that turn the world -/
section
variable {P : Program} {N : Nat} {ops : Array Oper} {Q : Post} {rest : List Oper} {E : Env} {ds : List Deferred} {w : World} {ty T : TypeId} {x y : Operand} {l : List HP} {d : Nat} {pos : String} {af : Array Edge}

theorem heap_setCell {b i : Nat} {cs : Array Value} {t : TypeId} {fz : Nat × Nat} {v : Value} (hb : w.heap[b]? = some (.cells cs t fz)) : (w.setCell ⟨b, i, none⟩ v).heap[b]? = some (.cells (cs.setIfInBounds i v) t fz) := by
  have := Sat.lt hb
  simp [World.setCell, Array.getElem?_modify, hb]
theorem heap_setCell_ne {b i k : Nat} {v : Value} (h : k ≠ b) : (w.setCell ⟨b, i, none⟩ v).heap[k]? = w.heap[k]? := by
  simp only [World.setCell, Array.getElem?_modify]
  rw [if_neg (fun e => h e.symm)]

theorem Sat.setCell {b i : Nat} {cs : List Value} {t : TypeId} {fz : Nat × Nat} {v : Value} (H : Sat w (pt b (.cells cs.toArray t fz) :: l)) : Sat (w.setCell ⟨b, i, none⟩ v) (pt b (.cells (cs.set i v).toArray t fz) :: l) := by
  refine H.set ?_ fun k hk => heap_setCell_ne hk
  rw [heap_setCell H.pt_get]; simp

def Value.one : Value → Bool
  | .agg _ | .tuple _ => false
  | _ => true

theorem run_store1 {b i : Nat} {cs : List Value} {t : TypeId} {v : Value} (hb : w.heap[b]? = some (.cells cs.toArray t (0, 0))) (h1 : Value.one v = true) (hi : i < cs.length) : (store ⟨b, i, none⟩ v).run P w = .ok () (w.setCell ⟨b, i, none⟩ v) := by
  have hc : w.cell? ⟨b, i, none⟩ = some cs[i] := by simp [World.cell?, hb, hi]
  have hf : w.frozen? ⟨b, i, none⟩ = false := by simp [World.frozen?, hb]
  cases v <;> simp [Value.one] at h1 <;> simp [store, Sem.run, hc, hf]

theorem OpsE.store {b i : Nat} {cs : List Value} {t : TypeId} {v : Value} {r : List HP} (hx : evE E x = .pointer (some ⟨b, i, none⟩)) (hy : evE E y = v) (h1 : Value.one v = true) (hc : v.cells = #[v]) (hs : ∀ w, (sizeOf T).run P w = .ok 1 w)
    (H : Sat w l) [tk : TakePt l b (.cells cs.toArray t (0, 0)) r] (hi : i < cs.length) (k : ∀ w', Sat w' (pt b (.cells (cs.set i v).toArray t (0, 0)) :: r) → OpsE P N ops Q rest E ds w') :
    OpsE P N ops Q (⟨none, .store T x y, ty, pos, af, none⟩ :: rest) E ds w := by
  have H1 := H.takePt b
  have hb := H1.pt_get
  refine OpsE.skip (w' := w.setCell ⟨b, i, none⟩ v) ?_ (k _ H1.setCell)
  have e : (⟨b, i, none⟩ : Addr).add 0 = ⟨b, i, none⟩ := rfl
  simp [xop, execOp, hx, hy, Instr.storeAt, Instr.sureAddr, storeVar, hc, hs, storeCells, e, run_store1 hb h1 hi]

theorem OpsE.box1 {v : Value} (hx : evE E x = v) (hc : v.cells = #[v]) (H : Sat w l) (k : ∀ b w', Sat w' (pt b (.cells [v].toArray T (0, 0)) :: l) → OpsE P N ops Q rest (upd N E d (.pointer (some ⟨b, 0, none⟩))) ds w') :
    OpsE P N ops Q (⟨some d, .box T x, ty, pos, af, none⟩ :: rest) E ds w := by
  refine OpsE.val (v := .pointer (some ⟨w.heap.size, 0, none⟩)) (w' := { w with heap := w.heap.push (.cells [v].toArray T (0, 0)) }) ?_ (k _ _ (H.new rfl))
  simp [xop, execOp, hx, Instr.box, newVar, newRow, newObj, Sem.run, hc, Sem.run_bind, Result.andThen]
theorem OpsE.boxA {cs : List Value} (hx : evE E x = .agg cs.toArray) (H : Sat w l) (k : ∀ b w', Sat w' (pt b (.cells cs.toArray T (0, 0)) :: l) → OpsE P N ops Q rest (upd N E d (.pointer (some ⟨b, 0, none⟩))) ds w') :
    OpsE P N ops Q (⟨some d, .box T x, ty, pos, af, none⟩ :: rest) E ds w := by
  refine OpsE.val (v := .pointer (some ⟨w.heap.size, 0, none⟩)) (w' := { w with heap := w.heap.push (.cells cs.toArray T (0, 0)) }) ?_ (k _ _ (H.new rfl))
  simp [xop, execOp, hx, Instr.box, newVar, newRow, newObj, Sem.run, Value.cells, Sem.run_bind, Result.andThen]
theorem OpsE.alloc1 {v : Value} (hz : ∀ w, (zeroValue T).run P w = .ok v w) (hc : v.cells = #[v]) (H : Sat w l) (k : ∀ b w', Sat w' (pt b (.cells [v].toArray T (0, 0)) :: l) → OpsE P N ops Q rest (upd N E d (.pointer (some ⟨b, 0, none⟩))) ds w') :
    OpsE P N ops Q (⟨some d, .alloc T, ty, pos, af, none⟩ :: rest) E ds w := by
  refine OpsE.val (v := .pointer (some ⟨w.heap.size, 0, none⟩)) (w' := { w with heap := w.heap.push (.cells [v].toArray T (0, 0)) }) ?_ (k _ _ (H.new rfl))
  simp [xop, execOp, Instr.alloc, hz, newVar, newRow, newObj, Sem.run, hc, Sem.run_bind, Result.andThen]
theorem OpsE.allocA {cs : List Value} (hz : ∀ w, (zeroValue T).run P w = .ok (.agg cs.toArray) w) (H : Sat w l) (k : ∀ b w', Sat w' (pt b (.cells cs.toArray T (0, 0)) :: l) → OpsE P N ops Q rest (upd N E d (.pointer (some ⟨b, 0, none⟩))) ds w') :
    OpsE P N ops Q (⟨some d, .alloc T, ty, pos, af, none⟩ :: rest) E ds w := by
  refine OpsE.val (v := .pointer (some ⟨w.heap.size, 0, none⟩)) (w' := { w with heap := w.heap.push (.cells cs.toArray T (0, 0)) }) ?_ (k _ _ (H.new rfl))
  simp [xop, execOp, Instr.alloc, hz, newVar, newRow, newObj, Sem.run, Value.cells, Sem.run_bind, Result.andThen]
end
end Go.Proofs.Ytbhbdpbhhfemhaa

/-
  A region that draws its order: operations that only look at a class of worlds (kind 0), operations that act and keep the class (kind 1),
  operations that act behind all others (kind 2), operations that look at no world (kind 3), operations that act behind all that look at worlds (kind 4). One walk in the order of the text serves every order. Nothing of the program.
-/
namespace Go.Proofs.Ytbhbdpbhhfemhaa
open Go

section
variable {P : Program} {ops : Array Oper} {B : World → Prop} {kd : Nat → Nat} {Q : Act → World → Prop}

def Yi (P : Program) (ops : Array Oper) (B : World → Prop) (o : Oper) (v : Value) (a : Act) : Prop :=
  (Region.wanted o (yielded ops a.tmps) = true ∧ ∀ w, B w → (execOp a.eval o).run P w = .ok (.value v) w) ∨ (Region.wanted o (yielded ops a.tmps) = false ∧ v = undef)

theorem Yi.same {o : Oper} {v : Value} {a a' : Act} (h : Yi P ops B o v a) (he : execOp a'.eval o = execOp a.eval o) (hw : Region.wanted o (yielded ops a'.tmps) = Region.wanted o (yielded ops a.tmps)) : Yi P ops B o v a' := by
  unfold Yi at *
  rw [he, hw]; exact h

theorem Yi.one {o : Oper} {v u : Value} {a : Act} {w : World} (h : Yi P ops B o v a) (h' : Yi P ops B o u a) (hB : B w) : v = u := by
  rcases h with ⟨h1, h2⟩ | ⟨h1, rfl⟩ <;> rcases h' with ⟨h3, h4⟩ | ⟨h3, rfl⟩
  · have := (h2 w hB).symm.trans (h4 w hB); cases this; rfl
  · rw [h1] at h3; cases h3
  · rw [h1] at h3; cases h3
  · rfl

def Mix (P : Program) (ops : Array Oper) (kd : Nat → Nat) (B : World → Prop) (Q : Act → World → Prop) : List Nat → Act → World → Prop
  | [], a, w => Q a w
  | i :: is, a, w =>
    match ops[i]? with
    | none => False
    | some o =>
      if kd i = 0 ∨ kd i = 3 then ∃ v, Yi P ops (fun w => kd i = 3 ∨ B w) o v a ∧ Mix P ops kd B Q is (a.put o.dst v) w
      else if Region.wanted o (yielded ops a.tmps) = true then StepK P (fun v w' => (kd i = 1 → B w') ∧ Mix P ops kd B Q is (a.put o.dst v) w') ((execOp a.eval o).run P w)
      else Mix P ops kd B Q is (a.put o.dst undef) w

theorem StepK.mono {K K' : Value → World → Prop} {res : Result Next} (h : StepK P K res) (hk : ∀ v w, K v w → K' v w) : StepK P K' res := by
  cases res with
  | halt x w => exact h
  | ok x w =>
    cases x with
    | value v => exact hk v w h
    | skip => exact hk _ w h
    | enter f args => exact Calls.ret h hk
    | round l f tmps assign body => exact RoundIn.mono h fun e w ⟨v, he, hv⟩ => ⟨v, he, hk v w hv⟩
    | _ => exact h

theorem StepK.some {K : Value → World → Prop} {res : Result Next} (h : StepK P K res) : ∃ v w, K v w := by
  cases res with
  | halt x w => exact h.elim
  | ok x w =>
    cases x with
    | value v => exact ⟨v, w, h⟩
    | skip => exact ⟨_, w, h⟩
    | enter f args =>
      obtain ⟨e, w', fr, ⟨v, _, hv⟩, _⟩ := h []
      exact ⟨v, w', hv⟩
    | round l f tmps assign body =>
      obtain ⟨e, w', ⟨v, _, hv⟩, _⟩ := h.2 default [] (room_wide _)
      exact ⟨v, w', hv⟩
    | _ => exact h.elim

/-- two neighbours change places -/
theorem Mix.swap {p j : Nat} {op oj : Oper} {is : List Nat} {a : Act} {w : World} (hp : ops[p]? = some op) (hj : ops[j]? = some oj) (hap : op.apart ops oj = true) (hsp : ∀ cs b, op.op ≠ .select cs b) (hsj : ∀ cs b, oj.op ≠ .select cs b)
    (k3 : (kd p = 0 ∨ kd p = 3) ∨ (kd j = 0 ∨ kd j = 3)) (hB : kd j = 0 → B w) (h : Mix P ops kd B Q (p :: j :: is) a w) : Mix P ops kd B Q (j :: p :: is) a w := by
  obtain ⟨c1, c2, c3⟩ := Oper.apart_spec hap
  have keepj : ∀ (a : Act) (u : Value), execOp (a.put op.dst u).eval oj = execOp a.eval oj := fun a u => execOp_put oj hsj a op.dst u c1
  have keepp : ∀ (a : Act) (u : Value), execOp (a.put oj.dst u).eval op = execOp a.eval op := fun a u => execOp_put op hsp a oj.dst u c3
  have wj : ∀ (a : Act) (u : Value), Region.wanted oj (yielded ops (a.put op.dst u).tmps) = Region.wanted oj (yielded ops a.tmps) := fun a u => wanted_put oj a op.dst u c1
  have wp : ∀ (a : Act) (u : Value), Region.wanted op (yielded ops (a.put oj.dst u).tmps) = Region.wanted op (yielded ops a.tmps) := fun a u => wanted_put op a oj.dst u c3
  simp only [Mix, hp, hj] at h ⊢
  by_cases hp0 : kd p = 0 ∨ kd p = 3
  · rw [if_pos hp0] at h
    simp only [if_pos hp0]
    obtain ⟨v, hv, h⟩ := h
    by_cases hj0 : kd j = 0 ∨ kd j = 3
    · rw [if_pos hj0] at h ⊢
      obtain ⟨u, hu, h⟩ := h
      refine ⟨u, hu.same (keepj a v).symm (wj a v).symm, v, hv.same (keepp a u) (wp a u), ?_⟩
      rw [← Act.put_comm a v u c2]; exact h
    · rw [if_neg hj0] at h ⊢
      rw [keepj, wj] at h
      split
      · rename_i hw
        rw [if_pos hw] at h
        refine h.mono fun u w' ⟨hb, h⟩ => ⟨hb, v, hv.same (keepp a u) (wp a u), ?_⟩
        rw [← Act.put_comm a v u c2]; exact h
      · rename_i hw
        rw [if_neg hw] at h
        refine ⟨v, hv.same (keepp a undef) (wp a undef), ?_⟩
        rw [← Act.put_comm a v undef c2]; exact h
  · have hj0 : kd j = 0 ∨ kd j = 3 := k3.resolve_left hp0
    rw [if_neg hp0] at h
    simp only [if_pos hj0, if_neg hp0] at h ⊢
    by_cases hw : Region.wanted op (yielded ops a.tmps) = true
    · rw [if_pos hw] at h
      obtain ⟨u, w', _, v, hv, _⟩ := h.some
      have hv' : Yi P ops (fun w => kd j = 3 ∨ B w) oj v a := hv.same (keepj a u).symm (wj a u).symm
      refine ⟨v, hv', ?_⟩
      rw [wp, keepp, if_pos hw]
      refine h.mono fun u w' ⟨hb, v2, hv2, h⟩ => ⟨hb, ?_⟩
      have e : v2 = v := Yi.one (hv2.same (keepj a u).symm (wj a u).symm) hv' (hj0.elim (fun h => .inr (hB h)) .inl)
      subst e
      rw [← Act.put_comm a u v2 c2]; exact h
    · rw [if_neg hw] at h
      obtain ⟨v, hv, h⟩ := h
      refine ⟨v, hv.same (keepj a undef).symm (wj a undef).symm, ?_⟩
      rw [wp, if_neg hw, ← Act.put_comm a undef v c2]; exact h

/-- operation j waits for operation p, directly or through others -/
def reachB (ops : Array Oper) : Nat → Nat → Nat → Bool
  | 0, _, _ => false
  | f + 1, p, j => match ops[j]? with
    | none => false
    | some o => (o.after.any fun e => Region.binds .any e && Nat.beq e.on p) || (o.after.any fun e => Region.binds .any e && Nat.blt p e.on && reachB ops f p e.on)
def Closed (ops : Array Oper) (listed : Array Bool) : Prop := ∀ (j : Nat) (o : Oper), ops[j]? = some o → listed.getD j true = true → ∀ e ∈ o.after, Region.binds .any e = true → listed.getD e.on false = true
theorem reach_listed {listed : Array Bool} (hc : Closed ops listed) (hs : listed.size = ops.size) : ∀ (f p j : Nat), reachB ops f p j = true → (∀ o, ops[j]? = some o → ∀ e ∈ o.after, Region.binds .any e = true → listed.getD e.on false = true) → listed.getD p false = true
  | 0, _, _, h, _ => by cases h
  | f + 1, p, j, h, hd => by
    unfold reachB at h
    cases ho : ops[j]? with
    | none => rw [ho] at h; cases h
    | some o =>
      rw [ho] at h
      simp only [Bool.or_eq_true] at h
      rcases h with h | h
      · rw [← Array.any_toList] at h
        obtain ⟨e, he, h⟩ := List.any_eq_true.1 h
        rw [Bool.and_eq_true] at h
        have := hd o ho e (Array.mem_toList_iff.1 he) h.1
        rwa [Nat.eq_of_beq_eq_true h.2] at this
      · rw [← Array.any_toList] at h
        obtain ⟨e, he, h⟩ := List.any_eq_true.1 h
        rw [Bool.and_eq_true, Bool.and_eq_true] at h
        have hl := hd o ho e (Array.mem_toList_iff.1 he) h.1.1
        refine reach_listed hc hs f p e.on h.2 fun o' ho' e' he' hb' => hc e.on o' ho' ?_ e' he' hb'
        have hlt : e.on < listed.size := by rw [hs]; exact (Array.getElem?_eq_some_iff.1 ho').1
        simp only [Array.getD_eq_getD_getElem?, Array.getElem?_eq_getElem hlt, Option.getD_some] at hl ⊢
        exact hl

/-- what is asked of a region and the kinds of its operations -/
def mixB (ops : Array Oper) (kd : Nat → Nat) : Bool :=
  Region.noSelect ops && (List.range ops.size).all fun j =>
    match ops[j]? with
    | none => true
    | some oj => Nat.ble (kd j) 4 && (oj.after.all fun e => !Region.binds .any e || Nat.blt e.on j) && (List.range j).all fun p =>
      match ops[p]? with
      | none => true
      | some op => (!Nat.beq (kd p) 2 || Nat.beq (kd j) 2) && (!Nat.beq (kd p) 4 || Nat.ble 2 (kd j)) && (reachB ops ops.size p j || (op.apart ops oj && !Nat.beq (kd p) 2 && !Nat.beq (kd j) 2 && ((Nat.beq (kd p) 0 || Nat.beq (kd p) 3) || (Nat.beq (kd j) 0 || Nat.beq (kd j) 3)) && (!Nat.beq (kd j) 4 || Nat.beq (kd p) 3) && (!Nat.beq (kd p) 4 || Nat.beq (kd j) 3)))

structure MixOk (ops : Array Oper) (kd : Nat → Nat) : Prop where
  sel : ∀ (j : Nat) (o : Oper), ops[j]? = some o → ∀ cs b, o.op ≠ .select cs b
  le : ∀ (j : Nat) (o : Oper), ops[j]? = some o → kd j ≤ 4
  lt : ∀ (j : Nat) (o : Oper), ops[j]? = some o → ∀ e ∈ o.after, Region.binds .any e = true → e.on < j
  mono : ∀ (p j : Nat) (op oj : Oper), ops[p]? = some op → ops[j]? = some oj → p < j → kd p = 2 → kd j = 2
  four : ∀ (p j : Nat) (op oj : Oper), ops[p]? = some op → ops[j]? = some oj → p < j → kd p = 4 → 2 ≤ kd j
  two : ∀ (p j : Nat) (op oj : Oper), ops[p]? = some op → ops[j]? = some oj → p < j → reachB ops ops.size p j = true ∨ (op.apart ops oj = true ∧ kd p ≠ 2 ∧ kd j ≠ 2 ∧ ((kd p = 0 ∨ kd p = 3) ∨ (kd j = 0 ∨ kd j = 3)) ∧ (kd j = 4 → kd p = 3) ∧ (kd p = 4 → kd j = 3))

theorem mixOk_of (h : mixB ops kd = true) : MixOk ops kd := by
  unfold mixB at h
  rw [Bool.and_eq_true] at h
  obtain ⟨h1, h2⟩ := h
  rw [List.all_eq_true] at h2
  have hj : ∀ (j : Nat) (oj : Oper), ops[j]? = some oj → j ∈ List.range ops.size := fun j oj hj => List.mem_range.2 (Array.getElem?_eq_some_iff.1 hj).1
  have key : ∀ (j : Nat) (oj : Oper), ops[j]? = some oj → (Nat.ble (kd j) 4 && (oj.after.all fun e => !Region.binds .any e || Nat.blt e.on j) && (List.range j).all fun p =>
      match ops[p]? with
      | none => true
      | some op => (!Nat.beq (kd p) 2 || Nat.beq (kd j) 2) && (!Nat.beq (kd p) 4 || Nat.ble 2 (kd j)) && (reachB ops ops.size p j || (op.apart ops oj && !Nat.beq (kd p) 2 && !Nat.beq (kd j) 2 && ((Nat.beq (kd p) 0 || Nat.beq (kd p) 3) || (Nat.beq (kd j) 0 || Nat.beq (kd j) 3)) && (!Nat.beq (kd j) 4 || Nat.beq (kd p) 3) && (!Nat.beq (kd p) 4 || Nat.beq (kd j) 3)))) = true := by
    intro j oj h
    have := h2 j (hj j oj h)
    simpa only [h] using this
  refine ⟨fun j o ho cs b => Region.noSelect_spec h1 j o cs b ho, fun j o ho => ?_, fun j o ho e he hb => ?_, fun p j op oj hp hjj hlt h2 => ?_, fun p j op oj hp hjj hlt h2 => ?_, fun p j op oj hp hjj hlt => ?_⟩
  · have := key j o ho
    rw [Bool.and_eq_true, Bool.and_eq_true] at this
    exact Nat.le_of_ble_eq_true this.1.1
  · have := key j o ho
    rw [Bool.and_eq_true, Bool.and_eq_true] at this
    have h3 := Array.all_eq_true_iff_forall_mem.1 this.1.2 e he
    rw [hb] at h3
    have h4 : Nat.blt e.on j = true := by simpa only [Bool.not_true, Bool.false_or] using h3
    rwa [Nat.blt_eq] at h4
  · have := key j oj hjj
    rw [Bool.and_eq_true, Bool.and_eq_true] at this
    have h3 := List.all_eq_true.1 this.2 p (List.mem_range.2 hlt)
    simp only [hp] at h3
    rw [Bool.and_eq_true, Bool.and_eq_true] at h3
    have h4 := h3.1.1
    rw [h2] at h4
    have h5 : Nat.beq (kd j) 2 = true := by simpa only [Nat.beq_refl, Bool.not_true, Bool.false_or] using h4
    exact Nat.eq_of_beq_eq_true h5
  · have := key j oj hjj
    rw [Bool.and_eq_true, Bool.and_eq_true] at this
    have h3 := List.all_eq_true.1 this.2 p (List.mem_range.2 hlt)
    simp only [hp] at h3
    rw [Bool.and_eq_true, Bool.and_eq_true] at h3
    have h4 := h3.1.2
    rw [h2] at h4
    have h5 : Nat.ble 2 (kd j) = true := by simpa only [Nat.beq_refl, Bool.not_true, Bool.false_or] using h4
    exact Nat.le_of_ble_eq_true h5
  · have := key j oj hjj
    rw [Bool.and_eq_true, Bool.and_eq_true] at this
    have h3 := List.all_eq_true.1 this.2 p (List.mem_range.2 hlt)
    simp only [hp] at h3
    rw [Bool.and_eq_true] at h3
    replace h3 := h3.2
    rw [Bool.or_eq_true] at h3
    rcases h3 with h3 | h3
    · exact .inl h3
    · rw [Bool.and_eq_true, Bool.and_eq_true, Bool.and_eq_true, Bool.and_eq_true, Bool.and_eq_true, Bool.or_eq_true, Bool.or_eq_true, Bool.or_eq_true] at h3
      obtain ⟨⟨⟨⟨⟨h5, h6⟩, h7⟩, h8⟩, h9⟩, h10⟩ := h3
      refine .inr ⟨h5, fun e => ?_, fun e => ?_, ?_, fun e => ?_, fun e => ?_⟩
      · rw [e] at h6; cases h6
      · rw [e] at h7; cases h7
      · exact h8.imp (fun h => h.imp Nat.eq_of_beq_eq_true Nat.eq_of_beq_eq_true) (fun h => h.imp Nat.eq_of_beq_eq_true Nat.eq_of_beq_eq_true)
      · rw [e] at h9; exact Nat.eq_of_beq_eq_true (by simpa only [Nat.beq_refl, Bool.not_true, Bool.false_or] using h9)
      · rw [e] at h10; exact Nat.eq_of_beq_eq_true (by simpa only [Nat.beq_refl, Bool.not_true, Bool.false_or] using h10)

theorem Mix.front (ok : MixOk ops kd) {j : Nat} {oj : Oper} (hj : ops[j]? = some oj) {is : List Nat} : ∀ (pre : List Nat) (a : Act) (w : World), (∀ p ∈ pre, ∃ op, ops[p]? = some op ∧ op.apart ops oj = true ∧ kd p ≠ 2 ∧ kd j ≠ 2 ∧ ((kd p = 0 ∨ kd p = 3) ∨ (kd j = 0 ∨ kd j = 3)) ∧ (kd j = 4 → kd p = 3) ∧ (kd p = 4 → kd j = 3)) → (kd j = 0 → B w) →
    Mix P ops kd B Q (pre ++ j :: is) a w → Mix P ops kd B Q (j :: (pre ++ is)) a w
  | [], _, _, _, _, h => h
  | p :: pre, a, w, hpre, hB, h => by
    obtain ⟨op, hp, hap, hp2, _, k3, _, k5⟩ := hpre p (by simp)
    refine Mix.swap hp hj hap (ok.sel p op hp) (ok.sel j oj hj) k3 hB ?_
    have ih := fun a w hB => Mix.front ok hj pre a w (fun q hq => hpre q (by simp [hq])) hB (is := is)
    simp only [List.cons_append, Mix, hp] at h ⊢
    by_cases hp0 : kd p = 0 ∨ kd p = 3
    · rw [if_pos hp0] at h ⊢
      obtain ⟨v, hv, h⟩ := h
      exact ⟨v, hv, ih _ w hB h⟩
    · have hp1 : kd p = 1 ∨ kd p = 4 := by have := ok.le p op hp; omega
      rw [if_neg hp0] at h ⊢
      split
      · rename_i hw
        rw [if_pos hw] at h
        exact h.mono fun v w' ⟨hb, h⟩ => ⟨hb, ih _ w' (fun hj0 => hp1.elim hb fun h4 => by have := k5 h4; omega) h⟩
      · rename_i hw
        rw [if_neg hw] at h
        exact ih _ w hB h

structure MixIx (ops : Array Oper) (is : List Nat) (listed : Array Bool) : Prop where
  closed : Closed ops listed
  size : listed.size = ops.size
  mem : ∀ i, i ∈ is ↔ listed.getD i true = false
  srt : is.Pairwise (· < ·)

theorem mix_sound {r : Option Nat} (ok : MixOk ops kd) {Q' : Exit → Act → World → Prop} (hQ : ∀ a w, Q a w → Q' .normal a w) : ∀ (fuel : Nat) (is : List Nat) (listed : Array Bool) (a : Act) (w : World), is.length = fuel → MixIx ops is listed →
    ((∃ i ∈ is, kd i = 0) → B w) → Mix P ops kd B Q is a w → wpAnyIn (Wd r) 0 P .any ops Q' fuel listed a w := by
  intro fuel
  induction fuel with
  | zero =>
    intro is listed a w hl hx hB h
    have : is = [] := List.length_eq_zero_iff.1 hl
    subst this
    refine ⟨?_, hQ a w h⟩
    cases hr : Region.ready .any ops listed with
    | nil => rfl
    | cons j rs =>
      have := (mem_ready.1 (by rw [hr]; exact List.mem_cons_self : j ∈ Region.ready .any ops listed)).1
      exact absurd ((hx.mem j).2 this) (by simp)
  | succ fuel ih =>
    intro is listed a w hl hx hB h
    refine ⟨fun hr => ?_, fun j hj => ?_⟩
    · -- the first one left is ready
      cases is with
      | nil => simp at hl
      | cons i is =>
        exfalso
        have hun := (hx.mem i).1 (by simp)
        have hi : i < ops.size := by
          rcases Nat.lt_or_ge i ops.size with h' | h'
          · exact h'
          · rw [← hx.size] at h'; simp [Array.getElem?_eq_none h'] at hun
        have ho : ops[i]? = some ops[i] := by simp [hi]
        have : i ∈ Region.ready .any ops listed := mem_ready.2 ⟨hun, ops[i], ho, fun e he hb => by
          have hlt := ok.lt i _ ho e he hb
          have hnot : e.on ∉ i :: is := by
            intro hm
            rcases List.mem_cons.1 hm with rfl | hm
            · omega
            · have := (List.pairwise_cons.1 hx.srt).1 _ hm; omega
          have h1 : listed.getD e.on true ≠ false := fun h => hnot ((hx.mem _).2 h)
          have h2 : e.on < listed.size := by rw [hx.size]; omega
          simp only [Array.getD_eq_getD_getElem?, Array.getElem?_eq_getElem h2, Option.getD_some] at h1 ⊢
          simpa using h1⟩
        rw [hr] at this; cases this
    · obtain ⟨hun, oj, ho, hdeps⟩ := mem_ready.1 hj
      have hjm : j ∈ is := (hx.mem j).2 hun
      obtain ⟨pre, post, rfl⟩ := List.append_of_mem hjm
      have hpre : ∀ p ∈ pre, ∃ op, ops[p]? = some op ∧ op.apart ops oj = true ∧ kd p ≠ 2 ∧ kd j ≠ 2 ∧ ((kd p = 0 ∨ kd p = 3) ∨ (kd j = 0 ∨ kd j = 3)) ∧ (kd j = 4 → kd p = 3) ∧ (kd p = 4 → kd j = 3) := by
        intro p hp
        have hpl : listed.getD p true = false := (hx.mem p).1 (by simp [hp])
        have hps : p < ops.size := by
          rcases Nat.lt_or_ge p ops.size with h' | h'
          · exact h'
          · rw [← hx.size] at h'; simp [Array.getElem?_eq_none h'] at hpl
        have hop : ops[p]? = some ops[p] := by simp [hps]
        have hlt : p < j := by
          have := List.pairwise_append.1 hx.srt
          exact this.2.2 p hp j (by simp)
        rcases ok.two p j _ oj hop ho hlt with hre | h2
        · have := reach_listed hx.closed hx.size _ p j hre (fun o ho' e he hb => by rw [ho] at ho'; cases ho'; exact hdeps e he hb)
          have h2 : p < listed.size := by rw [hx.size]; exact hps
          simp only [Array.getD_eq_getD_getElem?, Array.getElem?_eq_getElem h2, Option.getD_some] at this hpl
          rw [this] at hpl; cases hpl
        · exact ⟨_, hop, h2⟩
      have hlen : (pre ++ post).length = fuel := by simp at hl ⊢; omega
      have hx' : MixIx ops (pre ++ post) (listed.setIfInBounds j true) := by
        have hjs : j < listed.size := by
          rcases Nat.lt_or_ge j listed.size with h' | h'
          · exact h'
          · simp [Array.getElem?_eq_none h'] at hun
        refine ⟨fun k o hk hkl e he hb => ?_, by simp [hx.size], fun i => ?_, ?_⟩
        · by_cases hjk : j = k
          · subst hjk
            rw [ho] at hk; cases hk
            exact getD_set_true (hdeps e he hb)
          · rw [getD_set_ne true hjk] at hkl
            exact getD_set_true (hx.closed k o hk hkl e he hb)
        · by_cases hij : j = i
          · subst hij
            have hs := hx.srt
            have : j ∉ pre ++ post := by
              intro hm
              have hp := List.pairwise_append.1 hs
              rcases List.mem_append.1 hm with hm | hm
              · have := hp.2.2 j hm j (by simp); omega
              · have := (List.pairwise_cons.1 hp.2.1).1 j hm; omega
            constructor
            · intro hm; exact absurd hm this
            · intro hm; simp [hjs] at hm
          · rw [getD_set_ne true hij, ← hx.mem i]
            simp only [List.mem_append, List.mem_cons]
            constructor
            · rintro (h | h)
              · exact .inl h
              · exact .inr (.inr h)
            · rintro (h | h | h)
              · exact .inl h
              · exact absurd h.symm hij
              · exact .inr h
        · have hp := List.pairwise_append.1 hx.srt
          exact List.pairwise_append.2 ⟨hp.1, (List.pairwise_cons.1 hp.2.1).2, fun x hx y hy => hp.2.2 x hx y (by simp [hy])⟩
      -- j comes to the front
      have hfront : Mix P ops kd B Q (j :: (pre ++ post)) a w := by
        cases pre with
        | nil => exact h
        | cons p pre' =>
          exact Mix.front ok ho _ a w hpre (fun h0 => hB ⟨j, hjm, h0⟩) h
      have hB' : (∃ i ∈ pre ++ post, kd i = 0) → B w := fun ⟨i, hi, k⟩ => hB ⟨i, by
        rcases List.mem_append.1 hi with h | h
        · simp [h]
        · simp [h], k⟩
      simp only [Mix, ho] at hfront
      unfold wpOpIn
      simp only [ho]
      by_cases hj0 : kd j = 0 ∨ kd j = 3
      · rw [if_pos hj0] at hfront
        obtain ⟨v, hv, hrest⟩ := hfront
        rcases hv with ⟨hw, hrun⟩ | ⟨hw, rfl⟩
        · rw [if_pos hw]
          have hrun := hrun w (hj0.elim (fun h => .inr (hB ⟨j, hjm, h⟩)) .inl)
          refine ⟨fun _ _ => trivial, ?_⟩
          have hd : ∀ c, oj.op ≠ .defer c := by
            intro c hc
            unfold execOp at hrun
            rw [hc] at hrun
            simp only at hrun
            unfold resolve at hrun
            cases hcal : c.callee with
            | builtin b => simp [hcal] at hrun
            | invoke x y => simp [hcal] at hrun
            | value f =>
              simp only [hcal] at hrun
              cases hf : a.eval f <;> simp [hf, Deferred.ofValue] at hrun
          rw [semAt_plain hd, hrun]
          exact ih _ _ _ _ hlen hx' hB' hrest
        · rw [if_neg (by rw [hw]; simp)]
          exact ⟨fun _ _ => trivial, ih _ _ _ _ hlen hx' hB' hrest⟩
      · rw [if_neg hj0] at hfront
        by_cases hw : Region.wanted oj (yielded ops a.tmps) = true
        · rw [if_pos hw] at hfront
          rw [if_pos hw]
          have hrep : Rep a.tmps.size (fun t => a.tmps.getD t undef) a.defers a := ⟨rfl, fun _ => rfl, rfl⟩
          have hst : StepK P (fun v w' => (kd j = 1 → B w') ∧ Mix P ops kd B Q (pre ++ post) (a.put oj.dst v) w') ((xop (fun t => a.tmps.getD t undef) oj.op oj.type).run P w) := by
            rw [← execOp_xop, ← hrep.eval]; exact hfront
          refine stepK_in hrep hst fun v w' ⟨hb, hrest⟩ => ih _ _ _ w' hlen hx' (fun hex => ?_) hrest
          by_cases hj1 : kd j = 1
          · exact hb hj1
          · -- kind 2: whatever is left is of kind 2 as well; kind 4: nothing is left that looks at worlds
            exfalso
            obtain ⟨i, hi, hne⟩ := hex
            have hj2 : kd j = 2 ∨ kd j = 4 := by have := ok.le j oj ho; omega
            rcases List.mem_append.1 hi with hm | hm
            · obtain ⟨op, h⟩ := hpre i hm
              rcases hj2 with hj2 | hj2
              · exact h.2.2.2.1 hj2
              · have := h.2.2.2.2.2.1 hj2; omega
            · have hlt : j < i := by
                have hp := List.pairwise_append.1 hx.srt
                exact (List.pairwise_cons.1 hp.2.1).1 i hm
              have hil : listed.getD i true = false := (hx.mem i).1 (by simp [hm])
              have his : i < ops.size := by
                rcases Nat.lt_or_ge i ops.size with h' | h'
                · exact h'
                · rw [← hx.size] at h'; simp [Array.getElem?_eq_none h'] at hil
              rcases hj2 with hj2 | hj2
              · have := ok.mono j i oj _ ho (by simp [his] : ops[i]? = some ops[i]) hlt hj2; omega
              · have := ok.four j i oj _ ho (by simp [his] : ops[i]? = some ops[i]) hlt hj2; omega
        · rw [if_neg hw] at hfront
          rw [if_neg hw]
          exact ⟨fun _ _ => trivial, ih _ _ _ _ hlen hx' hB' hfront⟩

/-! ### over environments -/
def MixE (P : Program) (N : Nat) (ops : Array Oper) (kd : Nat → Nat) (B : World → Prop) (Q : Post) : Nat → List Oper → Env → List Deferred → World → Prop
  | _, [], E, ds, w => Q .normal E ds w
  | i, o :: rest, E, ds, w =>
    if kd i = 0 ∨ kd i = 3 then ∃ v, ((Region.wanted o (yieldE ops E) = true ∧ ∀ w, (kd i = 3 ∨ B w) → (xop E o.op o.type).run P w = .ok (.value v) w) ∨ (Region.wanted o (yieldE ops E) = false ∧ v = undef)) ∧ MixE P N ops kd B Q (i + 1) rest (putE N o.dst E v) ds w
    else if Region.wanted o (yieldE ops E) = true then StepK P (fun v w' => (kd i = 1 → B w') ∧ MixE P N ops kd B Q (i + 1) rest (putE N o.dst E v) ds w') ((xop E o.op o.type).run P w)
    else MixE P N ops kd B Q (i + 1) rest (putE N o.dst E undef) ds w

theorem mixE_in {N : Nat} {Q : Post} (l : List Oper) : ∀ (i : Nat) (E : Env) (ds : List Deferred) (a : Act) (w : World), (∀ k, l[k]? = ops[i + k]?) → Rep N E ds a → MixE P N ops kd B Q i l E ds w →
    Mix P ops kd B (PostA N Q .normal) (List.range' i l.length) a w := by
  induction l with
  | nil => exact fun i E ds a w _ hr h => ⟨E, ds, hr, h⟩
  | cons o rest ih =>
    intro i E ds a w hl hr h
    have h0 : ops[i]? = some o := by simpa using (hl 0).symm
    have ih' := fun E ds a w => ih (i + 1) E ds a w (fun k => by have := hl (k + 1); simpa [Nat.add_assoc, Nat.add_comm 1 k] using this)
    simp only [MixE] at h
    simp only [List.length_cons, List.range'_succ, Mix, h0]
    rw [yieldE_eq hr]
    by_cases hk : kd i = 0 ∨ kd i = 3
    · rw [if_pos hk] at h ⊢
      obtain ⟨v, hv, h⟩ := h
      refine ⟨v, ?_, ih' _ ds _ w (hr.put _ _) h⟩
      unfold Yi
      rw [yieldE_eq hr, hr.eval, execOp_xop]
      exact hv
    · rw [if_neg hk] at h ⊢
      rw [hr.eval, execOp_xop]
      split
      · rename_i hw
        rw [if_pos hw] at h
        exact h.mono fun v w' ⟨hb, h⟩ => ⟨hb, ih' _ ds _ w' (hr.put _ _) h⟩
      · rename_i hw
        rw [if_neg hw] at h
        exact ih' _ ds _ w (hr.put _ _) h

def kdOf (l : List Nat) (i : Nat) : Nat := l.getD i 2
theorem kdOf_ge {l : List Nat} {i : Nat} (h : l.length ≤ i) : kdOf l i = 2 := by
  unfold kdOf; simp [List.getD, List.getElem?_eq_none h]

theorem WP.mix {r : Option Nat} {N : Nat} {Q : Post} {E : Env} {ds : List Deferred} {w : World} {id : Nat} (kd : Nat → Nat) (B : World → Prop) (hm : P.follows .mixedOrders = true) (hc : mixB ops kd = true) (hB : ∀ w', World.core w' = World.core w → B w')
    (h : ∀ w', World.core w' = World.core w → MixE P N ops kd B Q 0 ops.toList E ds w') : WP P r N (.region id ops true) Q E ds w := by
  intro a hr
  have h1 := mixE_in ops.toList 0 E ds a _ (fun k => by simp) hr (h { w with drawn := w.drawn + 1 } rfl)
  refine wpIn_region_any hm (mix_sound (mixOk_of hc) (fun _ _ h => h) ops.size (List.range' 0 ops.toList.length) _ a _ (by simp) ⟨fun k o hk hkl => ?_, by simp, fun i => ?_, ?_⟩ (fun _ => hB _ rfl) h1)
  · have hlt : k < ops.size := (Array.getElem?_eq_some_iff.1 hk).1
    simp [hlt] at hkl
  · rw [List.mem_range']
    simp only [Array.length_toList, Nat.one_mul, Nat.zero_add, exists_eq_right']
    constructor
    · intro hi; simp [hi]
    · intro hi
      rcases Nat.lt_or_ge i ops.size with h' | h'
      · exact h'
      · simp [Array.getElem?_eq_none (show (Array.replicate ops.size false).size ≤ i by simpa using h')] at hi
  · exact List.pairwise_lt_range'

variable {N : Nat} {Q' : Post} {E : Env} {ds : List Deferred} {w : World} {i : Nat} {rest : List Oper} {d : Nat} {op : Op} {ty : TypeId} {pos : String} {af : Array Edge}

theorem MixE.nil (h : Q' .normal E ds w) : MixE P N ops kd B Q' i [] E ds w := h
theorem MixE.q {v : Value} (hk : kd i = 0) (h : ∀ w, B w → (xop E op ty).run P w = .ok (.value v) w) (k : MixE P N ops kd B Q' (i + 1) rest (upd N E d v) ds w) :
    MixE P N ops kd B Q' i (⟨some d, op, ty, pos, af, none⟩ :: rest) E ds w := by
  unfold MixE
  rw [if_pos (.inl hk)]
  exact ⟨v, .inl ⟨rfl, fun w hw => h w (hw.resolve_left (by omega))⟩, k⟩
theorem MixE.p {v : Value} (hk : kd i = 3) (h : ∀ w, (xop E op ty).run P w = .ok (.value v) w) (k : MixE P N ops kd B Q' (i + 1) rest (upd N E d v) ds w) :
    MixE P N ops kd B Q' i (⟨some d, op, ty, pos, af, none⟩ :: rest) E ds w := by
  unfold MixE
  rw [if_pos (.inr hk)]
  exact ⟨v, .inl ⟨rfl, fun w _ => h w⟩, k⟩
/-- an operation that acts behind all that look at worlds -/
theorem MixE.four {o : Oper} (hk : kd i = 4) (h : OpsE P N ops (fun e E' ds' w' => e = .normal ∧ ds' = ds ∧ MixE P N ops kd B Q' (i + 1) rest E' ds w') [o] E ds w) : MixE P N ops kd B Q' i (o :: rest) E ds w := by
  unfold MixE
  rw [if_neg (by omega)]
  unfold OpsE at h
  split
  · rename_i hw
    rw [if_pos hw] at h
    exact h.mono fun v w' h => ⟨fun h1 => by omega, h.2.2⟩
  · rename_i hw
    rw [if_neg hw] at h
    exact h.2.2
/-- an operation that acts and keeps the class -/
theorem MixE.one {o : Oper} (hk : kd i = 1) (h : OpsE P N ops (fun e E' ds' w' => e = .normal ∧ ds' = ds ∧ B w' ∧ MixE P N ops kd B Q' (i + 1) rest E' ds w') [o] E ds w) : MixE P N ops kd B Q' i (o :: rest) E ds w := by
  unfold MixE
  rw [if_neg (by omega)]
  unfold OpsE at h
  split
  · rename_i hw
    rw [if_pos hw] at h
    exact h.mono fun v w' h => ⟨fun _ => h.2.2.1, h.2.2.2⟩
  · rename_i hw
    rw [if_neg hw] at h
    exact h.2.2.2
/-- what is left acts behind all else -/
theorem MixE.two (l : List Oper) : ∀ {i : Nat} {E : Env} {w : World}, (∀ k, k < l.length → kd (i + k) = 2) → OpsE P N ops Q' l E ds w → MixE P N ops kd B Q' i l E ds w := by
  induction l with
  | nil => exact fun _ h => h
  | cons o rest ih =>
    intro i E w hk h
    have hk0 : kd i = 2 := hk 0 (by simp)
    have ih' := fun E w => ih (i := i + 1) (E := E) (w := w) (fun k hl => by have := hk (k + 1) (by simpa using hl); rwa [Nat.add_assoc, Nat.add_comm 1 k])
    unfold OpsE at h
    unfold MixE
    rw [if_neg (by omega)]
    split
    · rename_i hw
      rw [if_pos hw] at h
      exact h.mono fun v w' h => ⟨fun h1 => by omega, ih' _ _ h⟩
    · rename_i hw
      rw [if_neg hw] at h
      exact ih' _ _ h
theorem MixE.yes {o : Option Nat} {g : Nat × Bool} (hw : Region.wanted ⟨o, op, ty, pos, af, some g⟩ (yieldE ops E) = true) (k : MixE P N ops kd B Q' i (⟨o, op, ty, pos, af, none⟩ :: rest) E ds w) :
    MixE P N ops kd B Q' i (⟨o, op, ty, pos, af, some g⟩ :: rest) E ds w := by
  unfold MixE at *
  have hn : Region.wanted ⟨o, op, ty, pos, af, none⟩ (yieldE ops E) = true := rfl
  rw [hw]
  rw [hn] at k
  exact k
theorem MixE.no {g : Nat × Bool} (hw : Region.wanted ⟨some d, op, ty, pos, af, some g⟩ (yieldE ops E) = false) (k : MixE P N ops kd B Q' (i + 1) rest (upd N E d undef) ds w) :
    MixE P N ops kd B Q' i (⟨some d, op, ty, pos, af, some g⟩ :: rest) E ds w := by
  unfold MixE
  by_cases hk : kd i = 0 ∨ kd i = 3
  · rw [if_pos hk]
    exact ⟨undef, .inr ⟨hw, rfl⟩, k⟩
  · rw [if_neg hk, if_neg (by rw [hw]; simp)]
    exact k
end
end Go.Proofs.Ytbhbdpbhhfemhaa

/-
  The order of strings: plain facts. Nothing of the program.
-/
namespace Go.Proofs.Ytbhbdpbhhfemhaa
open Go

abbrev bl := Op.bytesLess
theorem bl_irrefl : ∀ l, bl l l = false
  | [] => rfl
  | a :: l => by
    have := bl_irrefl l
    simp [bl, Op.bytesLess, UInt8.lt_irrefl] at this ⊢; exact this
theorem bl_trans : ∀ a b c, bl a b = true → bl b c = true → bl a c = true
  | [], [], _, h, _ => by simp [bl, Op.bytesLess] at h
  | [], _ :: _, [], _, h => by simp [bl, Op.bytesLess] at h
  | [], _ :: _, _ :: _, _, _ => rfl
  | _ :: _, [], _, h, _ => by simp [bl, Op.bytesLess] at h
  | _ :: _, _ :: _, [], _, h => by simp [bl, Op.bytesLess] at h
  | x :: a, y :: b, z :: c, h1, h2 => by
    have ih := bl_trans a b c
    simp only [bl, Op.bytesLess, Bool.or_eq_true, decide_eq_true_eq, Bool.and_eq_true, beq_iff_eq] at *
    rcases h1 with h1 | ⟨rfl, h1⟩
    · rcases h2 with h2 | ⟨rfl, _⟩
      · exact .inl (UInt8.lt_trans h1 h2)
      · exact .inl h1
    · rcases h2 with h2 | ⟨rfl, h2⟩
      · exact .inl h2
      · exact .inr ⟨rfl, ih h1 h2⟩
theorem bl_tri : ∀ a b, bl a b = true ∨ a = b ∨ bl b a = true
  | [], [] => .inr (.inl rfl)
  | [], _ :: _ => .inl rfl
  | _ :: _, [] => .inr (.inr rfl)
  | x :: a, y :: b => by
    have ih := bl_tri a b
    simp only [bl, Op.bytesLess, Bool.or_eq_true, decide_eq_true_eq, Bool.and_eq_true, beq_iff_eq] at *
    by_cases h : x < y
    · exact .inl (.inl h)
    · by_cases h' : y < x
      · exact .inr (.inr (.inl h'))
      · have e : x = y := UInt8.le_antisymm (UInt8.not_lt.1 h') (UInt8.not_lt.1 h)
        subst e
        rcases ih with h1 | rfl | h1
        · exact .inl (.inr ⟨rfl, h1⟩)
        · exact .inr (.inl rfl)
        · exact .inr (.inr (.inr ⟨rfl, h1⟩))

theorem slt_irrefl (s : ByteArray) : slt s s = false := bl_irrefl _
theorem slt_trans {a b c : ByteArray} (h : slt a b = true) (h' : slt b c = true) : slt a c = true := bl_trans _ _ _ h h'
theorem slt_tri (a b : ByteArray) : slt a b = true ∨ a = b ∨ slt b a = true := by
  rcases bl_tri a.toList b.toList with h | h | h
  · exact .inl h
  · refine .inr (.inl ?_)
    rw [toList_data, toList_data] at h
    exact ByteArray.ext (Array.toList_inj.1 h)
  · exact .inr (.inr h)
theorem slt_asymm {a b : ByteArray} (h : slt a b = true) : slt b a = false := by
  cases e : slt b a with
  | false => rfl
  | true => have := slt_trans h e; rw [slt_irrefl] at this; cases this
theorem slt_ne {a b : ByteArray} (h : slt a b = true) : a ≠ b := fun e => by subst e; rw [slt_irrefl] at h; cases h

def cmpS (a b : ByteArray) : Int := Lib.compareBytes a.data.toList b.data.toList
theorem cmpL_spec : ∀ (a b : List UInt8), (Lib.compareBytes a b < 0 ↔ bl a b = true) ∧ (Lib.compareBytes a b = 0 ↔ a = b)
  | [], [] => by simp [Lib.compareBytes, bl, Op.bytesLess]
  | [], _ :: _ => by simp [Lib.compareBytes, bl, Op.bytesLess]
  | _ :: _, [] => by simp [Lib.compareBytes, bl, Op.bytesLess]
  | x :: a, y :: b => by
    have ih := cmpL_spec a b
    simp only [bl, Op.bytesLess, Bool.or_eq_true, decide_eq_true_eq, Bool.and_eq_true, beq_iff_eq, List.cons.injEq] at *
    unfold Lib.compareBytes
    by_cases h : x < y
    · have hn : x ≠ y := fun e => by subst e; exact UInt8.lt_irrefl x h
      simp [h, hn]
    · by_cases h' : y < x
      · have hn : x ≠ y := fun e => by subst e; exact UInt8.lt_irrefl x h'
        simp [h, h', hn]
      · have e : x = y := UInt8.le_antisymm (UInt8.not_lt.1 h') (UInt8.not_lt.1 h)
        subst e
        simpa [h] using ih
theorem cmpS_lt (a b : ByteArray) : cmpS a b < 0 ↔ slt a b = true := by
  unfold cmpS slt
  rw [toList_data, toList_data]; exact (cmpL_spec _ _).1
theorem cmpS_eq (a b : ByteArray) : cmpS a b = 0 ↔ a = b := by
  unfold cmpS
  rw [(cmpL_spec _ _).2]
  exact ⟨fun h => ByteArray.ext (Array.toList_inj.1 h), fun h => by subst h; rfl⟩
theorem cmpS_bd (a b : ByteArray) : -1 ≤ cmpS a b ∧ cmpS a b ≤ 1 := by
  unfold cmpS
  generalize a.data.toList = x
  generalize b.data.toList = y
  induction x generalizing y with
  | nil => cases y <;> simp [Lib.compareBytes]
  | cons a x ih =>
    cases y with
    | nil => simp [Lib.compareBytes]
    | cons b y =>
      unfold Lib.compareBytes
      split
      · omega
      · split
        · omega
        · exact ih y
end Go.Proofs.Ytbhbdpbhhfemhaa

/-
  Contracts of the library's searches, whatever function value they are handed.
-/
namespace Go.Proofs.Ytbhbdpbhhfemhaa
open Go Go.Proofs
set_option maxRecDepth 100000
set_option maxHeartbeats 4000000

theorem x_mid {P : Program} {E : Env} {w : World} {ty T yt : TypeId} {x : Operand} {n : Nat} (hx : evE E x = .int .u64 (n : Int)) : (xop E (.binOp .shr T x (.const (.int .u64 1)) yt) ty).run P w = .ok (.value (.int .u64 ((n / 2 : Nat) : Int))) w := by
  have hy : evE E (.const (.int .u64 1)) = .int .u64 1 := rfl
  have e : min 1 IntKind.u64.bits = 1 := by decide
  simp [xop, execOp, hx, hy, eqGuard_int, binOp, Op.shift, e, Int.fdiv_eq_ediv_of_nonneg]

theorem Search_spec (n : Nat) (g : FuncId) (caps : List Value) (p : Nat → Bool) {w : World} {l : List HP} (H : Sat w l) (hn : n ≤ 4611686018427387904) (hc : ∀ args w, (callFunc g args).run Try.prog w = .ok (.enter g args) w)
    (hg : ∀ w (i : Nat), i < n → Sat w l → Calls Try.prog g ([Value.int .i64 i] ++ caps).toArray w (Ret fun v w' => v = .bool (p i) ∧ Sat w' l)) :
    Calls Try.prog 104 #[.int .i64 n, .func (.func g) #[] caps.toArray] w (Ret fun v w' => ∃ r : Nat, v = .int .i64 r ∧ r ≤ n ∧ (∀ k, r = k + 1 → p k = false) ∧ (r < n → p r = true) ∧ Sat w' l) := by
  refine Calls.of_wp Try.func104 rfl Try.ntmps104 Try.results104 (Nat.le_of_ble_eq_true rfl) ?_
  refine WP.seq ?_
  refine WP.region ?_
  refine OpsE.val (x_assign (v := .int .i64 _) rfl) ?_
  refine OpsE.nil ?_
  refine Then.normal ?_
  refine WP.seq ?_
  refine WP.region ?_
  refine OpsE.val (x_move (v := .int .i64 _) rfl) ?_
  refine OpsE.val (x_assign (v := .int .i64 _) rfl) ?_
  refine OpsE.val (x_assign (v := .int .i64 _) rfl) ?_
  refine OpsE.nil ?_
  refine Then.normal ?_
  refine WP.seq ?_
  refine WP.block ?_
  refine WP.loopS [5, 6, 7, 9, 10, 11, 12, 13, 14, 15, 16, 17, 18, 19, 20, 21, 22, 23, 24] (fun (s : Nat × Nat) E w => E 5 = .int .i64 (s.1 : Int) ∧ E 6 = .int .i64 (s.2 : Int) ∧ s.1 ≤ s.2 ∧ s.2 ≤ n ∧ (∀ k, s.1 = k + 1 → p k = false) ∧ (s.2 < n → p s.2 = true) ∧ Sat w l) (fun s => s.2 - s.1) (0, n) ⟨rfl, rfl, Nat.zero_le _, Nat.le_refl _, (fun _ h => by cases h), (fun h => absurd h (Nat.lt_irrefl _)), H⟩ ?_
  rintro ⟨i, j⟩ E1 w hs ⟨e5, e6, hij, hjn, hp, hq, H⟩
  dsimp only at e5 e6 hij hjn hp hq
  refine WP.seq ?_
  refine WP.seq ?_
  refine WP.region ?_
  refine OpsE.val (x_move (v := .int .i64 _) e5) ?_
  refine OpsE.val (x_move (v := .int .i64 _) e6) ?_
  refine OpsE.val (x_lt rfl rfl) ?_
  by_cases hlt : (i : Int) < (j : Int)
  · rw [decide_eq_true hlt]
    refine OpsE.nil ?_
    refine Then.normal ?_
    refine WP.cond_t rfl rfl ?_
    refine WP.skip ?_
    refine Then.normal ?_
    refine WP.block ?_
    refine WP.seq ?_
    refine WP.region ?_
    refine OpsE.val (x_move (v := .int .i64 _) e5) ?_
    refine OpsE.val (x_move (v := .int .i64 _) e6) ?_
    refine OpsE.val (x_add (z := ((i + j : Nat) : Int)) rfl rfl (by rw [i64n (by omega) (by omega)]; omega)) ?_
    refine OpsE.val (x_convI (z := ((i + j : Nat) : Int)) rfl Try.runUnderlying3 Try.runUnderlying108 (u64n (by omega) (by omega))) ?_
    refine OpsE.val (x_mid rfl) ?_
    refine OpsE.val (x_convI (z := (((i + j) / 2 : Nat) : Int)) rfl Try.runUnderlying108 Try.runUnderlying3 (i64n (by omega) (by omega))) ?_
    refine OpsE.val (x_assign (v := .int .i64 _) rfl) ?_
    refine OpsE.nil ?_
    refine Then.normal ?_
    refine WP.seq ?_
    refine WP.region ?_
    refine OpsE.val (x_move (v := .func _ _ _) (hs 1 rfl)) ?_
    refine OpsE.val (x_move (v := .int .i64 _) rfl) ?_
    refine OpsE.call (x_callV (cl := caps) (vl := [.int .i64 _]) rfl rfl hc) (hg w ((i + j) / 2) (by omega) H) ?_
    rintro _ w ⟨rfl, H⟩
    cases hm : p ((i + j) / 2)
    case false =>
      refine OpsE.val (x_not rfl) ?_
      refine OpsE.nil ?_
      refine Then.normal ?_
      refine WP.cond_t rfl rfl ?_
      refine WP.region ?_
      refine OpsE.val (x_move (v := .int .i64 _) rfl) ?_
      refine OpsE.val (x_add (z := (((i + j) / 2 + 1 : Nat) : Int)) rfl rfl (by rw [i64n (by omega) (by omega)]; omega)) ?_
      refine OpsE.val (x_assign (v := .int .i64 _) rfl) ?_
      refine OpsE.nil ?_
      refine InBlock.normal ?_
      refine Then.normal ?_
      refine ⟨rfl, (by repeat (first | exact hs | refine Same.upd ?_ rfl)), ((i + j) / 2 + 1, j), (by dsimp only; omega), rfl, e6, (by dsimp only; omega), hjn, (fun k hk => ?_), hq, H⟩
      have : k = (i + j) / 2 := by dsimp only at hk; omega
      subst this; exact hm
    case true =>
      refine OpsE.val (x_not rfl) ?_
      refine OpsE.nil ?_
      refine Then.normal ?_
      refine WP.cond_f rfl rfl ?_
      refine WP.region ?_
      refine OpsE.val (x_move (v := .int .i64 _) rfl) ?_
      refine OpsE.val (x_assign (v := .int .i64 _) rfl) ?_
      refine OpsE.nil ?_
      refine InBlock.normal ?_
      refine Then.normal ?_
      exact ⟨rfl, (by repeat (first | exact hs | refine Same.upd ?_ rfl)), (i, (i + j) / 2), (by dsimp only; omega), e5, rfl, (by dsimp only; omega), (by dsimp only; omega), hp, (fun _ => hm), H⟩
  · rw [decide_eq_false hlt]
    refine OpsE.nil ?_
    refine Then.normal ?_
    refine WP.cond_f rfl rfl ?_
    refine WP.exit ?_
    refine Then.exit ?_
    refine Then.exit ?_
    refine InBlock.hit ?_
    refine Then.normal ?_
    refine WP.seq ?_
    refine WP.region ?_
    refine OpsE.val (x_move (v := .int .i64 _) e5) ?_
    refine OpsE.val (x_assign (v := .int .i64 _) rfl) ?_
    refine OpsE.nil ?_
    refine Then.normal ?_
    refine WP.ret ?_
    refine Leave0.ret (v := .int .i64 _) rfl ?_
    refine ⟨j, congrArg (fun z => Value.int .i64 (z : Int)) (show (i : Int) = j by omega), hjn, ?_, hq, H⟩
    have : i = j := by omega
    subst this; exact hp


theorem call_cmpstring (a b : ByteArray) (w : World) : (callFunc 85 #[.string a, .string b]).run Try.prog w = .ok (.value (.int .i64 (cmpS a b))) w := by
  rw [run_callFunc_extern Try.func85 (by kernel_rfl) (by kernel_rfl) (by kernel_rfl) (e := Extern.BytealgCompare.compare) (by kernel_rfl), Lib.run_compareString]
  rfl

theorem CompareString_spec (a b : ByteArray) {w : World} {l : List HP} (H : Sat w l) :
    Calls Try.prog 62 #[.string a, .string b] w (Ret fun v w' => v = .int .i64 (cmpS a b) ∧ Sat w' l) := by
  refine Calls.of_wp Try.func62 rfl Try.ntmps62 Try.results62 (Nat.le_of_ble_eq_true rfl) ?_
  refine WP.seq ?_
  refine WP.region ?_
  refine OpsE.val (x_assign (v := .int .i64 _) rfl) ?_
  refine OpsE.nil ?_
  refine Then.normal ?_
  refine WP.seq ?_
  refine WP.region ?_
  refine OpsE.val (x_move (v := .string _) rfl) ?_
  refine OpsE.val (x_move (v := .string _) rfl) ?_
  refine OpsE.val (x_callX (vl := [.string _, .string _]) rfl (call_cmpstring _ _ _)) ?_
  refine OpsE.val (x_assign (v := .int .i64 _) rfl) ?_
  refine OpsE.nil ?_
  refine Then.normal ?_
  refine WP.ret ?_
  refine Leave0.ret (v := .int .i64 _) rfl ?_
  exact ⟨rfl, H⟩

theorem Compare_spec (a b : ByteArray) {w : World} {l : List HP} (H : Sat w l) :
    Calls Try.prog 43 #[.string a, .string b] w (Ret fun v w' => v = .int .i64 (cmpS a b) ∧ Sat w' l) := by
  refine Calls.of_wp Try.func43 rfl Try.ntmps43 Try.results43 (Nat.le_of_ble_eq_true rfl) ?_
  refine WP.seq ?_
  refine WP.region ?_
  refine OpsE.val (x_assign (v := .int .i64 _) rfl) ?_
  refine OpsE.nil ?_
  refine Then.normal ?_
  refine WP.seq ?_
  refine WP.region ?_
  refine OpsE.val (x_move (v := .string _) rfl) ?_
  refine OpsE.val (x_move (v := .string _) rfl) ?_
  refine OpsE.call (x_call (vl := [.string _, .string _]) rfl Try.call62) (CompareString_spec _ _ H) ?_
  rintro _ w ⟨rfl, H⟩
  refine OpsE.val (x_assign (v := .int .i64 _) rfl) ?_
  refine OpsE.nil ?_
  refine Then.normal ?_
  refine WP.ret ?_
  refine Leave0.ret (v := .int .i64 _) rfl ?_
  exact ⟨rfl, H⟩

theorem isNaN_spec (a : Int) {w : World} {l : List HP} (H : Sat w l) :
    Calls Try.prog 108 #[.int .i64 a] w (Ret fun v w' => v = .bool false ∧ Sat w' l) := by
  refine Calls.of_wp Try.func108 rfl Try.ntmps108 Try.results108 (Nat.le_of_ble_eq_true rfl) ?_
  refine WP.seq ?_
  refine WP.region ?_
  refine OpsE.val (x_assign (v := .bool _) rfl) ?_
  refine OpsE.nil ?_
  refine Then.normal ?_
  refine WP.seq ?_
  refine WP.region ?_
  refine OpsE.val (x_move (v := .int .i64 _) rfl) ?_
  refine OpsE.val (x_move (v := .int .i64 _) rfl) ?_
  refine OpsE.val (x_neI rfl rfl) ?_
  rw [decide_eq_false (fun h => h rfl)]
  refine OpsE.val (x_assign (v := .bool _) rfl) ?_
  refine OpsE.nil ?_
  refine Then.normal ?_
  refine WP.ret ?_
  refine Leave0.ret (v := .bool _) rfl ?_
  exact ⟨rfl, H⟩

def cmpI (a b : Int) : Int := if a < b then -1 else if a > b then 1 else 0
theorem cmpI_spec (a b : Int) {w : World} {l : List HP} (H : Sat w l) :
    Calls Try.prog 96 #[.int .i64 a, .int .i64 b] w (Ret fun v w' => v = .int .i64 (cmpI a b) ∧ Sat w' l) := by
  refine Calls.of_wp Try.func96 rfl Try.ntmps96 Try.results96 (Nat.le_of_ble_eq_true rfl) ?_
  refine WP.seq ?_
  refine WP.region ?_
  refine OpsE.val (x_assign (v := .int .i64 _) rfl) ?_
  refine OpsE.nil ?_
  refine Then.normal ?_
  refine WP.seq ?_
  refine WP.region ?_
  refine OpsE.val (x_move (v := .int .i64 _) rfl) ?_
  refine OpsE.call (x_call (vl := [.int .i64 _]) rfl Try.call108) (isNaN_spec _ H) ?_
  rintro _ w ⟨rfl, H⟩
  refine OpsE.val (x_assign (v := .bool _) rfl) ?_
  refine OpsE.nil ?_
  refine Then.normal ?_
  refine WP.seq ?_
  refine WP.region ?_
  refine OpsE.val (x_move (v := .int .i64 _) rfl) ?_
  refine OpsE.call (x_call (vl := [.int .i64 _]) rfl Try.call108) (isNaN_spec _ H) ?_
  rintro _ w ⟨rfl, H⟩
  refine OpsE.val (x_assign (v := .bool _) rfl) ?_
  refine OpsE.nil ?_
  refine Then.normal ?_
  refine WP.seq ?_
  refine WP.seq ?_
  refine WP.region ?_
  refine OpsE.val (x_move (v := .bool _) rfl) ?_
  refine OpsE.nil ?_
  refine Then.normal ?_
  refine WP.cond_f rfl rfl ?_
  refine WP.skip ?_
  refine Then.normal ?_
  refine WP.seq ?_
  refine WP.seq ?_
  refine WP.region ?_
  refine OpsE.val (x_move (v := .bool _) rfl) ?_
  refine OpsE.nil ?_
  refine Then.normal ?_
  refine WP.cond_f rfl rfl ?_
  refine WP.skip ?_
  refine Then.normal ?_
  refine WP.seq ?_
  refine WP.seq ?_
  refine WP.region ?_
  refine OpsE.val (x_move (v := .int .i64 _) rfl) ?_
  refine OpsE.val (x_move (v := .int .i64 _) rfl) ?_
  refine OpsE.val (x_lt rfl rfl) ?_
  by_cases h1 : a < b
  · rw [decide_eq_true h1]
    refine OpsE.nil ?_
    refine Then.normal ?_
    refine WP.cond_t rfl rfl ?_
    refine WP.seq ?_
    refine WP.region ?_
    refine OpsE.val (x_assign (v := .int .i64 _) rfl) ?_
    refine OpsE.nil ?_
    refine Then.normal ?_
    refine WP.ret ?_
    refine Then.ret ?_
    refine Leave0.ret (v := .int .i64 _) rfl ?_
    exact ⟨by simp only [cmpI, if_pos h1], H⟩
  · rw [decide_eq_false h1]
    refine OpsE.nil ?_
    refine Then.normal ?_
    refine WP.cond_f rfl rfl ?_
    refine WP.skip ?_
    refine Then.normal ?_
    refine WP.seq ?_
    refine WP.seq ?_
    refine WP.region ?_
    refine OpsE.val (x_move (v := .int .i64 _) rfl) ?_
    refine OpsE.val (x_move (v := .int .i64 _) rfl) ?_
    refine OpsE.val (x_gt rfl rfl) ?_
    by_cases h2 : a > b
    · rw [decide_eq_true h2]
      refine OpsE.nil ?_
      refine Then.normal ?_
      refine WP.cond_t rfl rfl ?_
      refine WP.seq ?_
      refine WP.region ?_
      refine OpsE.val (x_assign (v := .int .i64 _) rfl) ?_
      refine OpsE.nil ?_
      refine Then.normal ?_
      refine WP.ret ?_
      refine Then.ret ?_
      refine Leave0.ret (v := .int .i64 _) rfl ?_
      exact ⟨by simp only [cmpI, if_neg h1, if_pos h2], H⟩
    · rw [decide_eq_false h2]
      refine OpsE.nil ?_
      refine Then.normal ?_
      refine WP.cond_f rfl rfl ?_
      refine WP.skip ?_
      refine Then.normal ?_
      refine WP.seq ?_
      refine WP.region ?_
      refine OpsE.val (x_assign (v := .int .i64 _) rfl) ?_
      refine OpsE.nil ?_
      refine Then.normal ?_
      refine WP.ret ?_
      refine Leave0.ret (v := .int .i64 _) rfl ?_
      exact ⟨by simp only [cmpI, if_neg h1, if_neg h2], H⟩

end Go.Proofs.Ytbhbdpbhhfemhaa

/-
  Lists of cells, and sorted lists: plain facts. Nothing of the program.
-/
namespace Go.Proofs.Ytbhbdpbhhfemhaa
open Go

section flat
variable {α : Type} {f : α → List Value} {S : Nat}
theorem flat_len (hf : ∀ x, (f x).length = S) (xs : List α) : (xs.flatMap f).length = xs.length * S := by
  induction xs with
  | nil => simp
  | cons x xs ih => rw [List.flatMap_cons, List.length_append, hf, ih, List.length_cons, Nat.add_mul]; omega
theorem flat_drop (hf : ∀ x, (f x).length = S) (tl : List Value) : ∀ (xs : List α) (k : Nat), k ≤ xs.length → (xs.flatMap f ++ tl).drop (k * S) = (xs.drop k).flatMap f ++ tl
  | xs, 0, _ => by simp
  | [], k + 1, h => by simp at h
  | x :: xs, k + 1, h => by
    rw [List.flatMap_cons, List.append_assoc, show (k + 1) * S = (f x).length + k * S by rw [hf, Nat.add_mul]; omega, List.drop_length_add_append]
    exact flat_drop hf tl xs k (by simpa using h)
theorem flat_at (hf : ∀ x, (f x).length = S) (tl : List Value) {xs : List α} {k : Nat} {y : α} (h : xs[k]? = some y) : (xs.flatMap f ++ tl).drop (k * S) = f y ++ ((xs.drop (k + 1)).flatMap f ++ tl) := by
  obtain ⟨hk, e⟩ := List.getElem?_eq_some_iff.1 h
  rw [flat_drop hf tl xs k (by omega), List.drop_eq_getElem_cons hk, e, List.flatMap_cons, List.append_assoc]
theorem flat_take (hf : ∀ x, (f x).length = S) (tl : List Value) {xs : List α} {k : Nat} {y : α} (h : xs[k]? = some y) : ((xs.flatMap f ++ tl).drop (k * S)).take S = f y := by
  rw [flat_at hf tl h, List.take_append_of_le_length (by rw [hf]; omega), List.take_of_length_le (by rw [hf]; omega)]
theorem flat_get (hf : ∀ x, (f x).length = S) (tl : List Value) {xs : List α} {k j : Nat} {y : α} {v : Value} (h : xs[k]? = some y) (hv : (f y)[j]? = some v) : (xs.flatMap f ++ tl)[k * S + j]? = some v := by
  have : ((xs.flatMap f ++ tl).drop (k * S))[j]? = some v := by
    rw [flat_at hf tl h, List.getElem?_append_left (by obtain ⟨h, _⟩ := List.getElem?_eq_some_iff.1 hv; exact h)]; exact hv
  rwa [List.getElem?_drop] at this
theorem flat_set (hf : ∀ x, (f x).length = S) (tl : List Value) : ∀ {xs : List α} {k j : Nat} {y : α} {z : α} {v : Value}, xs[k]? = some y → j < S → f z = (f y).set j v → (xs.flatMap f ++ tl).set (k * S + j) v = (xs.set k z).flatMap f ++ tl
  | [], k, _, _, _, _, h, _, _ => by simp at h
  | x :: xs, 0, j, y, z, v, h, hj, hz => by
    simp at h; subst h
    rw [Nat.zero_mul, Nat.zero_add, List.flatMap_cons, List.append_assoc, List.set_append_left _ _ (by rw [hf]; exact hj), List.set_cons_zero, List.flatMap_cons, hz, List.append_assoc]
  | x :: xs, k + 1, j, y, z, v, h, hj, hz => by
    rw [List.flatMap_cons, List.append_assoc, List.set_append_right _ _ (by rw [hf, Nat.add_mul]; omega), List.set_cons_succ, List.flatMap_cons, List.append_assoc]
    rw [show (k + 1) * S + j - (f x).length = k * S + j by rw [hf, Nat.add_mul]; omega]
    rw [flat_set hf tl (by simpa using h) hj hz]
end flat

/-- one cell an element -/
theorem one_get {α : Type} {f : α → Value} {tl : List Value} {xs : List α} {k : Nat} {y : α} (h : xs[k]? = some y) : (xs.map f ++ tl)[k]? = some (f y) := by
  obtain ⟨hk, e⟩ := List.getElem?_eq_some_iff.1 h
  rw [List.getElem?_append_left (by simpa using hk)]
  simp [h]

/-- members of a list of assertions -/
theorem stars_mem {l : List HP} {A : HP} (h : A ∈ l) : ∃ r, stars l = HP.sep A (stars r) := by
  obtain ⟨s, t, rfl⟩ := List.append_of_mem h
  refine ⟨s ++ t, ?_⟩
  rw [stars_append, stars_cons, stars_append, HP.sep_left]
theorem stars_at {α : Type} {f : α → HP} {xs : List α} {k : Nat} {y : α} (h : xs[k]? = some y) : stars (xs.map f) = HP.sep (f y) (stars ((xs.take k ++ xs.drop (k + 1)).map f)) := by
  obtain ⟨hk, e⟩ := List.getElem?_eq_some_iff.1 h
  have : xs = xs.take k ++ y :: xs.drop (k + 1) := by
    rw [← e, ← List.drop_eq_getElem_cons hk, List.take_append_drop]
  conv => lhs; rw [this]
  rw [List.map_append, List.map_cons, stars_append, stars_cons, List.map_append, stars_append, HP.sep_left]
theorem Sat.star_pt {w : World} {α : Type} {f : α → HP} {xs : List α} {l : List HP} {k : Nat} {y : α} {b : Nat} {o : Obj} (H : Sat w (stars (xs.map f) :: l)) (h : xs[k]? = some y) (hf : f y = pt b o) : w.heap[b]? = some o := by
  have H' : Sat w (HP.sep (f y) (stars ((xs.take k ++ xs.drop (k + 1)).map f)) :: l) := H.perm (by rw [stars_cons, stars_cons, stars_at h])
  rw [hf] at H'
  exact (sat_sep.1 H').pt_get
theorem Sat.star_out {w : World} {α : Type} {f : α → HP} {xs : List α} {l : List HP} {k : Nat} {y : α} (H : Sat w (stars (xs.map f) :: l)) (h : xs[k]? = some y) : Sat w (f y :: stars ((xs.take k ++ xs.drop (k + 1)).map f) :: l) :=
  sat_sep.1 (H.perm (by rw [stars_cons, stars_cons, stars_at h]))
theorem Sat.star_in {w : World} {α : Type} {f : α → HP} {xs : List α} {l : List HP} {k : Nat} {y : α} (H : Sat w (f y :: stars ((xs.take k ++ xs.drop (k + 1)).map f) :: l)) (hk : k < xs.length) : Sat w (stars ((xs.set k y).map f) :: l) := by
  refine (sat_sep.2 H).perm ?_
  have h' : (xs.set k y)[k]? = some y := by simp [hk]
  rw [stars_cons, stars_cons, stars_at h']
  congr 3
  rw [List.take_set_of_le (Nat.le_refl k), List.drop_set_of_lt (by omega)]

/-! ### sorted by a key -/
section srt
variable {α : Type} (key : α → ByteArray)
def Srt (l : List α) : Prop := l.Pairwise (fun a b => slt (key a) (key b) = true)
def sle (a b : ByteArray) : Prop := slt b a = false
theorem sle_of_lt {a b : ByteArray} (h : slt a b = true) : sle a b := slt_asymm h
theorem sle_refl (a : ByteArray) : sle a a := slt_irrefl a
theorem lt_of_lt_of_le {a b c : ByteArray} (h : slt a b = true) (h' : sle b c) : slt a c = true := by
  rcases slt_tri b c with e | e | e
  · exact slt_trans h e
  · subst e; exact h
  · rw [show slt c b = false from h'] at e; cases e
theorem lt_of_le_of_lt {a b c : ByteArray} (h : sle a b) (h' : slt b c = true) : slt a c = true := by
  rcases slt_tri a b with e | e | e
  · exact slt_trans e h'
  · subst e; exact h'
  · rw [show slt b a = false from h] at e; cases e
theorem lt_or_le (a b : ByteArray) : slt a b = true ∨ sle b a := by
  cases h : slt a b with
  | true => exact .inl rfl
  | false => exact .inr h
theorem eq_of_le {a b : ByteArray} (h : sle a b) (h' : sle b a) : a = b := by
  rcases slt_tri a b with e | e | e
  · rw [show slt a b = false from h'] at e; cases e
  · exact e
  · rw [show slt b a = false from h] at e; cases e
variable {key}
theorem Srt.lt {l : List α} (h : Srt key l) {i j : Nat} {x y : α} (hij : i < j) (hx : l[i]? = some x) (hy : l[j]? = some y) : slt (key x) (key y) = true := by
  obtain ⟨h1, rfl⟩ := List.getElem?_eq_some_iff.1 hx
  obtain ⟨h2, rfl⟩ := List.getElem?_eq_some_iff.1 hy
  exact List.pairwise_iff_getElem.1 h i j h1 h2 hij
/-- where a search in a sorted list has come to -/
theorem Srt.split {l : List α} (h : Srt key l) {k : Nat} {q : ByteArray} (hkl : k ≤ l.length) (h1 : ∀ j x, k = j + 1 → l[j]? = some x → slt (key x) q = true) (h2 : ∀ x, l[k]? = some x → sle q (key x)) :
    (∀ x ∈ l.take k, slt (key x) q = true) ∧ (∀ x ∈ l.drop k, sle q (key x)) := by
  constructor
  · intro x hx
    obtain ⟨j, hj, e⟩ := List.mem_take_iff_getElem.1 hx
    have hjl : j < l.length := by omega
    cases k with
    | zero => omega
    | succ k =>
      have hk : k < l.length := by omega
      by_cases hjk : j = k
      · subst hjk; exact h1 j x rfl (by rw [← e]; simp [hk])
      · exact slt_trans (h.lt (i := j) (j := k) (by omega) (by rw [← e]; simp) (by simp [hk] : l[k]? = some l[k])) (h1 k _ rfl (by simp [hk]))
  · intro x hx
    obtain ⟨j, hj, e⟩ := List.mem_drop_iff_getElem.1 hx
    have hk : k < l.length := by omega
    by_cases h0 : j = 0
    · subst h0; exact h2 x (by rw [← e]; simp [hk])
    · have := h.lt (i := k) (j := k + j) (by omega) (by simp [hk] : l[k]? = some l[k]) (by rw [← e]; simp : l[k + j]? = some x)
      exact sle_of_lt (lt_of_le_of_lt (h2 _ (by simp [hk])) this)
end srt
end Go.Proofs.Ytbhbdpbhhfemhaa

/-
  The tree of keys: what its cells are, and contracts of its functions.
-/
namespace Go.Proofs.Ytbhbdpbhhfemhaa.TC
open Go Go.Proofs
set_option maxRecDepth 100000
set_option maxHeartbeats 4000000
set_option linter.unusedVariables false

abbrev TV := Option Addr × Nat × Nat
def tvc (v : TV) : List Value := [.slice v.1 v.2.1 v.2.2]
def tvv (v : TV) : Value := .slice v.1 v.2.1 v.2.2
def tvz : Value := .slice none 0 0
theorem tvc_one (v : TV) : ∀ u ∈ tvc v, u.oneCell' = true := by intro u hu; rcases List.mem_singleton.1 hu with rfl; rfl

structure It where
  key : ByteArray
  val : TV
def itc (x : It) : List Value := .string x.key :: tvc x.val
theorem itc_len (x : It) : (itc x).length = 2 := rfl
structure Leaf where
  blk : Nat
  cap : Nat
  its : List It
  tl : List Value
def Leaf.val (l : Leaf) : Value := .slice (some ⟨l.blk, 0, none⟩) l.its.length l.cap
def Leaf.cells (l : Leaf) : List Value := l.its.flatMap itc ++ l.tl
def Leaf.at (l : Leaf) : HP := pt l.blk (.cells l.cells.toArray 113 (0, 0))
structure Leaf.Ok (l : Leaf) : Prop where
  ne : l.its ≠ []
  len : l.cells.length = l.cap * 2
  le : l.its.length ≤ 9
def Lvs (lv : List Leaf) : HP := stars (lv.map Leaf.at)
def all (lv : List Leaf) : List It := lv.flatMap Leaf.its
/-- the leaves are sorted, none is empty -/
structure Ok (lv : List Leaf) : Prop where
  leaf : ∀ x ∈ lv, x.Ok
  srt : Srt It.key (all lv)
  le : lv.length ≤ 1000000
abbrev arrO (lv : List Leaf) (tl : List Value) : Obj := .cells (lv.map Leaf.val ++ tl).toArray 114 (0, 0)

theorem lv_get {lv : List Leaf} {tl : List Value} {i : Nat} {x : Leaf} (h : lv[i]? = some x) : (lv.map Leaf.val ++ tl).toArray[i]? = some (.slice (some ⟨x.blk, 0, none⟩) x.its.length x.cap) := by
  have := one_get (f := Leaf.val) (tl := tl) h
  simpa [Leaf.val] using this
theorem it_key {x : Leaf} {k : Nat} {y : It} (h : x.its[k]? = some y) : x.cells.toArray[k * 2]? = some (.string y.key) := by
  simpa [Leaf.cells] using flat_get (f := itc) itc_len x.tl (j := 0) h rfl
theorem it_all {x : Leaf} {k : Nat} {y : It} (h : x.its[k]? = some y) : (x.cells.toArray.toList.drop (k * 2)).take 2 = itc y := flat_take (f := itc) itc_len x.tl h

theorem leaf1_spec {w : World} {r : List HP} {cs tl : List Value} {lv : List Leaf} {hb ho b2 b3 L cap i TH : Nat} {x : Leaf} {y : It} {key : ByteArray}
    (H : Sat w (pt b3 (.cells [.string key].toArray 9 (0, 0)) :: pt b2 (.cells [.pointer (some ⟨hb, ho, none⟩)].toArray 109 (0, 0)) :: pt hb (.cells cs.toArray TH (0, 0)) :: pt L (arrO lv tl) :: Lvs lv :: r))
    (hc : cs[ho]? = some (.slice (some ⟨L, 0, none⟩) lv.length cap)) (hx : lv[i]? = some x) (hy : x.its[0]? = some y) :
    Calls Try.prog 105 #[.int .i64 i, .pointer (some ⟨b2, 0, none⟩), .pointer (some ⟨b3, 0, none⟩)] w (Ret fun v w' => v = .bool (!(slt y.key key || decide (y.key = key))) ∧
      Sat w' (pt b3 (.cells [.string key].toArray 9 (0, 0)) :: pt b2 (.cells [.pointer (some ⟨hb, ho, none⟩)].toArray 109 (0, 0)) :: pt hb (.cells cs.toArray TH (0, 0)) :: pt L (arrO lv tl) :: Lvs lv :: r)) := by
  have hi : i < lv.length := (List.getElem?_eq_some_iff.1 hx).1
  have h0 : 0 < x.its.length := (List.getElem?_eq_some_iff.1 hy).1
  refine Calls.of_wp Try.func105 rfl Try.ntmps105 Try.results105 (Nat.le_of_ble_eq_true rfl) ?_
  refine WP.seq ?_
  refine WP.region ?_
  refine OpsE.val (x_assign (v := .bool _) rfl) ?_
  refine OpsE.nil ?_
  refine Then.normal ?_
  refine WP.seq ?_
  refine WP.draw (fun w => Sat w _) (by kernel_rfl) (by kernel_rfl) (H.heap rfl) ?_
  refine QuietE.val (fun w H => x_load (v := .pointer _) rfl Try.isAgg109 (H.look _) rfl) ?_
  refine QuietE.val (fun w H => x_nilCheck rfl) ?_
  refine QuietE.val (fun w H => x_fieldAddr0 rfl Try.runUnderlying80 rfl rfl Try.sizeOf78) ?_
  refine QuietE.val (fun w H => x_load (v := .slice _ _ _) rfl Try.isAgg78 (H.look _) (by simpa using hc)) ?_
  refine QuietE.val (fun w H => x_move (v := .int .i64 _) rfl) ?_
  refine QuietE.val (fun w H => x_indexAddr1 (i := i) rfl rfl Try.runUnderlying78 Try.sizeOf114 rfl hi) ?_
  refine QuietE.val (fun w H => x_load (v := .slice _ _ _) rfl Try.isAgg114 (H.look _) (lv_get hx)) ?_
  refine QuietE.val (fun w H => x_indexAddr (i := _) rfl rfl Try.runUnderlying114 Try.sizeOf113 rfl h0) ?_
  refine QuietE.val (fun w H => x_fieldAddr0 rfl Try.runUnderlying113 rfl rfl Try.sizeOf9) ?_
  refine QuietE.val (fun w H => x_load (v := .string _) rfl Try.isAgg9 ((H.take (Lvs lv)).star_pt hx rfl) (it_key hy)) ?_
  refine QuietE.val (fun w H => x_load (v := .string _) rfl Try.isAgg9 (H.look _) rfl) ?_
  refine QuietE.val (fun w H => x_gtS rfl rfl) ?_
  refine QuietE.val (fun w H => x_assign (v := .bool _) rfl) ?_
  refine QuietE.nil ?_
  intro w H
  refine Then.normal ?_
  refine WP.ret ?_
  refine Leave0.ret (v := .bool _) rfl ?_
  exact ⟨rfl, H⟩


theorem slt_gt (a b : ByteArray) : (!(slt a b || decide (a = b))) = slt b a := by
  rcases slt_tri a b with h | rfl | h
  · simp [h, slt_asymm h]
  · simp [slt_irrefl]
  · simp [h, slt_asymm h, (slt_ne h).symm]

/-- the first key of a leaf -/
def hk (lv : List Leaf) (i : Nat) : ByteArray := (((lv[i]?).bind fun x => x.its[0]?).map It.key).getD ByteArray.empty
theorem hk_eq {lv : List Leaf} {i : Nat} {x : Leaf} {y : It} (hx : lv[i]? = some x) (hy : x.its[0]? = some y) : hk lv i = y.key := by simp [hk, hx, hy]
theorem Ok.head {lv : List Leaf} (ok : Ok lv) {i : Nat} (h : i < lv.length) : ∃ x y, lv[i]? = some x ∧ x.its[0]? = some y := by
  have hx : lv[i]? = some lv[i] := by simp [h]
  have := (ok.leaf lv[i] (List.getElem_mem h)).ne
  cases e : (lv[i]).its with
  | nil => exact absurd e this
  | cons y ys => exact ⟨_, y, hx, by simp [e]⟩

theorem leaf_spec {w : World} {r : List HP} {cs tl : List Value} {lv : List Leaf} {hb ho L cap TH : Nat} {key : ByteArray}
    (H : Sat w (pt hb (.cells cs.toArray TH (0, 0)) :: pt L (arrO lv tl) :: Lvs lv :: r)) (hc : cs[ho]? = some (.slice (some ⟨L, 0, none⟩) lv.length cap)) (ok : Ok lv) :
    Calls Try.prog 86 #[.pointer (some ⟨hb, ho, none⟩), .string key] w (Ret fun v w' => ∃ n : Nat, v = .int .i64 ((n - 1 : Nat) : Int) ∧ n ≤ lv.length ∧ (∀ k, n = k + 1 → sle (hk lv k) key) ∧ (n < lv.length → slt key (hk lv n) = true) ∧
      Sat w' (pt hb (.cells cs.toArray TH (0, 0)) :: pt L (arrO lv tl) :: Lvs lv :: r)) := by
  have hle := ok.le
  refine Calls.of_wp Try.func86 rfl Try.ntmps86 Try.results86 (Nat.le_of_ble_eq_true rfl) ?_
  refine WP.seq ?_
  refine WP.region ?_
  refine OpsE.box1 (v := .pointer _) rfl rfl H ?_
  intro b2 w H
  refine OpsE.box1 (v := .string _) rfl rfl H ?_
  intro b3 w H
  refine OpsE.val (x_assign (v := .int .i64 _) rfl) ?_
  refine OpsE.nil ?_
  refine Then.normal ?_
  refine WP.seq ?_
  refine WP.region ?_
  refine OpsE.val (x_load (v := .pointer _) rfl Try.isAgg109 (H.look _) rfl) ?_
  refine OpsE.val (x_nilCheck rfl) ?_
  refine OpsE.val (x_fieldAddr0 rfl Try.runUnderlying80 rfl rfl Try.sizeOf78) ?_
  refine OpsE.val (x_load (v := .slice _ _ _) rfl Try.isAgg78 (H.look _) (by simpa using hc)) ?_
  refine OpsE.val (x_lenL rfl rfl Try.runUnderlying78) ?_
  refine OpsE.val (x_makeFunc (vl := [.pointer _, .pointer _]) rfl) ?_
  refine OpsE.call (x_call (vl := [.int .i64 _, .func _ _ _]) rfl Try.call104) (Search_spec lv.length _ [.pointer (some ⟨b2, 0, none⟩), .pointer (some ⟨b3, 0, none⟩)] (fun i => !(slt (hk lv i) key || decide (hk lv i = key))) H (by omega) Try.call105 (fun w i hi H => by
  obtain ⟨x, y, hx, hy⟩ := ok.head hi
  rw [hk_eq hx hy]
  exact leaf1_spec H hc hx hy)) ?_
  rintro _ w ⟨n, rfl, hn, h1, h2, H⟩
  refine OpsE.val (x_assign (v := .int .i64 _) rfl) ?_
  refine OpsE.nil ?_
  refine Then.normal ?_
  refine WP.seq ?_
  refine WP.region ?_
  refine OpsE.val (x_move (v := .int .i64 _) rfl) ?_
  refine OpsE.val (x_sub rfl rfl (i64n (by omega) (by omega))) ?_
  refine OpsE.val (x_max (z := ((n - 1 : Nat) : Int)) rfl rfl (by split <;> omega)) ?_
  refine OpsE.val (x_assign (v := .int .i64 _) rfl) ?_
  refine OpsE.nil ?_
  refine Then.normal ?_
  refine WP.ret ?_
  refine Leave0.ret (v := .int .i64 _) rfl ?_
  refine ⟨n, rfl, hn, fun k hk' => ?_, fun hlt => ?_, H.tail.tail⟩
  · have := h1 k hk'; rw [slt_gt] at this; exact this
  · have := h2 hlt; rw [slt_gt] at this; exact this

theorem find1_spec {w : World} {l : List HP} {y : It} {key : ByteArray} (H : Sat w l) :
    Calls Try.prog 88 #[.agg (itc y).toArray, .string key] w (Ret fun v w' => v = .int .i64 (cmpS y.key key) ∧ Sat w' l) := by
  refine Calls.of_wp Try.func88 rfl Try.ntmps88 Try.results88 (Nat.le_of_ble_eq_true rfl) ?_
  refine WP.seq ?_
  refine WP.region ?_
  refine OpsE.boxA (cs := itc y) rfl H ?_
  intro b2 w H
  refine OpsE.val (x_assign (v := .int .i64 _) rfl) ?_
  refine OpsE.nil ?_
  refine Then.normal ?_
  refine WP.seq ?_
  refine WP.region ?_
  refine OpsE.val (x_fieldAddr0 rfl Try.runUnderlying113 rfl rfl Try.sizeOf9) ?_
  refine OpsE.val (x_load (v := .string _) rfl Try.isAgg9 (H.look _) rfl) ?_
  refine OpsE.val (x_move (v := .string _) rfl) ?_
  refine OpsE.call (x_call (vl := [.string _, .string _]) rfl Try.call43) (Compare_spec _ _ H) ?_
  rintro _ w ⟨rfl, H⟩
  refine OpsE.val (x_assign (v := .int .i64 _) rfl) ?_
  refine OpsE.nil ?_
  refine Then.normal ?_
  refine WP.ret ?_
  refine Leave0.ret (v := .int .i64 _) rfl ?_
  exact ⟨rfl, H.tail⟩

theorem BSF_spec {w : World} {l : List HP} {x : Leaf} {key : ByteArray} (H : Sat w l) (hx : ∀ w, Sat w l → w.heap[x.blk]? = some (.cells x.cells.toArray 113 (0, 0))) (hl : x.its.length ≤ 9) :
    Calls Try.prog 87 #[.slice (some ⟨x.blk, 0, none⟩) x.its.length x.cap, .string key, .func (.func 88) #[] #[]] w
      (Ret fun v w' => ∃ (k : Nat) (th : Bool), v = .tuple #[.int .i64 k, .bool th] ∧ k ≤ x.its.length ∧ (∀ j y, k = j + 1 → x.its[j]? = some y → slt y.key key = true) ∧ (∀ y, x.its[k]? = some y → sle key y.key) ∧ (th = true ↔ ∃ y, x.its[k]? = some y ∧ y.key = key) ∧ Sat w' l) := by
  obtain ⟨n, hn⟩ : ∃ n, x.its.length = n := ⟨_, rfl⟩
  rw [hn] at hl ⊢
  refine Calls.of_wp Try.func87 rfl Try.ntmps87 Try.results87 (Nat.le_of_ble_eq_true rfl) ?_
  refine WP.seq ?_
  refine WP.region ?_
  refine OpsE.val (x_assign (v := .int .i64 _) rfl) ?_
  refine OpsE.val (x_assign (v := .bool _) rfl) ?_
  refine OpsE.nil ?_
  refine Then.normal ?_
  refine WP.seq ?_
  refine WP.region ?_
  refine OpsE.val (x_move (v := .slice _ _ _) rfl) ?_
  refine OpsE.val (x_lenL rfl rfl Try.runUnderlying114) ?_
  refine OpsE.val (x_assign (v := .int .i64 _) rfl) ?_
  refine OpsE.nil ?_
  refine Then.normal ?_
  refine WP.seq ?_
  refine WP.region ?_
  refine OpsE.val (x_move (v := .int .i64 _) rfl) ?_
  refine OpsE.val (x_assign (v := .int .i64 _) rfl) ?_
  refine OpsE.val (x_assign (v := .int .i64 _) rfl) ?_
  refine OpsE.nil ?_
  refine Then.normal ?_
  refine WP.seq ?_
  refine WP.block ?_
  refine WP.loopS [9, 10, 11, 15, 16, 17, 18, 19, 20, 21, 22, 23, 24, 25, 26, 27, 28, 29, 30, 31, 32, 33, 34] (fun (s : Nat × Nat) E w => E 9 = .int .i64 (s.1 : Int) ∧ E 10 = .int .i64 (s.2 : Int) ∧ s.1 ≤ s.2 ∧ s.2 ≤ n ∧ (∀ j y, s.1 = j + 1 → x.its[j]? = some y → slt y.key key = true) ∧ (∀ y, x.its[s.2]? = some y → sle key y.key) ∧ Sat w l) (fun s => s.2 - s.1) (0, n) ⟨rfl, rfl, Nat.zero_le _, Nat.le_refl _, (fun _ _ h => by cases h), (fun y h => by have := (List.getElem?_eq_some_iff.1 h).1; dsimp only at this; omega), H⟩ ?_
  rintro ⟨i, j⟩ E1 w hs ⟨e9, e10, hij, hjn, hp, hq, H⟩
  dsimp only at e9 e10 hij hjn hp hq
  refine WP.seq ?_
  refine WP.seq ?_
  refine WP.region ?_
  refine OpsE.val (x_move (v := .int .i64 _) e9) ?_
  refine OpsE.val (x_move (v := .int .i64 _) e10) ?_
  refine OpsE.val (x_lt rfl rfl) ?_
  by_cases hlt : (i : Int) < (j : Int)
  · rw [decide_eq_true hlt]
    refine OpsE.nil ?_
    refine Then.normal ?_
    refine WP.cond_t rfl rfl ?_
    refine WP.skip ?_
    refine Then.normal ?_
    refine WP.block ?_
    refine WP.seq ?_
    refine WP.region ?_
    refine OpsE.val (x_move (v := .int .i64 _) e9) ?_
    refine OpsE.val (x_move (v := .int .i64 _) e10) ?_
    refine OpsE.val (x_add (z := ((i + j : Nat) : Int)) rfl rfl (by rw [i64n (by omega) (by omega)]; omega)) ?_
    refine OpsE.val (x_convI (z := ((i + j : Nat) : Int)) rfl Try.runUnderlying3 Try.runUnderlying108 (u64n (by omega) (by omega))) ?_
    refine OpsE.val (x_mid rfl) ?_
    refine OpsE.val (x_convI (z := (((i + j) / 2 : Nat) : Int)) rfl Try.runUnderlying108 Try.runUnderlying3 (i64n (by omega) (by omega))) ?_
    refine OpsE.val (x_assign (v := .int .i64 _) rfl) ?_
    refine OpsE.nil ?_
    refine Then.normal ?_
    refine WP.seq ?_
    refine WP.region ?_
    refine OpsE.val (x_move (v := .func _ _ _) (hs 2 rfl)) ?_
    refine OpsE.val (x_move (v := .slice _ _ _) (hs 0 rfl)) ?_
    refine OpsE.val (x_move (v := .int .i64 _) rfl) ?_
    refine OpsE.val (x_indexAddr (i := (i + j) / 2) rfl rfl Try.runUnderlying114 Try.sizeOf113 rfl (by omega)) ?_
    obtain ⟨y, hy⟩ : ∃ y, x.its[(i + j) / 2]? = some y := ⟨_, List.getElem?_eq_getElem (by omega)⟩
    refine OpsE.val (x_loadA (vs := itc y) rfl Try.isAgg113 Try.sizeOf113 (hx _ H) (it_all hy) rfl) ?_
    refine OpsE.val (x_move (v := .string _) (hs 1 rfl)) ?_
    refine OpsE.call (x_callV (cl := []) (vl := [.agg _, .string _]) rfl rfl Try.call88) (find1_spec (y := y) H) ?_
    rintro _ w ⟨rfl, H⟩
    refine OpsE.val (x_lt rfl rfl) ?_
    by_cases hm : cmpS y.key key < 0
    · rw [decide_eq_true hm]
      refine OpsE.nil ?_
      refine Then.normal ?_
      refine WP.cond_t rfl rfl ?_
      refine WP.region ?_
      refine OpsE.val (x_move (v := .int .i64 _) rfl) ?_
      refine OpsE.val (x_add (z := (((i + j) / 2 + 1 : Nat) : Int)) rfl rfl (by rw [i64n (by omega) (by omega)]; omega)) ?_
      refine OpsE.val (x_assign (v := .int .i64 _) rfl) ?_
      refine OpsE.nil ?_
      refine InBlock.normal ?_
      refine Then.normal ?_
      refine ⟨rfl, (by repeat (first | exact hs | refine Same.upd ?_ rfl)), ((i + j) / 2 + 1, j), (by dsimp only; omega), rfl, e10, (by dsimp only; omega), hjn, (fun k z hk hz => ?_), hq, H⟩
      have : k = (i + j) / 2 := by dsimp only at hk; omega
      subst this; rw [hy] at hz; cases hz; exact (cmpS_lt _ _).1 hm
    · rw [decide_eq_false hm]
      refine OpsE.nil ?_
      refine Then.normal ?_
      refine WP.cond_f rfl rfl ?_
      refine WP.region ?_
      refine OpsE.val (x_move (v := .int .i64 _) rfl) ?_
      refine OpsE.val (x_assign (v := .int .i64 _) rfl) ?_
      refine OpsE.nil ?_
      refine InBlock.normal ?_
      refine Then.normal ?_
      refine ⟨rfl, (by repeat (first | exact hs | refine Same.upd ?_ rfl)), (i, (i + j) / 2), (by dsimp only; omega), e9, rfl, (by dsimp only; omega), (by dsimp only; omega), hp, (fun z hz => ?_), H⟩
      dsimp only at hz; rw [hy] at hz; cases hz
      cases e : slt y.key key with
      | false => exact e
      | true => exact absurd ((cmpS_lt _ _).2 e) hm
  · rw [decide_eq_false hlt]
    refine OpsE.nil ?_
    refine Then.normal ?_
    refine WP.cond_f rfl rfl ?_
    refine WP.exit ?_
    refine Then.exit ?_
    refine Then.exit ?_
    refine InBlock.hit ?_
    refine Then.normal ?_
    refine WP.seq ?_
    refine WP.region ?_
    refine OpsE.val (x_move (v := .int .i64 _) e9) ?_
    refine OpsE.val (x_move (v := .int .i64 _) e9) ?_
    refine OpsE.val (x_move (v := .int .i64 _) (hs 8 rfl)) ?_
    refine OpsE.val (x_lt rfl rfl) ?_
    by_cases hin : (i : Int) < (n : Int)
    · rw [decide_eq_true hin]
      refine OpsE.val (x_move (v := .bool _) rfl) ?_
      refine OpsE.yes rfl ?_
      refine OpsE.val (x_move (v := .func _ _ _) (hs 2 rfl)) ?_
      refine OpsE.yes rfl ?_
      refine OpsE.val (x_move (v := .slice _ _ _) (hs 0 rfl)) ?_
      refine OpsE.yes rfl ?_
      refine OpsE.val (x_move (v := .int .i64 _) e9) ?_
      refine OpsE.yes rfl ?_
      refine OpsE.val (x_indexAddr (i := i) rfl rfl Try.runUnderlying114 Try.sizeOf113 rfl (by omega)) ?_
      refine OpsE.yes rfl ?_
      obtain ⟨y, hy⟩ : ∃ y, x.its[i]? = some y := ⟨_, List.getElem?_eq_getElem (by omega)⟩
      refine OpsE.val (x_loadA (vs := itc y) rfl Try.isAgg113 Try.sizeOf113 (hx _ H) (it_all hy) rfl) ?_
      refine OpsE.yes rfl ?_
      refine OpsE.val (x_move (v := .string _) (hs 1 rfl)) ?_
      refine OpsE.yes rfl ?_
      refine OpsE.call (x_callV (cl := []) (vl := [.agg _, .string _]) rfl rfl Try.call88) (find1_spec (y := y) H) ?_
      rintro _ w ⟨rfl, H⟩
      refine OpsE.yes rfl ?_
      refine OpsE.val (x_eqI rfl rfl) ?_
      refine OpsE.val (x_pickT rfl rfl) ?_
      refine OpsE.val (x_assign (v := .int .i64 _) rfl) ?_
      refine OpsE.val (x_assign (v := .bool _) rfl) ?_
      refine OpsE.nil ?_
      refine Then.normal ?_
      refine WP.ret ?_
      refine Leave0.ret (v := .tuple #[.int .i64 _, .bool _]) rfl ?_
      have hij' : i = j := by omega
      subst hij'
      refine ⟨i, _, rfl, hjn, hp, hq, ?_, H⟩
      rw [decide_eq_true_eq, cmpS_eq]
      exact ⟨fun h => ⟨y, hy, h⟩, fun ⟨z, hz, h⟩ => by rw [hy] at hz; cases hz; exact h⟩
    · rw [decide_eq_false hin]
      refine OpsE.val (x_move (v := .bool _) rfl) ?_
      refine OpsE.no rfl ?_
      refine OpsE.no rfl ?_
      refine OpsE.no rfl ?_
      refine OpsE.no rfl ?_
      refine OpsE.no rfl ?_
      refine OpsE.no rfl ?_
      refine OpsE.no rfl ?_
      refine OpsE.no rfl ?_
      refine OpsE.val (x_pickF rfl rfl) ?_
      refine OpsE.val (x_assign (v := .int .i64 _) rfl) ?_
      refine OpsE.val (x_assign (v := .bool _) rfl) ?_
      refine OpsE.nil ?_
      refine Then.normal ?_
      refine WP.ret ?_
      refine Leave0.ret (v := .tuple #[.int .i64 _, .bool _]) rfl ?_
      have hij' : i = j := by omega
      subst hij'
      refine ⟨i, _, rfl, hjn, hp, hq, ?_, H⟩
      exact ⟨fun h => (by cases h), fun ⟨z, hz, h⟩ => by have := (List.getElem?_eq_some_iff.1 hz).1; omega⟩


/-- a tree: its leaves; the array that holds them (none: a nil slice) -/
structure Tr where
  lv : List Leaf
  arr : Option (Nat × Nat × List Value)
def Tr.hv (t : Tr) : Value := match t.arr with
  | none => .slice none 0 0
  | some (L, cap, _) => .slice (some ⟨L, 0, none⟩) t.lv.length cap
def Tr.ap (t : Tr) : HP := match t.arr with
  | none => HP.one
  | some (L, _, tl) => pt L (arrO t.lv tl)
structure Tr.Ok (t : Tr) : Prop where
  ok : TC.Ok t.lv
  nil : t.arr = none → t.lv = []
  len : ∀ L cap tl, t.arr = some (L, cap, tl) → t.lv.length + tl.length = cap
theorem Tr.Ok.form {t : Tr} (ok : t.Ok) : ∃ a c, t.hv = .slice a t.lv.length c := by
  obtain ⟨lv, arr⟩ := t
  cases arr with
  | none =>
    have h : lv = [] := ok.nil rfl
    subst h
    exact ⟨none, 0, rfl⟩
  | some p => obtain ⟨L, cap, tl⟩ := p; exact ⟨_, cap, rfl⟩

/-- where a key is, or would be -/
def Fnd (lv : List Leaf) (key : ByteArray) (i k : Nat) (th : Bool) : Prop :=
  (lv = [] ∧ i = 0 ∧ k = 0 ∧ th = false) ∨ ∃ x, lv[i]? = some x ∧ k ≤ x.its.length ∧ (∀ y ∈ (lv.take i).flatMap Leaf.its ++ x.its.take k, slt y.key key = true) ∧
    (∀ y ∈ x.its.drop k, sle key y.key) ∧ (∀ y ∈ (lv.drop (i + 1)).flatMap Leaf.its, slt key y.key = true) ∧ (th = true ↔ ∃ y, x.its[k]? = some y ∧ y.key = key)

theorem all_at {lv : List Leaf} {i : Nat} {x : Leaf} (h : lv[i]? = some x) : all lv = (lv.take i).flatMap Leaf.its ++ (x.its ++ (lv.drop (i + 1)).flatMap Leaf.its) := by
  obtain ⟨hk, e⟩ := List.getElem?_eq_some_iff.1 h
  have : lv = lv.take i ++ x :: lv.drop (i + 1) := by
    rw [← e, ← List.drop_eq_getElem_cons hk, List.take_append_drop]
  conv => lhs; rw [this]
  unfold all
  rw [List.flatMap_append, List.flatMap_cons]

theorem fnd_of {lv : List Leaf} (ok : Ok lv) {key : ByteArray} {n k : Nat} {x : Leaf} {th : Bool} (hn : n ≤ lv.length) (h1 : ∀ k, n = k + 1 → sle (hk lv k) key) (h2 : n < lv.length → slt key (hk lv n) = true)
    (hx : lv[n - 1]? = some x) (hk' : k ≤ x.its.length) (h3 : ∀ j y, k = j + 1 → x.its[j]? = some y → slt y.key key = true) (h4 : ∀ y, x.its[k]? = some y → sle key y.key) (h5 : th = true ↔ ∃ y, x.its[k]? = some y ∧ y.key = key) :
    Fnd lv key (n - 1) k th := by
  have hs := ok.srt
  rw [all_at hx] at hs
  obtain ⟨sA, sR, hA⟩ := List.pairwise_append.1 hs
  obtain ⟨sI, sC, hC⟩ := List.pairwise_append.1 sR
  have hsp := Srt.split (key := It.key) sI hk' h3 h4
  have hil : n - 1 < lv.length := (List.getElem?_eq_some_iff.1 hx).1
  obtain ⟨x', y0, hx', hy0⟩ := ok.head hil
  rw [hx] at hx'; cases hx'
  have hm0 : y0 ∈ x.its := List.mem_of_getElem? hy0
  refine .inr ⟨x, hx, hk', fun y hy => ?_, fun y hy => hsp.2 y hy, fun y hy => ?_, h5⟩
  · rcases List.mem_append.1 hy with hy | hy
    · cases n with
      | zero => simp at hy
      | succ m =>
        have := h1 m rfl
        rw [show m + 1 - 1 = m from rfl] at *
        rw [hk_eq hx hy0] at this
        exact lt_of_lt_of_le (hA y hy y0 (by simp [hm0])) this
    · exact hsp.1 y hy
  · by_cases hlt : n < lv.length
    · have h6 := h2 hlt
      cases n with
      | zero =>
        rw [hk_eq hx hy0] at h6
        exact slt_trans h6 (hC y0 hm0 y hy)
      | succ m =>
        rw [show m + 1 - 1 = m from rfl] at *
        obtain ⟨x2, y2, hx2, hy2⟩ := ok.head hlt
        rw [hk_eq hx2 hy2] at h6
        have e : lv.drop (m + 1) = x2 :: lv.drop (m + 2) := by
          obtain ⟨hk, e⟩ := List.getElem?_eq_some_iff.1 hx2
          rw [List.drop_eq_getElem_cons hk, e]
        rw [e, List.flatMap_cons] at sC hy
        have e2 : x2.its = y2 :: x2.its.drop 1 := by
          obtain ⟨hk, e⟩ := List.getElem?_eq_some_iff.1 hy2
          rw [← e, ← List.drop_eq_getElem_cons hk]; rfl
        rw [e2, List.cons_append] at sC hy
        rcases List.mem_cons.1 hy with rfl | hy
        · exact h6
        · exact slt_trans h6 ((List.pairwise_cons.1 sC).1 y hy)
    · have : n = lv.length := by omega
      rw [List.drop_of_length_le (by omega)] at hy
      simp at hy

abbrev hd (hb : Nat) (cs : List Value) (TH : Nat) : HP := pt hb (.cells cs.toArray TH (0, 0))

theorem find_spec {w : World} {r : List HP} {cs : List Value} {t : Tr} {hb ho TH : Nat} {key : ByteArray} (H : Sat w (hd hb cs TH :: t.ap :: Lvs t.lv :: r)) (hc : cs[ho]? = some t.hv) (ok : t.Ok) :
    Calls Try.prog 63 #[.pointer (some ⟨hb, ho, none⟩), .string key] w (Ret fun v w' => ∃ (i k : Nat) (th : Bool), v = .tuple #[.int .i64 i, .int .i64 k, .bool th] ∧ Fnd t.lv key i k th ∧
      Sat w' (hd hb cs TH :: t.ap :: Lvs t.lv :: r)) := by
  obtain ⟨a, c, hf⟩ := ok.form
  rw [hf] at hc
  refine Calls.of_wp Try.func63 rfl Try.ntmps63 Try.results63 (Nat.le_of_ble_eq_true rfl) ?_
  refine WP.seq ?_
  refine WP.region ?_
  refine OpsE.val (x_assign (v := .int .i64 _) rfl) ?_
  refine OpsE.val (x_assign (v := .int .i64 _) rfl) ?_
  refine OpsE.val (x_assign (v := .bool _) rfl) ?_
  refine OpsE.nil ?_
  refine Then.normal ?_
  refine WP.seq ?_
  refine WP.seq ?_
  refine WP.region ?_
  refine OpsE.val (x_move (v := .pointer _) rfl) ?_
  refine OpsE.val (x_eqPs rfl rfl Try.runUnderlying109) ?_
  refine OpsE.val (x_move (v := .bool _) rfl) ?_
  refine OpsE.yes rfl ?_
  refine OpsE.val (x_move (v := .pointer _) rfl) ?_
  refine OpsE.yes rfl ?_
  refine OpsE.val (x_nilCheck rfl) ?_
  refine OpsE.yes rfl ?_
  refine OpsE.val (x_fieldAddr0 rfl Try.runUnderlying80 rfl rfl Try.sizeOf78) ?_
  refine OpsE.yes rfl ?_
  refine OpsE.val (x_load (v := .slice _ _ _) rfl Try.isAgg78 (H.look _) (by simpa using hc)) ?_
  refine OpsE.yes rfl ?_
  refine OpsE.val (x_lenL rfl rfl Try.runUnderlying78) ?_
  refine OpsE.yes rfl ?_
  refine OpsE.val (x_eqI rfl rfl) ?_
  by_cases h0 : (t.lv.length : Int) = 0
  · rw [decide_eq_true h0]
    refine OpsE.val (x_pickF rfl rfl) ?_
    refine OpsE.nil ?_
    refine Then.normal ?_
    refine WP.cond_t rfl rfl ?_
    refine WP.seq ?_
    refine WP.region ?_
    refine OpsE.val (x_assign (v := .int .i64 _) rfl) ?_
    refine OpsE.val (x_assign (v := .int .i64 _) rfl) ?_
    refine OpsE.val (x_assign (v := .bool _) rfl) ?_
    refine OpsE.nil ?_
    refine Then.normal ?_
    refine WP.ret ?_
    refine Then.ret ?_
    refine Leave0.ret (v := .tuple #[.int .i64 _, .int .i64 _, .bool _]) rfl ?_
    exact ⟨0, 0, false, rfl, .inl ⟨List.length_eq_zero_iff.1 (by omega), rfl, rfl, rfl⟩, H⟩
  · rw [decide_eq_false h0]
    refine OpsE.val (x_pickF rfl rfl) ?_
    refine OpsE.nil ?_
    refine Then.normal ?_
    refine WP.cond_f rfl rfl ?_
    refine WP.skip ?_
    refine Then.normal ?_
    refine WP.seq ?_
    refine WP.region ?_
    refine OpsE.val (x_move (v := .pointer _) rfl) ?_
    refine OpsE.val (x_move (v := .string _) rfl) ?_
    obtain ⟨lv, arr⟩ := t
    cases arr with
    | none =>
      exfalso
      have : lv = [] := ok.nil rfl
      subst this; exact h0 rfl
    | some p =>
    obtain ⟨L, cap, tl⟩ := p
    have hc' : cs[ho]? = some (.slice (some ⟨L, 0, none⟩) lv.length cap) := by rw [hc, ← hf]; rfl
    have hle := ok.ok.le
    dsimp only at h0 hle
    refine OpsE.call (x_call (vl := [.pointer _, .string _]) rfl Try.call86) (leaf_spec (lv := lv) (tl := tl) H hc' ok.ok) ?_
    rintro _ w ⟨n, rfl, hn, h1, h2, H⟩
    refine OpsE.val (x_assign (v := .int .i64 _) rfl) ?_
    refine OpsE.nil ?_
    refine Then.normal ?_
    refine WP.seq ?_
    refine WP.region ?_
    refine OpsE.val (x_move (v := .pointer _) rfl) ?_
    refine OpsE.val (x_nilCheck rfl) ?_
    refine OpsE.val (x_fieldAddr0 rfl Try.runUnderlying80 rfl rfl Try.sizeOf78) ?_
    refine OpsE.val (x_load (v := .slice _ _ _) rfl Try.isAgg78 (H.look _) (by simpa using hc')) ?_
    refine OpsE.val (x_move (v := .int .i64 _) rfl) ?_
    refine OpsE.val (x_indexAddr1 (i := n - 1) rfl rfl Try.runUnderlying78 Try.sizeOf114 rfl (by omega)) ?_
    obtain ⟨x, hx⟩ : ∃ x, lv[n - 1]? = some x := ⟨_, List.getElem?_eq_getElem (by omega)⟩
    refine OpsE.val (x_load (v := .slice _ _ _) rfl Try.isAgg114 (H.look _) (lv_get hx)) ?_
    refine OpsE.val (x_move (v := .string _) rfl) ?_
    refine OpsE.call (x_call (vl := [.slice _ _ _, .string _, .func _ _ _]) rfl Try.call87) (BSF_spec (x := x) H (fun w H => (H.take (Lvs lv)).star_pt hx rfl) (ok.ok.leaf x (List.mem_of_getElem? hx)).le) ?_
    rintro _ w ⟨k, th, rfl, hk', h3, h4, h5, H⟩
    refine OpsE.val (x_move (v := .tuple _) rfl) ?_
    refine OpsE.val (x_extract (v := .int .i64 _) rfl rfl) ?_
    refine OpsE.val (x_extract (v := .bool _) rfl rfl) ?_
    refine OpsE.val (x_assign (v := .int .i64 _) rfl) ?_
    refine OpsE.val (x_assign (v := .bool _) rfl) ?_
    refine OpsE.nil ?_
    refine Then.normal ?_
    refine WP.seq ?_
    refine WP.region ?_
    refine OpsE.val (x_move (v := .int .i64 _) rfl) ?_
    refine OpsE.val (x_move (v := .int .i64 _) rfl) ?_
    refine OpsE.val (x_move (v := .bool _) rfl) ?_
    refine OpsE.val (x_assign (v := .int .i64 _) rfl) ?_
    refine OpsE.val (x_assign (v := .int .i64 _) rfl) ?_
    refine OpsE.val (x_assign (v := .bool _) rfl) ?_
    refine OpsE.nil ?_
    refine Then.normal ?_
    refine WP.ret ?_
    refine Leave0.ret (v := .tuple #[.int .i64 _, .int .i64 _, .bool _]) rfl ?_
    exact ⟨n - 1, k, th, rfl, fnd_of ok.ok hn h1 h2 hx hk' h3 h4 h5, H⟩

end Go.Proofs.Ytbhbdpbhhfemhaa.TC

/-
  The tree of keys: plain facts of the lists that it stands for.
-/
namespace Go.Proofs.Ytbhbdpbhhfemhaa.TC
open Go Go.Proofs
set_option linter.unusedVariables false

theorem Fnd.split {lv : List Leaf} (ok : Ok lv) {key : ByteArray} {i k : Nat} {th : Bool} (F : Fnd lv key i k th) (hne : lv ≠ []) : ∃ P x Q X Y, lv = P ++ x :: Q ∧ P.length = i ∧ x.its = X ++ Y ∧ X.length = k ∧
    (∀ y ∈ all P ++ X, slt y.key key = true) ∧ (∀ y ∈ all Q, slt key y.key = true) ∧ (th = true → ∃ y0 Y', Y = y0 :: Y' ∧ y0.key = key ∧ ∀ y ∈ Y', slt key y.key = true) ∧ (th = false → ∀ y ∈ Y, slt key y.key = true) := by
  rcases F with ⟨h, _⟩ | ⟨x, hx, hk, h1, h2, h3, h4⟩
  · exact absurd h hne
  obtain ⟨hi, ex⟩ := List.getElem?_eq_some_iff.1 hx
  have e : lv = lv.take i ++ x :: lv.drop (i + 1) := by rw [← ex, ← List.drop_eq_getElem_cons hi, List.take_append_drop]
  have hs : Srt It.key x.its := by
    have := ok.srt
    rw [all_at hx] at this
    exact (List.pairwise_append.1 (List.pairwise_append.1 this).2.1).1
  refine ⟨lv.take i, x, lv.drop (i + 1), x.its.take k, x.its.drop k, e, by simp; omega, by simp, by simp; omega, h1, h3, fun ht => ?_, fun hf y hy => ?_⟩
  · obtain ⟨y0, hy0, hkey⟩ := h4.1 ht
    obtain ⟨hk', ey⟩ := List.getElem?_eq_some_iff.1 hy0
    refine ⟨y0, x.its.drop (k + 1), by rw [← ey, ← List.drop_eq_getElem_cons hk'], hkey, fun y hy => ?_⟩
    obtain ⟨j, hj, e2⟩ := List.mem_iff_getElem.1 hy
    have hs' := List.pairwise_iff_getElem.1 hs k (k + 1 + j) hk' (by simp at hj; omega) (by omega)
    rw [ey, hkey] at hs'
    simpa [← e2] using hs'
  · have hne2 : ∀ y, x.its[k]? = some y → y.key ≠ key := fun y hy he => by rw [h4.2 ⟨y, hy, he⟩] at hf; cases hf
    rcases Nat.lt_or_ge k x.its.length with hlt | hge
    · have e3 : x.its.drop k = x.its[k] :: x.its.drop (k + 1) := List.drop_eq_getElem_cons hlt
      have h5 : slt key (x.its[k]).key = true := by
        have h6 := h2 (x.its[k]) (by rw [e3]; exact List.mem_cons_self)
        rcases slt_tri key (x.its[k]).key with h | h | h
        · exact h
        · exact absurd h.symm (hne2 _ (by simp [hlt]))
        · rw [show slt (x.its[k]).key key = false from h6] at h; cases h
      obtain ⟨j, hj, e2⟩ := List.mem_iff_getElem.1 hy
      have hjl : k + j < x.its.length := by simp at hj; omega
      have ey : y = x.its[k + j] := by rw [← e2]; simp
      cases j with
      | zero => rw [ey]; exact h5
      | succ j =>
        have hs' := List.pairwise_iff_getElem.1 hs k (k + (j + 1)) hlt hjl (by omega)
        rw [ey]; exact slt_trans h5 hs'
    · rw [List.drop_of_length_le hge] at hy; cases hy

/-! ### put and drop on a sorted list -/
def lo (key : ByteArray) (l : List It) : List It := l.filter fun y => slt y.key key
def hi (key : ByteArray) (l : List It) : List It := l.filter fun y => slt key y.key
def putL (l : List It) (y : It) : List It := lo y.key l ++ y :: hi y.key l
def dropL (l : List It) (key : ByteArray) : List It := lo key l ++ hi key l
def getL (l : List It) (key : ByteArray) : Option TV := (l.find? fun y => decide (y.key = key)).map It.val

theorem lo_all {key : ByteArray} {l : List It} (h : ∀ y ∈ l, slt y.key key = true) : lo key l = l := List.filter_eq_self.2 h
theorem lo_none {key : ByteArray} {l : List It} (h : ∀ y ∈ l, sle key y.key) : lo key l = [] := List.filter_eq_nil_iff.2 fun y hy => by rw [show slt y.key key = false from h y hy]; simp
theorem hi_all {key : ByteArray} {l : List It} (h : ∀ y ∈ l, slt key y.key = true) : hi key l = l := List.filter_eq_self.2 h
theorem hi_none {key : ByteArray} {l : List It} (h : ∀ y ∈ l, sle y.key key) : hi key l = [] := List.filter_eq_nil_iff.2 fun y hy => by rw [show slt key y.key = false from h y hy]; simp
theorem lo_app (key : ByteArray) (a b : List It) : lo key (a ++ b) = lo key a ++ lo key b := List.filter_append ..
theorem hi_app (key : ByteArray) (a b : List It) : hi key (a ++ b) = hi key a ++ hi key b := List.filter_append ..
theorem lo_cons_eq {y : It} {key : ByteArray} (h : y.key = key) (l : List It) : lo key (y :: l) = lo key l := by
  subst h; unfold lo; rw [List.filter_cons_of_neg]; rw [slt_irrefl]; simp
theorem hi_cons_eq {y : It} {key : ByteArray} (h : y.key = key) (l : List It) : hi key (y :: l) = hi key l := by
  subst h; unfold hi; rw [List.filter_cons_of_neg]; rw [slt_irrefl]; simp

/-- parts of a list around a key -/
structure Parts (l : List It) (key : ByteArray) (L R : List It) : Prop where
  lo : lo key l = L
  hi : hi key l = R
theorem Parts.miss {L R : List It} {key : ByteArray} (h1 : ∀ y ∈ L, slt y.key key = true) (h2 : ∀ y ∈ R, slt key y.key = true) : Parts (L ++ R) key L R := by
  refine ⟨?_, ?_⟩
  · rw [lo_app, lo_all h1, lo_none fun y hy => sle_of_lt (h2 y hy), List.append_nil]
  · rw [hi_app, hi_all h2, hi_none fun y hy => sle_of_lt (h1 y hy), List.nil_append]
theorem Parts.hit {L R : List It} {y0 : It} {key : ByteArray} (h1 : ∀ y ∈ L, slt y.key key = true) (h0 : y0.key = key) (h2 : ∀ y ∈ R, slt key y.key = true) : Parts (L ++ y0 :: R) key L R := by
  refine ⟨?_, ?_⟩
  · rw [lo_app, lo_cons_eq h0, lo_all h1, lo_none fun y hy => sle_of_lt (h2 y hy), List.append_nil]
  · rw [hi_app, hi_cons_eq h0, hi_all h2, hi_none fun y hy => sle_of_lt (h1 y hy), List.nil_append]

theorem srt_put {l : List It} (h : Srt It.key l) (y : It) : Srt It.key (putL l y) := by
  unfold putL
  refine List.pairwise_append.2 ⟨h.filter _, List.pairwise_cons.2 ⟨fun z hz => ?_, h.filter _⟩, fun a ha b hb => ?_⟩
  · exact (List.mem_filter.1 hz).2
  · have ha' := (List.mem_filter.1 ha).2
    rcases List.mem_cons.1 hb with rfl | hb
    · exact ha'
    · exact slt_trans ha' (List.mem_filter.1 hb).2
theorem srt_drop {l : List It} (h : Srt It.key l) (key : ByteArray) : Srt It.key (dropL l key) := by
  refine List.pairwise_append.2 ⟨h.filter _, h.filter _, fun a ha b hb => slt_trans (List.mem_filter.1 ha).2 (List.mem_filter.1 hb).2⟩

theorem getL_miss {l : List It} {key : ByteArray} (h : ∀ y ∈ l, y.key ≠ key) : getL l key = none := by
  unfold getL
  rw [List.find?_eq_none.2 fun y hy => by simpa using h y hy]; rfl
theorem getL_app_ne {a b : List It} {key : ByteArray} (h : ∀ y ∈ a, y.key ≠ key) : getL (a ++ b) key = getL b key := by
  unfold getL
  rw [List.find?_append, List.find?_eq_none.2 fun y hy => by simpa using h y hy]; rfl
theorem getL_cons_eq {y : It} {l : List It} {key : ByteArray} (h : y.key = key) : getL (y :: l) key = some y.val := by
  unfold getL; rw [List.find?_cons_of_pos (by simpa using h)]; rfl
theorem getL_cons_ne {y : It} {l : List It} {key : ByteArray} (h : y.key ≠ key) : getL (y :: l) key = getL l key := by
  unfold getL; rw [List.find?_cons_of_neg (by simpa using h)]

theorem len_lv {lv : List Leaf} (h : ∀ x ∈ lv, x.Ok) : lv.length ≤ (all lv).length := by
  induction lv with
  | nil => simp [all]
  | cons x lv ih =>
    have h1 := ih fun z hz => h z (by simp [hz])
    have h2 : 0 < x.its.length := List.length_pos_iff.2 (h x (by simp)).ne
    unfold all at *
    simp only [List.flatMap_cons, List.length_append, List.length_cons]; omega
theorem len_lo_hi (l : List It) (key : ByteArray) : (lo key l).length + (hi key l).length ≤ l.length := by
  induction l with
  | nil => simp [lo, hi]
  | cons y l ih =>
    rcases slt_tri y.key key with h | h | h
    · have h' := slt_asymm h
      simp only [lo, hi, List.filter_cons, h, h', if_true] at ih ⊢
      simp; omega
    · rw [lo_cons_eq h, hi_cons_eq h]; simp; omega
    · have h' := slt_asymm h
      simp only [lo, hi, List.filter_cons, h, h', if_true] at ih ⊢
      simp; omega

/-! ### leaves -/
theorem Lvs_mid (P Q : List Leaf) (x : Leaf) : Lvs (P ++ x :: Q) = HP.sep x.at (Lvs (P ++ Q)) := by
  unfold Lvs
  rw [List.map_append, List.map_cons, stars_append, stars_cons, List.map_append, stars_append, HP.sep_left]
theorem lvOut {w : World} {P Q : List Leaf} {x : Leaf} {l : List HP} (H : Sat w (Lvs (P ++ x :: Q) :: l)) : Sat w (x.at :: Lvs (P ++ Q) :: l) :=
  sat_sep.1 (H.perm (by rw [stars_cons, stars_cons, Lvs_mid]))
theorem lvIn {w : World} {P Q : List Leaf} {x : Leaf} {l : List HP} (H : Sat w (x.at :: Lvs (P ++ Q) :: l)) : Sat w (Lvs (P ++ x :: Q) :: l) :=
  (sat_sep.2 H).perm (by rw [stars_cons, stars_cons, Lvs_mid])
theorem lv_mid (P Q : List Leaf) (x : Leaf) (tl : List Value) : ((P ++ x :: Q).map Leaf.val ++ tl).toArray[P.length]? = some (.slice (some ⟨x.blk, 0, none⟩) x.its.length x.cap) :=
  lv_get (lv := P ++ x :: Q) (i := P.length) (x := x) (by simp)
theorem lv_set (P Q : List Leaf) (x y : Leaf) (tl : List Value) : ((P ++ x :: Q).map Leaf.val ++ tl).set P.length y.val = (P ++ y :: Q).map Leaf.val ++ tl := by
  rw [List.set_append_left _ _ (by simp), List.map_append, List.set_append_right _ _ (by simp)]
  simp
theorem all_mid (P Q : List Leaf) (x : Leaf) : all (P ++ x :: Q) = all P ++ x.its ++ all Q := by simp [all]
theorem its_one (l : List It) : ∀ u ∈ l.flatMap itc, u.oneCell' = true := by
  intro u hu
  obtain ⟨y, _, hy⟩ := List.mem_flatMap.1 hu
  unfold itc at hy
  rcases List.mem_cons.1 hy with rfl | hy
  · rfl
  · exact tvc_one _ _ hy
end Go.Proofs.Ytbhbdpbhhfemhaa.TC

/-
  Slices: cuts, append, copy, make, over lists of assertions. Nothing of the program.
-/
namespace Go.Proofs.Ytbhbdpbhhfemhaa
open Go
set_option linter.unusedVariables false

section
variable {P : Program} {E : Env} {w : World} {ty T e : TypeId} {x : Operand} {k1 k2 k3 : IntKind} {S : Nat}

theorem add_addr (b off n : Nat) : (⟨b, off, none⟩ : Addr).add n = ⟨b, off + n, none⟩ := by unfold Addr.add; split <;> simp_all

/-- x[l:] -/
theorem x_slLo {b off n c l off' : Nat} {lo : Operand} {z : Int} (hx : evE E x = .slice (some ⟨b, off, none⟩) n c) (hl : evE E lo = .int k1 z) (hu : ∀ w, (underlying T).run P w = .ok (.slice e) w) (hs : ∀ w, (sizeOf e).run P w = .ok S w)
    (hz : z = (l : Int)) (h1 : l ≤ n) (ho : (if c = l then off else off + l * S) = off') : (xop E (.slice T x (some lo) none none) ty).run P w = .ok (.value (.slice (some ⟨b, off', none⟩) (n - l) (c - l))) w := by
  subst hz; subst ho
  have h2 : (l : Int) ≤ (n : Int) := by omega
  simp [xop, execOp, Instr.sliceAt, hx, hl, hu, Instr.slice, Instr.sliceBounds, Instr.sliceBound, asIntOf, h1, hs, add_addr]
  split <;> rfl
/-- x[:h] -/
theorem x_slHi {a : Option Addr} {n c h : Nat} {hi : Operand} {z : Int} (hx : evE E x = .slice a n c) (hl : evE E hi = .int k1 z) (hu : ∀ w, (underlying T).run P w = .ok (.slice e) w) (hs : ∀ w, (sizeOf e).run P w = .ok S w)
    (hz : z = (h : Int)) (h1 : h ≤ c) : (xop E (.slice T x none (some hi) none) ty).run P w = .ok (.value (.slice a h c)) w := by
  subst hz
  have e0 : (a.map fun x => x.add 0) = a := by cases a <;> rfl
  simp [xop, execOp, Instr.sliceAt, hx, hl, hu, Instr.slice, Instr.sliceBounds, Instr.sliceBound, asIntOf, h1, hs, e0]
/-- x[:h:m] -/
theorem x_slMax {a : Option Addr} {n c h m : Nat} {hi mx : Operand} {z y : Int} (hx : evE E x = .slice a n c) (hl : evE E hi = .int k1 z) (hm : evE E mx = .int k2 y) (hu : ∀ w, (underlying T).run P w = .ok (.slice e) w) (hs : ∀ w, (sizeOf e).run P w = .ok S w)
    (hz : z = (h : Int)) (hy : y = (m : Int)) (h1 : h ≤ m) (h2 : m ≤ c) : (xop E (.slice T x none (some hi) (some mx)) ty).run P w = .ok (.value (.slice a h m)) w := by
  subst hz; subst hy
  have e0 : (a.map fun x => x.add 0) = a := by cases a <;> rfl
  simp [xop, execOp, Instr.sliceAt, hx, hl, hm, hu, Instr.slice, Instr.sliceBounds, Instr.sliceBound, asIntOf, h1, h2, hs, e0]
/-- x[l:h] -/
theorem x_slLH {b off n c l h off' : Nat} {lo hi : Operand} {z y : Int} (hx : evE E x = .slice (some ⟨b, off, none⟩) n c) (hl : evE E lo = .int k1 z) (hh : evE E hi = .int k2 y) (hu : ∀ w, (underlying T).run P w = .ok (.slice e) w) (hs : ∀ w, (sizeOf e).run P w = .ok S w)
    (hz : z = (l : Int)) (hy : y = (h : Int)) (h1 : l ≤ h) (h2 : h ≤ c) (ho : (if c = l then off else off + l * S) = off') : (xop E (.slice T x (some lo) (some hi) none) ty).run P w = .ok (.value (.slice (some ⟨b, off', none⟩) (h - l) (c - l))) w := by
  subst hz; subst hy; subst ho
  simp [xop, execOp, Instr.sliceAt, hx, hl, hh, hu, Instr.slice, Instr.sliceBounds, Instr.sliceBound, asIntOf, h1, h2, hs, add_addr]
  split <;> rfl
theorem x_cap {ats : Array TypeId} {a : Option Addr} {n m : Nat} (hx : evE E x = .slice a n m) (ht : ats[0]? = some T) (hu : ∀ w, (underlying T).run P w = .ok (.slice e) w) :
    (xop E (.call { callee := .builtin .cap, args := #[x], argTypes := ats }) ty).run P w = .ok (.value (.int .i64 (m : Int))) w := by
  simp [xop, execOp, resolve, hx, invoke, builtin, Builtin.cap_, ht, hu, goInt]
/-- strings -/
theorem x_strLH {s : ByteArray} {l h : Nat} {lo hi : Operand} {z y : Int} (hx : evE E x = .string s) (hl : evE E lo = .int k1 z) (hh : evE E hi = .int k2 y) (hu : ∀ w, (underlying T).run P w = .ok .string w)
    (hz : z = (l : Int)) (hy : y = (h : Int)) (h1 : l ≤ h) (h2 : h ≤ s.size) : (xop E (.slice T x (some lo) (some hi) none) ty).run P w = .ok (.value (.string (s.extract l h))) w := by
  subst hz; subst hy
  simp [xop, execOp, Instr.sliceAt, hx, hl, hh, hu, Instr.slice, Instr.sliceBounds, Instr.sliceBound, asIntOf, h1, h2]
theorem x_strLo {s : ByteArray} {l : Nat} {lo : Operand} {z : Int} (hx : evE E x = .string s) (hl : evE E lo = .int k1 z) (hu : ∀ w, (underlying T).run P w = .ok .string w)
    (hz : z = (l : Int)) (h1 : l ≤ s.size) : (xop E (.slice T x (some lo) none none) ty).run P w = .ok (.value (.string (s.extract l s.size))) w := by
  subst hz
  simp [xop, execOp, Instr.sliceAt, hx, hl, hu, Instr.slice, Instr.sliceBounds, Instr.sliceBound, asIntOf, h1]
theorem x_strHi {s : ByteArray} {h : Nat} {hi : Operand} {y : Int} (hx : evE E x = .string s) (hh : evE E hi = .int k2 y) (hu : ∀ w, (underlying T).run P w = .ok .string w)
    (hy : y = (h : Int)) (h2 : h ≤ s.size) : (xop E (.slice T x none (some hi) none) ty).run P w = .ok (.value (.string (s.extract 0 h))) w := by
  subst hy
  simp [xop, execOp, Instr.sliceAt, hx, hh, hu, Instr.slice, Instr.sliceBounds, Instr.sliceBound, asIntOf, h2]
end

section
variable {P : Program} {N : Nat} {ops : Array Oper} {Q : Post} {rest : List Oper} {E : Env} {ds : List Deferred} {w : World} {ty T e : TypeId} {x y : Operand} {l : List HP} {d : Nat} {pos : String} {af : Array Edge} {S by_ : Nat}

theorem heap_setRow {b : Nat} {cs : Array Value} {t : TypeId} {fz : Nat × Nat} (cs' : Array Value) (hb : w.heap[b]? = some (.cells cs t fz)) : (w.setRow b cs').heap[b]? = some (.cells cs' t fz) := by
  simp [World.setRow, Array.getElem?_modify, hb]
theorem heap_setRow_ne {b k : Nat} {cs' : Array Value} (h : k ≠ b) : (w.setRow b cs').heap[k]? = w.heap[k]? := by
  simp only [World.setRow, Array.getElem?_modify]
  rw [if_neg (fun e => h e.symm)]
theorem Sat.setRow {b : Nat} {cs cs' : Array Value} {t : TypeId} {fz : Nat × Nat} (H : Sat w (pt b (.cells cs t fz) :: l)) : Sat (w.setRow b cs') (pt b (.cells cs' t fz) :: l) :=
  H.set (heap_setRow cs' H.pt_get) fun _ hk => heap_setRow_ne hk

theorem cells_at {b off : Nat} {cs : Array Value} {t : TypeId} {fz : Nat × Nat} {vs : List Value} (hb : w.heap[b]? = some (.cells cs t fz)) (hv : (cs.toList.drop off).take vs.length = vs) : ∀ j v, vs[j]? = some v → w.cell? ((⟨b, off, none⟩ : Addr).add j) = some v := by
  intro j v h
  rw [add_addr]
  refine cell_of hb ?_
  rw [← hv, List.getElem?_take, List.getElem?_drop] at h
  split at h
  · simpa using h
  · cases h

/-- a type's facts -/
structure ElemOk (P : Program) (T e : TypeId) (S by_ : Nat) (z : Value) : Prop where
  u : P.underlying T = some (.slice e)
  i : ∃ i : TypeInfo, P.info? e = some i ∧ i.size = S ∧ i.bytes = by_ ∧ i.zero = some z
  z : z.cells.size = S

/-- append(dst, src...) that must grow; the old row is left as it is -/
theorem OpsE.append_grow {ats : Array TypeId} {b n c bs offs ns cs_ : Nat} {olds news : List Value} {z : Value} {A B : Array Value} {tA tB : TypeId} {fA fB : Nat × Nat} {off : Nat} (ht : ats = #[T, T]) (K : ElemOk P T e S by_ z)
    (hx : evE E x = .slice (some ⟨b, off, none⟩) n c) (hy : evE E y = .slice (some ⟨bs, offs, none⟩) ns cs_) (H : Sat w l)
    (hA : w.heap[b]? = some (.cells A tA fA)) (h1 : (A.toList.drop off).take olds.length = olds) (hl1 : olds.length = n * S)
    (hB : w.heap[bs]? = some (.cells B tB fB)) (h2 : (B.toList.drop offs).take news.length = news) (hl2 : news.length = ns * S)
    (hg : c < n + ns) (hb : (n + ns) * by_ ≤ 140737488355328) (h63 : n + ns ≤ 9223372036854775807)
    (k : ∀ g c' tl w', n + ns ≤ c' → tl.length = (c' - (n + ns)) * S → Sat w' (pt g (.cells (olds ++ news ++ tl).toArray e (0, 0)) :: l) → OpsE P N ops Q rest (upd N E d (.slice (some ⟨g, 0, none⟩) (n + ns) c')) ds w') :
    OpsE P N ops Q (⟨some d, .call { callee := .builtin .append, args := #[x, y], argTypes := ats }, ty, pos, af, none⟩ :: rest) E ds w := by
  subst ht
  obtain ⟨i, hi, rfl, rfl, hz⟩ := K.i
  have hr := run_append_grow (P := P) w T ty e i z K.u hi hz ⟨b, off, none⟩ n c olds hl1 (cells_at hA h1) ⟨bs, offs, none⟩ ns cs_ news hl2 (cells_at hB h2) hg (by omega) (growslice_fits hg hb)
  refine OpsE.val (v := .slice (some ⟨w.heap.size, 0, none⟩) (n + ns) (grownCap w (n + ns) c e)) (w' := w.drew.alloc (.cells (olds.toArray ++ news.toArray ++ Builtin.zeroCells z.cells (grownCap w (n + ns) c e - (n + ns))) e)) ?_ (k _ _ (Builtin.zeroCells z.cells (grownCap w (n + ns) c e - (n + ns))).toList _ (grownCap_ge _ _ _ _) (by rw [Array.length_toList, size_zeroCells, K.z]) ?_)
  · simp [xop, execOp, resolve, hx, hy, invoke, builtin, hr]
  · have := (H.heap (w' := w.drew) rfl).new (w' := w.drew.alloc (.cells (olds.toArray ++ news.toArray ++ Builtin.zeroCells z.cells (grownCap w (n + ns) c e - (n + ns))) e)) rfl
    rw [show olds.toArray ++ news.toArray ++ Builtin.zeroCells z.cells (grownCap w (n + ns) c e - (n + ns)) = (olds ++ news ++ (Builtin.zeroCells z.cells (grownCap w (n + ns) c e - (n + ns))).toList).toArray from by apply Array.ext'; simp] at this ⊢
    exact this

/-- append(nil, src...) -/
theorem OpsE.append_nil {ats : Array TypeId} {bs offs ns cs_ : Nat} {news : List Value} {z : Value} {B : Array Value} {tB : TypeId} {fB : Nat × Nat} (ht : ats = #[T, T]) (K : ElemOk P T e S by_ z)
    (hx : evE E x = .slice none 0 0) (hy : evE E y = .slice (some ⟨bs, offs, none⟩) ns cs_) (H : Sat w l)
    (hB : w.heap[bs]? = some (.cells B tB fB)) (h2 : (B.toList.drop offs).take news.length = news) (hl2 : news.length = ns * S)
    (hg : 0 < ns) (hb : ns * by_ ≤ 140737488355328) (h63 : ns ≤ 9223372036854775807)
    (k : ∀ g c' tl w', ns ≤ c' → tl.length = (c' - ns) * S → Sat w' (pt g (.cells (news ++ tl).toArray e (0, 0)) :: l) → OpsE P N ops Q rest (upd N E d (.slice (some ⟨g, 0, none⟩) ns c')) ds w') :
    OpsE P N ops Q (⟨some d, .call { callee := .builtin .append, args := #[x, y], argTypes := ats }, ty, pos, af, none⟩ :: rest) E ds w := by
  subst ht
  obtain ⟨i, hi, rfl, rfl, hz⟩ := K.i
  have hr := run_append_nil (P := P) w T ty e i z K.u hi hz ⟨bs, offs, none⟩ ns cs_ news hl2 (cells_at hB h2) hg (by omega) (by omega)
  refine OpsE.val (v := .slice (some ⟨w.heap.size, 0, none⟩) ns (grownCap w ns 0 e)) (w' := w.drew.alloc (.cells (news.toArray ++ Builtin.zeroCells z.cells (grownCap w ns 0 e - ns)) e)) ?_ (k _ _ (Builtin.zeroCells z.cells (grownCap w ns 0 e - ns)).toList _ (grownCap_ge _ _ _ _) (by rw [Array.length_toList, size_zeroCells, K.z]) ?_)
  · simp [xop, execOp, resolve, hx, hy, invoke, builtin, hr]
  · have := (H.heap (w' := w.drew) rfl).new (w' := w.drew.alloc (.cells (news.toArray ++ Builtin.zeroCells z.cells (grownCap w ns 0 e - ns)) e)) rfl
    rw [show news.toArray ++ Builtin.zeroCells z.cells (grownCap w ns 0 e - ns) = (news ++ (Builtin.zeroCells z.cells (grownCap w ns 0 e - ns)).toList).toArray from by apply Array.ext'; simp] at this ⊢
    exact this

/-- append(dst, src...) into spare room -/
theorem OpsE.append_room {ats : Array TypeId} {b n c bs offs ns cs_ : Nat} {news C : List Value} {z : Value} {B : Array Value} {tB : TypeId} {fB : Nat × Nat} {r : List HP} (ht : ats = #[T, T]) (K : ElemOk P T e S by_ z)
    (hx : evE E x = .slice (some ⟨b, 0, none⟩) n c) (hy : evE E y = .slice (some ⟨bs, offs, none⟩) ns cs_) (H : Sat w l) [tk : TakePt l b (.cells C.toArray e (0, 0)) r]
    (hB : w.heap[bs]? = some (.cells B tB fB)) (h2 : (B.toList.drop offs).take news.length = news) (hl2 : news.length = ns * S) (h1 : ∀ u ∈ news, u.oneCell' = true)
    (hroom : n + ns ≤ c) (hfit : (n + ns) * S ≤ C.length)
    (k : ∀ w', Sat w' (pt b (.cells (C.take (n * S) ++ news ++ C.drop ((n + ns) * S)).toArray e (0, 0)) :: r) → OpsE P N ops Q rest (upd N E d (.slice (some ⟨b, 0, none⟩) (n + ns) c)) ds w') :
    OpsE P N ops Q (⟨some d, .call { callee := .builtin .append, args := #[x, y], argTypes := ats }, ty, pos, af, none⟩ :: rest) E ds w := by
  subst ht
  obtain ⟨i, hi, rfl, rfl, hz⟩ := K.i
  have H' := H.takePt b
  have hr := run_append_room (P := P) w T ty e i K.u hi b n c C.toArray H'.pt_get ⟨bs, offs, none⟩ ns cs_ news hl2 (cells_at hB h2) h1 hroom (by rw [hl2, ← Nat.add_mul]; simpa using hfit)
  have e2 : n * i.size + news.length = (n + ns) * i.size := by rw [hl2, Nat.add_mul]
  rw [e2] at hr
  refine OpsE.val ?_ (k _ (H'.setRow (cs' := (C.take (n * i.size) ++ news ++ C.drop ((n + ns) * i.size)).toArray)))
  simp [xop, execOp, resolve, hx, hy, invoke, builtin, hr]

/-- copy(dst, src): n cells of a row onto another place -/
theorem OpsE.copy {d : Option Nat} {ats : Array TypeId} {b o n c bs offs ns cs_ m : Nat} {news C : List Value} {z : Value} {B : Array Value} {tB : TypeId} {fB : Nat × Nat} {r : List HP} (ht : ats = #[T, T]) (K : ElemOk P T e S by_ z)
    (hx : evE E x = .slice (some ⟨b, o, none⟩) n c) (hy : evE E y = .slice (some ⟨bs, offs, none⟩) ns cs_) (H : Sat w l) [tk : TakePt l b (.cells C.toArray e (0, 0)) r]
    (hB : w.heap[bs]? = some (.cells B tB fB)) (hm : min ns n = m) (h2 : (B.toList.drop offs).take news.length = news) (hl2 : news.length = m * S) (h1 : ∀ u ∈ news, u.oneCell' = true)
    (hfit : o + news.length ≤ C.length)
    (k : ∀ w', Sat w' (pt b (.cells (C.take o ++ news ++ C.drop (o + news.length)).toArray e (0, 0)) :: r) → OpsE P N ops Q rest (putE N d E (.int .i64 (m : Int))) ds w') :
    OpsE P N ops Q (⟨d, .call { callee := .builtin .copy, args := #[x, y], argTypes := ats }, ty, pos, af, none⟩ :: rest) E ds w := by
  subst ht; subst hm
  obtain ⟨i, hi, rfl, rfl, hz⟩ := K.i
  have H' := H.takePt b
  have hf := run_firstCells_some (P := P) w i.size (min ns n) ⟨bs, offs, none⟩ ns cs_ news hl2 (cells_at hB h2)
  have hst := run_storeCells_at P b o e news 0 C.toArray w H'.pt_get (by simpa using hfit) h1
  have hrun : (xop E (.call { callee := .builtin .copy, args := #[x, y], argTypes := #[T, T] }) ty).run P w = .ok (.value (.int .i64 ((min ns n : Nat) : Int))) (w.setRow b (C.take o ++ news ++ C.drop (o + news.length)).toArray) := by
    have hst' : (storeCells ⟨b, o, none⟩ news).run P w = .ok () (w.setRow b (C.take o ++ news ++ C.drop (o + news.length)).toArray) := by simpa using hst
    have hm : Nat.min ns n = min ns n := rfl
    simp [xop, execOp, resolve, hx, hy, invoke, builtin, Builtin.copy_, run_underlying K.u, sizeOf, typeInfo, hi, Builtin.lenOf, hm, hf, hst', goInt]
  have k' := k _ (H'.setRow (cs' := (C.take o ++ news ++ C.drop (o + news.length)).toArray))
  cases d with
  | none => exact OpsE.val0 hrun k'
  | some d => exact OpsE.val hrun k'
end
end Go.Proofs.Ytbhbdpbhhfemhaa

/-
  More of slices: rows that are built, made, cleared; append of a make. Nothing of the program.
-/
namespace Go.Proofs.Ytbhbdpbhhfemhaa
open Go
set_option linter.unusedVariables false

theorem foldl_set (off : Nat) : ∀ (vs : List Value) (k : Nat) (cs : Array Value), off + k + vs.length ≤ cs.size →
    (((vs.zipIdx k).foldl (fun cs (p : Value × Nat) => cs.setIfInBounds (off + p.2) p.1) cs).toList = cs.toList.take (off + k) ++ vs ++ cs.toList.drop (off + k + vs.length))
  | [], k, cs, _ => by simp
  | v :: vs, k, cs, h => by
    rw [List.zipIdx_cons, List.foldl_cons, foldl_set off vs (k + 1) _ (by simp at h ⊢; omega)]
    have hk : off + k < cs.toList.length := by simp at h ⊢; omega
    simp only [Array.toList_setIfInBounds, List.length_cons]
    rw [show off + (k + 1) = (off + k) + 1 by omega, List.take_succ_eq_append_getElem (by simpa using hk), List.take_set_of_le (Nat.le_refl _), List.getElem_set_self, List.drop_set_of_lt (by omega)]
    simp
    congr 1; omega

theorem fill_cons {place : Nat → Option (Nat × Nat)} {cs : Array Value} {i off : Nat} {v : Value} {vs : List Value} {rest : List (Nat × Value)} (hp : place i = some (off, vs.length)) (hv : v.cells = vs.toArray) (h : off + vs.length ≤ cs.size) :
    Instr.fill place cs ((i, v) :: rest) = Instr.fill place (cs.toList.take off ++ vs ++ cs.toList.drop (off + vs.length)).toArray rest := by
  have e : (v.cells.zipIdx.foldl (fun cs (p : Value × Nat) => cs.setIfInBounds (off + p.2) p.1) cs) = (cs.toList.take off ++ vs ++ cs.toList.drop (off + vs.length)).toArray := by
    apply Array.ext'
    have := foldl_set off vs 0 cs (by simpa using h)
    rw [hv]
    simpa using this
  conv => lhs; unfold Instr.fill
  simp only [hp]
  rw [if_neg]
  · rw [← e]
  · simp [hv]; omega

section
variable {P : Program} {N : Nat} {ops : Array Oper} {Q : Post} {rest : List Oper} {E : Env} {ds : List Deferred} {w : World} {ty T e : TypeId} {x y : Operand} {l : List HP} {d : Nat} {pos : String} {af : Array Edge} {S by_ : Nat} {z : Value}

theorem range_size (n : Nat) (zs : Array Value) : ((Array.range n).map fun i => zs[i % zs.size]!).size = n := by simp

theorem OpsE.buildSlice1 {o : Operand} {v : Value} {vs : List Value} (K : ElemOk P T e S by_ z) (hs0 : 0 < S) (ho : evE E o = v) (hv : v.cells = vs.toArray) (hl : vs.length = S) (hS : S ≤ 1000) (H : Sat w l)
    (k : ∀ g w', Sat w' (pt g (.cells vs.toArray e (0, 0)) :: l) → OpsE P N ops Q rest (upd N E d (.slice (some ⟨g, 0, none⟩) 1 1)) ds w') :
    OpsE P N ops Q (⟨some d, .buildSlice T 1 #[(0, o)], ty, pos, af, none⟩ :: rest) E ds w := by
  obtain ⟨i, hi, rfl, rfl, hz⟩ := K.i
  have hf : ∀ cs : Array Value, cs.size = i.size → Instr.fill (fun j => some (j * i.size, i.size)) cs [(0, v)] = some vs.toArray := by
    intro cs hc
    rw [fill_cons (off := 0) (vs := vs) (by simp [hl]) hv (by omega)]
    simp [Instr.fill, hl, hc]
  refine OpsE.val (v := .slice (some ⟨w.heap.size, 0, none⟩) 1 1) (w' := { w with heap := w.heap.push (.cells vs.toArray e (0, 0)) }) ?_ (k _ _ (H.new rfl))
  have h0 : i.size ≠ 0 := by omega
  have h2 : ¬ 16777216 < i.size := by omega
  have hfz := hf ((Array.range i.size).map fun j => z.cells[j % z.cells.size]!) (by simp)
  simp [xop, execOp, Instr.buildSlice, ho, run_underlying K.u, sizeOf, zeroValue, typeInfo, hi, hz, h0, h2, hfz, newRow, newObj, Sem.run]

theorem OpsE.buildSlice2 {o o2 : Operand} {v v2 : Value} {vs vs2 : List Value} (K : ElemOk P T e S by_ z) (hs0 : 0 < S) (ho : evE E o = v) (ho2 : evE E o2 = v2) (hv : v.cells = vs.toArray) (hv2 : v2.cells = vs2.toArray) (hl : vs.length = S) (hl2 : vs2.length = S) (hS : S ≤ 1000) (H : Sat w l)
    (k : ∀ g w', Sat w' (pt g (.cells (vs ++ vs2).toArray e (0, 0)) :: l) → OpsE P N ops Q rest (upd N E d (.slice (some ⟨g, 0, none⟩) 2 2)) ds w') :
    OpsE P N ops Q (⟨some d, .buildSlice T 2 #[(0, o), (1, o2)], ty, pos, af, none⟩ :: rest) E ds w := by
  obtain ⟨i, hi, rfl, rfl, hz⟩ := K.i
  have hf : ∀ cs : Array Value, cs.size = 2 * i.size → Instr.fill (fun j => some (j * i.size, i.size)) cs [(0, v), (1, v2)] = some (vs ++ vs2).toArray := by
    intro cs hc
    rw [fill_cons (off := 0) (vs := vs) (by simp [hl]) hv (by omega), fill_cons (off := 1 * i.size) (vs := vs2) (by simp [hl2]) hv2 (by simp; omega)]
    simp [Instr.fill, hl, hl2]
    omega
  refine OpsE.val (v := .slice (some ⟨w.heap.size, 0, none⟩) 2 2) (w' := { w with heap := w.heap.push (.cells (vs ++ vs2).toArray e (0, 0)) }) ?_ (k _ _ (H.new rfl))
  have h0 : i.size ≠ 0 := by omega
  have h2 : ¬ 16777216 < 2 * i.size := by omega
  have hfz := hf ((Array.range (2 * i.size)).map fun j => z.cells[j % z.cells.size]!) (by simp)
  simp [xop, execOp, Instr.buildSlice, ho, ho2, run_underlying K.u, sizeOf, zeroValue, typeInfo, hi, hz, h2, hfz, newRow, newObj, Sem.run]
  intro h; omega

theorem OpsE.buildSlice0 (K : ElemOk P T e S by_ z) (H : Sat w l)
    (k : ∀ g w', Sat w' (pt g (.cells ([] : List Value).toArray e (0, 0)) :: l) → OpsE P N ops Q rest (upd N E d (.slice (some ⟨g, 0, none⟩) 0 0)) ds w') :
    OpsE P N ops Q (⟨some d, .buildSlice T 0 #[], ty, pos, af, none⟩ :: rest) E ds w := by
  obtain ⟨i, hi, rfl, rfl, hz⟩ := K.i
  refine OpsE.val (v := .slice (some ⟨w.heap.size, 0, none⟩) 0 0) (w' := { w with heap := w.heap.push (.cells ([] : List Value).toArray e (0, 0)) }) ?_ (k _ _ (H.new rfl))
  have h0 : Array.range 0 = #[] := rfl
  simp [xop, execOp, Instr.buildSlice, run_underlying K.u, sizeOf, typeInfo, hi, Instr.fill, newRow, newObj, Sem.run, h0]

/-- append(dst, make([]E, m)...) that must grow -/
theorem OpsE.append_make {ats : Array TypeId} {Ti : TypeId} {a : Option Addr} {n c m : Nat} {ki : IntKind} {q : Int} {olds : List Value} (ht : ats = #[T, Ti]) (K : ElemOk P T e S by_ z) (hi' : P.underlying Ti = some (.int .i64))
    (hx : evE E x = .slice a n c) (hy : evE E y = .int ki q) (hq : q = (m : Int)) (H : Sat w l)
    (hA : (a = none ∧ n = 0 ∧ olds = []) ∨ ∃ b off A tA fA, a = some ⟨b, off, none⟩ ∧ w.heap[b]? = some (.cells A tA fA) ∧ (A.toList.drop off).take olds.length = olds ∧ olds.length = n * S)
    (hg : c < n + m) (hm0 : 0 < m) (hb : (n + m) * by_ ≤ 140737488355328) (h0 : 0 < S) (h63 : n + m ≤ 4611686018427387904)
    (k : ∀ g c' tl w', n + m ≤ c' → tl.length = (c' - n) * S → Sat w' (pt g (.cells (olds ++ tl).toArray e (0, 0)) :: l) → OpsE P N ops Q rest (upd N E d (.slice (some ⟨g, 0, none⟩) (n + m) c')) ds w') :
    OpsE P N ops Q (⟨some d, .call { callee := .builtin .append, args := #[x, y], argTypes := ats }, ty, pos, af, none⟩ :: rest) E ds w := by
  subst ht; subst hq
  obtain ⟨i, hi, rfl, rfl, hz⟩ := K.i
  have hfo : ∀ w' : World, w'.heap = w.heap → (Builtin.firstCells i.size n (.slice a n c)).run P w' = .ok olds.toArray w' := by
    intro w' hw
    rcases hA with ⟨rfl, rfl, rfl⟩ | ⟨b, off, A, tA, fA, rfl, hA, h1, hl⟩
    · exact run_firstCells_none w' _ _ _ _
    · exact run_firstCells_some w' _ n ⟨b, off, none⟩ n c olds hl (cells_at (by rw [hw]; exact hA) h1)
  have hgc := grownCap_ge w (n + m) c e
  have hw64 : IntKind.i64.wrap (m : Int) = (m : Int) := i64n (by omega) (by omega)
  have hby : m * i.bytes ≤ 140737488355328 := Nat.le_trans (Nat.mul_le_mul_right _ (by omega)) hb
  have hbyI : ¬ ((281474976710656 : Int) < (m : Int) * (i.bytes : Int)) := by
    have : ((m * i.bytes : Nat) : Int) ≤ ((140737488355328 : Nat) : Int) := Int.ofNat_le.2 hby
    rw [Int.natCast_mul] at this; omega
  have hfit := growslice_fits (bytes := i.bytes) hg hb
  have hfit' : ¬ (281474976710656 < Builtin.nextslicecap (n + m) c * i.bytes) := by omega
  have h63' : ¬ (9223372036854775807 < (n : Int) + (m : Int)) := by omega
  have hng : ¬ (n + m ≤ c) := by omega
  have hneg : ¬ ((m : Int) < 0) := by omega
  refine OpsE.val (v := .slice (some ⟨w.heap.size, 0, none⟩) (n + m) (grownCap w (n + m) c e)) (w' := w.drew.alloc (.cells (olds.toArray ++ Builtin.zeroCells z.cells m ++ Builtin.zeroCells z.cells (grownCap w (n + m) c e - (n + m))) e)) ?_
    (k _ _ (Builtin.zeroCells z.cells m ++ Builtin.zeroCells z.cells (grownCap w (n + m) c e - (n + m))).toList _ hgc ?_ ?_)
  · have hd := hfo w.drew rfl
    have hm' : ¬ (m = 0 ∨ i.size = 0) := by omega
    simp [xop, execOp, resolve, invoke, builtin, Builtin.append_, run_underlying K.u, run_underlying hi', sizeOf, typeInfo, zeroValue, hi, hz, asInt, asIntOf, hw64, hneg, hbyI, hng, h63', hfit', Question.forced, hx, hy, hd, newRow, grownCap]
    intro h0'; exact absurd (Nat.mul_eq_zero.1 h0') hm'
  · rw [Array.length_toList, Array.size_append, size_zeroCells, K.z, size_zeroCells, K.z, ← Nat.add_mul]; congr 1; omega
  · have := (H.heap (w' := w.drew) rfl).new (w' := w.drew.alloc (.cells (olds.toArray ++ Builtin.zeroCells z.cells m ++ Builtin.zeroCells z.cells (grownCap w (n + m) c e - (n + m))) e)) rfl
    rw [show olds.toArray ++ Builtin.zeroCells z.cells m ++ Builtin.zeroCells z.cells (grownCap w (n + m) c e - (n + m)) = (olds ++ (Builtin.zeroCells z.cells m ++ Builtin.zeroCells z.cells (grownCap w (n + m) c e - (n + m))).toList).toArray from by apply Array.ext'; simp] at this ⊢
    exact this

/-- clear(x) of a part of an owned row -/
theorem OpsE.clear {d : Option Nat} {ats : Array TypeId} {b o n c : Nat} {C : List Value} {r : List HP} (ht : ats = #[T]) (K : ElemOk P T e S by_ z) (h1 : ∀ u ∈ z.cells, u.oneCell' = true)
    (hx : evE E x = .slice (some ⟨b, o, none⟩) n c) (H : Sat w l) [tk : TakePt l b (.cells C.toArray e (0, 0)) r] (hfit : o + n * S ≤ C.length)
    (k : ∀ tl w', tl.length = n * S → Sat w' (pt b (.cells (C.take o ++ tl ++ C.drop (o + n * S)).toArray e (0, 0)) :: r) → OpsE P N ops Q rest (putE N d E (.tuple #[])) ds w') :
    OpsE P N ops Q (⟨d, .call { callee := .builtin .clear, args := #[x], argTypes := ats }, ty, pos, af, none⟩ :: rest) E ds w := by
  subst ht
  obtain ⟨i, hi, rfl, rfl, hz⟩ := K.i
  have H' := H.takePt b
  have hl : (Builtin.zeroCells z.cells n).toList.length = n * i.size := by rw [Array.length_toList, size_zeroCells, K.z]
  have hone : ∀ u ∈ (Builtin.zeroCells z.cells n).toList, u.oneCell' = true := by
    intro u hu
    simp only [Builtin.zeroCells, Array.toList_map, List.mem_map] at hu
    obtain ⟨j, hj, rfl⟩ := hu
    by_cases hz0 : z.cells.size = 0
    · simp [hz0] at hj
    · have hlt : j % z.cells.size < z.cells.size := Nat.mod_lt _ (by omega)
      rw [getElem!_pos z.cells _ hlt]
      exact h1 _ (Array.getElem_mem _)
  have hst := run_storeCells_at P b o e (Builtin.zeroCells z.cells n).toList 0 C.toArray w H'.pt_get (by rw [hl]; simpa using hfit) hone
  have hst' : (storeCells ⟨b, o, none⟩ (Builtin.zeroCells z.cells n).toList).run P w = .ok () (w.setRow b (C.take o ++ (Builtin.zeroCells z.cells n).toList ++ C.drop (o + n * i.size)).toArray) := by
    rw [hl] at hst; simpa using hst
  have hrun : ∃ w', (xop E (.call { callee := .builtin .clear, args := #[x], argTypes := #[T] }) ty).run P w = .ok (.value (.tuple #[])) w' ∧ ∃ tl : List Value, tl.length = n * i.size ∧ Sat w' (pt b (.cells (C.take o ++ tl ++ C.drop (o + n * i.size)).toArray e (0, 0)) :: r) := by
    cases n with
    | zero =>
      refine ⟨w, ?_, [], by simp, ?_⟩
      · simp [xop, execOp, resolve, hx, invoke, builtin, Builtin.clear_, run_underlying K.u]
      · simpa using H'
    | succ n =>
      refine ⟨_, ?_, _, hl, H'.setRow (cs' := (C.take o ++ (Builtin.zeroCells z.cells (n + 1)).toList ++ C.drop (o + (n + 1) * i.size)).toArray)⟩
      simp [xop, execOp, resolve, hx, invoke, builtin, Builtin.clear_, run_underlying K.u, zeroValue, typeInfo, hi, hz, hst']
  obtain ⟨w', hr, tl, htl, Hw⟩ := hrun
  have k' := k tl w' htl Hw
  cases d with
  | none => exact OpsE.val0 hr k'
  | some d => exact OpsE.val hr k'

def rowOf (zz : Array Value) (n : Nat) : Array Value := (Array.range n).map fun j => zz[j % zz.size]!
/-- make([]E, n, c) -/
theorem OpsE.make {n c : Nat} {k1 k2 : IntKind} {q1 q2 : Int} {y : Operand} (K : ElemOk P T e S by_ z) (hx : evE E x = .int k1 q1) (hy : evE E y = .int k2 q2) (h1 : q1 = (n : Int)) (h2 : q2 = (c : Int)) (hle : n ≤ c) (hb : c * by_ ≤ 140737488355328) (h63 : c ≤ 4611686018427387904) (H : Sat w l)
    (k : ∀ (g : Nat) (tl : List Value) (w' : World), tl.length = c * S → Sat w' (pt g (.cells tl.toArray e (0, 0)) :: l) → OpsE P N ops Q rest (upd N E d (.slice (some ⟨g, 0, none⟩) n c)) ds w') :
    OpsE P N ops Q (⟨some d, .makeSlice T x y, ty, pos, af, none⟩ :: rest) E ds w := by
  subst h1; subst h2
  obtain ⟨i, hi, rfl, rfl, hz⟩ := K.i
  have w1 : IntKind.i64.wrap (n : Int) = (n : Int) := i64n (by omega) (by omega)
  have w2 : IntKind.i64.wrap (c : Int) = (c : Int) := i64n (by omega) (by omega)
  have hI : ¬ ((281474976710656 : Int) < (i.bytes : Int) * (c : Int)) := by
    have : ((c * i.bytes : Nat) : Int) ≤ ((140737488355328 : Nat) : Int) := Int.ofNat_le.2 hb
    rw [Int.natCast_mul, Int.mul_comm] at this; omega
  have hn0 : ¬ ((n : Int) < 0) := by omega
  have hc0 : ¬ ((c : Int) < 0) := by omega
  have hnc : ¬ ((c : Int) < (n : Int)) := by omega
  have hroom : ¬ (140737488355328 < c * i.bytes) := by omega
  refine OpsE.val (v := .slice (some ⟨w.heap.size, 0, none⟩) n c) (w' := { w with heap := w.heap.push (.cells (rowOf (if c * i.size = 0 then #[] else z.cells) (c * i.size)) e (0, 0)) }) ?_ (k _ (rowOf (if c * i.size = 0 then #[] else z.cells) (c * i.size)).toList _ (by simp [rowOf]) (by simpa using H.new rfl))
  by_cases h0 : c * i.size = 0
  · simp [xop, execOp, Instr.makeSlice, hx, hy, run_underlying K.u, sizeOf, zeroValue, typeInfo, hi, hz, asInt, asIntOf, w1, w2, hI, hn0, hc0, hnc, askRoom, roomBytes, h0, newRow, newObj, Sem.run, rowOf]
  · simp [xop, execOp, Instr.makeSlice, hx, hy, run_underlying K.u, sizeOf, zeroValue, typeInfo, hi, hz, asInt, asIntOf, w1, w2, hI, hn0, hc0, hnc, askRoom, roomBytes, h0, newRow, newObj, Sem.run, rowOf]
end
end Go.Proofs.Ytbhbdpbhhfemhaa

/-
  append to an owned row, whether it must grow or not; rows of elements. Nothing of the program.
-/
namespace Go.Proofs.Ytbhbdpbhhfemhaa
open Go
set_option linter.unusedVariables false

section
variable {P : Program} {N : Nat} {ops : Array Oper} {Q : Post} {rest : List Oper} {E : Env} {ds : List Deferred} {w : World} {ty T e : TypeId} {x y : Operand} {l : List HP} {d : Nat} {pos : String} {af : Array Edge} {S by_ : Nat} {z : Value}

instance : Std.Associative HP.sep := ⟨HP.sep_assoc⟩
instance : Std.Commutative HP.sep := ⟨HP.sep_comm⟩
instance : Std.LawfulIdentity HP.sep HP.one where
  left_id a := by rw [HP.sep_comm, HP.sep_one]
  right_id a := HP.sep_one a

theorem Sat.left {w : World} {l m : List HP} (H : Sat w (l ++ m)) : Sat w l := by
  induction m with
  | nil => simpa using H
  | cons A m ih =>
    refine ih ?_
    have H' : Sat w (A :: (l ++ m)) := H.perm (by rw [stars_append, stars_cons, stars_cons, stars_append, HP.sep_left])
    exact H'.tail
theorem Sat.second {w : World} {A B : HP} {l : List HP} (H : Sat w (A :: B :: l)) : Sat w (A :: l) := by
  have H' : Sat w (B :: A :: l) := H.perm (by rw [stars_cons, stars_cons, stars_cons, stars_cons, HP.sep_left])
  exact H'.tail
theorem Sat.swap {w : World} {A B : HP} {l : List HP} (H : Sat w (A :: B :: l)) : Sat w (B :: A :: l) := H.perm (by rw [stars_cons, stars_cons, stars_cons, stars_cons, HP.sep_left])

theorem Sat.drop4 {w : World} {A B C D : HP} {l : List HP} (H : Sat w (A :: B :: C :: D :: l)) : Sat w (A :: B :: C :: l) := by
  have h : Sat w (D :: A :: B :: C :: l) := H.perm (by simp only [stars_cons]; rw [HP.sep_left C, HP.sep_left B, HP.sep_left A])
  exact h.tail

theorem OpsE.append_own {ats : Array TypeId} {b n c bs offs ns cs_ : Nat} {olds tl news : List Value} {B : Array Value} {tB : TypeId} {fB : Nat × Nat} {r : List HP} (ht : ats = #[T, T]) (K : ElemOk P T e S by_ z)
    (hx : evE E x = .slice (some ⟨b, 0, none⟩) n c) (hy : evE E y = .slice (some ⟨bs, offs, none⟩) ns cs_) (H : Sat w l) [tk : TakePt l b (.cells (olds ++ tl).toArray e (0, 0)) r]
    (hl1 : olds.length = n * S) (hc : n * S + tl.length = c * S) (hB : w.heap[bs]? = some (.cells B tB fB)) (h2 : (B.toList.drop offs).take news.length = news) (hl2 : news.length = ns * S) (h1 : ∀ u ∈ news, u.oneCell' = true)
    (hb : (n + ns) * by_ ≤ 140737488355328) (h63 : n + ns ≤ 9223372036854775807)
    (k : ∀ g c' tl' w', n + ns ≤ c' → (n + ns) * S + tl'.length = c' * S → Sat w' (pt g (.cells (olds ++ news ++ tl').toArray e (0, 0)) :: r) → OpsE P N ops Q rest (upd N E d (.slice (some ⟨g, 0, none⟩) (n + ns) c')) ds w') :
    OpsE P N ops Q (⟨some d, .call { callee := .builtin .append, args := #[x, y], argTypes := ats }, ty, pos, af, none⟩ :: rest) E ds w := by
  by_cases hg : c < n + ns
  · have H' := H.takePt b
    refine OpsE.append_grow (olds := olds) (news := news) ht K hx hy H' H'.pt_get (by simp [hl1]) hl1 hB h2 hl2 hg hb h63 ?_
    intro g c' tl' w' h3 h4 H
    have hm := Nat.mul_le_mul_right S h3
    rw [Nat.sub_mul] at h4
    exact k g c' tl' w' h3 (by omega) H.second
  · refine OpsE.append_room (news := news) ht K hx hy H hB h2 hl2 h1 (by omega) ?_ ?_
    · have := Nat.mul_le_mul_right S (show n + ns ≤ c by omega)
      simp only [List.length_append]; omega
    intro w' H
    have hm := Nat.mul_le_mul_right S (show n + ns ≤ c by omega)
    refine k b c ((olds ++ tl).drop ((n + ns) * S)) w' (by omega) (by simp only [List.length_drop, List.length_append]; omega) ?_
    rwa [List.take_append_of_le_length (by omega), List.take_of_length_le (by omega)] at H

/-- append(dst[:n:n], src...): a new row -/
theorem OpsE.append_full {ats : Array TypeId} {a : Option Addr} {n bs offs ns cs_ : Nat} {olds news : List Value} {B : Array Value} {tB : TypeId} {fB : Nat × Nat} (ht : ats = #[T, T]) (K : ElemOk P T e S by_ z)
    (hx : evE E x = .slice a n n) (hy : evE E y = .slice (some ⟨bs, offs, none⟩) ns cs_) (H : Sat w l)
    (hA : (a = none ∧ n = 0 ∧ olds = []) ∨ ∃ b off A tA fA, a = some ⟨b, off, none⟩ ∧ w.heap[b]? = some (.cells A tA fA) ∧ (A.toList.drop off).take olds.length = olds ∧ olds.length = n * S)
    (hB : w.heap[bs]? = some (.cells B tB fB)) (h2 : (B.toList.drop offs).take news.length = news) (hl2 : news.length = ns * S) (hg : 0 < ns)
    (hb : (n + ns) * by_ ≤ 140737488355328) (h63 : n + ns ≤ 9223372036854775807)
    (k : ∀ g c' tl' w', n + ns ≤ c' → (n + ns) * S + tl'.length = c' * S → Sat w' (pt g (.cells (olds ++ news ++ tl').toArray e (0, 0)) :: l) → OpsE P N ops Q rest (upd N E d (.slice (some ⟨g, 0, none⟩) (n + ns) c')) ds w') :
    OpsE P N ops Q (⟨some d, .call { callee := .builtin .append, args := #[x, y], argTypes := ats }, ty, pos, af, none⟩ :: rest) E ds w := by
  rcases hA with ⟨rfl, rfl, rfl⟩ | ⟨b, off, A, tA, fA, rfl, hA, h1, hl1⟩
  · refine OpsE.append_nil (news := news) ht K hx hy H hB h2 hl2 hg (by simpa using hb) (by simpa using h63) ?_
    intro g c' tl' w' h3 h4 H
    have hm := Nat.mul_le_mul_right S h3
    rw [Nat.sub_mul] at h4
    have := k g c' tl' w' (by omega) (by rw [Nat.zero_add]; omega) (by simpa using H)
    rwa [Nat.zero_add] at this
  · refine OpsE.append_grow (olds := olds) (news := news) ht K hx hy H hA h1 hl1 hB h2 hl2 (by omega) hb h63 ?_
    intro g c' tl' w' h3 h4 H
    have hm := Nat.mul_le_mul_right S h3
    rw [Nat.sub_mul] at h4
    exact k g c' tl' w' h3 (by omega) H

theorem Same.sub {L2 L : List Nat} {E3 E2 E1 : Env} (h : Same L2 E3 E2) (h' : Same L E2 E1) (hs : (L2.all fun t => L.elem t) = true) : Same L E3 E1 := by
  intro t ht
  have h2 : L2.elem t = false := by
    cases e : L2.elem t with
    | false => rfl
    | true =>
      have := List.all_eq_true.1 hs t (List.elem_iff.1 e)
      rw [ht] at this; cases this
  rw [h t h2, h' t ht]

/-- a struct stored -/
theorem OpsE.storeA {b i : Nat} {C vs : List Value} {t : TypeId} {r : List HP} (hx : evE E x = .pointer (some ⟨b, i, none⟩)) (hy : evE E y = .agg vs.toArray) (hs : ∀ w, (sizeOf T).run P w = .ok vs.length w)
    (H : Sat w l) [tk : TakePt l b (.cells C.toArray t (0, 0)) r] (h1 : ∀ u ∈ vs, u.oneCell' = true) (hi : i + vs.length ≤ C.length) (k : ∀ w', Sat w' (pt b (.cells (C.take i ++ vs ++ C.drop (i + vs.length)).toArray t (0, 0)) :: r) → OpsE P N ops Q rest E ds w') :
    OpsE P N ops Q (⟨none, .store T x y, ty, pos, af, none⟩ :: rest) E ds w := by
  have H' := H.takePt b
  have hst := run_storeCells_at P b i t vs 0 C.toArray w H'.pt_get (by simpa using hi) h1
  have hst' : (storeCells ⟨b, i, none⟩ vs).run P w = .ok () (w.setRow b (C.take i ++ vs ++ C.drop (i + vs.length)).toArray) := by simpa using hst
  refine OpsE.skip ?_ (k _ (H'.setRow (cs' := (C.take i ++ vs ++ C.drop (i + vs.length)).toArray)))
  have hc : (Value.agg vs.toArray).cells = vs.toArray := rfl
  simp [xop, execOp, hx, hy, Instr.storeAt, Instr.sureAddr, storeVar, hc, hs, hst']

/-- x[l:h:m] -/
theorem x_slLHM {b off n c l h m off' : Nat} {k1 k2 k3 : IntKind} {lo hi mx : Operand} {z y : Int} {u : Int} (hx : evE E x = .slice (some ⟨b, off, none⟩) n c) (hl : evE E lo = .int k1 z) (hh : evE E hi = .int k2 y) (hm : evE E mx = .int k3 u) (hu : ∀ w, (underlying T).run P w = .ok (.slice e) w) (hs : ∀ w, (sizeOf e).run P w = .ok S w)
    (hz : z = (l : Int)) (hy : y = (h : Int)) (hu' : u = (m : Int)) (h1 : l ≤ h) (h2 : h ≤ m) (h3 : m ≤ c) (ho : (if m = l then off else off + l * S) = off') : (xop E (.slice T x (some lo) (some hi) (some mx)) ty).run P w = .ok (.value (.slice (some ⟨b, off', none⟩) (h - l) (m - l))) w := by
  subst hz; subst hy; subst hu'; subst ho
  simp [xop, execOp, Instr.sliceAt, hx, hl, hh, hm, hu, Instr.slice, Instr.sliceBounds, Instr.sliceBound, asIntOf, h1, h2, h3, hs, add_addr]
  split <;> rfl

/-- a struct of three fields, some of them given -/
theorem x_build3_1 {f0 f1 f2 : Field} {o0 : Operand} {i0 n0 n1 n2 : Nat} {vl : List Value} {cs : List Value} {zv : Value} (h : [o0].map (evE E) = vl) (hz : ∀ w, (zeroValue T).run P w = .ok zv w) (hu : ∀ w, (underlying T).run P w = .ok (.struct #[f0, f1, f2]) w)
    (s0 : ∀ w, (sizeOf f0.type).run P w = .ok n0 w) (s1 : ∀ w, (sizeOf f1.type).run P w = .ok n1 w) (s2 : ∀ w, (sizeOf f2.type).run P w = .ok n2 w)
    (hf : Instr.fill (fun i => [(f0.offset, n0), (f1.offset, n1), (f2.offset, n2)][i]?) zv.cells ([i0].zip vl) = some cs.toArray) : (xop E (.build T #[(i0, o0)]) ty).run P w = .ok (.value (.agg cs.toArray)) w := by
  subst h
  simp only [List.map_cons, List.map_nil, List.zip_cons_cons, List.zip_nil_left] at hf
  simp [xop, execOp, Instr.build, hz, hu, s0, s1, s2, hf]
theorem x_build3_2 {f0 f1 f2 : Field} {o0 o1 : Operand} {i0 i1 n0 n1 n2 : Nat} {vl : List Value} {cs : List Value} {zv : Value} (h : [o0, o1].map (evE E) = vl) (hz : ∀ w, (zeroValue T).run P w = .ok zv w) (hu : ∀ w, (underlying T).run P w = .ok (.struct #[f0, f1, f2]) w)
    (s0 : ∀ w, (sizeOf f0.type).run P w = .ok n0 w) (s1 : ∀ w, (sizeOf f1.type).run P w = .ok n1 w) (s2 : ∀ w, (sizeOf f2.type).run P w = .ok n2 w)
    (hf : Instr.fill (fun i => [(f0.offset, n0), (f1.offset, n1), (f2.offset, n2)][i]?) zv.cells ([i0, i1].zip vl) = some cs.toArray) : (xop E (.build T #[(i0, o0), (i1, o1)]) ty).run P w = .ok (.value (.agg cs.toArray)) w := by
  subst h
  simp only [List.map_cons, List.map_nil, List.zip_cons_cons, List.zip_nil_left] at hf
  simp [xop, execOp, Instr.build, hz, hu, s0, s1, s2, hf]

theorem x_half {n : Nat} {yt : TypeId} (hx : evE E x = .int .i64 (n : Int)) (hn : n ≤ 4611686018427387904) : (xop E (.binOp .quo T x (.const (.int .i64 2)) yt) ty).run P w = .ok (.value (.int .i64 ((n / 2 : Nat) : Int))) w := by
  have hy : evE E (.const (.int .i64 2)) = .int .i64 2 := rfl
  have e : IntKind.i64.wrap ((n : Int).tdiv 2) = ((n / 2 : Nat) : Int) := by
    rw [Int.tdiv_eq_ediv_of_nonneg (by omega), show (n : Int) / 2 = ((n / 2 : Nat) : Int) by omega]
    exact i64n (by omega) (by omega)
  have e2 : IntKind.i64.wrap ((n : Int) / 2) = (n : Int) / 2 := i64n (by omega) (by omega)
  simp [xop, execOp, hx, hy, eqGuard_int, binOp, Op.intDiv, e2]
end
end Go.Proofs.Ytbhbdpbhhfemhaa

/-
  slices.Insert, Delete, Clone at one type of elements: contracts over rows of cells.
-/
namespace Go.Proofs.Ytbhbdpbhhfemhaa.IC
open Go Go.Proofs
set_option maxRecDepth 100000
set_option maxHeartbeats 4000000
set_option linter.unusedVariables false

abbrev TT : TypeId := 114
abbrev TE : TypeId := 113
theorem K : ElemOk Try.prog TT TE 2 40 (.agg #[.string ByteArray.empty, .slice none 0 0]) := ⟨Try.underlying114, ⟨Try.t113, Try.type113, rfl, rfl, rfl⟩, rfl⟩

theorem call_overlaps (w : World) {b1 o1 n1 c1 b2 o2 n2 c2 : Nat} {A B : List Value} {tA tB : TypeId} (hne : b1 ≠ b2) (hA : w.heap[b1]? = some (.cells A.toArray tA (0, 0))) (hB : w.heap[b2]? = some (.cells B.toArray tB (0, 0))) (hl : B.length ≠ 0) :
    (callFunc 89 #[.slice (some ⟨b1, o1, none⟩) n1 c1, .slice (some ⟨b2, o2, none⟩) n2 c2]).run Try.prog w = .ok (.value (.bool false)) w := by
  rw [run_callFunc_extern Try.func89 (by kernel_rfl) (by kernel_rfl) (by kernel_rfl) (e := Extern.SlicesOverlaps.overlaps #[TT, TT] #[4]) (by kernel_rfl),
    Lib.run_overlaps_apart w TT _ TE Try.underlying114 2 Try.sizeOf113 ⟨b1, o1, none⟩ ⟨b2, o2, none⟩ n1 c1 n2 c2 hne tA tB A.length B.length (by simp [World.shape?, hA]) (by simp [World.shape?, hB]) hl (by simp [World.frozen?, hA]) (by simp [World.frozen?, hA])]
  rfl

theorem Insert_spec {w : World} {r : List HP} {b n c i bv k : Nat} {A B tl V : List Value} (H : Sat w (pt b (.cells (A ++ B ++ tl).toArray TE (0, 0)) :: pt bv (.cells V.toArray TE (0, 0)) :: r))
    (hn : n = i + k) (hA : A.length = i * 2) (hB : B.length = k * 2) (hV : V.length = 2) (hc : n * 2 + tl.length = c * 2) (hle : n ≤ 2000000)
    (oA : ∀ u ∈ A, u.oneCell' = true) (oB : ∀ u ∈ B, u.oneCell' = true) (oV : ∀ u ∈ V, u.oneCell' = true) :
    Calls Try.prog 64 #[.slice (some ⟨b, 0, none⟩) n c, .int .i64 i, .slice (some ⟨bv, 0, none⟩) 1 1] w (Ret fun v w' => ∃ b' c' tl', v = .slice (some ⟨b', 0, none⟩) (n + 1) c' ∧ n + 1 ≤ c' ∧ (n + 1) * 2 + tl'.length = c' * 2 ∧
      Sat w' (pt b' (.cells (A ++ V ++ B ++ tl').toArray TE (0, 0)) :: r)) := by
  have hnc : n ≤ c := by omega
  refine Calls.of_wp Try.func64 rfl Try.ntmps64 Try.results64 (Nat.le_of_ble_eq_true rfl) ?_
  refine WP.seq ?_
  refine WP.region ?_
  refine OpsE.val (x_assign (v := .slice _ _ _) rfl) ?_
  refine OpsE.nil ?_
  refine Then.normal ?_
  refine WP.seq ?_
  refine WP.region ?_
  refine OpsE.val (x_move (v := .slice _ _ _) rfl) ?_
  refine OpsE.val (x_move (v := .int .i64 _) rfl) ?_
  refine OpsE.val (x_slLo (l := i) (off' := (if c = i then 0 else 0 + i * 2)) rfl rfl Try.runUnderlying114 Try.sizeOf113 rfl (by omega) rfl) ?_
  refine OpsE.nil ?_
  refine Then.normal ?_
  refine WP.seq ?_
  refine WP.region ?_
  refine OpsE.val (x_move (v := .slice _ _ _) rfl) ?_
  refine OpsE.val (x_lenL rfl rfl Try.runUnderlying114) ?_
  refine OpsE.val (x_assign (v := .int .i64 _) rfl) ?_
  refine OpsE.nil ?_
  refine Then.normal ?_
  refine WP.seq ?_
  refine WP.seq ?_
  refine WP.region ?_
  refine OpsE.val (x_move (v := .int .i64 _) rfl) ?_
  refine OpsE.val (x_eqI rfl rfl) ?_
  rw [decide_eq_false (by decide)]
  refine OpsE.nil ?_
  refine Then.normal ?_
  refine WP.cond_f rfl rfl ?_
  refine WP.skip ?_
  refine Then.normal ?_
  refine WP.seq ?_
  refine WP.region ?_
  refine OpsE.val (x_move (v := .slice _ _ _) rfl) ?_
  refine OpsE.val (x_lenL rfl rfl Try.runUnderlying114) ?_
  refine OpsE.val (x_assign (v := .int .i64 _) rfl) ?_
  refine OpsE.nil ?_
  refine Then.normal ?_
  refine WP.seq ?_
  refine WP.seq ?_
  refine WP.region ?_
  refine OpsE.val (x_move (v := .int .i64 _) rfl) ?_
  refine OpsE.val (x_move (v := .int .i64 _) rfl) ?_
  refine OpsE.val (x_eqI rfl rfl) ?_
  by_cases hin : (i : Int) = (n : Int)
  · rw [decide_eq_true hin]
    refine OpsE.nil ?_
    refine Then.normal ?_
    refine WP.cond_t rfl rfl ?_
    refine WP.seq ?_
    refine WP.region ?_
    refine OpsE.val (x_move (v := .slice _ _ _) rfl) ?_
    refine OpsE.val (x_move (v := .slice _ _ _) rfl) ?_
    have hk0 : k = 0 := by omega
    subst hk0
    have hB0 : B = [] := List.length_eq_zero_iff.1 (by omega)
    subst hB0
    rw [List.append_nil] at H
    refine OpsE.append_own (olds := A) (tl := tl) (news := V) rfl K rfl rfl H (by omega) (by omega) (H.look bv) (by rw [List.drop_zero, List.take_of_length_le (Nat.le_refl _)]) (by omega) oV (by omega) (by omega) ?_
    intro b' c' tl' w h1 h2 H
    refine OpsE.val (x_assign (v := .slice _ _ _) rfl) ?_
    refine OpsE.nil ?_
    refine Then.normal ?_
    refine WP.ret ?_
    refine Then.ret ?_
    refine Leave0.ret (v := .slice _ _ _) rfl ?_
    exact ⟨b', c', tl', rfl, h1, h2, by simpa using H.second⟩
  · rw [decide_eq_false hin]
    refine OpsE.nil ?_
    refine Then.normal ?_
    refine WP.cond_f rfl rfl ?_
    refine WP.skip ?_
    refine Then.normal ?_
    refine WP.seq ?_
    refine WP.seq ?_
    refine WP.region ?_
    refine OpsE.val (x_move (v := .int .i64 _) rfl) ?_
    refine OpsE.val (x_move (v := .int .i64 _) rfl) ?_
    refine OpsE.val (x_add (z := ((n + 1 : Nat) : Int)) rfl rfl (by rw [i64n (by omega) (by omega)]; omega)) ?_
    refine OpsE.val (x_move (v := .slice _ _ _) rfl) ?_
    refine OpsE.val (x_cap rfl rfl Try.runUnderlying114) ?_
    refine OpsE.val (x_gt rfl rfl) ?_
    by_cases hg : ((n + 1 : Nat) : Int) > (c : Int)
    · rw [decide_eq_true hg]
      refine OpsE.nil ?_
      refine Then.normal ?_
      refine WP.cond_t rfl rfl ?_
      refine WP.seq ?_
      refine WP.region ?_
      refine OpsE.val (x_move (v := .slice _ _ _) rfl) ?_
      refine OpsE.val (x_move (v := .int .i64 _) rfl) ?_
      refine OpsE.val (x_slHi (h := i) rfl rfl Try.runUnderlying114 Try.sizeOf113 rfl (by omega)) ?_
      refine OpsE.val (x_move (v := .int .i64 _) rfl) ?_
      refine OpsE.val (x_move (v := .int .i64 _) rfl) ?_
      refine OpsE.val (x_add (z := ((n + 1 : Nat) : Int)) rfl rfl (by rw [i64n (by omega) (by omega)]; omega)) ?_
      refine OpsE.val (x_move (v := .int .i64 _) rfl) ?_
      refine OpsE.val (x_sub (z := ((k + 1 : Nat) : Int)) rfl rfl (by rw [i64n (by omega) (by omega)]; omega)) ?_
      refine OpsE.append_make (m := k + 1) (olds := A) rfl K Try.underlying3 rfl rfl rfl H (.inr ⟨b, 0, _, _, _, rfl, H.look b, by simp [List.append_assoc], hA⟩) (by omega) (by omega) (by omega) (by omega) (by omega) ?_
      intro b' c' tl' w h1 h2 H
      refine OpsE.val (x_assign (v := .slice _ _ _) rfl) ?_
      refine OpsE.nil ?_
      refine Then.normal ?_
      refine WP.seq ?_
      refine WP.region ?_
      refine OpsE.val (x_move (v := .slice _ _ _) rfl) ?_
      refine OpsE.val (x_move (v := .int .i64 _) rfl) ?_
      refine OpsE.val (x_slLo (l := i) (off' := i * 2) rfl rfl Try.runUnderlying114 Try.sizeOf113 rfl (by omega) (by rw [if_neg (by omega), Nat.zero_add])) ?_
      refine OpsE.val (x_move (v := .slice _ _ _) rfl) ?_
      refine OpsE.copy (m := 1) (news := V) rfl K rfl rfl H (H.look bv) (by omega) (by rw [List.drop_zero, List.take_of_length_le (Nat.le_refl _)]) (by omega) oV (by simp only [List.length_append]; omega) ?_
      intro w H
      have e1 : (A ++ tl').take (i * 2) = A := by rw [← hA]; simp
      have e2 : (A ++ tl').drop (i * 2 + V.length) = tl'.drop V.length := by rw [← hA]; simp
      rw [e1, e2] at H
      refine OpsE.nil ?_
      refine Then.normal ?_
      refine WP.seq ?_
      refine WP.mix (kdOf [0, 0, 0, 0, 0, 0, 0, 0]) (fun w => Sat w _) (by kernel_rfl) (by kernel_rfl) (fun w hw => Sat.heap (H) hw) ?_
      intro w hw; replace H := H.heap hw; clear hw
      refine MixE.q rfl (fun w H => x_move (v := .slice _ _ _) rfl) ?_
      refine MixE.q rfl (fun w H => x_move (v := .int .i64 _) rfl) ?_
      refine MixE.q rfl (fun w H => x_move (v := .int .i64 _) rfl) ?_
      refine MixE.q rfl (fun w H => x_add (z := ((i + 1 : Nat) : Int)) rfl rfl (by rw [i64n (by omega) (by omega)]; omega)) ?_
      refine MixE.q rfl (fun w H => x_slLo (l := i + 1) (off' := (i + 1) * 2) rfl rfl Try.runUnderlying114 Try.sizeOf113 rfl (by omega) (by rw [if_neg (by omega), Nat.zero_add])) ?_
      refine MixE.q rfl (fun w H => x_move (v := .slice _ _ _) rfl) ?_
      refine MixE.q rfl (fun w H => x_move (v := .int .i64 _) rfl) ?_
      refine MixE.q rfl (fun w H => x_slLo (l := i) (off' := i * 2) rfl rfl Try.runUnderlying114 Try.sizeOf113 rfl (by omega) (by rw [if_neg (by omega), Nat.zero_add])) ?_
      refine MixE.two _ (fun k _ => kdOf_ge (Nat.le_add_right _ _)) ?_
      refine OpsE.copy (m := k) (news := B) rfl K rfl rfl H (H.look b) (by omega) (by rw [← hA]; simp [List.append_assoc]) hB oB (by simp only [List.length_append, List.length_drop]; omega) ?_
      intro w H
      have e1 : (A ++ V ++ tl'.drop V.length).take ((i + 1) * 2) = A ++ V := by rw [List.take_append_of_le_length (by simp only [List.length_append]; omega), List.take_of_length_le (by simp only [List.length_append]; omega)]
      rw [e1] at H
      obtain ⟨tl2, htl2⟩ : ∃ tl2, (A ++ V ++ tl'.drop V.length).drop ((i + 1) * 2 + B.length) = tl2 := ⟨_, rfl⟩
      have hl2 : (n + 1) * 2 + tl2.length = c' * 2 := by rw [← htl2]; simp only [List.length_append, List.length_drop]; omega
      rw [htl2] at H
      refine OpsE.nil ?_
      refine Then.normal ?_
      refine WP.seq ?_
      refine WP.region ?_
      refine OpsE.val (x_move (v := .slice _ _ _) rfl) ?_
      refine OpsE.val (x_assign (v := .slice _ _ _) rfl) ?_
      refine OpsE.nil ?_
      refine Then.normal ?_
      refine WP.ret ?_
      refine Then.ret ?_
      refine Leave0.ret (v := .slice _ _ _) rfl ?_
      exact ⟨b', c', tl2, (by rw [hn]; rfl), by omega, hl2, H.second.second⟩
    · rw [decide_eq_false hg]
      refine OpsE.nil ?_
      refine Then.normal ?_
      refine WP.cond_f rfl rfl ?_
      refine WP.skip ?_
      refine Then.normal ?_
      refine WP.seq ?_
      refine WP.region ?_
      refine OpsE.val (x_move (v := .slice _ _ _) rfl) ?_
      refine OpsE.val (x_move (v := .int .i64 _) rfl) ?_
      refine OpsE.val (x_move (v := .int .i64 _) rfl) ?_
      refine OpsE.val (x_add (z := ((n + 1 : Nat) : Int)) rfl rfl (by rw [i64n (by omega) (by omega)]; omega)) ?_
      refine OpsE.val (x_slHi (h := n + 1) rfl rfl Try.runUnderlying114 Try.sizeOf113 rfl (by omega)) ?_
      refine OpsE.val (x_assign (v := .slice _ _ _) rfl) ?_
      refine OpsE.nil ?_
      refine Then.normal ?_
      refine WP.seq ?_
      refine WP.seq ?_
      refine WP.region ?_
      refine OpsE.val (x_move (v := .slice _ _ _) rfl) ?_
      refine OpsE.val (x_move (v := .slice _ _ _) rfl) ?_
      refine OpsE.val (x_move (v := .int .i64 _) rfl) ?_
      refine OpsE.val (x_move (v := .int .i64 _) rfl) ?_
      refine OpsE.val (x_add (z := ((i + 1 : Nat) : Int)) rfl rfl (by rw [i64n (by omega) (by omega)]; omega)) ?_
      refine OpsE.val (x_slLo (l := i + 1) (off' := (i + 1) * 2) rfl rfl Try.runUnderlying114 Try.sizeOf113 rfl (by omega) (by rw [if_neg (by omega), Nat.zero_add])) ?_
      have hne : bv ≠ b := H.ne.symm
      have ho := call_overlaps w (o1 := 0) (n1 := 1) (c1 := 1) (o2 := (i + 1) * 2) (n2 := n + 1 - (i + 1)) (c2 := c - (i + 1)) hne (H.look bv) (H.look b) (by simp only [List.length_append]; omega)
      refine OpsE.val (x_callX (vl := [.slice (some ⟨bv, 0, none⟩) 1 1, .slice (some ⟨b, (i + 1) * 2, none⟩) (n + 1 - (i + 1)) (c - (i + 1))]) rfl ho) ?_
      refine OpsE.val (x_not rfl) ?_
      rw [Bool.not_false]
      refine OpsE.nil ?_
      refine Then.normal ?_
      refine WP.cond_t rfl rfl ?_
      refine WP.seq ?_
      refine WP.mix (kdOf [0, 0, 0, 0, 0, 0, 0, 0]) (fun w => Sat w _) (by kernel_rfl) (by kernel_rfl) (fun w hw => Sat.heap (H) hw) ?_
      intro w hw; replace H := H.heap hw; clear hw
      refine MixE.q rfl (fun w H => x_move (v := .slice _ _ _) rfl) ?_
      refine MixE.q rfl (fun w H => x_move (v := .int .i64 _) rfl) ?_
      refine MixE.q rfl (fun w H => x_move (v := .int .i64 _) rfl) ?_
      refine MixE.q rfl (fun w H => x_add (z := ((i + 1 : Nat) : Int)) rfl rfl (by rw [i64n (by omega) (by omega)]; omega)) ?_
      refine MixE.q rfl (fun w H => x_slLo (l := i + 1) (off' := (i + 1) * 2) rfl rfl Try.runUnderlying114 Try.sizeOf113 rfl (by omega) (by rw [if_neg (by omega), Nat.zero_add])) ?_
      refine MixE.q rfl (fun w H => x_move (v := .slice _ _ _) rfl) ?_
      refine MixE.q rfl (fun w H => x_move (v := .int .i64 _) rfl) ?_
      refine MixE.q rfl (fun w H => x_slLo (l := i) (off' := i * 2) rfl rfl Try.runUnderlying114 Try.sizeOf113 rfl (by omega) (by rw [if_neg (by omega), Nat.zero_add])) ?_
      refine MixE.two _ (fun k _ => kdOf_ge (Nat.le_add_right _ _)) ?_
      refine OpsE.copy (m := k) (news := B) rfl K rfl rfl H (H.look b) (by omega) (by rw [← hA]; simp [List.append_assoc]) hB oB (by simp only [List.length_append]; omega) ?_
      intro w H
      obtain ⟨M, hM⟩ : ∃ M, (A ++ B ++ tl).take ((i + 1) * 2) = A ++ M := ⟨(B ++ tl).take 2, by rw [List.append_assoc, List.take_append, hA, List.take_of_length_le (by omega)]; congr 2; omega⟩
      have hMl : M.length = 2 := by have := congrArg List.length hM; simp only [List.length_append, List.length_take] at this; omega
      obtain ⟨tl2, htl2⟩ : ∃ tl2, (A ++ B ++ tl).drop ((i + 1) * 2 + B.length) = tl2 := ⟨_, rfl⟩
      have hl2 : (n + 1) * 2 + tl2.length = c * 2 := by rw [← htl2]; simp only [List.length_append, List.length_drop]; omega
      rw [hM, htl2] at H
      refine OpsE.nil ?_
      refine Then.normal ?_
      refine WP.seq ?_
      refine WP.region ?_
      refine OpsE.val (x_move (v := .slice _ _ _) rfl) ?_
      refine OpsE.val (x_move (v := .int .i64 _) rfl) ?_
      refine OpsE.val (x_slLo (l := i) (off' := i * 2) rfl rfl Try.runUnderlying114 Try.sizeOf113 rfl (by omega) (by rw [if_neg (by omega), Nat.zero_add])) ?_
      refine OpsE.val (x_move (v := .slice _ _ _) rfl) ?_
      refine OpsE.copy (m := 1) (news := V) rfl K rfl rfl H (H.look bv) (by omega) (by rw [List.drop_zero, List.take_of_length_le (Nat.le_refl _)]) (by omega) oV (by simp only [List.length_append]; omega) ?_
      intro w H
      have e1 : (A ++ M ++ B ++ tl2).take (i * 2) = A := by rw [← hA]; simp [List.append_assoc]
      have e2 : (A ++ M ++ B ++ tl2).drop (i * 2 + V.length) = B ++ tl2 := by rw [hV, ← hA, ← hMl]; simp [List.append_assoc, ← List.drop_drop]
      rw [e1, e2, ← List.append_assoc] at H
      refine OpsE.nil ?_
      refine Then.normal ?_
      refine WP.seq ?_
      refine WP.region ?_
      refine OpsE.val (x_move (v := .slice _ _ _) rfl) ?_
      refine OpsE.val (x_assign (v := .slice _ _ _) rfl) ?_
      refine OpsE.nil ?_
      refine Then.normal ?_
      refine WP.ret ?_
      refine Then.ret ?_
      refine Leave0.ret (v := .slice _ _ _) rfl ?_
      exact ⟨b, c, tl2, rfl, by omega, hl2, H.second⟩

theorem Delete_spec {w : World} {r : List HP} {b n c i k : Nat} {A B C tl : List Value} (H : Sat w (pt b (.cells (A ++ B ++ C ++ tl).toArray TE (0, 0)) :: r))
    (hn : n = i + 1 + k) (hA : A.length = i * 2) (hB : B.length = 2) (hC : C.length = k * 2) (hc : n * 2 + tl.length = c * 2) (hle : n ≤ 2000000)
    (oC : ∀ u ∈ C, u.oneCell' = true) :
    Calls Try.prog 69 #[.slice (some ⟨b, 0, none⟩) n c, .int .i64 i, .int .i64 ((i + 1 : Nat) : Int)] w (Ret fun v w' => ∃ tl', v = .slice (some ⟨b, 0, none⟩) (i + k) c ∧ (i + k) * 2 + tl'.length = c * 2 ∧
      Sat w' (pt b (.cells (A ++ C ++ tl').toArray TE (0, 0)) :: r)) := by
  have hnc : n ≤ c := by omega
  have hk : n - (i + 1) = k := by omega
  refine Calls.of_wp Try.func69 rfl Try.ntmps69 Try.results69 (Nat.le_of_ble_eq_true rfl) ?_
  refine WP.seq ?_
  refine WP.region ?_
  refine OpsE.val (x_assign (v := .slice _ _ _) rfl) ?_
  refine OpsE.nil ?_
  refine Then.normal ?_
  refine WP.seq ?_
  refine WP.region ?_
  refine OpsE.val (x_move (v := .slice _ _ _) rfl) ?_
  refine OpsE.val (x_move (v := .int .i64 _) rfl) ?_
  refine OpsE.val (x_move (v := .int .i64 _) rfl) ?_
  refine OpsE.val (x_move (v := .slice _ _ _) rfl) ?_
  refine OpsE.val (x_lenL rfl rfl Try.runUnderlying114) ?_
  refine OpsE.val (x_slLHM (l := i) (h := i + 1) (m := n) (off' := 0 + i * 2) rfl rfl rfl rfl Try.runUnderlying114 Try.sizeOf113 rfl rfl rfl (by omega) (by omega) (by omega) (if_neg (by omega))) ?_
  refine OpsE.nil ?_
  refine Then.normal ?_
  refine WP.seq ?_
  refine WP.seq ?_
  refine WP.region ?_
  refine OpsE.val (x_move (v := .int .i64 _) rfl) ?_
  refine OpsE.val (x_move (v := .int .i64 _) rfl) ?_
  refine OpsE.val (x_eqI rfl rfl) ?_
  rw [decide_eq_false (by omega)]
  refine OpsE.nil ?_
  refine Then.normal ?_
  refine WP.cond_f rfl rfl ?_
  refine WP.skip ?_
  refine Then.normal ?_
  refine WP.seq ?_
  refine WP.region ?_
  refine OpsE.val (x_move (v := .slice _ _ _) rfl) ?_
  refine OpsE.val (x_lenL rfl rfl Try.runUnderlying114) ?_
  refine OpsE.val (x_assign (v := .int .i64 _) rfl) ?_
  refine OpsE.nil ?_
  refine Then.normal ?_
  refine WP.seq ?_
  refine WP.mix (kdOf [0, 0, 0, 0, 0, 0]) (fun w => Sat w _) (by kernel_rfl) (by kernel_rfl) (fun w hw => Sat.heap (H) hw) ?_
  intro w hw; replace H := H.heap hw; clear hw
  refine MixE.q rfl (fun w H => x_move (v := .slice _ _ _) rfl) ?_
  refine MixE.q rfl (fun w H => x_move (v := .int .i64 _) rfl) ?_
  refine MixE.q rfl (fun w H => x_slHi (h := i) rfl rfl Try.runUnderlying114 Try.sizeOf113 rfl (by omega)) ?_
  refine MixE.q rfl (fun w H => x_move (v := .slice _ _ _) rfl) ?_
  refine MixE.q rfl (fun w H => x_move (v := .int .i64 _) rfl) ?_
  refine MixE.q rfl (fun w H => x_slLo (l := i + 1) (off' := (if c = i + 1 then 0 else 0 + (i + 1) * 2)) rfl rfl Try.runUnderlying114 Try.sizeOf113 rfl (by omega) rfl) ?_
  refine MixE.two _ (fun k _ => kdOf_ge (Nat.le_add_right _ _)) ?_
  rw [hk]
  have h2 : ((A ++ B ++ C ++ tl).toArray.toList.drop (if c = i + 1 then 0 else 0 + (i + 1) * 2)).take C.length = C := by
    by_cases h0 : c = i + 1
    · have : C = [] := List.length_eq_zero_iff.1 (by omega)
      subst this; rfl
    · rw [if_neg h0, show 0 + (i + 1) * 2 = (A ++ B).length by simp only [List.length_append]; omega, List.append_assoc (A ++ B)]; simp
  refine OpsE.append_room (n := i) (ns := k) (news := C) rfl K rfl rfl H (H.look b) h2 hC oC (by omega) (by simp only [List.length_append]; omega) ?_
  intro w H
  have e1 : (A ++ B ++ C ++ tl).take (i * 2) = A := by rw [← hA]; simp [List.append_assoc]
  obtain ⟨D, hD⟩ : ∃ D, (A ++ B ++ C ++ tl).drop ((i + k) * 2) = D := ⟨_, rfl⟩
  have hDl : (i + k) * 2 + D.length = c * 2 := by rw [← hD]; simp only [List.length_append, List.length_drop]; omega
  rw [e1, hD] at H
  refine OpsE.val (x_assign (v := .slice _ _ _) rfl) ?_
  refine OpsE.nil ?_
  refine Then.normal ?_
  refine WP.seq ?_
  refine WP.region ?_
  refine OpsE.val (x_move (v := .slice _ _ _) rfl) ?_
  refine OpsE.val (x_move (v := .slice _ _ _) rfl) ?_
  refine OpsE.val (x_lenL rfl rfl Try.runUnderlying114) ?_
  refine OpsE.val (x_move (v := .int .i64 _) rfl) ?_
  refine OpsE.val (x_slLH (l := i + k) (h := n) (off' := (i + k) * 2) rfl rfl rfl Try.runUnderlying114 Try.sizeOf113 rfl rfl (by omega) (by omega) (by rw [if_neg (by omega), Nat.zero_add])) ?_
  refine OpsE.clear rfl K (by decide) rfl H (by simp only [List.length_append]; omega) ?_
  intro tl1 w ht1 H
  have e2 : (A ++ C ++ D).take ((i + k) * 2) = A ++ C := by rw [List.take_append_of_le_length (by simp only [List.length_append]; omega), List.take_of_length_le (by simp only [List.length_append]; omega)]
  obtain ⟨D2, hD2⟩ : ∃ D2, (A ++ C ++ D).drop ((i + k) * 2 + (n - (i + k)) * 2) = D2 := ⟨_, rfl⟩
  have hD2l : D2.length + 2 = D.length := by rw [← hD2]; simp only [List.length_append, List.length_drop]; omega
  rw [e2, hD2, List.append_assoc (A ++ C)] at H
  refine OpsE.nil ?_
  refine Then.normal ?_
  refine WP.seq ?_
  refine WP.region ?_
  refine OpsE.val (x_move (v := .slice _ _ _) rfl) ?_
  refine OpsE.val (x_assign (v := .slice _ _ _) rfl) ?_
  refine OpsE.nil ?_
  refine Then.normal ?_
  refine WP.ret ?_
  refine Leave0.ret (v := .slice _ _ _) rfl ?_
  exact ⟨tl1 ++ D2, rfl, by simp only [List.length_append]; omega, H⟩

end Go.Proofs.Ytbhbdpbhhfemhaa.IC
