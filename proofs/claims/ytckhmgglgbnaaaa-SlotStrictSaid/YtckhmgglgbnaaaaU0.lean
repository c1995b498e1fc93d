/- The frame of our proofs: what a world holds (immutable blocks, owned blocks and rows), what a frame's slots hold, and the rules by which code is walked. -/
import Derived.WalkKit
set_option linter.unusedVariables false
set_option linter.unusedSimpArgs false
namespace Go.Lf
open Go

/-! ### Worlds -/
abbrev IH := Nat → Option Obj

inductive Atom where
 | blk (b : Nat) (o : Obj)
 | row (v : Value) (e : TypeId) (size n : Nat) (cs : List Value)

def Atom.foot : Atom → Option Nat
 | .blk b _ => some b
 | .row v _ _ _ _ => v.ownBlock

def Atom.sat (w : World) : Atom → Prop
 | .blk b o => w.heap[b]? = some o
 | .row v e size n cs => w.ownsRow 0 e size v n cs

def Apart (A B : Atom) : Prop := ∀ b, A.foot = some b → B.foot ≠ some b
theorem Apart.symm {A B : Atom} (h : Apart A B) : Apart B A := fun b hb ha => h b ha hb

structure Ok (E : World) (I : IH) (O : List Atom) (w : World) : Prop where
 os : w.os = E.os
 tape : w.tape = E.tape
 output : w.output = E.output
 imm : ∀ b o, I b = some o → w.heap[b]? = some o
 own : ∀ A ∈ O, A.sat w
 nd : O.Pairwise Apart
 sep : ∀ A ∈ O, ∀ b, A.foot = some b → I b = none

def IH.le (I J : IH) : Prop := ∀ b o, I b = some o → J b = some o
theorem IH.le_refl (I : IH) : IH.le I I := fun _ _ h => h
theorem IH.le_trans {I J K : IH} (h : IH.le I J) (k : IH.le J K) : IH.le I K := fun b o x => k b o (h b o x)

theorem foot_lt {w : World} {A : Atom} (h : A.sat w) {b : Nat} (hb : A.foot = some b) : b < w.heap.size := by
 cases A with
 | blk c o =>
  have : c = b := by simpa [Atom.foot] using hb
  subst this
  exact (Array.getElem?_eq_some_iff.1 h).1
 | row v e size n cs => exact (World.ownsRow.lt h b hb).2

theorem sat_kept {w w' : World} {A : Atom} (h : A.sat w) {row : Option Nat} (hg : w.grownBy w' row) (hne : ∀ b, A.foot = some b → row ≠ some b) : A.sat w' := by
 cases A with
 | blk c o =>
  have hc : c < w.heap.size := foot_lt h rfl
  show w'.heap[c]? = some o
  rw [hg.block c hc (fun e => hne c rfl e.symm)]
  exact h
 | row v e size n cs =>
  refine World.ownsRow.kept h hg ?_
  cases hv : v.ownBlock with
  | none => exact .inl rfl
  | some b => exact .inr (fun e => hne b hv e.symm)

theorem mem_set {α : Type} {l : List α} {i : Nat} {x y : α} (h : y ∈ l.set i x) : y = x ∨ ∃ j, j ≠ i ∧ l[j]? = some y := by
 obtain ⟨j, hj⟩ := List.mem_iff_getElem?.1 h
 by_cases hij : i = j
 ·subst hij
  rw [List.getElem?_set] at hj
  simp at hj
  exact .inl hj.2.symm
 ·rw [List.getElem?_set] at hj
  simp [hij] at hj
  exact .inr ⟨j, fun e => hij e.symm, hj⟩

theorem pw_get {l : List Atom} (h : l.Pairwise Apart) {i j : Nat} {A B : Atom} (hi : l[i]? = some A) (hj : l[j]? = some B) (hne : i ≠ j) : Apart A B := by
 have hi' := List.getElem?_eq_some_iff.1 hi
 have hj' := List.getElem?_eq_some_iff.1 hj
 obtain ⟨li, ei⟩ := hi'
 obtain ⟨lj, ej⟩ := hj'
 rcases Nat.lt_or_gt_of_ne hne with hlt | hlt
 ·have := List.pairwise_iff_getElem.1 h i j li lj hlt
  rw [ei, ej] at this; exact this
 ·have := List.pairwise_iff_getElem.1 h j i lj li hlt
  rw [ei, ej] at this; exact this.symm

theorem pw_set {l : List Atom} (h : l.Pairwise Apart) {i : Nat} {A : Atom} (hA : ∀ j B, j ≠ i → l[j]? = some B → Apart A B) : (l.set i A).Pairwise Apart := by
 rw [List.pairwise_iff_getElem]
 intro a b ha hb hab
 simp only [List.length_set] at ha hb
 rw [List.getElem_set, List.getElem_set]
 by_cases h1 : i = a
 ·have h2 : ¬ i = b := by omega
  simp only [h1, if_true]
  rw [if_neg (by omega)]
  exact hA b _ (by omega) (List.getElem?_eq_getElem hb)
 ·by_cases h2 : i = b
  ·rw [if_neg h1, if_pos h2]
   exact (hA a _ (by omega) (List.getElem?_eq_getElem ha)).symm
  ·simp only [h1, h2, if_false]
   exact List.pairwise_iff_getElem.1 h a b ha hb hab

/-- One owned atom turns into another one, all else is as it was. -/
theorem Ok.step {E : World} {I : IH} {O : List Atom} {w w' : World} (h : Ok E I O w) {i : Nat} {A A' : Atom} (hi : O[i]? = some A) (hg : w.grownBy w' A.foot) (hs : A'.sat w')
  (hf : ∀ b, A'.foot = some b → A.foot = some b ∨ w.heap.size ≤ b) : Ok E I (O.set i A') w' := by
 have hmem : A ∈ O := List.mem_of_getElem? hi
 refine ⟨hg.os.trans h.os, hg.tape.trans h.tape, hg.output.trans h.output, ?_, ?_, ?_, ?_⟩
 ·intro b o hb
  have h1 := h.imm b o hb
  have hlt : b < w.heap.size := (Array.getElem?_eq_some_iff.1 h1).1
  rw [hg.block b hlt (fun e => by have := h.sep A hmem b e.symm; rw [this] at hb; cases hb)]
  exact h1
 ·intro B hB
  rcases mem_set hB with rfl | ⟨j, hj, hBj⟩
  ·exact hs
  ·refine sat_kept (h.own B (List.mem_of_getElem? hBj)) hg ?_
   intro b hb e
   exact pw_get h.nd hi hBj (fun e => hj e.symm) b e hb
 ·refine pw_set h.nd ?_
  intro j B hj hB b hb hb'
  rcases hf b hb with h1 | h1
  ·exact pw_get h.nd hi hB (fun e => hj e.symm) b h1 hb'
  ·have := foot_lt (h.own B (List.mem_of_getElem? hB)) hb'
   omega
 ·intro B hB b hb
  rcases mem_set hB with rfl | ⟨j, hj, hBj⟩
  ·rcases hf b hb with h1 | h1
   ·exact h.sep A hmem b h1
   ·cases hI : I b with
    | none => rfl
    | some o => have := (Array.getElem?_eq_some_iff.1 (h.imm b o hI)).1; omega
  ·exact h.sep B (List.mem_of_getElem? hBj) b hb

/-- A new atom. -/
theorem Ok.new {E : World} {I : IH} {O : List Atom} {w w' : World} (h : Ok E I O w) {A : Atom} (hg : w.grownBy w' none) (hs : A.sat w') (hf : ∀ b, A.foot = some b → w.heap.size ≤ b) : Ok E I (A :: O) w' := by
 refine ⟨hg.os.trans h.os, hg.tape.trans h.tape, hg.output.trans h.output, ?_, ?_, ?_, ?_⟩
 ·intro b o hb
  have h1 := h.imm b o hb
  rw [hg.block b (Array.getElem?_eq_some_iff.1 h1).1 (by simp)]
  exact h1
 ·intro B hB
  rcases List.mem_cons.1 hB with rfl | hB
  ·exact hs
  ·exact sat_kept (h.own B hB) hg (by simp)
 ·refine List.pairwise_cons.2 ⟨?_, h.nd⟩
  intro B hB b hb hb'
  have h1 := hf b hb
  have h2 := foot_lt (h.own B hB) hb'
  omega
 ·intro B hB b hb
  rcases List.mem_cons.1 hB with rfl | hB
  ·cases hI : I b with
   | none => rfl
   | some o => have := (Array.getElem?_eq_some_iff.1 (h.imm b o hI)).1; have := hf b hb; omega
  ·exact h.sep B hB b hb

theorem Ok.same {E : World} {I : IH} {O : List Atom} {w w' : World} (h : Ok E I O w) (hg : w.grownBy w' none) : Ok E I O w' := by
 refine ⟨hg.os.trans h.os, hg.tape.trans h.tape, hg.output.trans h.output, ?_, ?_, h.nd, h.sep⟩
 ·intro b o hb
  have h1 := h.imm b o hb
  rw [hg.block b (Array.getElem?_eq_some_iff.1 h1).1 (by simp)]
  exact h1
 ·intro B hB
  exact sat_kept (h.own B hB) hg (by simp)

/-- What is owned may be forgotten, or stand in another order. -/
theorem Ok.sub {E : World} {I : IH} {O O' : List Atom} {w : World} (h : Ok E I O w) (hs : O'.Sublist O) : Ok E I O' w :=
 ⟨h.os, h.tape, h.output, h.imm, fun A hA => h.own A (hs.subset hA), h.nd.sublist hs, fun A hA => h.sep A (hs.subset hA)⟩
theorem Ok.perm {E : World} {I : IH} {O O' : List Atom} {w : World} (h : Ok E I O w) (hp : O.Perm O') : Ok E I O' w :=
 ⟨h.os, h.tape, h.output, h.imm, fun A hA => h.own A (hp.mem_iff.2 hA), hp.pairwise h.nd (fun h => h.symm), fun A hA => h.sep A (hp.mem_iff.2 hA)⟩
theorem eraseIdx_perm {α : Type} : ∀ (l : List α) (i : Nat) (x : α), l[i]? = some x → l.Perm (x :: l.eraseIdx i)
 | [], _, _, h => by simp at h
 | a :: l, 0, x, h => by
  simp at h; subst h; simp
 | a :: l, i + 1, x, h => by
  have := eraseIdx_perm l i x (by simpa using h)
  simp only [List.eraseIdx_cons_succ]
  exact (List.Perm.cons a this).trans (List.Perm.swap x a _)
theorem Ok.front {E : World} {I : IH} {O : List Atom} {w : World} (h : Ok E I O w) {i : Nat} {A : Atom} (hi : O[i]? = some A) : Ok E I (A :: O.eraseIdx i) w := h.perm (eraseIdx_perm O i A hi)
theorem Ok.tail {E : World} {I : IH} {O : List Atom} {A : Atom} {w : World} (h : Ok E I (A :: O) w) : Ok E I O w := h.sub (List.sublist_cons_self _ _)

def IH.add (I : IH) (b : Nat) (o : Obj) : IH := fun k => if k = b then some o else I k

/-- An owned block is made immutable. -/
theorem Ok.freeze {E : World} {I : IH} {O : List Atom} {b : Nat} {o : Obj} {w : World} (h : Ok E I (.blk b o :: O) w) : Ok E (I.add b o) O w ∧ IH.le I (I.add b o) := by
 have hI : I b = none := h.sep (.blk b o) (by simp) b rfl
 refine ⟨⟨h.os, h.tape, h.output, ?_, fun A hA => h.own A (by simp [hA]), (List.pairwise_cons.1 h.nd).2, ?_⟩, ?_⟩
 ·intro c p hc
  unfold IH.add at hc
  split at hc
  ·rename_i e; subst e; cases hc; exact h.own (.blk c o) (by simp)
  ·exact h.imm c p hc
 ·intro A hA c hc
  unfold IH.add
  split
  ·rename_i e; subst e; exact absurd hc ((List.pairwise_cons.1 h.nd).1 A hA c rfl)
  ·exact h.sep A (by simp [hA]) c hc
 ·intro c p hc
  unfold IH.add
  split
  ·rename_i e; subst e; rw [hI] at hc; cases hc
  ·exact hc

/-! ### Frames -/
def lk : List (Nat × Value) → Nat → Option Value
 | [], _ => none
 | (k, v) :: r, t => bif Nat.beq k t then some v else lk r t

structure Fr (n : Nat) (L : List (Nat × Value)) (a : Act) : Prop where
 df : a.defers = []
 sz : a.tmps.size = n
 at_ : ∀ t v, lk L t = some v → a.tmps[t]? = some v

def ev (L : List (Nat × Value)) : Operand → Option Value
 | .tmp t => lk L t
 | .const v => some v
 | .global g => some (.pointer (some ⟨g, 0, none⟩))
 | .func f => some (.func (.func f) #[] #[])

theorem Fr.ev {n : Nat} {L : List (Nat × Value)} {a : Act} (h : Fr n L a) {x : Operand} {v : Value} (hx : Lf.ev L x = some v) : a.eval x = v := by
 cases x with
 | tmp t => have := h.at_ t v hx; simp [Act.eval, Array.getD_eq_getD_getElem?, this]
 | const c => simpa [Lf.ev, Act.eval] using hx
 | global g => simpa [Lf.ev, Act.eval] using hx
 | func f => simpa [Lf.ev, Act.eval] using hx

theorem Fr.put {n : Nat} {L : List (Nat × Value)} {a : Act} (h : Fr n L a) {d : Nat} (hd : Nat.blt d n = true) (v : Value) : Fr n ((d, v) :: L) (a.put (some d) v) := by
 have hd' : d < n := by simpa [Nat.blt_eq] using hd
 refine ⟨h.df, by simp [Act.put, h.sz], ?_⟩
 intro t u ht
 simp only [lk] at ht
 simp only [Act.put, Array.getElem?_setIfInBounds]
 by_cases e : d = t
 ·subst e
  simp at ht
  rw [if_pos rfl, if_pos (by rw [h.sz]; exact hd'), ht]
 ·have hb : Nat.beq d t = false := by
   cases hq : Nat.beq d t with
   | false => rfl
   | true => exact absurd (Nat.eq_of_beq_eq_true hq) e
  rw [hb] at ht
  rw [if_neg e]
  exact h.at_ t u ht

theorem Fr.sub {n : Nat} {L L' : List (Nat × Value)} {a : Act} (h : Fr n L a) (hs : ∀ p ∈ L', lk L p.1 = some p.2) : Fr n L' a := by
 refine ⟨h.df, h.sz, ?_⟩
 intro t v ht
 have : ∃ p ∈ L', p.1 = t ∧ p.2 = v := by
  clear hs
  induction L' with
  | nil => simp [lk] at ht
  | cons q r ih =>
   obtain ⟨k, u⟩ := q
   simp only [lk] at ht
   cases hq : Nat.beq k t with
   | true =>
    rw [hq] at ht; simp at ht
    exact ⟨(k, u), by simp, Nat.eq_of_beq_eq_true hq, ht⟩
   | false =>
    rw [hq] at ht
    obtain ⟨p, hp, h1, h2⟩ := ih ht
    exact ⟨p, by simp [hp], h1, h2⟩
 obtain ⟨p, hp, h1, h2⟩ := this
 have := hs p hp
 rw [h1, h2] at this
 exact h.at_ t v this
/-- The same in a form that is closed slot by slot. -/
def subs (L : List (Nat × Value)) : List (Nat × Value) → Prop
 | [] => True
 | (k, v) :: r => lk L k = some v ∧ subs L r
theorem subs_mem {L L' : List (Nat × Value)} (h : subs L L') : ∀ p ∈ L', lk L p.1 = some p.2 := by
 induction L' with
 | nil => simp
 | cons q r ih =>
  intro p hp
  rcases List.mem_cons.1 hp with rfl | hp
  ·exact h.1
  ·exact ih h.2 p hp
theorem Fr.to {n : Nat} {L L' : List (Nat × Value)} {a : Act} (h : Fr n L a) (hs : subs L L') : Fr n L' a := h.sub (subs_mem hs)

/-! ### Code -/
section
variable {P : Program} {Q : Exit → Act → World → Prop} {a : Act} {w : World} {n : Nat} {L : List (Nat × Value)}

theorem c_then {N : Act → World → Prop} (h : N a w) : Exit.then N Q .normal a w := h
theorem c_blockN {id : Nat} (h : Q .normal a w) : Exit.inBlock id Q .normal a w := h
theorem c_exit {id : Nat} (h : Q .normal a w) : Exit.inBlock id Q (.exit id) a w := by simpa [Exit.inBlock] using h
theorem c_thenE {N : Act → World → Prop} {id : Nat} (h : Q (.exit id) a w) : Exit.then N Q (.exit id) a w := h
theorem c_thenR {N : Act → World → Prop} (h : Q .ret a w) : Exit.then N Q .ret a w := h
theorem c_blockR {id : Nat} (h : Q .ret a w) : Exit.inBlock id Q .ret a w := h

theorem c_cut {x y : Code} (M : Act → World → Prop) (hx : x.wp P (Exit.then M Q) a w) (hy : ∀ a w, M a w → y.wp P Q a w) : (Code.seq x y).wp P Q a w :=
 wp_seq (wp_mono hx fun e a w h => by cases e <;> first | exact hy a w h | exact h)
theorem c_cond {c : Operand} {x y : Code} {b : Bool} (hf : Fr n L a) (hc : ev L c = some (.bool b)) (ht : b = true → x.wp P Q a w) (hfl : b = false → y.wp P Q a w) : (Code.cond c x y).wp P Q a w :=
 wp_cond_split (hf.ev hc) ht hfl

def LoopHead (P : Program) (c : Code) (Q : Exit → Act → World → Prop) (a : Act) (w : World) : Prop :=
 ∀ (b : Frame) (k : List Item) (cs : List Frame), ∃ e a' w', Q e a' w' ∧ Arrives P (lone (b.at a (.code c :: .inLoop c :: k)) cs w) b k cs e a' w'
theorem c_loop {c : Code} (h : LoopHead P c Q a w) : (Code.loop c).wp P Q a w := fun b k cs =>
 let ⟨e, a', w', hq, harr⟩ := h b k cs; ⟨e, a', w', hq, .of_steps (.one step_loop) harr⟩
theorem c_round {c : Code} (h : c.wp P (Exit.then (LoopHead P c Q) Q) a w) : LoopHead P c Q a w := by
 intro b k cs
 obtain ⟨e, a₁, w₁, hq, harr⟩ := h b (.inLoop c :: k) cs
 cases e with
 | normal =>
  obtain ⟨e₂, a₂, w₂, hq₂, harr₂⟩ := hq b k cs
  exact ⟨e₂, a₂, w₂, hq₂, .of_steps (Steps.trans harr (.one step_inLoop)) harr₂⟩
 | exit id => exact ⟨_, a₁, w₁, hq, .pass (x := .inLoop c) rfl (fun _ _ => .inl (by simp)) harr⟩
 | goto l => exact ⟨_, a₁, w₁, hq, .pass (x := .inLoop c) rfl (fun _ _ => .inl (by simp)) harr⟩
 | ret => exact ⟨_, a₁, w₁, hq, .pass (x := .inLoop c) rfl (fun _ _ => .inl (by simp)) harr⟩
 | panic ch => exact ⟨_, a₁, w₁, hq, .pass (x := .inLoop c) rfl (fun _ _ => .inl (by simp)) harr⟩
 | outgrown => exact ⟨_, a₁, w₁, hq, .pass (x := .inLoop c) rfl (fun _ _ => .inl (by simp)) harr⟩

/-- A loop that a function with fuel follows. -/
theorem c_fuel {St Out : Type} {c : Code} (f : Nat → St → Option Out) (out : Out) (Inv : St → Act → World → Prop) (h0 : ∀ st, f 0 st = none)
  (hstep : ∀ k st a w, Inv st a w → f (k + 1) st = some out → (∀ st' a' w', Inv st' a' w' → f k st' = some out → LoopHead P c Q a' w') → c.wp P (Exit.then (LoopHead P c Q) Q) a w) :
  ∀ k st a w, Inv st a w → f k st = some out → LoopHead P c Q a w := by
 intro k
 induction k with
 | zero => intro st a w _ h; rw [h0] at h; cases h
 | succ k ih => intro st a w hI h; exact c_round (hstep k st a w hI h ih)
end

/-! ### Options -/
theorem bind_some {α β : Type} {x : Option α} {f : α → Option β} {r : β} (h : x.bind f = some r) : ∃ y, x = some y ∧ f y = some r := Option.bind_eq_some_iff.1 h
theorem cond_t {α : Type} {b : Bool} {x y r : α} (hb : b = true) (h : (bif b then x else y) = r) : x = r := by subst hb; exact h
theorem cond_f {α : Type} {b : Bool} {x y r : α} (hb : b = false) (h : (bif b then x else y) = r) : y = r := by subst hb; exact h
/-- A guard: what panics is none. -/
def gd {α : Type} (c : Prop) [Decidable c] (x : Option α) : Option α := if c then x else none
theorem gd_some {α : Type} {c : Prop} [Decidable c] {x : Option α} {r : α} (h : gd c x = some r) : c ∧ x = some r := by
 unfold gd at h; split at h
 ·exact ⟨‹_›, h⟩
 ·cases h
theorem gd_pos {α : Type} {c : Prop} [Decidable c] {x : Option α} (h : c) : gd c x = x := if_pos h

end Go.Lf
