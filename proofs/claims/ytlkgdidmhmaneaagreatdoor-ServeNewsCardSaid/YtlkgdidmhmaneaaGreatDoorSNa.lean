/- A part of the proof: walks and laws that the last part joins. -/
import Derived.WalkKit
import Derived.WalkSpells
import Derived.WalkLawsBesides
import Derived.Deep.LoopGhost
import Derived.OrdersHeld
import Derived.KernelRfl
import Derived.IntWalk
import Derived.StillTail
import Derived.Test.YtlkgdidmhmaneaaGreatDoorProg
/- The engine, part 0: assertions on memory, what is known of slots, contracts; no fact on any program. -/
namespace Go.Proofs.YtlkgdidmhmaneaaGreatDoor
open Go Go.RowKit

/-- w' is w but for new blocks and blocks of M. -/
structure Keep (w w' : World) (M : Nat → Prop) : Prop where
  os : w'.os = w.os
  tape : w'.tape = w.tape
  output : w'.output = w.output
  size : w.heap.size ≤ w'.heap.size
  block : ∀ k, k < w.heap.size → ¬ M k → w'.heap[k]? = w.heap[k]?

theorem Keep.refl (w : World) (M : Nat → Prop) : Keep w w M := ⟨rfl, rfl, rfl, Nat.le_refl _, fun _ _ _ => rfl⟩

theorem Keep.trans {w w1 w2 : World} {M M1 : Nat → Prop} (h : Keep w w1 M) (k : Keep w1 w2 M1) (hm : ∀ b, M1 b → b < w.heap.size → M b) : Keep w w2 M :=
  ⟨k.os.trans h.os, k.tape.trans h.tape, k.output.trans h.output, Nat.le_trans h.size k.size, fun b hb hn =>
    (k.block b (Nat.lt_of_lt_of_le hb h.size) (fun hk => hn (hm b hk hb))).trans (h.block b hb hn)⟩

/-- An assertion on memory: 'holds S w' speaks of blocks of S alone. -/
structure Ast where
  own : Bool
  holds : (Nat → Prop) → World → Prop
  loc : ∀ (S : Nat → Prop) (w w' : World), (∀ k, S k → w'.heap[k]? = w.heap[k]?) → holds S w → holds S w'
  mono : ∀ (S S' : Nat → Prop) (w : World), (∀ k, S k → S' k) → holds S w → holds S' w

/-- A list of assertions: those that are owned hold at sets that are apart (inside M), the others at T. -/
def SepL : List Ast → (Nat → Prop) → (Nat → Prop) → World → Prop
  | [], _, _, _ => True
  | A :: H, M, T, w =>
    if A.own = true then ∃ S : Nat → Prop, (∀ k, S k → M k) ∧ A.holds S w ∧ SepL H (fun k => M k ∧ ¬ S k) T w
    else A.holds T w ∧ SepL H M T w

theorem SepL.cons_own {A : Ast} {H : List Ast} {M T : Nat → Prop} {w : World} (h : A.own = true) :
    SepL (A :: H) M T w ↔ ∃ S : Nat → Prop, (∀ k, S k → M k) ∧ A.holds S w ∧ SepL H (fun k => M k ∧ ¬ S k) T w := by simp [SepL, h]
theorem SepL.cons_imm {A : Ast} {H : List Ast} {M T : Nat → Prop} {w : World} (h : A.own = false) :
    SepL (A :: H) M T w ↔ A.holds T w ∧ SepL H M T w := by simp [SepL, h]

theorem SepL.mono : ∀ {H : List Ast} {M T M' T' : Nat → Prop} {w : World}, (∀ k, M k → M' k) → (∀ k, T k → T' k) → SepL H M T w → SepL H M' T' w
  | [], _, _, _, _, _, _, _, _ => trivial
  | A :: H, M, T, M', T', w, hM, hT, h => by
    cases ho : A.own with
    | true =>
      obtain ⟨S, h1, h2, h3⟩ := (SepL.cons_own ho).1 h
      exact (SepL.cons_own ho).2 ⟨S, fun k hk => hM k (h1 k hk), h2, SepL.mono (fun k hk => ⟨hM k hk.1, hk.2⟩) hT h3⟩
    | false =>
      obtain ⟨h1, h2⟩ := (SepL.cons_imm ho).1 h
      exact (SepL.cons_imm ho).2 ⟨A.mono _ _ _ hT h1, SepL.mono hM hT h2⟩

theorem SepL.loc : ∀ {H : List Ast} {M T : Nat → Prop} {w w' : World}, (∀ k, M k → w'.heap[k]? = w.heap[k]?) → (∀ k, T k → w'.heap[k]? = w.heap[k]?) → SepL H M T w → SepL H M T w'
  | [], _, _, _, _, _, _, _ => trivial
  | A :: H, M, T, w, w', hM, hT, h => by
    cases ho : A.own with
    | true =>
      obtain ⟨S, h1, h2, h3⟩ := (SepL.cons_own ho).1 h
      exact (SepL.cons_own ho).2 ⟨S, h1, A.loc _ _ _ (fun k hk => hM k (h1 k hk)) h2, SepL.loc (fun k hk => hM k hk.1) hT h3⟩
    | false =>
      obtain ⟨h1, h2⟩ := (SepL.cons_imm ho).1 h
      exact (SepL.cons_imm ho).2 ⟨A.loc _ _ _ hT h1, SepL.loc hM hT h2⟩

/-- H is A beside H1. -/
def TakeA (H : List Ast) (A : Ast) (H1 : List Ast) : Prop := ∀ M T w, SepL H M T w → SepL (A :: H1) M T w

theorem TakeA.here {A : Ast} {H : List Ast} : TakeA (A :: H) A H := fun _ _ _ h => h
theorem TakeA.keep {A : Ast} {H : List Ast} (hi : A.own = false) : TakeA (A :: H) A (A :: H) := fun _ _ _ h => (SepL.cons_imm hi).2 ⟨((SepL.cons_imm hi).1 h).1, h⟩
class ImmA (A : Ast) : Prop where
  own : A.own = false
theorem TakeA.keepI {A : Ast} {H : List Ast} [h : ImmA A] : TakeA (A :: H) A (A :: H) := TakeA.keep h.own
theorem TakeA.there {A B : Ast} {H H1 : List Ast} (h : TakeA H A H1) : TakeA (B :: H) A (B :: H1) := by
  intro M T w hs
  cases hb : B.own with
  | true =>
    obtain ⟨S, h1, h2, h3⟩ := (SepL.cons_own hb).1 hs
    have h4 := h _ _ _ h3
    cases ha : A.own with
    | true =>
      obtain ⟨S', g1, g2, g3⟩ := (SepL.cons_own ha).1 h4
      refine (SepL.cons_own ha).2 ⟨S', fun k hk => (g1 k hk).1, g2, (SepL.cons_own hb).2 ⟨S, fun k hk => ⟨h1 k hk, fun hk' => (g1 k hk').2 hk⟩, h2, ?_⟩⟩
      exact SepL.mono (fun k hk => ⟨⟨hk.1.1, hk.2⟩, hk.1.2⟩) (fun _ hk => hk) g3
    | false =>
      obtain ⟨g1, g2⟩ := (SepL.cons_imm ha).1 h4
      exact (SepL.cons_imm ha).2 ⟨g1, (SepL.cons_own hb).2 ⟨S, h1, h2, g2⟩⟩
  | false =>
    obtain ⟨h1, h2⟩ := (SepL.cons_imm hb).1 hs
    have h4 := h _ _ _ h2
    cases ha : A.own with
    | true =>
      obtain ⟨S', g1, g2, g3⟩ := (SepL.cons_own ha).1 h4
      exact (SepL.cons_own ha).2 ⟨S', g1, g2, (SepL.cons_imm hb).2 ⟨h1, g3⟩⟩
    | false =>
      obtain ⟨g1, g2⟩ := (SepL.cons_imm ha).1 h4
      exact (SepL.cons_imm ha).2 ⟨g1, (SepL.cons_imm hb).2 ⟨h1, g2⟩⟩

/-- H is H0 beside Hf. -/
def SplitA (H H0 Hf : List Ast) : Prop := ∀ M T w, SepL H M T w → SepL (H0 ++ Hf) M T w
theorem SepL.cons_imp {A : Ast} {H H' : List Ast} (hi : ∀ M T w, SepL H M T w → SepL H' M T w) {M T : Nat → Prop} {w : World} (h : SepL (A :: H) M T w) : SepL (A :: H') M T w := by
  cases ha : A.own with
  | true =>
    obtain ⟨S, h1, h2, h3⟩ := (SepL.cons_own ha).1 h
    exact (SepL.cons_own ha).2 ⟨S, h1, h2, hi _ _ _ h3⟩
  | false =>
    obtain ⟨h1, h2⟩ := (SepL.cons_imm ha).1 h
    exact (SepL.cons_imm ha).2 ⟨h1, hi _ _ _ h2⟩
theorem SplitA.nil {H : List Ast} : SplitA H [] H := fun _ _ _ h => h
theorem SplitA.cons {A : Ast} {H H1 H0 Hf : List Ast} (h : TakeA H A H1) (hs : SplitA H1 H0 Hf) : SplitA H (A :: H0) Hf :=
  fun _ _ _ hh => SepL.cons_imp hs (h _ _ _ hh)
theorem SplitA.rfl {H : List Ast} : SplitA H H [] := fun _ _ _ h => by simpa using h

theorem SepL.drop_left : ∀ {H0 Hf : List Ast} {M T : Nat → Prop} {w : World}, SepL (H0 ++ Hf) M T w → SepL Hf M T w
  | [], _, _, _, _, h => h
  | A :: H0, Hf, M, T, w, h => by
    cases ha : A.own with
    | true =>
      obtain ⟨S, h1, h2, h3⟩ := (SepL.cons_own ha).1 h
      exact SepL.mono (fun k hk => hk.1) (fun _ hk => hk) (SepL.drop_left h3)
    | false => exact SepL.drop_left ((SepL.cons_imm ha).1 h).2

/-- The two halves of a list hold at sets that are apart. -/
theorem SepL.append_split : ∀ {H0 Hf : List Ast} {M T : Nat → Prop} {w : World}, SepL (H0 ++ Hf) M T w → ∃ S : Nat → Prop, (∀ k, S k → M k) ∧ SepL H0 S T w ∧ SepL Hf (fun k => M k ∧ ¬ S k) T w
  | [], Hf, M, T, w, h => ⟨fun _ => False, fun _ h => h.elim, trivial, SepL.mono (fun k hk => ⟨hk, fun h => h⟩) (fun _ hk => hk) h⟩
  | A :: H0, Hf, M, T, w, h => by
    cases ha : A.own with
    | true =>
      obtain ⟨S, h1, h2, h3⟩ := (SepL.cons_own ha).1 h
      obtain ⟨S', g1, g2, g3⟩ := SepL.append_split (H0 := H0) (Hf := Hf) h3
      refine ⟨fun k => S k ∨ S' k, fun k hk => hk.elim (h1 k) (fun h => (g1 k h).1), (SepL.cons_own ha).2 ⟨S, fun k hk => .inl hk, h2, SepL.mono (fun k hk => ⟨.inr hk, (g1 k hk).2⟩) (fun _ hk => hk) g2⟩, ?_⟩
      exact SepL.mono (fun k hk => ⟨hk.1.1, fun h => h.elim hk.1.2 hk.2⟩) (fun _ hk => hk) g3
    | false =>
      obtain ⟨h1, h2⟩ := (SepL.cons_imm ha).1 h
      obtain ⟨S', g1, g2, g3⟩ := SepL.append_split (H0 := H0) (Hf := Hf) h2
      exact ⟨S', g1, (SepL.cons_imm ha).2 ⟨h1, g2⟩, g3⟩

theorem SepL.append_join : ∀ {H0 Hf : List Ast} {M S T : Nat → Prop} {w : World}, (∀ k, S k → M k) → SepL H0 S T w → SepL Hf (fun k => M k ∧ ¬ S k) T w → SepL (H0 ++ Hf) M T w
  | [], Hf, M, S, T, w, _, _, h => SepL.mono (fun k hk => hk.1) (fun _ hk => hk) h
  | A :: H0, Hf, M, S, T, w, hS, h0, hf => by
    cases ha : A.own with
    | true =>
      obtain ⟨S1, h1, h2, h3⟩ := (SepL.cons_own ha).1 h0
      refine (SepL.cons_own ha).2 ⟨S1, fun k hk => hS k (h1 k hk), h2, ?_⟩
      refine SepL.append_join (S := fun k => S k ∧ ¬ S1 k) (fun k hk => ⟨hS k hk.1, hk.2⟩) h3 ?_
      exact SepL.mono (fun k hk => ⟨⟨hk.1, fun h => hk.2 (h1 k h)⟩, fun h => hk.2 h.1⟩) (fun _ hk => hk) hf
    | false =>
      obtain ⟨h1, h2⟩ := (SepL.cons_imm ha).1 h0
      exact (SepL.cons_imm ha).2 ⟨h1, SepL.append_join hS h2 hf⟩

/-- What stays the same while a function's body runs: the world and the sets with which it began; the frame's size. -/
structure Ctx where
  w0 : World
  M0 : Nat → Prop
  T0 : Nat → Prop
  n : Nat

/-- The world w is as H says; nothing has turned since the call began but what may. -/
def Good (G : Ctx) (H : List Ast) (w : World) : Prop :=
  ∃ M T : Nat → Prop, SepL H M T w ∧ (∀ k, M k → ¬ T k) ∧ (∀ k, M k → k < w.heap.size ∧ (G.M0 k ∨ G.w0.heap.size ≤ k)) ∧
    (∀ k, T k → k < w.heap.size ∧ (G.T0 k ∨ G.M0 k ∨ G.w0.heap.size ≤ k)) ∧ Keep G.w0 w G.M0

theorem Good.split {G : Ctx} {H H0 Hf : List Ast} {w : World} (h : Good G H w) (hs : SplitA H H0 Hf) : Good G (H0 ++ Hf) w := by
  obtain ⟨M, T, h1, h2⟩ := h
  exact ⟨M, T, hs _ _ _ h1, h2⟩
theorem Good.drop {G : Ctx} {H H0 Hf : List Ast} {w : World} (h : Good G H w) (hs : SplitA H H0 Hf) : Good G H0 w := by
  obtain ⟨M, T, h1, h2⟩ := h
  obtain ⟨S, g1, g2, _⟩ := SepL.append_split (hs _ _ _ h1)
  exact ⟨M, T, SepL.mono g1 (fun _ hk => hk) g2, h2⟩
theorem Good.take {G : Ctx} {H H1 : List Ast} {A : Ast} {w : World} (h : Good G H w) (hs : TakeA H A H1) : Good G (A :: H1) w := by
  obtain ⟨M, T, h1, h2⟩ := h
  exact ⟨M, T, hs _ _ _ h1, h2⟩
theorem Good.keep {G : Ctx} {H : List Ast} {w : World} (h : Good G H w) : Keep G.w0 w G.M0 := let ⟨_, _, _, _, _, _, k⟩ := h; k

/-- What a call asks of the world, and what it leaves: R of its answer and of what it leaves known. -/
def Ct (P : Program) (f : FuncId) (args : List Value) (H0 : List Ast) (R : Ending → List Ast → Prop) : Prop :=
  ∀ (w : World) (M T : Nat → Prop) (n : Nat), SepL H0 M T w → (∀ k, M k → ¬ T k) → (∀ k, M k → k < w.heap.size) → (∀ k, T k → k < w.heap.size) →
    Calls P f args.toArray w fun e w' => ∃ H', R e H' ∧ Good ⟨w, M, T, n⟩ H' w'

/-- It answers v, and leaves H' known. -/
def Ret (T : Value → List Ast → Prop) : Ending → List Ast → Prop := fun e H' => ∃ v, e = .returned v ∧ T v H'

/-! ### slots -/
abbrev Fr := List (Nat × Value)
def look : Fr → Nat → Option Value
  | [], _ => none
  | (k, v) :: F, t => bif Nat.beq k t then some v else look F t
def ev (F : Fr) : Operand → Option Value
  | .tmp t => bif Nat.beq t 999999 then none else look F t
  | .const v => some v
  | .global g => some (.pointer (some ⟨g, 0, none⟩))
  | .func f => some (.func (.func f) #[] #[])
def evs (F : Fr) : List Operand → Option (List Value)
  | [] => some []
  | x :: xs => match ev F x, evs F xs with
    | some v, some vs => some (v :: vs)
    | _, _ => none

/-- the calls that are deferred: told of by a slot that no function has. -/
def dfs (F : Fr) : List Deferred := match look F 999999 with
  | some (.func fn args cap) => [⟨.fn fn cap, args⟩]
  | _ => []
theorem dfs_of {F F' : Fr} (h : look F' 999999 = look F 999999) : dfs F' = dfs F := by unfold dfs; rw [h]
theorem dfs_none {F : Fr} (h : look F 999999 = none) : dfs F = [] := by unfold dfs; rw [h]
theorem dfs_bool {F : Fr} {t : Nat} {b u : Bool} (hx : look F t = some (.bool b)) : dfs ((t, .bool u) :: F) = dfs F := by
  unfold dfs
  simp only [look]
  cases hb : Nat.beq t 999999 with
  | true =>
    have := Nat.eq_of_beq_eq_true hb
    subst this
    rw [hx]; rfl
  | false => rfl
structure FrOk (n : Nat) (F : Fr) (a : Act) : Prop where
  size : a.tmps.size = n
  small : n ≤ 999999
  defers : a.defers = dfs F
  slotD : ∀ t v, look F t = some v → (t = 999999 ∧ ∃ fn args cap, v = .func fn args cap) ∨ a.tmps[t]? = some v
def notD : Value → Bool
  | .func _ _ _ => false
  | _ => true
theorem FrOk.slot {n : Nat} {F : Fr} {a : Act} (h : FrOk n F a) (t : Nat) (v : Value) (hv : look F t = some v) (hn : notD v = true := by rfl) : a.tmps[t]? = some v := by
  rcases h.slotD t v hv with ⟨_, fn, args, cap, rfl⟩ | h
  · cases hn
  · exact h
theorem FrOk.slotT {n : Nat} {F : Fr} {a : Act} (h : FrOk n F a) (t : Nat) (v : Value) (hv : look F t = some v) (ht : Nat.beq t 999999 = false) : a.tmps[t]? = some v := by
  rcases h.slotD t v hv with ⟨rfl, _⟩ | h
  · cases ht
  · exact h

theorem FrOk.ev {n : Nat} {F : Fr} {a : Act} (h : FrOk n F a) {x : Operand} {v : Value} (hx : ev F x = some v) : a.eval x = v := by
  cases x with
  | tmp t =>
    simp only [Go.Proofs.YtlkgdidmhmaneaaGreatDoor.ev] at hx
    cases ht : Nat.beq t 999999 with
    | true => rw [ht] at hx; cases hx
    | false =>
      rw [ht] at hx
      simp only [Act.eval, Array.getD_eq_getD_getElem?, h.slotT t v hx ht, Option.getD_some]
  | const c => simp only [Go.Proofs.YtlkgdidmhmaneaaGreatDoor.ev, Option.some.injEq] at hx; exact hx
  | global g => simp only [Go.Proofs.YtlkgdidmhmaneaaGreatDoor.ev, Option.some.injEq] at hx; exact hx
  | func f => simp only [Go.Proofs.YtlkgdidmhmaneaaGreatDoor.ev, Option.some.injEq] at hx; exact hx

theorem FrOk.evs {n : Nat} {F : Fr} {a : Act} (h : FrOk n F a) : ∀ {xs : List Operand} {vs : List Value}, evs F xs = some vs → xs.map a.eval = vs
  | [], vs, hx => by simpa [Go.Proofs.YtlkgdidmhmaneaaGreatDoor.evs] using hx
  | x :: xs, vs, hx => by
    simp only [Go.Proofs.YtlkgdidmhmaneaaGreatDoor.evs] at hx
    split at hx
    · rename_i v vs' h1 h2
      simp only [Option.some.injEq] at hx
      subst hx
      simp [h.ev h1, h.evs h2]
    · cases hx

theorem FrOk.put {n : Nat} {F : Fr} {a : Act} (h : FrOk n F a) {d : Nat} (hd : Nat.ble (d + 1) n = true) (v : Value) : FrOk n ((d, v) :: F) (a.put (some d) v) := by
  have hd' : d < a.tmps.size := by rw [h.size]; exact Nat.le_of_ble_eq_true hd
  have hdn : Nat.beq d 999999 = false := by
    cases hb : Nat.beq d 999999 with
    | false => rfl
    | true => have := Nat.eq_of_beq_eq_true hb; have := h.size; have := h.small; omega
  refine ⟨by simp [Act.put, h.size], h.small, by simp only [Act.put, h.defers]; exact (dfs_of (by simp [look, hdn])).symm, fun t u hu => ?_⟩
  simp only [look] at hu
  cases hb : Nat.beq d t with
  | true =>
    rw [hb] at hu
    have := Nat.eq_of_beq_eq_true hb
    subst this
    simp only [cond_true, Option.some.injEq] at hu
    subst hu
    right
    simp [Act.put, hd']
  | false =>
    rw [hb] at hu
    simp only [cond_false] at hu
    have hne : d ≠ t := fun e => by rw [e, Nat.beq_refl] at hb; cases hb
    rcases h.slotD t u hu with h1 | h1
    · exact .inl h1
    · right; simpa [Act.put, Array.getElem?_setIfInBounds_ne hne] using h1

theorem FrOk.sub {n : Nat} {F F' : Fr} {a : Act} (h : FrOk n F a) (hs : ∀ t v, look F' t = some v → look F t = some v) (hk : look F' 999999 = look F 999999) : FrOk n F' a := ⟨h.size, h.small, h.defers.trans (dfs_of hk).symm, fun t v hv => h.slotD t v (hs t v hv)⟩

/-- A frame of which every slot is known again in F. -/
def subF (F : Fr) : Fr → Prop
  | [] => True
  | (k, v) :: F' => look F k = some v ∧ subF F F'
theorem subF.look {F : Fr} : ∀ {F' : Fr}, subF F F' → ∀ t v, look F' t = some v → look F t = some v
  | [], _, t, v, h => by cases h
  | (k, u) :: F', hs, t, v, h => by
    simp only [Go.Proofs.YtlkgdidmhmaneaaGreatDoor.look] at h
    cases hb : Nat.beq k t with
    | true =>
      rw [hb] at h
      simp only [cond_true, Option.some.injEq] at h
      subst h
      have := Nat.eq_of_beq_eq_true hb
      subst this
      exact hs.1
    | false =>
      rw [hb] at h
      exact subF.look hs.2 t v h

def argF : Nat → List Value → Fr
  | _, [] => []
  | i, v :: vs => (i, v) :: argF (i + 1) vs
theorem look_argF : ∀ (vs : List Value) (i t : Nat) (v : Value), look (argF i vs) t = some v → i ≤ t ∧ vs[t - i]? = some v
  | [], i, t, v, h => by cases h
  | u :: vs, i, t, v, h => by
    simp only [argF, look] at h
    cases hb : Nat.beq i t with
    | true =>
      rw [hb] at h
      simp only [cond_true, Option.some.injEq] at h
      subst h
      have := Nat.eq_of_beq_eq_true hb
      subst this
      simp
    | false =>
      rw [hb] at h
      obtain ⟨h1, h2⟩ := look_argF vs (i + 1) t v h
      refine ⟨by omega, ?_⟩
      rw [show t - i = (t - (i + 1)) + 1 from by omega]
      simpa using h2

/-! ### judgements -/
section
variable (P : Program)
def OG (ops : Array Oper) (Q : Exit → Act → World → Prop) (G : Ctx) (rest : List Oper) (F : Fr) (H : List Ast) : Prop :=
  ∀ a w, FrOk G.n F a → Good G H w → wpList P ops Q rest a w
def CG (c : Code) (Q : Exit → Act → World → Prop) (G : Ctx) (F : Fr) (H : List Ast) : Prop :=
  ∀ a w, FrOk G.n F a → Good G H w → c.wp P Q a w
def EG (Q : Exit → Act → World → Prop) (e : Exit) (G : Ctx) (F : Fr) (H : List Ast) : Prop :=
  ∀ a w, FrOk G.n F a → Good G H w → Q e a w
end

def Post (G : Ctx) (R : Ending → List Ast → Prop) : Ending → World → Prop := fun e w' => ∃ H', R e H' ∧ Good G H' w'

section
variable {P : Program} {Q : Exit → Act → World → Prop} {G : Ctx} {F : Fr} {H : List Ast}

theorem fn_enter {f : FuncId} {fn : Func} {c : Code} {vs : List Value} {H0 : List Ast} {R : Ending → List Ast → Prop} {n : Nat}
    (hf : P.funcs[f]? = some fn) (hb : fn.body = some c) (hn : fn.ntmps = n) (hl : Nat.ble vs.length n = true)
    (h : ∀ (w : World) (M T : Nat → Prop), CG P c (bodyPost P fn (Post ⟨w, M, T, n⟩ R)) ⟨w, M, T, n⟩ (argF 0 vs) H0) (hsm : Nat.ble n 999999 = true := by rfl) : Ct P f vs H0 R := by
  intro w M T n' hs hd hM hT
  have hl' := Nat.le_of_ble_eq_true hl
  refine calls_of_wp hf hb ?_
  have h1 := h w M T { tmps := vs.toArray ++ Array.replicate (fn.ntmps - vs.toArray.size) undef, defers := [] } w ?_ ?_
  · refine wp_mono h1 ?_
    intro e a w' hq
    cases e <;> exact hq
  · have hsm' := Nat.le_of_ble_eq_true hsm
    have hk : look (argF 0 vs) 999999 = none := by
      cases hl2 : look (argF 0 vs) 999999 with
      | none => rfl
      | some v => obtain ⟨_, h3⟩ := look_argF vs 0 _ v hl2; have := (List.getElem?_eq_some_iff.1 h3).1; omega
    refine ⟨by simp [hn]; omega, hsm', (dfs_none hk).symm, fun t v hv => ?_⟩
    obtain ⟨_, h2⟩ := look_argF vs 0 t v hv
    simp only [Nat.sub_zero] at h2
    have hlt : t < vs.length := (List.getElem?_eq_some_iff.1 h2).1
    right
    rw [Array.getElem?_append_left (by simpa using hlt)]
    simpa using h2
  · exact ⟨M, T, hs, hd, fun k hk => ⟨hM k hk, .inl hk⟩, fun k hk => ⟨hT k hk, .inl hk⟩, Keep.refl _ _⟩

/-! ### code -/
theorem c_seq {x y : Code} (h : CG P x (Exit.then (y.wp P Q) Q) G F H) : CG P (.seq x y) Q G F H := fun a w ha hw => wp_seq (h a w ha hw)
theorem c_skip (h : EG Q .normal G F H) : CG P .skip Q G F H := fun a w ha hw => wp_skip (h a w ha hw)
theorem c_ret (h : EG Q .ret G F H) : CG P .ret Q G F H := fun a w ha hw => wp_ret (h a w ha hw)
theorem c_exit {k : Nat} (h : EG Q (.exit k) G F H) : CG P (.exit k) Q G F H := fun a w ha hw => wp_exit (h a w ha hw)
theorem c_goto {k : Nat} (h : EG Q (.goto k) G F H) : CG P (.goto k) Q G F H := fun a w ha hw => wp_goto (h a w ha hw)
theorem c_label {k : Nat} (h : EG Q .normal G F H) : CG P (.label k) Q G F H := fun a w ha hw => wp_label (h a w ha hw)
theorem c_block {k : Nat} {c : Code} (h : CG P c (Exit.inBlock k Q) G F H) : CG P (.block k c) Q G F H := fun a w ha hw => wp_block (h a w ha hw)
theorem c_region {id : Nat} {l : List Oper} (h : OG P l.toArray Q G l F H) : CG P (.region id l.toArray false) Q G F H := fun a w ha hw => wp_region_lit (h a w ha hw)
theorem c_cond {x : Operand} {b : Bool} {c1 c2 : Code} (hx : ev F x = some (.bool b)) (h1 : b = true → CG P c1 Q G F H) (h2 : b = false → CG P c2 Q G F H) : CG P (.cond x c1 c2) Q G F H := by
  intro a w ha hw
  refine wp_cond (ha.ev hx) ?_
  cases b with
  | true => exact h1 rfl a w ha hw
  | false => exact h2 rfl a w ha hw
theorem c_true {x : Operand} {c1 c2 : Code} (hx : ev F x = some (.bool true) := by rfl) (h1 : CG P c1 Q G F H) : CG P (.cond x c1 c2) Q G F H := c_cond hx (fun _ => h1) (fun h => by cases h)
theorem c_false {x : Operand} {c1 c2 : Code} (hx : ev F x = some (.bool false) := by rfl) (h1 : CG P c2 Q G F H) : CG P (.cond x c1 c2) Q G F H := c_cond hx (fun h => by cases h) (fun _ => h1)

theorem e_then_normal {y : Code} (h : CG P y Q G F H) : EG (Exit.then (y.wp P Q) Q) .normal G F H := h
theorem e_then_k {K : Act → World → Prop} {e : Exit} (he : e ≠ .normal) (h : EG Q e G F H) : EG (Exit.then K Q) e G F H := fun a w ha hw => by
  have := h a w ha hw
  cases e <;> first | exact absurd rfl he | exact this
theorem e_then_ret {K : Act → World → Prop} (h : EG Q .ret G F H) : EG (Exit.then K Q) .ret G F H := h
theorem e_then_exit {K : Act → World → Prop} {k : Nat} (h : EG Q (.exit k) G F H) : EG (Exit.then K Q) (.exit k) G F H := h
theorem e_then_goto {K : Act → World → Prop} {k : Nat} (h : EG Q (.goto k) G F H) : EG (Exit.then K Q) (.goto k) G F H := h
theorem e_block_normal {k : Nat} (h : EG Q .normal G F H) : EG (Exit.inBlock k Q) .normal G F H := h
theorem e_block_ret {k : Nat} (h : EG Q .ret G F H) : EG (Exit.inBlock k Q) .ret G F H := h
theorem e_block_goto {k l : Nat} (h : EG Q (.goto l) G F H) : EG (Exit.inBlock k Q) (.goto l) G F H := h
theorem e_block_exit {k : Nat} (h : EG Q .normal G F H) : EG (Exit.inBlock k Q) (.exit k) G F H := fun a w ha hw => by
  have := h a w ha hw
  simpa [Exit.inBlock] using this
theorem e_block_exit_ne {k l : Nat} (hne : Nat.beq l k = false) (h : EG Q (.exit l) G F H) : EG (Exit.inBlock k Q) (.exit l) G F H := fun a w ha hw => by
  have := h a w ha hw
  have h' : l ≠ k := fun e => by rw [e, Nat.beq_refl] at hne; cases hne
  simpa [Exit.inBlock, h'] using this

/-- What the end of a round owes: a later state that may be. -/
def LoopK {α : Type} (G : Ctx) (FI : α → Fr) (HI : α → List Ast) (ok : α → Prop) (μ : α → Nat) (x : α) : Act → World → Prop := fun a w => ∃ y, ok y ∧ μ y < μ x ∧ FrOk G.n (FI y) a ∧ Good G (HI y) w
/-- A loop: α is what changes from round to round; μ falls. -/
theorem c_loop {α : Type} {c : Code} (FI : α → Fr) (HI : α → List Ast) (ok : α → Prop) (μ : α → Nat) (x0 : α) (h0 : ok x0) (hF : subF F (FI x0)) (hH : ∀ w, Good G H w → Good G (HI x0) w)
    (round : ∀ x, ok x → CG P c (Exit.then (LoopK G FI HI ok μ x) Q) G (FI x) (HI x)) (hk : look (FI x0) 999999 = look F 999999 := by rfl) : CG P (.loop c) Q G F H := by
  intro a w ha hw
  refine wp_loop_ghost (fun n a w => ∃ x, μ x = n ∧ ok x ∧ FrOk G.n (FI x) a ∧ Good G (HI x) w) (μ x0) ⟨x0, rfl, h0, ha.sub (subF.look hF) hk, hH w hw⟩ ?_
  rintro n a' w' ⟨x, rfl, hx, ha', hw'⟩
  refine wp_mono (round x hx a' w' ha' hw') ?_
  intro e a'' w'' hq
  cases e with
  | normal =>
    obtain ⟨y, hy, hlt, hf, hg⟩ := hq
    exact ⟨μ y, hlt, y, rfl, hy, hf, hg⟩
  | _ => exact hq
theorem e_loop {α : Type} {FI : α → Fr} {HI : α → List Ast} {ok : α → Prop} {μ : α → Nat} {x : α} (y : α) (hy : ok y) (hlt : μ y < μ x) (hF : subF F (FI y)) (hH : ∀ w, Good G H w → Good G (HI y) w) (hk : look (FI y) 999999 = look F 999999 := by rfl) :
    EG (Exit.then (LoopK G FI HI ok μ x) Q) .normal G F H :=
  fun _ w ha hw => ⟨y, hy, hlt, ha.sub (subF.look hF) hk, hH w hw⟩

/-- What the ways through a piece of code have in common behind it. -/
def MidK {α : Type} (G : Ctx) (FI : α → Fr) (HI : α → List Ast) (ok : α → Prop) : Act → World → Prop := fun a w => ∃ y, ok y ∧ FrOk G.n (FI y) a ∧ Good G (HI y) w
theorem c_mid {α : Type} {c y : Code} (FI : α → Fr) (HI : α → List Ast) (ok : α → Prop) (h1 : CG P c (Exit.then (MidK G FI HI ok) Q) G F H) (h2 : ∀ x, ok x → CG P y Q G (FI x) (HI x)) : CG P c (Exit.then (y.wp P Q) Q) G F H := by
  intro a w ha hw
  refine wp_mono (h1 a w ha hw) ?_
  intro e a' w' hq
  cases e with
  | normal =>
    obtain ⟨x, hx, hf, hg⟩ := hq
    exact h2 x hx a' w' hf hg
  | _ => exact hq
theorem e_mid {α : Type} {FI : α → Fr} {HI : α → List Ast} {ok : α → Prop} (y : α) (hy : ok y) (hF : subF F (FI y)) (hH : ∀ w, Good G H w → Good G (HI y) w) (hk : look (FI y) 999999 = look F 999999 := by rfl) : EG (Exit.then (MidK G FI HI ok) Q) .normal G F H :=
  fun _ w ha hw => ⟨y, hy, ha.sub (subF.look hF) hk, hH w hw⟩

/-! ### what is known turned about -/
theorem o_open {ops : Array Oper} {rest : List Oper} {α : Type} {p : α → Prop} {H2 : α → List Ast} (hc : ∀ w, Good G H w → ∃ x, p x ∧ Good G (H2 x) w) (k : ∀ x, p x → OG P ops Q G rest F (H2 x)) : OG P ops Q G rest F H :=
  fun a w ha hw => let ⟨x, hx, hg⟩ := hc w hw; k x hx a w ha hg
theorem c_open {c : Code} {α : Type} {p : α → Prop} {H2 : α → List Ast} (hc : ∀ w, Good G H w → ∃ x, p x ∧ Good G (H2 x) w) (k : ∀ x, p x → CG P c Q G F (H2 x)) : CG P c Q G F H :=
  fun a w ha hw => let ⟨x, hx, hg⟩ := hc w hw; k x hx a w ha hg
theorem o_conv {ops : Array Oper} {rest : List Oper} {H2 : List Ast} (hc : ∀ w, Good G H w → Good G H2 w) (k : OG P ops Q G rest F H2) : OG P ops Q G rest F H := fun a w ha hw => k a w ha (hc w hw)
theorem c_conv {c : Code} {H2 : List Ast} (hc : ∀ w, Good G H w → Good G H2 w) (k : CG P c Q G F H2) : CG P c Q G F H := fun a w ha hw => k a w ha (hc w hw)
theorem e_conv {e : Exit} {H2 : List Ast} (hc : ∀ w, Good G H w → Good G H2 w) (k : EG Q e G F H2) : EG Q e G F H := fun a w ha hw => k a w ha (hc w hw)
theorem o_fact {ops : Array Oper} {rest : List Oper} {p : Prop} (hc : ∀ w, Good G H w → p) (k : p → OG P ops Q G rest F H) : OG P ops Q G rest F H := fun a w ha hw => k (hc w hw) a w ha hw
theorem c_fact {c : Code} {p : Prop} (hc : ∀ w, Good G H w → p) (k : p → CG P c Q G F H) : CG P c Q G F H := fun a w ha hw => k (hc w hw) a w ha hw
/-- a slot that holds a bool: one way for each. -/
theorem o_bool {ops : Array Oper} {rest : List Oper} (t : Nat) {b : Bool} (hx : look F t = some (.bool b)) (h1 : b = true → OG P ops Q G rest ((t, .bool true) :: F) H) (h2 : b = false → OG P ops Q G rest ((t, .bool false) :: F) H) : OG P ops Q G rest F H := by
  intro a w ha hw
  have key : ∀ u : Bool, b = u → FrOk G.n ((t, .bool u) :: F) a := fun u hu => ⟨ha.size, ha.small, ha.defers.trans (dfs_bool hx).symm, fun s v hv => by
    simp only [look] at hv
    cases hb : Nat.beq t s with
    | true =>
      rw [hb] at hv
      simp only [cond_true, Option.some.injEq] at hv
      have := Nat.eq_of_beq_eq_true hb
      subst this; subst hv; subst hu
      exact .inr (ha.slot _ _ hx)
    | false => rw [hb] at hv; exact ha.slotD _ _ hv⟩
  cases hb : b with
  | true => exact h1 hb a w (key true hb) hw
  | false => exact h2 hb a w (key false hb) hw
end
end Go.Proofs.YtlkgdidmhmaneaaGreatDoor
/- The engine, part 1: explicit blocks; operations that yield a value and turn nothing; the rules for one operation. -/
namespace Go.Proofs.YtlkgdidmhmaneaaGreatDoor
open Go Go.RowKit

/-- An owned block: its number, its elements' type, its cells, its frozen range. -/
def blk (b : Nat) (t : TypeId) (cs : List Value) (fz : Nat × Nat) : Ast where
  own := true
  holds := fun S w => S b ∧ w.heap[b]? = some (.cells cs.toArray t fz)
  loc := fun _ _ _ h hh => ⟨hh.1, (h b hh.1).trans hh.2⟩
  mono := fun _ _ _ h hh => ⟨h b hh.1, hh.2⟩

def Held (H : List Ast) (w : World) : Prop := ∃ M T : Nat → Prop, SepL H M T w
theorem Good.held {G : Ctx} {H : List Ast} {w : World} (h : Good G H w) : Held H w := let ⟨M, T, h1, _⟩ := h; ⟨M, T, h1⟩

def BlkIn (H : List Ast) (b : Nat) (t : TypeId) (cs : List Value) (fz : Nat × Nat) : Prop := ∀ w, Held H w → w.heap[b]? = some (.cells cs.toArray t fz)
theorem BlkIn.here {b : Nat} {t : TypeId} {cs : List Value} {fz : Nat × Nat} {H : List Ast} : BlkIn (blk b t cs fz :: H) b t cs fz := by
  rintro w ⟨M, T, h⟩
  obtain ⟨S, _, h2, _⟩ := (SepL.cons_own rfl).1 h
  exact h2.2
theorem BlkIn.there {A : Ast} {b : Nat} {t : TypeId} {cs : List Value} {fz : Nat × Nat} {H : List Ast} (h : BlkIn H b t cs fz) : BlkIn (A :: H) b t cs fz := by
  rintro w ⟨M, T, hs⟩
  cases ha : A.own with
  | true => obtain ⟨S, _, _, h3⟩ := (SepL.cons_own ha).1 hs; exact h w ⟨_, _, h3⟩
  | false => exact h w ⟨_, _, ((SepL.cons_imm ha).1 hs).2⟩

/-- In every world that H holds of, the cell at ad holds v. -/
def CellIn (H : List Ast) (ad : Addr) (v : Value) : Prop := ∀ w, Held H w → w.cell? ad = some v
theorem CellIn.blk {H : List Ast} {b o : Nat} {t : TypeId} {cs : List Value} {fz : Nat × Nat} {v : Value} (h : BlkIn H b t cs fz) (hv : cs[o]? = some v) : CellIn H ⟨b, o, none⟩ v := fun w hw => by
  rw [cell_of_row w b o cs.toArray t fz (h w hw)]; simpa using hv

/-! ### what the program's tables say (instances: a text of the seat's own) -/
class PSize (P : Program) (t : TypeId) (n : outParam Nat) : Prop where
  h : ∀ w, (sizeOf t).run P w = .ok n w
class PAgg (P : Program) (t : TypeId) (b : outParam Bool) : Prop where
  h : ∀ w, (isAgg t).run P w = .ok b w
class PUnd (P : Program) (t : TypeId) (d : outParam TypeDesc) : Prop where
  h : ∀ w, (underlying t).run P w = .ok d w
class PFld (P : Program) (s : TypeId) (f : Nat) (off : outParam Nat) : Prop where
  h : ∀ (b o : Nat) (w : World), (Instr.fieldAt s (.pointer (some ⟨b, o, none⟩)) f).run P w = .ok (.pointer (some ⟨b, o + off, none⟩)) w
class PZero (P : Program) (t : TypeId) (cs : outParam (List Value)) : Prop where
  h : ∀ w, ∃ z, (zeroValue t).run P w = .ok z w ∧ z.cells = cs.toArray
class PEnter (P : Program) (f : FuncId) : Prop where
  h : ∀ args w, (callFunc f args).run P w = .ok (.enter f args) w
class PBuild (P : Program) (t : TypeId) (zero : outParam (List Value)) (offs : outParam (List (Nat × Nat))) : Prop where
  h : ∀ (parts : Array (Nat × Value)) (cells : Array Value) (w : World), Instr.fill (fun i => offs[i]?) zero.toArray parts.toList = some cells → (Instr.build t parts).run P w = .ok (.agg cells) w
class PBytes (P : Program) (t : TypeId) (n : outParam Nat) : Prop where
  h : ∀ w, ∃ i, (typeInfo t).run P w = .ok i w ∧ i.bytes = n
class PWide (P : Program) : Prop where
  h : P.follows .mixedOrders = true

/-- In every frame that F tells of, and every world that H holds of, the operation leaves v and turns nothing. -/
def Yl (P : Program) (n : Nat) (F : Fr) (H : List Ast) (op : Op) (v : Value) : Prop :=
  ∀ (a : Act) (w : World) (dst : Option Tmp) (ty : TypeId) (pos : String) (aft : Array Edge) (g : Option (Nat × Bool)), FrOk n F a → Held H w → (execOp a.eval ⟨dst, op, ty, pos, aft, g⟩).run P w = .ok (.value v) w

section
variable {P : Program} {n : Nat} {F : Fr} {H : List Ast}

theorem y_move {x : Operand} {v : Value} (hx : ev F x = some v) : Yl P n F H (.move x) v := fun a w _ _ _ _ _ ha _ => by
  simp [execOp, ha.ev hx]
theorem y_assign {x : Operand} {v : Value} (hx : ev F x = some v) : Yl P n F H (.assign x) v := fun a w _ _ _ _ _ ha _ => by
  simp [execOp, ha.ev hx]
theorem y_pick {c x y : Operand} {b : Bool} {u v : Value} (hc : ev F c = some (.bool b)) (hx : ev F x = some u) (hy : ev F y = some v) : Yl P n F H (.pick c x y) (if b = true then u else v) := fun a w _ _ _ _ _ ha _ => by
  simp [execOp, ha.ev hc, ha.ev hx, ha.ev hy, asBool]
theorem y_pick_t {c x y : Operand} {u : Value} (hc : ev F c = some (.bool true)) (hx : ev F x = some u) : Yl P n F H (.pick c x y) u := fun a w _ _ _ _ _ ha _ => by
  simp [execOp, ha.ev hc, ha.ev hx, asBool]
theorem y_pick_f {c x y : Operand} {v : Value} (hc : ev F c = some (.bool false)) (hy : ev F y = some v) : Yl P n F H (.pick c x y) v := fun a w _ _ _ _ _ ha _ => by
  simp [execOp, ha.ev hc, ha.ev hy, asBool]
theorem y_nil {x : Operand} {p : Addr} (hx : ev F x = some (.pointer (some p))) : Yl P n F H (.nilCheck x) (.pointer (some p)) := fun a w _ _ _ _ _ ha _ => by
  simp [execOp, ha.ev hx]
theorem y_field {s : TypeId} {x : Operand} {f b o off o' : Nat} (hx : ev F x = some (.pointer (some ⟨b, o, none⟩))) [h : PFld P s f off] (ho : o' = o + off) : Yl P n F H (.fieldAddr s x f) (.pointer (some ⟨b, o', none⟩)) := fun a w _ _ _ _ _ ha _ => by
  subst ho
  simp [execOp, ha.ev hx, h.h]
theorem y_load {t : TypeId} {x : Operand} {p : Addr} {v : Value} [hg : PAgg P t false] (hx : ev F x = some (.pointer (some p))) (hc : CellIn H p v) : Yl P n F H (.load t x) v := fun a w _ _ _ _ _ ha hw => by
  have hcell := hc w hw
  simp [execOp, ha.ev hx, Instr.loadAt, Instr.sureAddr, loadVar, hg.h, hcell]

/-- n cells from place o on. -/
def sub : List Value → Nat → Nat → Option (List Value)
  | _, 0, 0 => some []
  | [], _, _ => none
  | v :: vs, 0, n + 1 => match sub vs 0 n with
    | some us => some (v :: us)
    | none => none
  | _ :: vs, o + 1, n => sub vs o n
theorem sub_spec : ∀ (vs : List Value) (o n : Nat) (us : List Value), sub vs o n = some us → us.length = n ∧ ∀ j, j < n → us[j]? = vs[o + j]?
  | vs, 0, 0, us, h => by
    have : us = [] := by cases vs <;> simpa [sub] using h.symm
    subst this
    exact ⟨rfl, fun j hj => by omega⟩
  | [], 0, n + 1, us, h => by simp [sub] at h
  | [], o + 1, n, us, h => by simp [sub] at h
  | v :: vs, 0, n + 1, us, h => by
    simp only [sub] at h
    split at h
    · rename_i us' h'
      simp only [Option.some.injEq] at h
      subst h
      obtain ⟨h1, h2⟩ := sub_spec vs 0 n us' h'
      refine ⟨by simp [h1], fun j hj => ?_⟩
      cases j with
      | zero => simp
      | succ j => simpa using (h2 j (by omega))
    · cases h
  | v :: vs, o + 1, n, us, h => by
    simp only [sub] at h
    obtain ⟨h1, h2⟩ := sub_spec vs o n us h
    refine ⟨h1, fun j hj => ?_⟩
    rw [h2 j hj, show o + 1 + j = (o + j) + 1 from by omega]
    simp

theorem run_loadCells_of {w : World} {p : Addr} {us : List Value} (h : ∀ j v, us[j]? = some v → w.cell? (p.add j) = some v) : (loadCells p us.length).run P w = .ok us.toArray w :=
  run_loadCells_list w p us h

/-- the cells from p on are us. -/
def CellsIn (H : List Ast) (p : Addr) (us : List Value) : Prop := ∀ w, Held H w → ∀ j v, us[j]? = some v → w.cell? (p.add j) = some v
theorem CellsIn.blk {b o : Nat} {t : TypeId} {cs us : List Value} {fz : Nat × Nat} {m : Nat} (h : BlkIn H b t cs fz) (hv : sub cs o m = some us) : CellsIn H ⟨b, o, none⟩ us := fun w hw j v hj => by
  obtain ⟨h1, h2⟩ := sub_spec cs o m us hv
  have hlt : j < us.length := (List.getElem?_eq_some_iff.1 hj).1
  rw [Addr.add_lit, cell_of_row w b (o + j) cs.toArray t fz (h w hw)]
  have := h2 j (by omega)
  simp only [List.getElem?_toArray]
  rw [← this]; exact hj
theorem y_loadA {t : TypeId} {x : Operand} {p : Addr} {us : List Value} {m : Nat} [hg : PAgg P t true] [hs : PSize P t m] (hx : ev F x = some (.pointer (some p))) (hc : CellsIn H p us) (hl : us.length = m) : Yl P n F H (.load t x) (.agg us.toArray) := fun a w _ _ _ _ _ ha hw => by
  have h1 := run_loadCells_of (P := P) (hc w hw)
  rw [hl] at h1
  simp [execOp, ha.ev hx, Instr.loadAt, Instr.sureAddr, loadVar, hg.h, hs.h, h1]

theorem y_loadB {t t' : TypeId} {x : Operand} {b o m : Nat} {cs us : List Value} {fz : Nat × Nat} [hg : PAgg P t true] [hs : PSize P t m] (hx : ev F x = some (.pointer (some ⟨b, o, none⟩))) (hb : BlkIn H b t' cs fz) (hv : sub cs o m = some us) : Yl P n F H (.load t x) (.agg us.toArray) := y_loadA hx (CellsIn.blk hb hv) (sub_spec cs o m us hv).1

theorem y_extract {x : Operand} {i : Nat} {vs : List Value} {v : Value} (hx : ev F x = some (.tuple vs.toArray)) (hv : vs[i]? = some v) : Yl P n F H (.extract x i) v := fun a w _ _ _ _ _ ha _ => by
  simp [execOp, ha.ev hx, Instr.extract, hv]

/-- v at place o. -/
def setAt : List Value → Nat → Value → Option (List Value)
  | [], _, _ => none
  | _ :: xs, 0, v => some (v :: xs)
  | x :: xs, k + 1, v => match setAt xs k v with
    | some ys => some (x :: ys)
    | none => none
theorem setAt_spec : ∀ (cs : List Value) (o : Nat) (v : Value) (ds : List Value), setAt cs o v = some ds → o < cs.length ∧ ds = cs.set o v
  | [], _, _, _, h => by simp [setAt] at h
  | x :: xs, 0, v, ds, h => by simp only [setAt, Option.some.injEq] at h; subst h; simp
  | x :: xs, k + 1, v, ds, h => by
    simp only [setAt] at h
    split at h
    · rename_i ys h'
      obtain ⟨h1, h2⟩ := setAt_spec xs k v ys h'
      simp only [Option.some.injEq] at h
      subst h; subst h2
      simp; omega
    · cases h
def setMany : List Value → Nat → List Value → Option (List Value)
  | cs, _, [] => some cs
  | cs, o, v :: vs => match setAt cs o v with
    | some ds => setMany ds (o + 1) vs
    | none => none
def cellsL : Value → List Value
  | .agg cs => cs.toList
  | v => [v]
theorem cellsL_spec (v : Value) : v.cells = (cellsL v).toArray := by cases v <;> simp [Value.cells, cellsL]
def buildL (offs : List (Nat × Nat)) : List Value → List (Nat × Value) → Option (List Value)
  | z, [] => some z
  | z, (i, v) :: rest => match offs[i]? with
    | some (off, size) => match Nat.beq (cellsL v).length size && Nat.ble (off + size) z.length with
      | true => match setMany z off (cellsL v) with
        | some z' => buildL offs z' rest
        | none => none
      | false => none
    | none => none

theorem setMany_spec : ∀ (vs cs : List Value) (o : Nat) (ds : List Value), setMany cs o vs = some ds →
    ds.length = cs.length ∧ ∀ k, List.foldl (fun (c : Array Value) (x : Value × Nat) => c.setIfInBounds (o + (x.2 - k)) x.1) cs.toArray (vs.zipIdx k) = ds.toArray
  | [], cs, o, ds, h => by simp only [setMany, Option.some.injEq] at h; subst h; exact ⟨rfl, fun k => by simp⟩
  | v :: vs, cs, o, ds, h => by
    simp only [setMany] at h
    split at h
    · rename_i es h'
      obtain ⟨h1, h2⟩ := setAt_spec cs o v es h'
      obtain ⟨g2, g3⟩ := setMany_spec vs es (o + 1) ds h
      have hes : es.length = cs.length := by rw [h2]; simp
      refine ⟨by rw [g2, hes], fun k => ?_⟩
      have := g3 (k + 1)
      simp only [List.zipIdx_cons, List.foldl_cons, Nat.sub_self, Nat.add_zero, List.setIfInBounds_toArray]
      rw [← h2, ← this]
      have hcong : ∀ (l : List (Value × Nat)) (c : Array Value), (∀ x ∈ l, k + 1 ≤ x.2) → List.foldl (fun (cs : Array Value) (x : Value × Nat) => cs.setIfInBounds (o + (x.2 - k)) x.1) c l = List.foldl (fun (cs : Array Value) (x : Value × Nat) => cs.setIfInBounds (o + 1 + (x.2 - (k + 1))) x.1) c l := by
        intro l
        induction l with
        | nil => intro c _; rfl
        | cons x l ih =>
          intro c hx
          simp only [List.foldl_cons]
          have hx' := hx x (by simp)
          rw [show o + (x.2 - k) = o + 1 + (x.2 - (k + 1)) from by omega]
          exact ih _ (fun y hy => hx y (by simp [hy]))
      apply hcong
      intro x hx
      exact List.le_snd_of_mem_zipIdx hx
    · cases h

theorem buildL_fill (offs : List (Nat × Nat)) : ∀ (parts : List (Nat × Value)) (z ds : List Value), buildL offs z parts = some ds → Instr.fill (fun i => offs[i]?) z.toArray parts = some ds.toArray
  | [], z, ds, h => by simp only [buildL, Option.some.injEq] at h; subst h; rfl
  | (i, v) :: rest, z, ds, h => by
    simp only [buildL] at h
    split at h
    · rename_i off size ho
      split at h
      · rename_i hb
        rw [Bool.and_eq_true] at hb
        have hsz := Nat.eq_of_beq_eq_true hb.1
        have hfit := Nat.le_of_ble_eq_true hb.2
        split at h
        · rename_i z' hz
          obtain ⟨g2, g3⟩ := setMany_spec _ _ _ _ hz
          have hc : v.cells.size = size := by rw [cellsL_spec]; simpa using hsz
          have := buildL_fill offs rest z' ds h
          have g4 := g3 0
          simp only [Nat.sub_zero] at g4
          simp only [Instr.fill, ho]
          rw [if_neg (by simp [hc]; omega), cellsL_spec, ← Array.foldl_toList, Array.toList_zipIdx]
          simp only [List.toList_toArray]
          rw [g4]
          exact this
        · cases h
      · cases h
    · cases h
end
end Go.Proofs.YtlkgdidmhmaneaaGreatDoor
/- The engine, part 2: operations on numbers, strings, pointers, slices that yield a value and turn nothing. -/
namespace Go.Proofs.YtlkgdidmhmaneaaGreatDoor
open Go Go.RowKit Go.IntWalk

theorem u64_wrap (n : Int) : IntKind.u64.wrap n = n % 18446744073709551616 := by simp [IntKind.wrap, IntKind.bits, IntKind.signed]

section
variable {P : Program} {n : Nat} {F : Fr} {H : List Ast} {t ty2 : TypeId} {x y : Operand} {k : IntKind} {a b : Int}

/-! ### integers: comparisons -/
section
variable (hx : ev F x = some (.int k a)) (hy : ev F y = some (.int k b))
include hx hy
theorem y_lss : Yl P n F H (.binOp .lss t x y ty2) (.bool (decide (a < b))) := fun _ w _ _ _ _ _ ha _ => by
  simp [execOp, ha.ev hx, ha.ev hy, eqGuard, binOp, Op.intCmp]
theorem y_leq : Yl P n F H (.binOp .leq t x y ty2) (.bool (decide (a ≤ b))) := fun _ w _ _ _ _ _ ha _ => by
  simp [execOp, ha.ev hx, ha.ev hy, eqGuard, binOp, Op.intCmp]
theorem y_gtr : Yl P n F H (.binOp .gtr t x y ty2) (.bool (decide (b < a))) := fun _ w _ _ _ _ _ ha _ => by
  simp [execOp, ha.ev hx, ha.ev hy, eqGuard, binOp, Op.intCmp]
theorem y_geq : Yl P n F H (.binOp .geq t x y ty2) (.bool (decide (b ≤ a))) := fun _ w _ _ _ _ _ ha _ => by
  simp [execOp, ha.ev hx, ha.ev hy, eqGuard, binOp, Op.intCmp]
theorem y_eql : Yl P n F H (.binOp .eql t x y ty2) (.bool (decide (a = b))) := fun _ w _ _ _ _ _ ha _ => by
  simp [execOp, ha.ev hx, ha.ev hy, eqGuard, binOp, Op.intCmp, BEq.beq]
theorem y_neq : Yl P n F H (.binOp .neq t x y ty2) (.bool (!decide (a = b))) := fun _ w _ _ _ _ _ ha _ => by
  simp [execOp, ha.ev hx, ha.ev hy, eqGuard, binOp, Op.intCmp, bne, BEq.beq]

/-! ### integers: arithmetic -/
theorem y_add : Yl P n F H (.binOp .add t x y ty2) (.int k (k.wrap (a + b))) := fun _ w _ _ _ _ _ ha _ => by
  simp [execOp, ha.ev hx, ha.ev hy, eqGuard, binOp, Op.intArith]
theorem y_sub : Yl P n F H (.binOp .sub t x y ty2) (.int k (k.wrap (a - b))) := fun _ w _ _ _ _ _ ha _ => by
  simp [execOp, ha.ev hx, ha.ev hy, eqGuard, binOp, Op.intArith]
theorem y_mul : Yl P n F H (.binOp .mul t x y ty2) (.int k (k.wrap (a * b))) := fun _ w _ _ _ _ _ ha _ => by
  simp [execOp, ha.ev hx, ha.ev hy, eqGuard, binOp, Op.intArith]
theorem y_quo (hb : b ≠ 0) : Yl P n F H (.binOp .quo t x y ty2) (.int k (k.wrap (a.tdiv b))) := fun _ w _ _ _ _ _ ha _ => by
  simp [execOp, ha.ev hx, ha.ev hy, eqGuard, binOp, Op.intDiv, hb]
theorem y_rem (hb : b ≠ 0) : Yl P n F H (.binOp .rem t x y ty2) (.int k (a.tmod b)) := fun _ w _ _ _ _ _ ha _ => by
  simp [execOp, ha.ev hx, ha.ev hy, eqGuard, binOp, Op.intDiv, hb]
theorem y_remn (h0 : 0 ≤ a) (hb : 0 < b) : Yl P n F H (.binOp .rem t x y ty2) (.int k (a % b)) := by
  have := y_rem (P := P) (n := n) (H := H) (t := t) (ty2 := ty2) hx hy (by omega)
  rwa [Int.tmod_eq_emod_of_nonneg h0] at this
theorem y_and : Yl P n F H (.binOp .and t x y ty2) (.int k (k.wrap (BitVec.ofInt k.bits a &&& BitVec.ofInt k.bits b).toNat)) := fun _ w _ _ _ _ _ ha _ => by
  simp [execOp, ha.ev hx, ha.ev hy, eqGuard, binOp, Op.intBits]
theorem y_or : Yl P n F H (.binOp .or t x y ty2) (.int k (k.wrap (BitVec.ofInt k.bits a ||| BitVec.ofInt k.bits b).toNat)) := fun _ w _ _ _ _ _ ha _ => by
  simp [execOp, ha.ev hx, ha.ev hy, eqGuard, binOp, Op.intBits]
theorem y_xor : Yl P n F H (.binOp .xor t x y ty2) (.int k (k.wrap (BitVec.ofInt k.bits a ^^^ BitVec.ofInt k.bits b).toNat)) := fun _ w _ _ _ _ _ ha _ => by
  simp [execOp, ha.ev hx, ha.ev hy, eqGuard, binOp, Op.intBits]
theorem y_andNot : Yl P n F H (.binOp .andNot t x y ty2) (.int k (k.wrap (BitVec.ofInt k.bits a &&& ~~~ BitVec.ofInt k.bits b).toNat)) := fun _ w _ _ _ _ _ ha _ => by
  simp [execOp, ha.ev hx, ha.ev hy, eqGuard, binOp, Op.intBits]
end
section
variable {k2 : IntKind} (hx : ev F x = some (.int k a)) (hy : ev F y = some (.int k2 b))
include hx hy
theorem y_shl (hb : 0 ≤ b) : Yl P n F H (.binOp .shl t x y ty2) (.int k (k.wrap (a * 2 ^ (min b.toNat k.bits)))) := fun _ w _ _ _ _ _ ha _ => by
  have : ¬ b < 0 := by omega
  simp [execOp, ha.ev hx, ha.ev hy, eqGuard, binOp, Op.shift, this]
theorem y_shr (hb : 0 ≤ b) : Yl P n F H (.binOp .shr t x y ty2) (.int k (a.fdiv (2 ^ (min b.toNat k.bits)))) := fun _ w _ _ _ _ _ ha _ => by
  have : ¬ b < 0 := by omega
  simp [execOp, ha.ev hx, ha.ev hy, eqGuard, binOp, Op.shift, this]
end
/-- the value in another spelling. -/
theorem y_as {op : Op} {u v : Value} (h : Yl P n F H op u) (e : u = v) : Yl P n F H op v := e ▸ h

section
variable (hx : ev F x = some (.int .i64 a)) (hy : ev F y = some (.int .i64 b))
include hx hy
theorem y_addi (h : -9223372036854775808 ≤ a + b ∧ a + b ≤ 9223372036854775807) : Yl P n F H (.binOp .add t x y ty2) (.int .i64 (a + b)) := y_as (y_add hx hy) (by rw [i64_in _ h])
theorem y_subi (h : -9223372036854775808 ≤ a - b ∧ a - b ≤ 9223372036854775807) : Yl P n F H (.binOp .sub t x y ty2) (.int .i64 (a - b)) := y_as (y_sub hx hy) (by rw [i64_in _ h])
theorem y_muli (h : -9223372036854775808 ≤ a * b ∧ a * b ≤ 9223372036854775807) : Yl P n F H (.binOp .mul t x y ty2) (.int .i64 (a * b)) := y_as (y_mul hx hy) (by rw [i64_in _ h])
theorem y_quoi (h : 0 ≤ a ∧ a ≤ 9223372036854775807 ∧ 1 ≤ b) : Yl P n F H (.binOp .quo t x y ty2) (.int .i64 (a / b)) := y_as (y_quo hx hy (by omega)) (by rw [i64_quo _ _ h])
end
section
variable (hx : ev F x = some (.int .u32 a)) (hy : ev F y = some (.int .u32 b))
include hx hy
theorem y_addu (h : 0 ≤ a + b ∧ a + b ≤ 4294967295) : Yl P n F H (.binOp .add t x y ty2) (.int .u32 (a + b)) := y_as (y_add hx hy) (by rw [u32_in _ h])
theorem y_addum : Yl P n F H (.binOp .add t x y ty2) (.int .u32 ((a + b) % 4294967296)) := y_as (y_add hx hy) (by rw [IntKind.wrap_u32])
theorem y_mulu (h : 0 ≤ a * b ∧ a * b ≤ 4294967295) : Yl P n F H (.binOp .mul t x y ty2) (.int .u32 (a * b)) := y_as (y_mul hx hy) (by rw [u32_in _ h])
theorem y_quou (h : 0 ≤ a ∧ a ≤ 4294967295 ∧ 1 ≤ b) : Yl P n F H (.binOp .quo t x y ty2) (.int .u32 (a / b)) := y_as (y_quo hx hy (by omega)) (by
  obtain ⟨h0, h1, h2⟩ := h
  rw [Int.tdiv_eq_ediv_of_nonneg h0, u32_in]
  exact ⟨Int.ediv_nonneg h0 (by omega), Int.le_trans (Int.ediv_le_self _ h0) h1⟩)
end
section
variable (hx : ev F x = some (.int .u64 a)) (hy : ev F y = some (.int .u64 b))
include hx hy
theorem y_addu64 (h : 0 ≤ a + b ∧ a + b ≤ 18446744073709551615) : Yl P n F H (.binOp .add t x y ty2) (.int .u64 (a + b)) := y_as (y_add hx hy) (by rw [u64_in _ h])
theorem y_mulu64 (h : 0 ≤ a * b ∧ a * b ≤ 18446744073709551615) : Yl P n F H (.binOp .mul t x y ty2) (.int .u64 (a * b)) := y_as (y_mul hx hy) (by rw [u64_in _ h])
theorem y_quou64 (h : 0 ≤ a ∧ a ≤ 18446744073709551615 ∧ 1 ≤ b) : Yl P n F H (.binOp .quo t x y ty2) (.int .u64 (a / b)) := y_as (y_quo hx hy (by omega)) (by
  obtain ⟨h0, h1, h2⟩ := h
  rw [Int.tdiv_eq_ediv_of_nonneg h0, u64_in]
  exact ⟨Int.ediv_nonneg h0 (by omega), Int.le_trans (Int.ediv_le_self _ h0) h1⟩)
end
theorem y_not {c : Bool} (hx : ev F x = some (.bool c)) : Yl P n F H (.unOp .not t x) (.bool (!c)) := fun _ w _ _ _ _ _ ha _ => by
  simp [execOp, ha.ev hx, Op.unary]
theorem y_neg (hx : ev F x = some (.int k a)) : Yl P n F H (.unOp .neg t x) (.int k (k.wrap (0 - a))) := fun _ w _ _ _ _ _ ha _ => by
  simp [execOp, ha.ev hx, Op.unary, Op.intArith]
theorem y_negi (hx : ev F x = some (.int .i64 a)) (h : -9223372036854775807 ≤ a ∧ a ≤ 9223372036854775807) : Yl P n F H (.unOp .neg t x) (.int .i64 (-a)) := y_as (y_neg hx) (by rw [i64_in _ (by omega)]; congr 1; omega)

section
variable {s d : TypeId} {ud : TypeDesc} {k2 : IntKind}
theorem y_conv [h1 : PUnd P s ud] [h2 : PUnd P d (.int k2)] (hx : ev F x = some (.int k a)) : Yl P n F H (.convert s d x) (.int k2 (k2.wrap a)) := fun _ w _ _ _ _ _ ha _ => by
  simp [execOp, ha.ev hx, convert, h1.h, h2.h, Conv.intToInt]
theorem y_conv64 [h1 : PUnd P s ud] [h2 : PUnd P d (.int .i64)] (hx : ev F x = some (.int k a)) (h : -9223372036854775808 ≤ a ∧ a ≤ 9223372036854775807) : Yl P n F H (.convert s d x) (.int .i64 a) := y_as (y_conv hx) (by rw [i64_in _ h])
theorem y_convu32i [h1 : PUnd P s ud] [h2 : PUnd P d (.int .u32)] (hx : ev F x = some (.int k a)) (h : 0 ≤ a ∧ a ≤ 4294967295) : Yl P n F H (.convert s d x) (.int .u32 a) := y_as (y_conv hx) (by rw [u32_in _ h])
theorem y_convu32 [h1 : PUnd P s ud] [h2 : PUnd P d (.int .u32)] (hx : ev F x = some (.int k a)) : Yl P n F H (.convert s d x) (.int .u32 (a % 4294967296)) := y_as (y_conv hx) (by rw [IntKind.wrap_u32])
theorem y_convu8i [h1 : PUnd P s ud] [h2 : PUnd P d (.int .u8)] (hx : ev F x = some (.int k a)) (h : 0 ≤ a ∧ a ≤ 255) : Yl P n F H (.convert s d x) (.int .u8 a) := y_as (y_conv hx) (by rw [u8_in _ h])
theorem y_convu8 [h1 : PUnd P s ud] [h2 : PUnd P d (.int .u8)] (hx : ev F x = some (.int k a)) : Yl P n F H (.convert s d x) (.int .u8 (a % 256)) := y_as (y_conv hx) (by rw [IntKind.wrap_u8])
theorem y_convu64i [h1 : PUnd P s ud] [h2 : PUnd P d (.int .u64)] (hx : ev F x = some (.int k a)) (h : 0 ≤ a ∧ a ≤ 18446744073709551615) : Yl P n F H (.convert s d x) (.int .u64 a) := y_as (y_conv hx) (by rw [u64_in _ h])
theorem y_convu64 [h1 : PUnd P s ud] [h2 : PUnd P d (.int .u64)] (hx : ev F x = some (.int k a)) : Yl P n F H (.convert s d x) (.int .u64 (a % 18446744073709551616)) := y_as (y_conv hx) (by rw [u64_wrap])
end

/-! ### strings -/
theorem toList_eq_iff (s u : ByteArray) : (s.toList == u.toList) = decide (s = u) := by
  rw [ByteArray.toList_eq, ByteArray.toList_eq]
  by_cases h : s = u
  · subst h; simp
  · have h' : s.data.toList ≠ u.data.toList := fun e => h (by cases s; cases u; simpa using Array.toList_inj.1 e)
    rw [beq_eq_false_iff_ne.2 h']; simp [h]
/-- the string of these bytes -/
abbrev str (l : List UInt8) : Value := .string ⟨l.toArray⟩
theorem str_data (l : List UInt8) : (ByteArray.mk l.toArray).data.toList = l := by simp
theorem str_size (l : List UInt8) : (ByteArray.mk l.toArray).size = l.length := by simp [ByteArray.size]
theorem str_eq (l m : List UInt8) : (ByteArray.mk l.toArray = ByteArray.mk m.toArray) ↔ l = m := by simp
theorem str_ext {b : ByteArray} {l : List UInt8} (h : b.data.toList = l) : b = ⟨l.toArray⟩ := by cases b; subst h; simp
section
variable {l m : List UInt8}
theorem y_seql (hx : ev F x = some (str l)) (hy : ev F y = some (str m)) : Yl P n F H (.binOp .eql t x y ty2) (.bool (decide (l = m))) := fun _ w _ _ _ _ _ ha _ => by
  have : decide (ByteArray.mk l.toArray = ByteArray.mk m.toArray) = decide (l = m) := by simp
  simp only [execOp, ha.ev hx, ha.ev hy, eqGuard, binOp, Op.stringOp, toList_eq_iff]
  rw [this]; simp
theorem y_sneq (hx : ev F x = some (str l)) (hy : ev F y = some (str m)) : Yl P n F H (.binOp .neq t x y ty2) (.bool (!decide (l = m))) := fun _ w _ _ _ _ _ ha _ => by
  have : decide (ByteArray.mk l.toArray = ByteArray.mk m.toArray) = decide (l = m) := by simp
  simp only [execOp, ha.ev hx, ha.ev hy, eqGuard, binOp, Op.stringOp, toList_eq_iff]
  rw [this]; simp
theorem y_slss (hx : ev F x = some (str l)) (hy : ev F y = some (str m)) : Yl P n F H (.binOp .lss t x y ty2) (.bool (Op.bytesLess l m)) := fun _ w _ _ _ _ _ ha _ => by
  simp [execOp, ha.ev hx, ha.ev hy, eqGuard, binOp, Op.stringOp, ByteArray.toList_eq]
theorem y_scat (hx : ev F x = some (str l)) (hy : ev F y = some (str m)) (h : l.length + m.length ≤ 9223372036854775807) : Yl P n F H (.binOp .add t x y ty2) (str (l ++ m)) := fun _ w _ _ _ _ _ ha _ => by
  have h1 : ¬ ((9223372036854775807 : Int) < ((ByteArray.mk l.toArray).size : Int) + ((ByteArray.mk m.toArray).size : Int)) := by rw [str_size, str_size]; omega
  have h2 : ByteArray.mk l.toArray ++ ByteArray.mk m.toArray = ByteArray.mk (l ++ m).toArray := str_ext (by simp)
  simp only [execOp, ha.ev hx, ha.ev hy, eqGuard, binOp, Op.stringOp, IntKind.max, IntKind.bits, IntKind.signed, h2]
  simp
  omega
theorem y_slen [h1 : PUnd P t .string] (hx : ev F x = some (str l)) : Yl P n F H (.call { callee := .builtin .len, args := #[x], argTypes := #[t] }) (.int .i64 l.length) := fun _ w _ _ _ _ _ ha _ => by
  simp [execOp, ha.ev hx, resolve, invoke, builtin, Builtin.len_, h1.h, goInt, str_size]
theorem y_sidx [h1 : PUnd P t .string] {i : Int} {c : UInt8} (hx : ev F x = some (str l)) (hy : ev F y = some (.int k i)) (h0 : 0 ≤ i) (hc : l[i.toNat]? = some c) : Yl P n F H (.index t x y) (.int .u8 c.toNat) := fun _ w _ _ _ _ _ ha _ => by
  have hlt : i.toNat < (ByteArray.mk l.toArray).size := by have := (List.getElem?_eq_some_iff.1 hc).1; rw [str_size]; exact this
  have hget : (ByteArray.mk l.toArray)[i.toNat]? = some c := by
    rw [← hc, getElem?_pos (ByteArray.mk l.toArray) _ hlt]
    rw [List.getElem?_eq_getElem (by rw [str_size] at hlt; exact hlt)]
    rfl
  simp [execOp, ha.ev hx, ha.ev hy, Instr.index, asIntOf, h1.h, h0, hget]
end

/-! ### pointers and nil -/
theorem run_equal {w : World} {t : TypeId} {u v : Value} {r : Bool} (h : (Op.equalIn (9999 + 1) t u v).run P w = .ok r w) : (Op.equal t u v).run P w = .ok r w := h
section
variable {e : TypeId} {p : Addr} {q : Option Addr} {w : World} {m c : Nat}
theorem eq_pn [h1 : PUnd P t (.pointer e)] : (Op.equal t (.pointer q) (.pointer none)).run P w = .ok q.isNone w := run_equal (by
  rw [Op.equalIn]; cases q <;> simp [h1.h])
theorem eq_sn [h1 : PUnd P t (.slice e)] : (Op.equal t (.slice q m c) (.slice none 0 0)).run P w = .ok q.isNone w := run_equal (by
  rw [Op.equalIn]; cases q <;> simp [h1.h])
theorem y_pne [h1 : PUnd P t (.pointer e)] (hx : ev F x = some (.pointer q)) (hy : ev F y = some (.pointer none)) : Yl P n F H (.binOp .neq t x y ty2) (.bool q.isSome) := fun _ w _ _ _ _ _ ha _ => by
  cases q <;> simp [execOp, ha.ev hx, ha.ev hy, eqGuard, binOp, eq_pn]
theorem y_peq [h1 : PUnd P t (.pointer e)] (hx : ev F x = some (.pointer q)) (hy : ev F y = some (.pointer none)) : Yl P n F H (.binOp .eql t x y ty2) (.bool q.isNone) := fun _ w _ _ _ _ _ ha _ => by
  simp [execOp, ha.ev hx, ha.ev hy, eqGuard, binOp, eq_pn]
theorem y_sle [h1 : PUnd P t (.slice e)] (hx : ev F x = some (.slice q m c)) (hy : ev F y = some (.slice none 0 0)) : Yl P n F H (.binOp .eql t x y ty2) (.bool q.isNone) := fun _ w _ _ _ _ _ ha _ => by
  simp [execOp, ha.ev hx, ha.ev hy, eqGuard, binOp, eq_sn]
theorem y_sln [h1 : PUnd P t (.slice e)] (hx : ev F x = some (.slice q m c)) (hy : ev F y = some (.slice none 0 0)) : Yl P n F H (.binOp .neq t x y ty2) (.bool q.isSome) := fun _ w _ _ _ _ _ ha _ => by
  cases q <;> simp [execOp, ha.ev hx, ha.ev hy, eqGuard, binOp, eq_sn]
end
section
variable {ms : Array (String × TypeId)} {tx : TypeId} {vx : Value} {w : World}
theorem eq_iz [h1 : PUnd P t (.interface ms)] : (Op.equal t (.iface tx vx) .nilIface).run P w = .ok false w := run_equal (by rw [Op.equalIn]; simp [h1.h])
theorem eq_i0 [h1 : PUnd P t (.interface ms)] : (Op.equal t .nilIface .nilIface).run P w = .ok true w := run_equal (by rw [Op.equalIn]; simp [h1.h])
theorem y_inz [h1 : PUnd P t (.interface ms)] (hx : ev F x = some (.iface tx vx)) (hy : ev F y = some .nilIface) : Yl P n F H (.binOp .neq t x y ty2) (.bool true) := fun _ w _ _ _ _ _ ha _ => by
  simp [execOp, ha.ev hx, ha.ev hy, eqGuard, binOp, eq_iz]
theorem y_in0 [h1 : PUnd P t (.interface ms)] (hx : ev F x = some .nilIface) : Yl P n F H (.binOp .neq t x (.const .nilIface) ty2) (.bool false) := fun a w _ _ _ _ _ ha _ => by
  have hy : a.eval (.const .nilIface) = .nilIface := rfl
  simp [execOp, ha.ev hx, hy, eqGuard, binOp, eq_i0]
theorem y_iez [h1 : PUnd P t (.interface ms)] (hx : ev F x = some (.iface tx vx)) (hy : ev F y = some .nilIface) : Yl P n F H (.binOp .eql t x y ty2) (.bool false) := fun _ w _ _ _ _ _ ha _ => by
  simp [execOp, ha.ev hx, ha.ev hy, eqGuard, binOp, eq_iz]
theorem y_ie0 [h1 : PUnd P t (.interface ms)] (hx : ev F x = some .nilIface) : Yl P n F H (.binOp .eql t x (.const .nilIface) ty2) (.bool true) := fun a w _ _ _ _ _ ha _ => by
  have hy : a.eval (.const .nilIface) = .nilIface := rfl
  simp [execOp, ha.ev hx, hy, eqGuard, binOp, eq_i0]
end

/-! ### slices -/
section
variable {e : TypeId} {q : Option Addr} {p : Addr} {m c sz : Nat}
theorem y_len [h1 : PUnd P t (.slice e)] (hx : ev F x = some (.slice q m c)) : Yl P n F H (.call { callee := .builtin .len, args := #[x], argTypes := #[t] }) (.int .i64 m) := fun _ w _ _ _ _ _ ha _ => by
  simp [execOp, ha.ev hx, resolve, invoke, builtin, Builtin.len_, h1.h, goInt]
theorem y_max {x y : Operand} {ats : Array TypeId} (hx : ev F x = some (.int k a)) (hy : ev F y = some (.int k b)) : Yl P n F H (.call { callee := .builtin .max, args := #[x, y], argTypes := ats }) (.int k (max a b)) := fun _ w _ _ _ _ _ ha _ => by
  have : (if b > a then b else a) = max a b := by omega
  simp [execOp, ha.ev hx, ha.ev hy, resolve, invoke, builtin, Builtin.max_, Builtin.max2, this]
theorem y_min {x y : Operand} {ats : Array TypeId} (hx : ev F x = some (.int k a)) (hy : ev F y = some (.int k b)) : Yl P n F H (.call { callee := .builtin .min, args := #[x, y], argTypes := ats }) (.int k (min a b)) := fun _ w _ _ _ _ _ ha _ => by
  have : (if b < a then b else a) = min a b := by omega
  simp [execOp, ha.ev hx, ha.ev hy, resolve, invoke, builtin, Builtin.min_, Builtin.min2, this]
theorem y_idx [h1 : PUnd P t (.slice e)] [h2 : PSize P e sz] {i : Int} {o o' bl : Nat} (hx : ev F x = some (.slice (some ⟨bl, o, none⟩) m c)) (hy : ev F y = some (.int k i)) (h : 0 ≤ i ∧ i < m) (ho : o' = o + i.toNat * sz) :
    Yl P n F H (.indexAddr t x y) (.pointer (some ⟨bl, o', none⟩)) := fun _ w _ _ _ _ _ ha _ => by
  subst ho
  simp [execOp, ha.ev hx, ha.ev hy, Instr.indexAt, asIntOf, h1.h, h2.h, h.1, h.2, Addr.add_lit]
/-- an index of a slice of which the address is not written out -/
theorem y_idxp [h1 : PUnd P t (.slice e)] [h2 : PSize P e sz] {i : Int} {p' : Addr} (hx : ev F x = some (.slice (some p) m c)) (hy : ev F y = some (.int k i)) (h : 0 ≤ i ∧ i < m) (hp : p' = p.add (i.toNat * sz)) :
    Yl P n F H (.indexAddr t x y) (.pointer (some p')) := fun _ w _ _ _ _ _ ha _ => by
  subst hp
  simp [execOp, ha.ev hx, ha.ev hy, Instr.indexAt, asIntOf, h1.h, h2.h, h.1, h.2]
theorem add_zero' (q : Option Addr) (c sz : Nat) : (if c = 0 then q else q.map (·.add (0 * sz))) = q := by
  split
  · rfl
  · cases q <;> simp [Addr.add]
theorem y_cutlo [h1 : PUnd P t (.slice e)] [h2 : PSize P e sz] {i : Int} (hx : ev F x = some (.slice q m c)) (hy : ev F y = some (.int k i)) (h : 0 ≤ i ∧ i ≤ m) :
    Yl P n F H (.slice t x (some y) none none) (.slice (if c = i.toNat then q else q.map (·.add (i.toNat * sz))) (m - i.toNat) (c - i.toNat)) := fun _ w _ _ _ _ _ ha _ => by
  simp [execOp, ha.ev hx, ha.ev hy, Instr.sliceAt, Instr.slice, Instr.sliceBounds, Instr.sliceBound, asIntOf, h1.h, h2.h, h.1, h.2]
theorem y_cuthi [h1 : PUnd P t (.slice e)] [h2 : PSize P e sz] {i : Int} (hx : ev F x = some (.slice q m c)) (hy : ev F y = some (.int k i)) (h : 0 ≤ i ∧ i ≤ c) :
    Yl P n F H (.slice t x none (some y) none) (.slice q i.toNat c) := fun _ w _ _ _ _ _ ha _ => by
  have := add_zero' q c sz
  simp only [Nat.zero_mul] at this
  simp [execOp, ha.ev hx, ha.ev hy, Instr.sliceAt, Instr.slice, Instr.sliceBounds, Instr.sliceBound, asIntOf, h1.h, h2.h, h.1, h.2, this]
theorem y_cut [h1 : PUnd P t (.slice e)] [h2 : PSize P e sz] {z : Operand} {i j : Int} {k2 : IntKind} (hx : ev F x = some (.slice q m c)) (hy : ev F y = some (.int k i)) (hz : ev F z = some (.int k2 j)) (h : 0 ≤ i ∧ i ≤ j ∧ j ≤ c) :
    Yl P n F H (.slice t x (some y) (some z) none) (.slice (if c = i.toNat then q else q.map (·.add (i.toNat * sz))) (j.toNat - i.toNat) (c - i.toNat)) := fun _ w _ _ _ _ _ ha _ => by
  obtain ⟨jn, rfl⟩ := Int.eq_ofNat_of_zero_le (show 0 ≤ j by omega)
  have h4 := h.2.1
  have h7 := Int.ofNat_le.1 h.2.2
  simp [execOp, ha.ev hx, ha.ev hy, ha.ev hz, Instr.sliceAt, Instr.slice, Instr.sliceBounds, Instr.sliceBound, asIntOf, h1.h, h2.h, h.1, h7, h4]
theorem y_cut3 [h1 : PUnd P t (.slice e)] [h2 : PSize P e sz] {z : Operand} {i j : Int} {k2 : IntKind} (hx : ev F x = some (.slice q m c)) (hy : ev F y = some (.int k i)) (hz : ev F z = some (.int k2 j)) (h : 0 ≤ i ∧ i ≤ j ∧ j ≤ c) :
    Yl P n F H (.slice t x none (some y) (some z)) (.slice q i.toNat j.toNat) := fun _ w _ _ _ _ _ ha _ => by
  obtain ⟨jn, rfl⟩ := Int.eq_ofNat_of_zero_le (show 0 ≤ j by omega)
  have h4 := h.2.1
  have h7 := Int.ofNat_le.1 h.2.2
  have := add_zero' q jn sz
  simp only [Nat.zero_mul] at this
  simp [execOp, ha.ev hx, ha.ev hy, ha.ev hz, Instr.sliceAt, Instr.slice, Instr.sliceBounds, Instr.sliceBound, asIntOf, h1.h, h2.h, h.1, h7, h4, this]
theorem str_extract (l : List UInt8) (i j : Nat) : (ByteArray.mk l.toArray).extract i j = ⟨((l.take j).drop i).toArray⟩ := str_ext (by simp [ByteArray.data_extract, List.drop_take])
theorem y_scutlo [h1 : PUnd P t .string] {l : List UInt8} {i : Int} (hx : ev F x = some (str l)) (hy : ev F y = some (.int k i)) (h : 0 ≤ i ∧ i ≤ l.length) :
    Yl P n F H (.slice t x (some y) none none) (str (l.drop i.toNat)) := fun _ w _ _ _ _ _ ha _ => by
  have e1 := str_extract l i.toNat l.length
  rw [List.take_length] at e1
  simp [execOp, ha.ev hx, ha.ev hy, Instr.sliceAt, Instr.slice, Instr.sliceBounds, Instr.sliceBound, asIntOf, h1.h, h.1, h.2, str_size, e1]
theorem y_scuthi [h1 : PUnd P t .string] {l : List UInt8} {i : Int} (hx : ev F x = some (str l)) (hy : ev F y = some (.int k i)) (h : 0 ≤ i ∧ i ≤ l.length) :
    Yl P n F H (.slice t x none (some y) none) (str (l.take i.toNat)) := fun _ w _ _ _ _ _ ha _ => by
  have e1 := str_extract l 0 i.toNat
  rw [List.drop_zero] at e1
  simp [execOp, ha.ev hx, ha.ev hy, Instr.sliceAt, Instr.slice, Instr.sliceBounds, Instr.sliceBound, asIntOf, h1.h, h.1, h.2, str_size, e1]
theorem y_scut [h1 : PUnd P t .string] {l : List UInt8} {z : Operand} {i j : Int} {k2 : IntKind} (hx : ev F x = some (str l)) (hy : ev F y = some (.int k i)) (hz : ev F z = some (.int k2 j)) (h : 0 ≤ i ∧ i ≤ j ∧ j ≤ l.length) :
    Yl P n F H (.slice t x (some y) (some z) none) (str ((l.take j.toNat).drop i.toNat)) := fun _ w _ _ _ _ _ ha _ => by
  obtain ⟨jn, rfl⟩ := Int.eq_ofNat_of_zero_le (show 0 ≤ j by omega)
  have h4 := h.2.1
  have h7 := Int.ofNat_le.1 h.2.2
  have e1 := str_extract l i.toNat jn
  simp [execOp, ha.ev hx, ha.ev hy, ha.ev hz, Instr.sliceAt, Instr.slice, Instr.sliceBounds, Instr.sliceBound, asIntOf, h1.h, h.1, h7, h4, str_size, e1]
end

theorem y_func {fn : Go.Fn} {first cap : Array Operand} {fs cs : List Value} (h1 : evs F first.toList = some fs) (h2 : evs F cap.toList = some cs) : Yl P n F H (.makeFunc fn first cap) (.func fn fs.toArray cs.toArray) := fun a w _ _ _ _ _ ha _ => by
  have e1 := ha.evs h1
  have e2 := ha.evs h2
  have f1 : first.map a.eval = fs.toArray := Array.toList_inj.1 (by simp [e1])
  have f2 : cap.map a.eval = cs.toArray := Array.toList_inj.1 (by simp [e2])
  simp only [execOp, Instr.makeFunc]
  rw [f1, f2]; rfl

def evp (F : Fr) : List (Nat × Operand) → Option (List (Nat × Value))
  | [] => some []
  | (i, x) :: xs => match ev F x, evp F xs with
    | some v, some vs => some ((i, v) :: vs)
    | _, _ => none
theorem FrOk.evp {a : Act} (ha : FrOk n F a) : ∀ {ps : List (Nat × Operand)} {vs : List (Nat × Value)}, evp F ps = some vs → ps.map (fun p => (p.1, a.eval p.2)) = vs
  | [], vs, h => by simpa [Go.Proofs.YtlkgdidmhmaneaaGreatDoor.evp] using h
  | (i, x) :: xs, vs, h => by
    simp only [Go.Proofs.YtlkgdidmhmaneaaGreatDoor.evp] at h
    split at h
    · rename_i v vs' h1 h2
      simp only [Option.some.injEq] at h
      subst h
      simp [ha.ev h1, ha.evp h2]
    · cases h
theorem y_build {parts : Array (Nat × Operand)} {ps : List (Nat × Value)} {zero cs : List Value} {offs : List (Nat × Nat)} [hb : PBuild P t zero offs] (h1 : evp F parts.toList = some ps) (h2 : buildL offs zero ps = some cs) : Yl P n F H (.build t parts) (.agg cs.toArray) := fun a w _ _ _ _ _ ha _ => by
  have e1 := ha.evp h1
  have e2 : parts.map (fun x : Nat × Operand => (x.1, a.eval x.2)) = ps.toArray := Array.toList_inj.1 (by simp [e1])
  have e3 := hb.h ps.toArray cs.toArray w (buildL_fill offs ps zero cs h2)
  simp only [execOp]
  rw [e2]
  simp [e3]
end
end Go.Proofs.YtlkgdidmhmaneaaGreatDoor
/- The engine, part 3: the steps: operations, stores, new blocks, calls, ends, regions that draw their order. -/
namespace Go.Proofs.YtlkgdidmhmaneaaGreatDoor
open Go Go.RowKit

section
variable {P : Program} {Q : Exit → Act → World → Prop} {G : Ctx} {F : Fr} {H : List Ast} {ops : Array Oper} {rest : List Oper}
variable {d : Nat} {op : Op} {ty : TypeId} {pos : String} {aft : Array Edge}

/-- an operation that yields v. -/
theorem o_y {v : Value} (hy : Yl P G.n F H op v) (hd : Nat.ble (d + 1) G.n = true) (k : OG P ops Q G rest ((d, v) :: F) H) : OG P ops Q G (⟨some d, op, ty, pos, aft, none⟩ :: rest) F H := by
  intro a w ha hw
  refine wpList_plain rfl fun K hK => ?_
  unfold Oper.wp
  rw [hy a w _ _ _ _ _ ha hw.held]
  exact hK _ _ (k _ _ (ha.put hd v) hw)
theorem o_nil (k : EG Q .normal G F H) : OG P ops Q G [] F H := fun a w ha hw => wpList_nil (k a w ha hw)

theorem wanted_of {j dj : Nat} {b : Bool} {oj : Oper} {a : Act} {o : Oper} {n : Nat} (hg : o.guard = some (j, b)) (hj : ops[j]? = some oj) (hdj : oj.dst = some dj) (hv : look F dj = some (.bool b)) (ha : FrOk n F a) : Region.wanted o (yielded ops a.tmps) = true := by
  simp only [Region.wanted, hg, yielded, hj, Option.bind_some, hdj, ha.slot dj _ hv]
  cases b <;> rfl
/-- a guarded operation that is not wanted. -/
theorem o_skip {j dj : Nat} {b b' : Bool} {oj : Oper} (hj : ops[j]? = some oj) (hdj : oj.dst = some dj) (hv : look F dj = some (.bool b)) (hne : b' = !b) (hd : Nat.ble (d + 1) G.n = true) (k : OG P ops Q G rest ((d, undef) :: F) H) :
    OG P ops Q G (⟨some d, op, ty, pos, aft, some (j, b')⟩ :: rest) F H := by
  intro a w ha hw
  refine wpList_skip ?_ (k _ _ (ha.put hd undef) hw)
  subst hne
  simp only [Region.wanted, yielded, hj, Option.bind_some, hdj, ha.slot dj _ hv]
  cases b <;> rfl
/-- a guarded operation that is wanted: as if it had no guard. -/
theorem o_ungd {dst : Option Tmp} {j dj : Nat} {b : Bool} {oj : Oper} (hj : ops[j]? = some oj) (hdj : oj.dst = some dj) (hv : look F dj = some (.bool b)) (k : OG P ops Q G (⟨dst, op, ty, pos, aft, none⟩ :: rest) F H) : OG P ops Q G (⟨dst, op, ty, pos, aft, some (j, b)⟩ :: rest) F H := by
  intro a w ha hw
  have h := k a w ha hw
  unfold wpList at h ⊢
  rw [if_pos (show Region.wanted (⟨dst, op, ty, pos, aft, none⟩ : Oper) (yielded ops a.tmps) = true from rfl)] at h
  rw [if_pos (wanted_of rfl hj hdj hv ha)]
  exact h
/-- a guarded operation that is wanted. -/
theorem o_want {j dj : Nat} {b : Bool} {oj : Oper} {v : Value} (hj : ops[j]? = some oj) (hdj : oj.dst = some dj) (hv : look F dj = some (.bool b)) (hy : Yl P G.n F H op v) (hd : Nat.ble (d + 1) G.n = true) (k : OG P ops Q G rest ((d, v) :: F) H) :
    OG P ops Q G (⟨some d, op, ty, pos, aft, some (j, b)⟩ :: rest) F H := by
  intro a w ha hw
  refine wpList_step fun K hK => ?_
  rw [if_pos (wanted_of rfl hj hdj hv ha)]
  unfold Oper.wp
  rw [hy a w _ _ _ _ _ ha hw.held]
  exact hK _ _ (k _ _ (ha.put hd v) hw)

/-! ### new blocks -/
theorem Good.alloc {w : World} (hw : Good G H w) (t : TypeId) (cs : List Value) : Good G (blk w.heap.size t cs (0, 0) :: H) (w.alloc (.cells cs.toArray t)) := by
  obtain ⟨M, T, h1, h2, h3, h4, h5⟩ := hw
  have hold : ∀ k, k < w.heap.size → (w.alloc (.cells cs.toArray t)).heap[k]? = w.heap[k]? := fun k hk => Below.heap_alloc _ _ _ hk
  refine ⟨fun k => M k ∨ k = w.heap.size, T, ?_, ?_, ?_, ?_, ?_⟩
  · refine (SepL.cons_own rfl).2 ⟨fun k => k = w.heap.size, fun k hk => .inr hk, ⟨rfl, heap_alloc_new w _⟩, ?_⟩
    refine SepL.mono (M := M) (T := T) (fun k hk => ⟨.inl hk, fun e => by have := (h3 k hk).1; omega⟩) (fun _ hk => hk) ?_
    exact SepL.loc (fun k hk => hold k (h3 k hk).1) (fun k hk => hold k (h4 k hk).1) h1
  · rintro k (hk | rfl) ht
    · exact h2 k hk ht
    · have := (h4 _ ht).1; omega
  · rintro k (hk | rfl)
    · exact ⟨by simp; have := (h3 k hk).1; omega, (h3 k hk).2⟩
    · exact ⟨by simp, .inr h5.size⟩
  · intro k hk
    exact ⟨by simp; have := (h4 k hk).1; omega, (h4 k hk).2⟩
  · refine h5.trans (M1 := fun _ => False) ⟨rfl, rfl, rfl, by simp, fun k hk _ => hold k hk⟩ (fun _ h => h.elim)

theorem og_new {v : Nat → Value} {t : TypeId} {cs : List Value} (h : ∀ a w, FrOk G.n F a → Held H w → (execOp a.eval ⟨some d, op, ty, pos, aft, none⟩).run P w = .ok (.value (v w.heap.size)) (w.alloc (.cells cs.toArray t)))
    (hd : Nat.ble (d + 1) G.n = true) (k : ∀ b, OG P ops Q G rest ((d, v b) :: F) (blk b t cs (0, 0) :: H)) : OG P ops Q G (⟨some d, op, ty, pos, aft, none⟩ :: rest) F H := by
  intro a w ha hw
  refine wpList_plain rfl fun K hK => ?_
  unfold Oper.wp
  rw [h a w ha hw.held]
  exact hK _ _ (k _ _ _ (ha.put hd _) (hw.alloc t cs))

theorem o_alloc {t : TypeId} {cs : List Value} [hz : PZero P t cs] (hd : Nat.ble (d + 1) G.n = true := by rfl) (k : ∀ b, OG P ops Q G rest ((d, .pointer (some ⟨b, 0, none⟩)) :: F) (blk b t cs (0, 0) :: H)) :
    OG P ops Q G (⟨some d, .alloc t, ty, pos, aft, none⟩ :: rest) F H :=
  og_new (v := fun b => .pointer (some ⟨b, 0, none⟩)) (fun a w _ _ => by
    obtain ⟨z, h1, h2⟩ := hz.h w
    simp [execOp, Instr.alloc, h1, newVar, newRow, h2]) hd k

def copyL : List Value → Option (List Value)
  | [] => some []
  | v :: vs => match copyL vs with
    | some us => some (v :: us)
    | none => none
theorem copyL_spec : ∀ {vs us : List Value}, copyL vs = some us → us = vs
  | [], us, h => by simpa [copyL] using h.symm
  | v :: vs, us, h => by
    simp only [copyL] at h
    split at h
    · rename_i us' h'
      simp only [Option.some.injEq] at h
      rw [← h, copyL_spec h']
    · cases h

theorem o_box {t : TypeId} {x : Operand} {v : Value} {us : List Value} (hx : ev F x = some v := by rfl) (hu : copyL (cellsL v) = some us := by rfl) (hd : Nat.ble (d + 1) G.n = true := by rfl) (k : ∀ b, OG P ops Q G rest ((d, .pointer (some ⟨b, 0, none⟩)) :: F) (blk b t us (0, 0) :: H)) :
    OG P ops Q G (⟨some d, .box t x, ty, pos, aft, none⟩ :: rest) F H :=
  og_new (v := fun b => .pointer (some ⟨b, 0, none⟩)) (fun a w ha _ => by
    have := copyL_spec hu
    simp [execOp, Instr.box, ha.ev hx, newVar, newRow, cellsL_spec, this]) hd k

/-! ### stores -/
theorem setMany_eq : ∀ {us cs ds : List Value} {o : Nat}, setMany cs o us = some ds → (us = [] ∨ o + us.length ≤ cs.length) ∧ ds = (if us = [] then cs else cs.take o ++ us ++ cs.drop (o + us.length))
  | [], cs, ds, o, h => by simp only [setMany, Option.some.injEq] at h; subst h; simp
  | v :: vs, cs, ds, o, h => by
    simp only [setMany] at h
    split at h
    · rename_i es h'
      obtain ⟨h1, h2⟩ := setAt_spec cs o v es h'
      obtain ⟨g1, g2⟩ := setMany_eq h
      have hlen : es.length = cs.length := by rw [h2]; simp
      have htake : es.take (o + 1) = cs.take o ++ [v] := by
        rw [h2, List.take_set, List.take_succ_eq_append_getElem h1, List.set_append_right _ _ (by simp; omega)]
        simp [Nat.min_eq_left (Nat.le_of_lt h1)]
      refine ⟨.inr ?_, ?_⟩
      · rcases g1 with g1 | g1
        · subst g1; simp; omega
        · simp only [List.length_cons]; omega
      · rw [g2]
        simp only [reduceCtorEq, if_false, List.length_cons]
        by_cases hv : vs = []
        · subst hv
          simp only [if_true, List.length_nil]
          rw [h2, List.set_eq_take_append_cons_drop, if_pos h1]
          simp
        · rw [if_neg hv, htake, h2, List.drop_set_of_lt (by omega)]
          simp only [List.append_assoc, List.cons_append, List.nil_append]
          rw [show o + 1 + vs.length = o + (vs.length + 1) from by omega]
    · cases h

def allOne : List Value → Bool
  | [] => true
  | v :: vs => v.oneCell' && allOne vs
theorem allOne_spec : ∀ {vs : List Value}, allOne vs = true → ∀ v ∈ vs, v.oneCell' = true
  | [], _, v, hv => by cases hv
  | u :: us, h, v, hv => by
    simp only [allOne, Bool.and_eq_true] at h
    rcases List.mem_cons.1 hv with rfl | hv
    · exact h.1
    · exact allOne_spec h.2 v hv

theorem Good.setRow {w : World} {b : Nat} {t : TypeId} {cs : List Value} {H1 : List Ast} (hw : Good G (blk b t cs (0, 0) :: H1) w) (ds : List Value) : Good G (blk b t ds (0, 0) :: H1) (w.setRow b ds.toArray) := by
  obtain ⟨M, T, h1, h2, h3, h4, h5⟩ := hw
  obtain ⟨S, g1, g2, g3⟩ := (SepL.cons_own rfl).1 h1
  have hne : ∀ k, k ≠ b → (w.setRow b ds.toArray).heap[k]? = w.heap[k]? := fun k hk => setRow_other w b k _ hk
  have hb := h3 b (g1 b g2.1)
  have hsz : (w.setRow b ds.toArray).heap.size = w.heap.size := by simp [World.setRow]
  refine ⟨M, T, ?_, h2, fun k hk => by rw [hsz]; exact h3 k hk, fun k hk => by rw [hsz]; exact h4 k hk, ?_⟩
  · refine (SepL.cons_own rfl).2 ⟨S, g1, ⟨g2.1, setRow_heap w b cs.toArray ds.toArray t (0, 0) g2.2⟩, ?_⟩
    exact SepL.loc (fun k hk => hne k (fun e => hk.2 (e ▸ g2.1))) (fun k hk => hne k (fun e => h2 b (g1 b g2.1) (e ▸ hk))) g3
  · refine h5.trans (M1 := fun k => k = b) ⟨rfl, rfl, rfl, by rw [hsz]; exact Nat.le_refl _, fun k _ hk => hne k hk⟩ ?_
    rintro k rfl hlt
    exact hb.2.resolve_right (by omega)

theorem Good.blk_heap {w : World} {b : Nat} {t : TypeId} {cs : List Value} {fz : Nat × Nat} {H1 : List Ast} (hw : Good G (blk b t cs fz :: H1) w) : w.heap[b]? = some (.cells cs.toArray t fz) := BlkIn.here w hw.held

theorem World.setRow_self {w : World} {b : Nat} {t : TypeId} {cs : Array Value} {fz : Nat × Nat} (h : w.heap[b]? = some (.cells cs t fz)) : w.setRow b cs = w := by
  have : (w.setRow b cs).heap = w.heap := by
    apply Array.ext_getElem?
    intro i
    by_cases e : i = b
    · subst e; rw [h]; exact setRow_heap w i cs cs t fz h
    · exact setRow_other w b i _ e
  show { w with heap := (w.setRow b cs).heap } = w
  rw [this]

theorem o_store {t t' : TypeId} {x y : Operand} {b o m : Nat} {v : Value} {cs ds us : List Value} {H1 : List Ast} [hs : PSize P t m] (hx : ev F x = some (.pointer (some ⟨b, o, none⟩)) := by rfl) (hy : ev F y = some v := by rfl)
    (ht : TakeA H (blk b t' cs (0, 0)) H1 := by repeat (first | exact TakeA.here | apply TakeA.there)) (hu : copyL (cellsL v) = some us := by rfl) (hl : us.length = m := by rfl) (h1 : allOne us = true := by rfl) (hm : setMany cs o us = some ds := by rfl) (k : OG P ops Q G rest F (blk b t' ds (0, 0) :: H1)) :
    OG P ops Q G (⟨none, .store t x y, ty, pos, aft, none⟩ :: rest) F H := by
  intro a w ha hw
  have hw' := hw.take ht
  have hb := hw'.blk_heap
  have hcl := copyL_spec hu
  obtain ⟨g1, g2⟩ := setMany_eq hm
  refine wpList_plain rfl fun K hK => ?_
  unfold Oper.wp
  have hrun : (execOp a.eval ⟨none, .store t x y, ty, pos, aft, none⟩).run P w = .ok .skip (w.setRow b ds.toArray) := by
    by_cases hnil : us = []
    · have hds : ds = cs := by rw [g2, if_pos hnil]
      have hm0 : m = 0 := by rw [← hl, hnil]; rfl
      have hvc : v.cells = #[] := by rw [cellsL_spec, ← hcl, hnil]
      rw [hds, World.setRow_self hb]
      simp [execOp, ha.ev hx, ha.ev hy, Instr.storeAt, Instr.sureAddr, storeVar, hs.h, hvc, hm0, storeCells]
    · have hfit : o + us.length ≤ cs.length := g1.resolve_left hnil
      have hst := run_storeCells_at P b o t' us 0 cs.toArray w hb (by simpa using hfit) (allOne_spec h1)
      rw [if_neg hnil] at g2
      simp only [Nat.add_zero] at hst
      have hsz : v.cells.size = m := by rw [cellsL_spec, ← hcl]; simpa using hl
      have hvl : v.cells.toList = us := by rw [cellsL_spec, ← hcl]
      simp [execOp, ha.ev hx, ha.ev hy, Instr.storeAt, Instr.sureAddr, storeVar, hs.h, hsz, hvl, hst, g2]
  rw [hrun]
  exact hK _ _ (k _ _ ha (hw'.setRow ds))

/-! ### calls -/
theorem Good.call {w w' : World} {Hf H' : List Ast} {S T : Nat → Prop} {m : Nat} {M : Nat → Prop} (h0 : SepL Hf (fun k => M k ∧ ¬ S k) T w) (hS : ∀ k, S k → M k) (h2 : ∀ k, M k → ¬ T k) (h3 : ∀ k, M k → k < w.heap.size ∧ (G.M0 k ∨ G.w0.heap.size ≤ k))
    (h4 : ∀ k, T k → k < w.heap.size ∧ (G.T0 k ∨ G.M0 k ∨ G.w0.heap.size ≤ k)) (h5 : Keep G.w0 w G.M0) (hg : Good ⟨w, S, T, m⟩ H' w') : Good G (H' ++ Hf) w' := by
  obtain ⟨M', T', g1, g2, g3, g4, g5⟩ := hg
  simp only at g3 g4 g5
  have hkeep : ∀ k, k < w.heap.size → ¬ S k → w'.heap[k]? = w.heap[k]? := g5.block
  refine ⟨fun k => M' k ∨ (M k ∧ ¬ S k), fun k => T' k ∨ T k, ?_, ?_, ?_, ?_, ?_⟩
  · refine SepL.append_join (S := M') (fun k hk => .inl hk) (SepL.mono (fun _ hk => hk) (fun k hk => .inl hk) g1) ?_
    have hf : SepL Hf (fun k => M k ∧ ¬ S k) T w' := SepL.loc (fun k hk => hkeep k (h3 k hk.1).1 hk.2) (fun k hk => hkeep k (h4 k hk).1 (fun hs => h2 k (hS k hs) hk)) h0
    refine SepL.mono (fun k hk => ⟨.inr hk, fun hm => ?_⟩) (fun k hk => .inr hk) hf
    rcases (g3 k hm).2 with h | h
    · exact hk.2 h
    · have := (h3 k hk.1).1; omega
  · rintro k (hk | hk) (ht | ht)
    · exact g2 k hk ht
    · rcases (g3 k hk).2 with h | h
      · exact h2 k (hS k h) ht
      · have := (h4 k ht).1; omega
    · rcases (g4 k ht).2 with h | h | h
      · exact h2 k hk.1 h
      · exact hk.2 h
      · have := (h3 k hk.1).1; omega
    · exact h2 k hk.1 ht
  · rintro k (hk | hk)
    · refine ⟨(g3 k hk).1, ?_⟩
      rcases (g3 k hk).2 with h | h
      · exact (h3 k (hS k h)).2
      · exact .inr (Nat.le_trans h5.size h)
    · exact ⟨Nat.lt_of_lt_of_le (h3 k hk.1).1 g5.size, (h3 k hk.1).2⟩
  · rintro k (hk | hk)
    · refine ⟨(g4 k hk).1, ?_⟩
      rcases (g4 k hk).2 with h | h | h
      · exact (h4 k h).2
      · rcases (h3 k (hS k h)).2 with h | h
        · exact .inr (.inl h)
        · exact .inr (.inr h)
      · exact .inr (.inr (Nat.le_trans h5.size h))
    · exact ⟨Nat.lt_of_lt_of_le (h4 k hk).1 g5.size, (h4 k hk).2⟩
  · exact h5.trans g5 (fun k hk hlt => (h3 k (hS k hk)).2.resolve_right (by omega))

/-- A call by its contract. -/
theorem calls_ct {f : FuncId} {vs : List Value} {H0 Hf : List Ast} {R : Ending → List Ast → Prop} (hc : Ct P f vs H0 R) {w : World} (hw : Good G (H0 ++ Hf) w) :
    Calls P f vs.toArray w fun e w' => ∃ H', R e H' ∧ Good G (H' ++ Hf) w' := by
  obtain ⟨M, T, h1, h2, h3, h4, h5⟩ := hw
  obtain ⟨S, g1, g2, g3⟩ := SepL.append_split h1
  refine (hc w S T 0 g2 (fun k hk => h2 k (g1 k hk)) (fun k hk => (h3 k (g1 k hk)).1) (fun k hk => (h4 k hk).1)).mono ?_
  rintro e w' ⟨H', hR, hg⟩
  exact ⟨H', hR, Good.call g3 g1 h2 h3 h4 h5 hg⟩

theorem run_call {a : Act} {w : World} {f : FuncId} [he : PEnter P f] {x : Operand} {args : Array Operand} {ats : Array TypeId} {first cap vs : List Value} {dst : Option Tmp} {g : Option (Nat × Bool)} (ha : FrOk G.n F a)
    (hx : ev F x = some (.func (.func f) first.toArray cap.toArray)) (hv : evs F args.toList = some vs) :
    (execOp a.eval ⟨dst, .call ⟨.value x, args, ats⟩, ty, pos, aft, g⟩).run P w = .ok (.enter f (first ++ vs ++ cap).toArray) w := by
  have e1 := ha.evs hv
  have e2 : args.map a.eval = vs.toArray := Array.toList_inj.1 (by simp [e1])
  simp [execOp, resolve, ha.ev hx, Deferred.ofValue, invoke, e2, he.h]

theorem o_call {f : FuncId} {x : Operand} {args : Array Operand} {ats : Array TypeId} {vs : List Value} {H0 Hf : List Ast} {T : Value → List Ast → Prop} [PEnter P f] (hc : Ct P f vs H0 (Ret T)) (hx : ev F x = some (.func (.func f) #[] #[]) := by rfl) (hv : evs F args.toList = some vs := by rfl)
    (hs : SplitA H H0 Hf := by (repeat (apply SplitA.cons; (repeat (first | exact TakeA.keepI | exact TakeA.here | apply TakeA.there)))); exact SplitA.nil) (hd : Nat.ble (d + 1) G.n = true := by rfl) (k : ∀ v H', T v H' → OG P ops Q G rest ((d, v) :: F) (H' ++ Hf)) :
    OG P ops Q G (⟨some d, .call ⟨.value x, args, ats⟩, ty, pos, aft, none⟩ :: rest) F H := by
  intro a w ha hw
  refine wpList_plain rfl fun K hK => ?_
  unfold Oper.wp
  rw [run_call (first := []) (cap := []) ha hx hv]
  simp only [List.nil_append, List.append_nil]
  refine (calls_ct hc (hw.split hs)).mono ?_
  rintro e w' ⟨H', ⟨v, rfl, hT⟩, hg⟩
  exact hK _ _ (k v H' hT _ _ (ha.put hd v) hg)
/-- a call of a function value. -/
theorem o_callv {f : FuncId} {x : Operand} {args : Array Operand} {ats : Array TypeId} {first cap vs : List Value} {H0 Hf : List Ast} {T : Value → List Ast → Prop} [PEnter P f] (hx : ev F x = some (.func (.func f) first.toArray cap.toArray)) (hv : evs F args.toList = some vs) (hc : Ct P f (first ++ vs ++ cap) H0 (Ret T))
    (hs : SplitA H H0 Hf) (hd : Nat.ble (d + 1) G.n = true := by rfl) (k : ∀ v H', T v H' → OG P ops Q G rest ((d, v) :: F) (H' ++ Hf)) :
    OG P ops Q G (⟨some d, .call ⟨.value x, args, ats⟩, ty, pos, aft, none⟩ :: rest) F H := by
  intro a w ha hw
  refine wpList_plain rfl fun K hK => ?_
  unfold Oper.wp
  rw [run_call (first := first) (cap := cap) ha hx hv]
  refine (calls_ct hc (hw.split hs)).mono ?_
  rintro e w' ⟨H', ⟨v, rfl, hT⟩, hg⟩
  exact hK _ _ (k v H' hT _ _ (ha.put hd v) hg)

/-! ### the end of a function -/
/-- H holds H', and what else there is. -/
def SubA (H H' : List Ast) : Prop := ∃ Hf, SplitA H H' Hf
theorem SubA.mk {H H' Hf : List Ast} (h : SplitA H H' Hf) : SubA H H' := ⟨Hf, h⟩
def ResOk (P : Program) (n : Nat) (F : Fr) (H : List Ast) (r : ResultVar) (v : Value) : Prop := ∀ a w, FrOk n F a → Held H w →
  (match r with | .tmp t => (pure (a.tmps.getD t undef) : Sem Value) | .cell c t => do loadVar t (← asAddr (a.tmps.getD c undef))).run P w = .ok v w
theorem rs_tmp {n t : Nat} {v : Value} (h : look F t = some v) (ht : Nat.beq t 999999 = false := by rfl) : ResOk P n F H (.tmp t) v := fun a w ha _ => by
  simp [ha.slotT t v h ht]
theorem rs_one {n c : Nat} {t : TypeId} {p : Addr} {v : Value} [hg : PAgg P t false] (h : look F c = some (.pointer (some p))) (hc : CellIn H p v) : ResOk P n F H (.cell c t) v := fun a w ha hw => by
  simp [ha.slot c _ h, asAddr, loadVar, hg.h, hc w hw]
theorem rs_agg {n c m : Nat} {t : TypeId} {p : Addr} {us : List Value} [hg : PAgg P t true] [hs : PSize P t m] (h : look F c = some (.pointer (some p))) (hc : CellsIn H p us) (hl : us.length = m) : ResOk P n F H (.cell c t) (.agg us.toArray) := fun a w ha hw => by
  have h1 := run_loadCells_of (P := P) (hc w hw)
  rw [hl] at h1
  simp [ha.slot c _ h, asAddr, loadVar, hg.h, hs.h, h1]

section
variable {fn : Func} {R : Ending → List Ast → Prop} {r1 r2 r3 : ResultVar} {v1 v2 v3 : Value} {H' : List Ast}
theorem e_end {v : Value} (h : ∀ a w, FrOk G.n F a → Held H w → (results fn a.tmps).run P w = .ok v w) (hR : R (.returned v) H') (hs : SubA H H') (hk0 : look F 999999 = none := by rfl) : EG (bodyPost P fn (Post G R)) .ret G F H :=
  fun a w ha hw => ⟨ha.defers.trans (dfs_none hk0), v, h a w ha hw.held, H', hR, let ⟨_, hs⟩ := hs; hw.drop hs⟩
theorem e_norm (h : EG (bodyPost P fn (Post G R)) .ret G F H) : EG (bodyPost P fn (Post G R)) .normal G F H := h
variable {T : Value → List Ast → Prop}
theorem e_0 (hr : fn.results = #[] := by rfl) (hT : T (.tuple #[]) H') (hs : SubA H H' := by apply SubA.mk; (repeat (apply SplitA.cons; (repeat (first | exact TakeA.keepI | exact TakeA.here | apply TakeA.there)))); exact SplitA.nil) (hk0 : look F 999999 = none := by rfl) : EG (bodyPost P fn (Post G (Ret T))) .ret G F H :=
  e_end (fun a w _ _ => by simp [results, hr]) ⟨_, rfl, hT⟩ hs hk0
theorem e_1 (hr : fn.results = #[r1] := by rfl) (h1 : ResOk P G.n F H r1 v1) (hT : T v1 H') (hs : SubA H H' := by apply SubA.mk; (repeat (apply SplitA.cons; (repeat (first | exact TakeA.keepI | exact TakeA.here | apply TakeA.there)))); exact SplitA.nil) (hk0 : look F 999999 = none := by rfl) : EG (bodyPost P fn (Post G (Ret T))) .ret G F H :=
  e_end (fun a w ha hw => by
    have e1 := h1 a w ha hw
    simp only [results, hr, List.mapM_toArray, List.mapM_cons, List.mapM_nil, Sem.run_bind, Sem.run_map]
    cases r1 <;> simp_all) ⟨_, rfl, hT⟩ hs hk0
theorem e_2 (hr : fn.results = #[r1, r2] := by rfl) (h1 : ResOk P G.n F H r1 v1) (h2 : ResOk P G.n F H r2 v2) (hT : T (.tuple #[v1, v2]) H') (hs : SubA H H' := by apply SubA.mk; (repeat (apply SplitA.cons; (repeat (first | exact TakeA.keepI | exact TakeA.here | apply TakeA.there)))); exact SplitA.nil) (hk0 : look F 999999 = none := by rfl) : EG (bodyPost P fn (Post G (Ret T))) .ret G F H :=
  e_end (fun a w ha hw => by
    have e1 := h1 a w ha hw
    have e2 := h2 a w ha hw
    simp only [results, hr, List.mapM_toArray, List.mapM_cons, List.mapM_nil, Sem.run_bind, Sem.run_map]
    cases r1 <;> cases r2 <;> simp_all) ⟨_, rfl, hT⟩ hs hk0
theorem e_3 (hr : fn.results = #[r1, r2, r3] := by rfl) (h1 : ResOk P G.n F H r1 v1) (h2 : ResOk P G.n F H r2 v2) (h3 : ResOk P G.n F H r3 v3) (hT : T (.tuple #[v1, v2, v3]) H') (hs : SubA H H' := by apply SubA.mk; (repeat (apply SplitA.cons; (repeat (first | exact TakeA.keepI | exact TakeA.here | apply TakeA.there)))); exact SplitA.nil) (hk0 : look F 999999 = none := by rfl) : EG (bodyPost P fn (Post G (Ret T))) .ret G F H :=
  e_end (fun a w ha hw => by
    have e1 := h1 a w ha hw
    have e2 := h2 a w ha hw
    have e3 := h3 a w ha hw
    simp only [results, hr, List.mapM_toArray, List.mapM_cons, List.mapM_nil, Sem.run_bind, Sem.run_map]
    cases r1 <;> cases r2 <;> cases r3 <;> simp_all) ⟨_, rfl, hT⟩ hs hk0
end

/-! ### regions that draw their order -/
theorem Good.drew {w : World} (h : Good G H w) : Good G H { w with drawn := w.drawn + 1 } := by
  obtain ⟨M, T, h1, h2, h3, h4, h5⟩ := h
  exact ⟨M, T, SepL.loc (w := w) (fun _ _ => rfl) (fun _ _ => rfl) h1, h2, h3, h4, ⟨h5.os, h5.tape, h5.output, h5.size, h5.block⟩⟩

/-- The operations before the tail, in the text's order. -/
def SG (P : Program) (ops : Array Oper) (Q : Exit → Act → World → Prop) (G : Ctx) (tail : List Oper) (l : List Oper) (F : Fr) (H : List Ast) : Prop :=
  ∀ a w, FrOk G.n F a → Good G H w → wpStill P ops w (fun a' => wpList P ops Q tail a' w) l a
theorem c_still {id : Nat} {l : List Oper} (m : Nat) [hm : PWide P] (hB : Region.lexTailB .any l.toArray m = true) (h : SG P l.toArray Q G (l.drop m) (l.take m) F H) : CG P (.region id l.toArray true) Q G F H :=
  fun a _ ha hw => wp_region_still_tail m hm.h hB (h a _ ha hw.drew)
theorem s_y {tail : List Oper} {v : Value} (hy : Yl P G.n F H op v) (hd : Nat.ble (d + 1) G.n = true) (k : SG P ops Q G tail rest ((d, v) :: F) H) : SG P ops Q G tail (⟨some d, op, ty, pos, aft, none⟩ :: rest) F H := by
  intro a w ha hw
  refine wpStill_step fun K hK => ?_
  rw [if_pos (show Region.wanted (⟨some d, op, ty, pos, aft, none⟩ : Oper) (yielded ops a.tmps) = true from rfl)]
  unfold Oper.still
  rw [hy a w _ _ _ _ _ ha hw.held, Oper.stillUpon_value]
  exact hK _ (k _ _ (ha.put hd v) hw)
theorem s_want {tail : List Oper} {j dj : Nat} {b : Bool} {oj : Oper} {v : Value} (hj : ops[j]? = some oj) (hdj : oj.dst = some dj) (hv : look F dj = some (.bool b)) (hy : Yl P G.n F H op v) (hd : Nat.ble (d + 1) G.n = true) (k : SG P ops Q G tail rest ((d, v) :: F) H) : SG P ops Q G tail (⟨some d, op, ty, pos, aft, some (j, b)⟩ :: rest) F H := by
  intro a w ha hw
  refine wpStill_step fun K hK => ?_
  rw [if_pos (wanted_of rfl hj hdj hv ha)]
  unfold Oper.still
  rw [hy a w _ _ _ _ _ ha hw.held, Oper.stillUpon_value]
  exact hK _ (k _ _ (ha.put hd v) hw)
theorem s_skip {tail : List Oper} {j dj : Nat} {b b' : Bool} {oj : Oper} (hj : ops[j]? = some oj) (hdj : oj.dst = some dj) (hv : look F dj = some (.bool b)) (hne : b' = !b) (hd : Nat.ble (d + 1) G.n = true) (k : SG P ops Q G tail rest ((d, undef) :: F) H) : SG P ops Q G tail (⟨some d, op, ty, pos, aft, some (j, b')⟩ :: rest) F H := by
  intro a w ha hw
  refine wpStill_step fun K hK => ?_
  have : Region.wanted (⟨some d, op, ty, pos, aft, some (j, b')⟩ : Oper) (yielded ops a.tmps) = false := by
    subst hne
    simp only [Region.wanted, yielded, hj, Option.bind_some, hdj, ha.slot dj _ hv]
    cases b <;> rfl
  rw [if_neg (by simp [this])]
  exact hK _ (k _ _ (ha.put hd undef) hw)
theorem s_nil {tail : List Oper} (k : OG P ops Q G tail F H) : SG P ops Q G tail [] F H := fun a w ha hw => wpStill_nil (k a w ha hw)
theorem s_bool {tail : List Oper} (t : Nat) {b : Bool} (hx : look F t = some (.bool b)) (h1 : b = true → SG P ops Q G tail rest ((t, .bool true) :: F) H) (h2 : b = false → SG P ops Q G tail rest ((t, .bool false) :: F) H) : SG P ops Q G tail rest F H := by
  intro a w ha hw
  have key : ∀ u : Bool, b = u → FrOk G.n ((t, .bool u) :: F) a := fun u hu => ⟨ha.size, ha.small, ha.defers.trans (dfs_bool hx).symm, fun s v hv => by
    simp only [look] at hv
    cases hb : Nat.beq t s with
    | true =>
      rw [hb] at hv
      simp only [cond_true, Option.some.injEq] at hv
      have := Nat.eq_of_beq_eq_true hb
      subst this; subst hv; subst hu
      exact .inr (ha.slot _ _ hx)
    | false => rw [hb] at hv; exact ha.slotD _ _ hv⟩
  cases hb : b with
  | true => exact h1 hb a w (key true hb) hw
  | false => exact h2 hb a w (key false hb) hw

/-- Whatever order is picked: what H keeps (Hf) holds behind each operation. -/
def AG (P : Program) (ops : Array Oper) (Q : Exit → Act → World → Prop) (G : Ctx) (Hf : List Ast) (fuel : Nat) (listed : Array Bool) (F : Fr) (H : List Ast) : Prop :=
  ∀ a w, FrOk G.n F a → Good G H w → Held Hf w ∧ wpAnyH P .any ops Q (Held Hf) fuel listed a w
theorem c_held {id : Nat} {ops : Array Oper} {Hf : List Ast} [hm : PWide P] (h : AG P ops Q G Hf ops.size (Array.replicate ops.size false) F H) : CG P (.region id ops true) Q G F H :=
  fun a _ ha hw => wp_region_held hm.h (h a _ ha hw.drew).2
theorem a_take {Hf Hr : List Ast} {fuel : Nat} {listed : Array Bool} (i : Nat) {v : Value} (hi : ops[i]? = some ⟨some d, op, ty, pos, aft, none⟩) (hs : SplitA H Hf Hr) (hsel : Region.noSelect ops = true) (hf : Region.free .any ops listed i = true) (hr : (Region.ready .any ops listed).contains i = true)
    (hQ : ∀ c a w, Q (.panic c) (a.put (some d) v) w → Q (.panic c) a w) (hy : Yl P G.n F Hf op v) (hd : Nat.ble (d + 1) G.n = true) (k : AG P ops Q G Hf fuel (listed.setIfInBounds i true) ((d, v) :: F) H) : AG P ops Q G Hf (fuel + 1) listed F H := by
  intro a w ha hw
  have hh := (hw.drop hs).held
  refine ⟨hh, wpAnyH_take hi hsel hf hr hQ (.inl ⟨rfl, fun w' hw' => hy a w' _ _ _ _ _ ha hw'⟩) hh ?_⟩
  exact (k _ _ (ha.put hd v) hw).2
/-- one operation alone may come up: it is carried out as in a row. -/
theorem a_step {Hf : List Ast} {fuel : Nat} {listed : Array Bool} (i : Nat) {o : Oper} (hi : ops[i]? = some o) (hr : Region.ready .any ops listed = [i]) (hh : ∀ w, Good G H w → Held Hf w)
    (k : ∀ K : Act → World → Prop, (∀ F' H' , AG P ops Q G Hf fuel (listed.setIfInBounds i true) F' H' → ∀ a w, FrOk G.n F' a → Good G H' w → K a w) → ∀ a w, FrOk G.n F a → Good G H w → wpOp P ops Q i K a w) : AG P ops Q G Hf (fuel + 1) listed F H := by
  intro a w ha hw
  refine ⟨hh w hw, wpAnyH_all hr (by simp) ?_⟩
  intro j hj
  have : j = i := by simpa using hj
  subst this
  exact k _ (fun F' H' hag a' w' ha' hw' => hag a' w' ha' hw') a w ha hw
theorem a_done {Hf : List Ast} {fuel : Nat} {listed : Array Bool} (hr : Region.ready .any ops listed = []) (hh : ∀ w, Good G H w → Held Hf w) (k : EG Q .normal G F H) : AG P ops Q G Hf fuel listed F H :=
  fun a w ha hw => ⟨hh w hw, wpAnyH_done hr (k a w ha hw) fuel⟩
end
end Go.Proofs.YtlkgdidmhmaneaaGreatDoor
/- WRITTEN BY A PROGRAM (gen_inst.py): what the tables of this translation say, as instances. -/
namespace Go.Proofs.YtlkgdidmhmaneaaGreatDoor
open Go
theorem pbuild_of {P : Program} {t : TypeId} {fs : Array Field} {zero : List Value} {offs : List (Nat × Nat)} (hu : ∀ w, (underlying t).run P w = .ok (.struct fs) w) (hz : PZero P t zero)
    (hp : ∀ w, (fs.mapM (fun f => do pure (f.offset, ← sizeOf f.type) : Field → Sem (Nat × Nat))).run P w = .ok offs.toArray w) : PBuild P t zero offs := ⟨fun parts cells w h => by
  obtain ⟨z, h1, h2⟩ := hz.h w
  have h' : Instr.fill (fun x => offs.toArray[x]?) zero.toArray parts.toList = some cells := by simpa using h
  simp only [Instr.build, Sem.run_bind, h1, hu, Result.andThen_ok]
  rw [hp w]
  simp only [Result.andThen_ok, h2, h', Sem.run_pure]⟩
instance : PWide Tryz.prog := ⟨by kernel_rfl⟩
instance : PSize Tryz.prog 2 1 := ⟨Tryz.sizeOf2⟩
instance : PAgg Tryz.prog 2 false := ⟨Tryz.isAgg2⟩
instance : PUnd Tryz.prog 2 (.int .i64) := ⟨Tryz.runUnderlying2⟩
instance : PSize Tryz.prog 3 1 := ⟨Tryz.sizeOf3⟩
instance : PAgg Tryz.prog 3 false := ⟨Tryz.isAgg3⟩
instance : PUnd Tryz.prog 3 (.int .i64) := ⟨Tryz.runUnderlying3⟩
instance : PZero Tryz.prog 3 [.int .i64 0] := ⟨fun w => ⟨_, Tryz.zeroValue3 w, rfl⟩⟩
instance : PSize Tryz.prog 4 1 := ⟨Tryz.sizeOf4⟩
instance : PAgg Tryz.prog 4 false := ⟨Tryz.isAgg4⟩
instance : PUnd Tryz.prog 4 (.bool) := ⟨Tryz.runUnderlying4⟩
instance : PSize Tryz.prog 5 1 := ⟨Tryz.sizeOf5⟩
instance : PAgg Tryz.prog 5 false := ⟨Tryz.isAgg5⟩
instance : PUnd Tryz.prog 5 (.int .u8) := ⟨Tryz.runUnderlying5⟩
instance : PZero Tryz.prog 5 [.int .u8 0] := ⟨fun w => ⟨_, Tryz.zeroValue5 w, rfl⟩⟩
instance : PSize Tryz.prog 9 1 := ⟨Tryz.sizeOf9⟩
instance : PAgg Tryz.prog 9 false := ⟨Tryz.isAgg9⟩
instance : PUnd Tryz.prog 9 (.string) := ⟨Tryz.runUnderlying9⟩
instance : PZero Tryz.prog 9 [.string ⟨#[]⟩] := ⟨fun w => ⟨_, Tryz.zeroValue9 w, rfl⟩⟩
instance : PSize Tryz.prog 21 1 := ⟨Tryz.sizeOf21⟩
instance : PAgg Tryz.prog 21 false := ⟨Tryz.isAgg21⟩
instance : PUnd Tryz.prog 21 (.int .i32) := ⟨Tryz.runUnderlying21⟩
instance : PSize Tryz.prog 23 1 := ⟨Tryz.sizeOf23⟩
instance : PAgg Tryz.prog 23 false := ⟨Tryz.isAgg23⟩
instance : PUnd Tryz.prog 23 (.slice 3) := ⟨Tryz.runUnderlying23⟩
instance : PSize Tryz.prog 24 1 := ⟨Tryz.sizeOf24⟩
instance : PAgg Tryz.prog 24 false := ⟨Tryz.isAgg24⟩
instance : PUnd Tryz.prog 24 (.pointer 38) := ⟨Tryz.runUnderlying24⟩
instance : PSize Tryz.prog 25 1 := ⟨Tryz.sizeOf25⟩
instance : PAgg Tryz.prog 25 false := ⟨Tryz.isAgg25⟩
instance : PUnd Tryz.prog 25 (.int .i64) := ⟨Tryz.runUnderlying25⟩
instance : PZero Tryz.prog 25 [.int .i64 0] := ⟨fun w => ⟨_, Tryz.zeroValue25 w, rfl⟩⟩
instance : PSize Tryz.prog 29 1 := ⟨Tryz.sizeOf29⟩
instance : PAgg Tryz.prog 29 false := ⟨Tryz.isAgg29⟩
instance : PUnd Tryz.prog 29 (.pointer 89) := ⟨Tryz.runUnderlying29⟩
instance : PSize Tryz.prog 32 1 := ⟨Tryz.sizeOf32⟩
instance : PAgg Tryz.prog 32 false := ⟨Tryz.isAgg32⟩
instance : PUnd Tryz.prog 32 (.int .u32) := ⟨Tryz.runUnderlying32⟩
instance : PZero Tryz.prog 32 [.int .u32 0] := ⟨fun w => ⟨_, Tryz.zeroValue32 w, rfl⟩⟩
instance : PSize Tryz.prog 34 2 := ⟨Tryz.sizeOf34⟩
instance : PAgg Tryz.prog 34 true := ⟨Tryz.isAgg34⟩
instance : PZero Tryz.prog 34 [.int .i32 0, .int .u32 0] := ⟨fun w => ⟨_, Tryz.zeroValue34 w, rfl⟩⟩
instance : PFld Tryz.prog 34 0 0 := ⟨fun b o w => by simp [Instr.fieldAt, Instr.sureAddr, fieldPlace, Tryz.runUnderlying34, Tryz.sizeOf21, Addr.add_lit]⟩
instance : PFld Tryz.prog 34 1 1 := ⟨fun b o w => by simp [Instr.fieldAt, Instr.sureAddr, fieldPlace, Tryz.runUnderlying34, Tryz.sizeOf32, Addr.add_lit]⟩
instance : PSize Tryz.prog 36 2 := ⟨Tryz.sizeOf36⟩
instance : PAgg Tryz.prog 36 true := ⟨Tryz.isAgg36⟩
instance : PFld Tryz.prog 36 1 0 := ⟨fun b o w => by simp [Instr.fieldAt, Instr.sureAddr, fieldPlace, Tryz.runUnderlying36, Tryz.sizeOf34, Addr.add_lit]⟩
instance : PSize Tryz.prog 38 4 := ⟨Tryz.sizeOf38⟩
instance : PAgg Tryz.prog 38 true := ⟨Tryz.isAgg38⟩
instance : PZero Tryz.prog 38 [.pointer none, .int .i32 0, .int .u32 0, .int .i64 0] := ⟨fun w => ⟨_, Tryz.zeroValue38 w, rfl⟩⟩
instance : PFld Tryz.prog 38 0 0 := ⟨fun b o w => by simp [Instr.fieldAt, Instr.sureAddr, fieldPlace, Tryz.runUnderlying38, Tryz.sizeOf29, Addr.add_lit]⟩
instance : PFld Tryz.prog 38 1 1 := ⟨fun b o w => by simp [Instr.fieldAt, Instr.sureAddr, fieldPlace, Tryz.runUnderlying38, Tryz.sizeOf36, Addr.add_lit]⟩
instance : PFld Tryz.prog 38 2 3 := ⟨fun b o w => by simp [Instr.fieldAt, Instr.sureAddr, fieldPlace, Tryz.runUnderlying38, Tryz.sizeOf3, Addr.add_lit]⟩
instance : PBuild Tryz.prog 38 [.pointer none, .int .i32 0, .int .u32 0, .int .i64 0] [(0, 1), (1, 2), (3, 1)] := pbuild_of Tryz.runUnderlying38 inferInstance (fun w => by simp [Tryz.sizeOf29, Tryz.sizeOf3, Tryz.sizeOf36])
instance : PSize Tryz.prog 41 2 := ⟨Tryz.sizeOf41⟩
instance : PAgg Tryz.prog 41 true := ⟨Tryz.isAgg41⟩
instance : PZero Tryz.prog 41 [.int .i64 0, .int .i64 0] := ⟨fun w => ⟨_, Tryz.zeroValue41 w, rfl⟩⟩
instance : PFld Tryz.prog 41 0 0 := ⟨fun b o w => by simp [Instr.fieldAt, Instr.sureAddr, fieldPlace, Tryz.runUnderlying41, Tryz.sizeOf3, Addr.add_lit]⟩
instance : PFld Tryz.prog 41 1 1 := ⟨fun b o w => by simp [Instr.fieldAt, Instr.sureAddr, fieldPlace, Tryz.runUnderlying41, Tryz.sizeOf3, Addr.add_lit]⟩
instance : PBuild Tryz.prog 41 [.int .i64 0, .int .i64 0] [(0, 1), (1, 1)] := pbuild_of Tryz.runUnderlying41 inferInstance (fun w => by simp [Tryz.sizeOf3])
instance : PSize Tryz.prog 44 1 := ⟨Tryz.sizeOf44⟩
instance : PAgg Tryz.prog 44 false := ⟨Tryz.isAgg44⟩
instance : PUnd Tryz.prog 44 (.slice 53) := ⟨Tryz.runUnderlying44⟩
instance : PSize Tryz.prog 45 1 := ⟨Tryz.sizeOf45⟩
instance : PAgg Tryz.prog 45 false := ⟨Tryz.isAgg45⟩
instance : PUnd Tryz.prog 45 (.pointer 59) := ⟨Tryz.runUnderlying45⟩
instance : PSize Tryz.prog 48 1 := ⟨Tryz.sizeOf48⟩
instance : PAgg Tryz.prog 48 false := ⟨Tryz.isAgg48⟩
instance : PUnd Tryz.prog 48 (.slice 5) := ⟨Tryz.runUnderlying48⟩
instance : PZero Tryz.prog 48 [.slice none 0 0] := ⟨fun w => ⟨_, Tryz.zeroValue48 w, rfl⟩⟩
instance : PSize Tryz.prog 51 8 := ⟨Tryz.sizeOf51⟩
instance : PAgg Tryz.prog 51 true := ⟨Tryz.isAgg51⟩
instance : PFld Tryz.prog 51 0 0 := ⟨fun b o w => by simp [Instr.fieldAt, Instr.sureAddr, fieldPlace, Tryz.runUnderlying51, Tryz.sizeOf3, Addr.add_lit]⟩
instance : PFld Tryz.prog 51 1 1 := ⟨fun b o w => by simp [Instr.fieldAt, Instr.sureAddr, fieldPlace, Tryz.runUnderlying51, Tryz.sizeOf3, Addr.add_lit]⟩
instance : PFld Tryz.prog 51 2 2 := ⟨fun b o w => by simp [Instr.fieldAt, Instr.sureAddr, fieldPlace, Tryz.runUnderlying51, Tryz.sizeOf3, Addr.add_lit]⟩
instance : PFld Tryz.prog 51 3 3 := ⟨fun b o w => by simp [Instr.fieldAt, Instr.sureAddr, fieldPlace, Tryz.runUnderlying51, Tryz.sizeOf3, Addr.add_lit]⟩
instance : PFld Tryz.prog 51 4 4 := ⟨fun b o w => by simp [Instr.fieldAt, Instr.sureAddr, fieldPlace, Tryz.runUnderlying51, Tryz.sizeOf3, Addr.add_lit]⟩
instance : PFld Tryz.prog 51 5 5 := ⟨fun b o w => by simp [Instr.fieldAt, Instr.sureAddr, fieldPlace, Tryz.runUnderlying51, Tryz.sizeOf3, Addr.add_lit]⟩
instance : PFld Tryz.prog 51 6 6 := ⟨fun b o w => by simp [Instr.fieldAt, Instr.sureAddr, fieldPlace, Tryz.runUnderlying51, Tryz.sizeOf48, Addr.add_lit]⟩
instance : PFld Tryz.prog 51 7 7 := ⟨fun b o w => by simp [Instr.fieldAt, Instr.sureAddr, fieldPlace, Tryz.runUnderlying51, Tryz.sizeOf9, Addr.add_lit]⟩
instance : PSize Tryz.prog 53 12 := ⟨Tryz.sizeOf53⟩
instance : PAgg Tryz.prog 53 true := ⟨Tryz.isAgg53⟩
instance : PZero Tryz.prog 53 [.int .i64 0, .int .i64 0, .int .i64 0, .int .i64 0, .int .i64 0, .int .i64 0, .slice none 0 0, .string ⟨#[]⟩, .int .u32 0, .int .i64 0, .int .u8 0, .bool false] := ⟨fun w => ⟨_, Tryz.zeroValue53 w, rfl⟩⟩
instance : PFld Tryz.prog 53 0 0 := ⟨fun b o w => by simp [Instr.fieldAt, Instr.sureAddr, fieldPlace, Tryz.runUnderlying53, Tryz.sizeOf51, Addr.add_lit]⟩
instance : PFld Tryz.prog 53 1 8 := ⟨fun b o w => by simp [Instr.fieldAt, Instr.sureAddr, fieldPlace, Tryz.runUnderlying53, Tryz.sizeOf32, Addr.add_lit]⟩
instance : PFld Tryz.prog 53 2 9 := ⟨fun b o w => by simp [Instr.fieldAt, Instr.sureAddr, fieldPlace, Tryz.runUnderlying53, Tryz.sizeOf3, Addr.add_lit]⟩
instance : PFld Tryz.prog 53 3 10 := ⟨fun b o w => by simp [Instr.fieldAt, Instr.sureAddr, fieldPlace, Tryz.runUnderlying53, Tryz.sizeOf5, Addr.add_lit]⟩
instance : PFld Tryz.prog 53 4 11 := ⟨fun b o w => by simp [Instr.fieldAt, Instr.sureAddr, fieldPlace, Tryz.runUnderlying53, Tryz.sizeOf4, Addr.add_lit]⟩
instance : PSize Tryz.prog 54 1 := ⟨Tryz.sizeOf54⟩
instance : PAgg Tryz.prog 54 false := ⟨Tryz.isAgg54⟩
instance : PUnd Tryz.prog 54 (.slice 134) := ⟨Tryz.runUnderlying54⟩
instance : PSize Tryz.prog 56 4 := ⟨Tryz.sizeOf56⟩
instance : PAgg Tryz.prog 56 true := ⟨Tryz.isAgg56⟩
instance : PZero Tryz.prog 56 [.int .i64 0, .int .i64 0, .slice none 0 0, .slice none 0 0] := ⟨fun w => ⟨_, Tryz.zeroValue56 w, rfl⟩⟩
instance : PFld Tryz.prog 56 0 0 := ⟨fun b o w => by simp [Instr.fieldAt, Instr.sureAddr, fieldPlace, Tryz.runUnderlying56, Tryz.sizeOf3, Addr.add_lit]⟩
instance : PFld Tryz.prog 56 1 1 := ⟨fun b o w => by simp [Instr.fieldAt, Instr.sureAddr, fieldPlace, Tryz.runUnderlying56, Tryz.sizeOf3, Addr.add_lit]⟩
instance : PFld Tryz.prog 56 2 2 := ⟨fun b o w => by simp [Instr.fieldAt, Instr.sureAddr, fieldPlace, Tryz.runUnderlying56, Tryz.sizeOf54, Addr.add_lit]⟩
instance : PFld Tryz.prog 56 3 3 := ⟨fun b o w => by simp [Instr.fieldAt, Instr.sureAddr, fieldPlace, Tryz.runUnderlying56, Tryz.sizeOf23, Addr.add_lit]⟩
instance : PBuild Tryz.prog 56 [.int .i64 0, .int .i64 0, .slice none 0 0, .slice none 0 0] [(0, 1), (1, 1), (2, 1), (3, 1)] := pbuild_of Tryz.runUnderlying56 inferInstance (fun w => by simp [Tryz.sizeOf23, Tryz.sizeOf3, Tryz.sizeOf54])
instance : PSize Tryz.prog 57 1 := ⟨Tryz.sizeOf57⟩
instance : PAgg Tryz.prog 57 false := ⟨Tryz.isAgg57⟩
instance : PUnd Tryz.prog 57 (.slice 41) := ⟨Tryz.runUnderlying57⟩
instance : PSize Tryz.prog 59 7 := ⟨Tryz.sizeOf59⟩
instance : PAgg Tryz.prog 59 true := ⟨Tryz.isAgg59⟩
instance : PZero Tryz.prog 59 [.pointer none, .int .i64 0, .int .i64 0, .slice none 0 0, .slice none 0 0, .slice none 0 0, .int .i64 0] := ⟨fun w => ⟨_, Tryz.zeroValue59 w, rfl⟩⟩
instance : PFld Tryz.prog 59 0 0 := ⟨fun b o w => by simp [Instr.fieldAt, Instr.sureAddr, fieldPlace, Tryz.runUnderlying59, Tryz.sizeOf24, Addr.add_lit]⟩
instance : PFld Tryz.prog 59 1 1 := ⟨fun b o w => by simp [Instr.fieldAt, Instr.sureAddr, fieldPlace, Tryz.runUnderlying59, Tryz.sizeOf56, Addr.add_lit]⟩
instance : PFld Tryz.prog 59 2 5 := ⟨fun b o w => by simp [Instr.fieldAt, Instr.sureAddr, fieldPlace, Tryz.runUnderlying59, Tryz.sizeOf57, Addr.add_lit]⟩
instance : PFld Tryz.prog 59 3 6 := ⟨fun b o w => by simp [Instr.fieldAt, Instr.sureAddr, fieldPlace, Tryz.runUnderlying59, Tryz.sizeOf3, Addr.add_lit]⟩
instance : PBuild Tryz.prog 59 [.pointer none, .int .i64 0, .int .i64 0, .slice none 0 0, .slice none 0 0, .slice none 0 0, .int .i64 0] [(0, 1), (1, 4), (5, 1), (6, 1)] := pbuild_of Tryz.runUnderlying59 inferInstance (fun w => by simp [Tryz.sizeOf24, Tryz.sizeOf3, Tryz.sizeOf56, Tryz.sizeOf57])
instance : PSize Tryz.prog 61 1 := ⟨Tryz.sizeOf61⟩
instance : PAgg Tryz.prog 61 false := ⟨Tryz.isAgg61⟩
instance : PUnd Tryz.prog 61 (.slice 48) := ⟨Tryz.runUnderlying61⟩
instance : PSize Tryz.prog 66 4 := ⟨Tryz.sizeOf66⟩
instance : PAgg Tryz.prog 66 true := ⟨Tryz.isAgg66⟩
instance : PZero Tryz.prog 66 [.bool false, .int .u32 0, .int .u32 0, .string ⟨#[]⟩] := ⟨fun w => ⟨_, Tryz.zeroValue66 w, rfl⟩⟩
instance : PFld Tryz.prog 66 0 0 := ⟨fun b o w => by simp [Instr.fieldAt, Instr.sureAddr, fieldPlace, Tryz.runUnderlying66, Tryz.sizeOf4, Addr.add_lit]⟩
instance : PFld Tryz.prog 66 1 1 := ⟨fun b o w => by simp [Instr.fieldAt, Instr.sureAddr, fieldPlace, Tryz.runUnderlying66, Tryz.sizeOf32, Addr.add_lit]⟩
instance : PFld Tryz.prog 66 2 2 := ⟨fun b o w => by simp [Instr.fieldAt, Instr.sureAddr, fieldPlace, Tryz.runUnderlying66, Tryz.sizeOf32, Addr.add_lit]⟩
instance : PFld Tryz.prog 66 3 3 := ⟨fun b o w => by simp [Instr.fieldAt, Instr.sureAddr, fieldPlace, Tryz.runUnderlying66, Tryz.sizeOf9, Addr.add_lit]⟩
instance : PBuild Tryz.prog 66 [.bool false, .int .u32 0, .int .u32 0, .string ⟨#[]⟩] [(0, 1), (1, 1), (2, 1), (3, 1)] := pbuild_of Tryz.runUnderlying66 inferInstance (fun w => by simp [Tryz.sizeOf32, Tryz.sizeOf4, Tryz.sizeOf9])
instance : PSize Tryz.prog 70 12 := ⟨Tryz.sizeOf70⟩
instance : PAgg Tryz.prog 70 true := ⟨Tryz.isAgg70⟩
instance : PZero Tryz.prog 70 [.int .i64 0, .int .i64 0, .int .i64 0, .int .i64 0, .int .i64 0, .int .i64 0, .int .i64 0, .int .i64 0, .int .i64 0, .string ⟨#[]⟩, .string ⟨#[]⟩, .slice none 0 0] := ⟨fun w => ⟨_, Tryz.zeroValue70 w, rfl⟩⟩
instance : PFld Tryz.prog 70 0 0 := ⟨fun b o w => by simp [Instr.fieldAt, Instr.sureAddr, fieldPlace, Tryz.runUnderlying70, Tryz.sizeOf3, Addr.add_lit]⟩
instance : PFld Tryz.prog 70 1 1 := ⟨fun b o w => by simp [Instr.fieldAt, Instr.sureAddr, fieldPlace, Tryz.runUnderlying70, Tryz.sizeOf3, Addr.add_lit]⟩
instance : PFld Tryz.prog 70 2 2 := ⟨fun b o w => by simp [Instr.fieldAt, Instr.sureAddr, fieldPlace, Tryz.runUnderlying70, Tryz.sizeOf3, Addr.add_lit]⟩
instance : PFld Tryz.prog 70 3 3 := ⟨fun b o w => by simp [Instr.fieldAt, Instr.sureAddr, fieldPlace, Tryz.runUnderlying70, Tryz.sizeOf3, Addr.add_lit]⟩
instance : PFld Tryz.prog 70 4 4 := ⟨fun b o w => by simp [Instr.fieldAt, Instr.sureAddr, fieldPlace, Tryz.runUnderlying70, Tryz.sizeOf3, Addr.add_lit]⟩
instance : PFld Tryz.prog 70 5 5 := ⟨fun b o w => by simp [Instr.fieldAt, Instr.sureAddr, fieldPlace, Tryz.runUnderlying70, Tryz.sizeOf41, Addr.add_lit]⟩
instance : PFld Tryz.prog 70 6 7 := ⟨fun b o w => by simp [Instr.fieldAt, Instr.sureAddr, fieldPlace, Tryz.runUnderlying70, Tryz.sizeOf41, Addr.add_lit]⟩
instance : PFld Tryz.prog 70 7 9 := ⟨fun b o w => by simp [Instr.fieldAt, Instr.sureAddr, fieldPlace, Tryz.runUnderlying70, Tryz.sizeOf9, Addr.add_lit]⟩
instance : PFld Tryz.prog 70 8 10 := ⟨fun b o w => by simp [Instr.fieldAt, Instr.sureAddr, fieldPlace, Tryz.runUnderlying70, Tryz.sizeOf9, Addr.add_lit]⟩
instance : PFld Tryz.prog 70 9 11 := ⟨fun b o w => by simp [Instr.fieldAt, Instr.sureAddr, fieldPlace, Tryz.runUnderlying70, Tryz.sizeOf48, Addr.add_lit]⟩
instance : PBuild Tryz.prog 70 [.int .i64 0, .int .i64 0, .int .i64 0, .int .i64 0, .int .i64 0, .int .i64 0, .int .i64 0, .int .i64 0, .int .i64 0, .string ⟨#[]⟩, .string ⟨#[]⟩, .slice none 0 0] [(0, 1), (1, 1), (2, 1), (3, 1), (4, 1), (5, 2), (7, 2), (9, 1), (10, 1), (11, 1)] := pbuild_of Tryz.runUnderlying70 inferInstance (fun w => by simp [Tryz.sizeOf3, Tryz.sizeOf41, Tryz.sizeOf48, Tryz.sizeOf9])
instance : PSize Tryz.prog 74 6 := ⟨Tryz.sizeOf74⟩
instance : PAgg Tryz.prog 74 true := ⟨Tryz.isAgg74⟩
instance : PZero Tryz.prog 74 [.bool false, .int .u32 0, .int .u32 0, .string ⟨#[]⟩, .int .i64 0, .int .i64 0] := ⟨fun w => ⟨_, Tryz.zeroValue74 w, rfl⟩⟩
instance : PFld Tryz.prog 74 0 0 := ⟨fun b o w => by simp [Instr.fieldAt, Instr.sureAddr, fieldPlace, Tryz.runUnderlying74, Tryz.sizeOf66, Addr.add_lit]⟩
instance : PFld Tryz.prog 74 1 4 := ⟨fun b o w => by simp [Instr.fieldAt, Instr.sureAddr, fieldPlace, Tryz.runUnderlying74, Tryz.sizeOf25, Addr.add_lit]⟩
instance : PBuild Tryz.prog 74 [.bool false, .int .u32 0, .int .u32 0, .string ⟨#[]⟩, .int .i64 0, .int .i64 0] [(0, 4), (4, 1), (5, 1)] := pbuild_of Tryz.runUnderlying74 inferInstance (fun w => by simp [Tryz.sizeOf25, Tryz.sizeOf3, Tryz.sizeOf66])
instance : PSize Tryz.prog 77 5 := ⟨Tryz.sizeOf77⟩
instance : PAgg Tryz.prog 77 true := ⟨Tryz.isAgg77⟩
instance : PZero Tryz.prog 77 [.int .i64 0, .int .i64 0, .int .i64 0, .int .i64 0, .int .i64 0] := ⟨fun w => ⟨_, Tryz.zeroValue77 w, rfl⟩⟩
instance : PFld Tryz.prog 77 0 0 := ⟨fun b o w => by simp [Instr.fieldAt, Instr.sureAddr, fieldPlace, Tryz.runUnderlying77, Tryz.sizeOf41, Addr.add_lit]⟩
instance : PFld Tryz.prog 77 1 2 := ⟨fun b o w => by simp [Instr.fieldAt, Instr.sureAddr, fieldPlace, Tryz.runUnderlying77, Tryz.sizeOf3, Addr.add_lit]⟩
instance : PFld Tryz.prog 77 2 3 := ⟨fun b o w => by simp [Instr.fieldAt, Instr.sureAddr, fieldPlace, Tryz.runUnderlying77, Tryz.sizeOf3, Addr.add_lit]⟩
instance : PFld Tryz.prog 77 3 4 := ⟨fun b o w => by simp [Instr.fieldAt, Instr.sureAddr, fieldPlace, Tryz.runUnderlying77, Tryz.sizeOf3, Addr.add_lit]⟩
instance : PBuild Tryz.prog 77 [.int .i64 0, .int .i64 0, .int .i64 0, .int .i64 0, .int .i64 0] [(0, 2), (2, 1), (3, 1), (4, 1)] := pbuild_of Tryz.runUnderlying77 inferInstance (fun w => by simp [Tryz.sizeOf3, Tryz.sizeOf41])
instance : PSize Tryz.prog 78 1 := ⟨Tryz.sizeOf78⟩
instance : PAgg Tryz.prog 78 false := ⟨Tryz.isAgg78⟩
instance : PUnd Tryz.prog 78 (.slice 120) := ⟨Tryz.runUnderlying78⟩
instance : PZero Tryz.prog 78 [.slice none 0 0] := ⟨fun w => ⟨_, Tryz.zeroValue78 w, rfl⟩⟩
instance : PSize Tryz.prog 80 10 := ⟨Tryz.sizeOf80⟩
instance : PAgg Tryz.prog 80 true := ⟨Tryz.isAgg80⟩
instance : PZero Tryz.prog 80 [.int .i64 0, .int .i64 0, .int .i64 0, .int .i64 0, .int .i64 0, .int .i64 0, .slice none 0 0, .int .i64 0, .bool false, .slice none 0 0] := ⟨fun w => ⟨_, Tryz.zeroValue80 w, rfl⟩⟩
instance : PFld Tryz.prog 80 0 0 := ⟨fun b o w => by simp [Instr.fieldAt, Instr.sureAddr, fieldPlace, Tryz.runUnderlying80, Tryz.sizeOf25, Addr.add_lit]⟩
instance : PFld Tryz.prog 80 1 1 := ⟨fun b o w => by simp [Instr.fieldAt, Instr.sureAddr, fieldPlace, Tryz.runUnderlying80, Tryz.sizeOf77, Addr.add_lit]⟩
instance : PFld Tryz.prog 80 2 6 := ⟨fun b o w => by simp [Instr.fieldAt, Instr.sureAddr, fieldPlace, Tryz.runUnderlying80, Tryz.sizeOf48, Addr.add_lit]⟩
instance : PFld Tryz.prog 80 3 7 := ⟨fun b o w => by simp [Instr.fieldAt, Instr.sureAddr, fieldPlace, Tryz.runUnderlying80, Tryz.sizeOf3, Addr.add_lit]⟩
instance : PFld Tryz.prog 80 4 8 := ⟨fun b o w => by simp [Instr.fieldAt, Instr.sureAddr, fieldPlace, Tryz.runUnderlying80, Tryz.sizeOf4, Addr.add_lit]⟩
instance : PFld Tryz.prog 80 5 9 := ⟨fun b o w => by simp [Instr.fieldAt, Instr.sureAddr, fieldPlace, Tryz.runUnderlying80, Tryz.sizeOf78, Addr.add_lit]⟩
instance : PBuild Tryz.prog 80 [.int .i64 0, .int .i64 0, .int .i64 0, .int .i64 0, .int .i64 0, .int .i64 0, .slice none 0 0, .int .i64 0, .bool false, .slice none 0 0] [(0, 1), (1, 5), (6, 1), (7, 1), (8, 1), (9, 1)] := pbuild_of Tryz.runUnderlying80 inferInstance (fun w => by simp [Tryz.sizeOf25, Tryz.sizeOf3, Tryz.sizeOf4, Tryz.sizeOf48, Tryz.sizeOf77, Tryz.sizeOf78])
instance : PSize Tryz.prog 87 1 := ⟨Tryz.sizeOf87⟩
instance : PAgg Tryz.prog 87 false := ⟨Tryz.isAgg87⟩
instance : PUnd Tryz.prog 87 (.pointer 172) := ⟨Tryz.runUnderlying87⟩
instance : PZero Tryz.prog 87 [.pointer none] := ⟨fun w => ⟨_, Tryz.zeroValue87 w, rfl⟩⟩
instance : PSize Tryz.prog 89 5 := ⟨Tryz.sizeOf89⟩
instance : PAgg Tryz.prog 89 true := ⟨Tryz.isAgg89⟩
instance : PZero Tryz.prog 89 [.pointer none, .int .i64 0, .int .i64 0, .int .i64 0, .int .i64 0] := ⟨fun w => ⟨_, Tryz.zeroValue89 w, rfl⟩⟩
instance : PFld Tryz.prog 89 0 0 := ⟨fun b o w => by simp [Instr.fieldAt, Instr.sureAddr, fieldPlace, Tryz.runUnderlying89, Tryz.sizeOf87, Addr.add_lit]⟩
instance : PFld Tryz.prog 89 1 1 := ⟨fun b o w => by simp [Instr.fieldAt, Instr.sureAddr, fieldPlace, Tryz.runUnderlying89, Tryz.sizeOf41, Addr.add_lit]⟩
instance : PFld Tryz.prog 89 2 3 := ⟨fun b o w => by simp [Instr.fieldAt, Instr.sureAddr, fieldPlace, Tryz.runUnderlying89, Tryz.sizeOf3, Addr.add_lit]⟩
instance : PFld Tryz.prog 89 3 4 := ⟨fun b o w => by simp [Instr.fieldAt, Instr.sureAddr, fieldPlace, Tryz.runUnderlying89, Tryz.sizeOf3, Addr.add_lit]⟩
instance : PBuild Tryz.prog 89 [.pointer none, .int .i64 0, .int .i64 0, .int .i64 0, .int .i64 0] [(0, 1), (1, 2), (3, 1), (4, 1)] := pbuild_of Tryz.runUnderlying89 inferInstance (fun w => by simp [Tryz.sizeOf3, Tryz.sizeOf41, Tryz.sizeOf87])
instance : PSize Tryz.prog 97 1 := ⟨Tryz.sizeOf97⟩
instance : PAgg Tryz.prog 97 false := ⟨Tryz.isAgg97⟩
instance : PUnd Tryz.prog 97 (.slice 32) := ⟨Tryz.runUnderlying97⟩
instance : PSize Tryz.prog 100 4 := ⟨Tryz.sizeOf100⟩
instance : PAgg Tryz.prog 100 true := ⟨Tryz.isAgg100⟩
instance : PZero Tryz.prog 100 [.bool false, .int .u32 0, .int .u32 0, .slice none 0 0] := ⟨fun w => ⟨_, Tryz.zeroValue100 w, rfl⟩⟩
instance : PFld Tryz.prog 100 0 0 := ⟨fun b o w => by simp [Instr.fieldAt, Instr.sureAddr, fieldPlace, Tryz.runUnderlying100, Tryz.sizeOf4, Addr.add_lit]⟩
instance : PFld Tryz.prog 100 1 1 := ⟨fun b o w => by simp [Instr.fieldAt, Instr.sureAddr, fieldPlace, Tryz.runUnderlying100, Tryz.sizeOf32, Addr.add_lit]⟩
instance : PFld Tryz.prog 100 2 2 := ⟨fun b o w => by simp [Instr.fieldAt, Instr.sureAddr, fieldPlace, Tryz.runUnderlying100, Tryz.sizeOf32, Addr.add_lit]⟩
instance : PFld Tryz.prog 100 3 3 := ⟨fun b o w => by simp [Instr.fieldAt, Instr.sureAddr, fieldPlace, Tryz.runUnderlying100, Tryz.sizeOf48, Addr.add_lit]⟩
instance : PBuild Tryz.prog 100 [.bool false, .int .u32 0, .int .u32 0, .slice none 0 0] [(0, 1), (1, 1), (2, 1), (3, 1)] := pbuild_of Tryz.runUnderlying100 inferInstance (fun w => by simp [Tryz.sizeOf32, Tryz.sizeOf4, Tryz.sizeOf48])
instance : PSize Tryz.prog 102 1 := ⟨Tryz.sizeOf102⟩
instance : PAgg Tryz.prog 102 false := ⟨Tryz.isAgg102⟩
instance : PUnd Tryz.prog 102 (.interface #[("Error", 292)]) := ⟨Tryz.runUnderlying102⟩
instance : PSize Tryz.prog 113 3 := ⟨Tryz.sizeOf113⟩
instance : PAgg Tryz.prog 113 true := ⟨Tryz.isAgg113⟩
instance : PZero Tryz.prog 113 [.slice none 0 0, .int .i64 0, .int .i64 0] := ⟨fun w => ⟨_, Tryz.zeroValue113 w, rfl⟩⟩
instance : PFld Tryz.prog 113 0 0 := ⟨fun b o w => by simp [Instr.fieldAt, Instr.sureAddr, fieldPlace, Tryz.runUnderlying113, Tryz.sizeOf48, Addr.add_lit]⟩
instance : PFld Tryz.prog 113 1 1 := ⟨fun b o w => by simp [Instr.fieldAt, Instr.sureAddr, fieldPlace, Tryz.runUnderlying113, Tryz.sizeOf3, Addr.add_lit]⟩
instance : PFld Tryz.prog 113 2 2 := ⟨fun b o w => by simp [Instr.fieldAt, Instr.sureAddr, fieldPlace, Tryz.runUnderlying113, Tryz.sizeOf25, Addr.add_lit]⟩
instance : PBuild Tryz.prog 113 [.slice none 0 0, .int .i64 0, .int .i64 0] [(0, 1), (1, 1), (2, 1)] := pbuild_of Tryz.runUnderlying113 inferInstance (fun w => by simp [Tryz.sizeOf25, Tryz.sizeOf3, Tryz.sizeOf48])
instance : PSize Tryz.prog 120 3 := ⟨Tryz.sizeOf120⟩
instance : PAgg Tryz.prog 120 true := ⟨Tryz.isAgg120⟩
instance : PZero Tryz.prog 120 [.string ⟨#[]⟩, .int .i64 0, .int .i64 0] := ⟨fun w => ⟨_, Tryz.zeroValue120 w, rfl⟩⟩
instance : PFld Tryz.prog 120 0 0 := ⟨fun b o w => by simp [Instr.fieldAt, Instr.sureAddr, fieldPlace, Tryz.runUnderlying120, Tryz.sizeOf9, Addr.add_lit]⟩
instance : PFld Tryz.prog 120 1 1 := ⟨fun b o w => by simp [Instr.fieldAt, Instr.sureAddr, fieldPlace, Tryz.runUnderlying120, Tryz.sizeOf41, Addr.add_lit]⟩
instance : PBuild Tryz.prog 120 [.string ⟨#[]⟩, .int .i64 0, .int .i64 0] [(0, 1), (1, 2)] := pbuild_of Tryz.runUnderlying120 inferInstance (fun w => by simp [Tryz.sizeOf41, Tryz.sizeOf9])
instance : PSize Tryz.prog 123 1 := ⟨Tryz.sizeOf123⟩
instance : PAgg Tryz.prog 123 false := ⟨Tryz.isAgg123⟩
instance : PUnd Tryz.prog 123 (.pointer 129) := ⟨Tryz.runUnderlying123⟩
instance : PSize Tryz.prog 126 1 := ⟨Tryz.sizeOf126⟩
instance : PAgg Tryz.prog 126 false := ⟨Tryz.isAgg126⟩
instance : PUnd Tryz.prog 126 (.pointer 176) := ⟨Tryz.runUnderlying126⟩
instance : PSize Tryz.prog 129 5 := ⟨Tryz.sizeOf129⟩
instance : PAgg Tryz.prog 129 true := ⟨Tryz.isAgg129⟩
instance : PZero Tryz.prog 129 [.int .i64 0, .int .i64 0, .int .i64 0, .pointer none, .slice none 0 0] := ⟨fun w => ⟨_, Tryz.zeroValue129 w, rfl⟩⟩
instance : PFld Tryz.prog 129 0 0 := ⟨fun b o w => by simp [Instr.fieldAt, Instr.sureAddr, fieldPlace, Tryz.runUnderlying129, Tryz.sizeOf3, Addr.add_lit]⟩
instance : PFld Tryz.prog 129 1 1 := ⟨fun b o w => by simp [Instr.fieldAt, Instr.sureAddr, fieldPlace, Tryz.runUnderlying129, Tryz.sizeOf41, Addr.add_lit]⟩
instance : PFld Tryz.prog 129 2 3 := ⟨fun b o w => by simp [Instr.fieldAt, Instr.sureAddr, fieldPlace, Tryz.runUnderlying129, Tryz.sizeOf126, Addr.add_lit]⟩
instance : PFld Tryz.prog 129 3 4 := ⟨fun b o w => by simp [Instr.fieldAt, Instr.sureAddr, fieldPlace, Tryz.runUnderlying129, Tryz.sizeOf48, Addr.add_lit]⟩
instance : PBuild Tryz.prog 129 [.int .i64 0, .int .i64 0, .int .i64 0, .pointer none, .slice none 0 0] [(0, 1), (1, 2), (3, 1), (4, 1)] := pbuild_of Tryz.runUnderlying129 inferInstance (fun w => by simp [Tryz.sizeOf126, Tryz.sizeOf3, Tryz.sizeOf41, Tryz.sizeOf48])
instance : PSize Tryz.prog 134 8 := ⟨Tryz.sizeOf134⟩
instance : PAgg Tryz.prog 134 true := ⟨Tryz.isAgg134⟩
instance : PZero Tryz.prog 134 [.int .i64 0, .int .i64 0, .int .i64 0, .int .i64 0, .int .i64 0, .int .i64 0, .string ⟨#[]⟩, .slice none 0 0] := ⟨fun w => ⟨_, Tryz.zeroValue134 w, rfl⟩⟩
instance : PFld Tryz.prog 134 0 0 := ⟨fun b o w => by simp [Instr.fieldAt, Instr.sureAddr, fieldPlace, Tryz.runUnderlying134, Tryz.sizeOf41, Addr.add_lit]⟩
instance : PFld Tryz.prog 134 1 2 := ⟨fun b o w => by simp [Instr.fieldAt, Instr.sureAddr, fieldPlace, Tryz.runUnderlying134, Tryz.sizeOf3, Addr.add_lit]⟩
instance : PFld Tryz.prog 134 2 3 := ⟨fun b o w => by simp [Instr.fieldAt, Instr.sureAddr, fieldPlace, Tryz.runUnderlying134, Tryz.sizeOf3, Addr.add_lit]⟩
instance : PFld Tryz.prog 134 3 4 := ⟨fun b o w => by simp [Instr.fieldAt, Instr.sureAddr, fieldPlace, Tryz.runUnderlying134, Tryz.sizeOf41, Addr.add_lit]⟩
instance : PFld Tryz.prog 134 4 6 := ⟨fun b o w => by simp [Instr.fieldAt, Instr.sureAddr, fieldPlace, Tryz.runUnderlying134, Tryz.sizeOf9, Addr.add_lit]⟩
instance : PFld Tryz.prog 134 5 7 := ⟨fun b o w => by simp [Instr.fieldAt, Instr.sureAddr, fieldPlace, Tryz.runUnderlying134, Tryz.sizeOf78, Addr.add_lit]⟩
instance : PBuild Tryz.prog 134 [.int .i64 0, .int .i64 0, .int .i64 0, .int .i64 0, .int .i64 0, .int .i64 0, .string ⟨#[]⟩, .slice none 0 0] [(0, 2), (2, 1), (3, 1), (4, 2), (6, 1), (7, 1)] := pbuild_of Tryz.runUnderlying134 inferInstance (fun w => by simp [Tryz.sizeOf3, Tryz.sizeOf41, Tryz.sizeOf78, Tryz.sizeOf9])
instance : PSize Tryz.prog 144 1 := ⟨Tryz.sizeOf144⟩
instance : PAgg Tryz.prog 144 false := ⟨Tryz.isAgg144⟩
instance : PUnd Tryz.prog 144 (.pointer 195) := ⟨Tryz.runUnderlying144⟩
instance : PSize Tryz.prog 146 1 := ⟨Tryz.sizeOf146⟩
instance : PAgg Tryz.prog 146 false := ⟨Tryz.isAgg146⟩
instance : PUnd Tryz.prog 146 (.pointer 198) := ⟨Tryz.runUnderlying146⟩
instance : PSize Tryz.prog 148 3 := ⟨Tryz.sizeOf148⟩
instance : PAgg Tryz.prog 148 true := ⟨Tryz.isAgg148⟩
instance : PZero Tryz.prog 148 [.pointer none, .int .i64 0, .pointer none] := ⟨fun w => ⟨_, Tryz.zeroValue148 w, rfl⟩⟩
instance : PFld Tryz.prog 148 0 0 := ⟨fun b o w => by simp [Instr.fieldAt, Instr.sureAddr, fieldPlace, Tryz.runUnderlying148, Tryz.sizeOf144, Addr.add_lit]⟩
instance : PFld Tryz.prog 148 1 1 := ⟨fun b o w => by simp [Instr.fieldAt, Instr.sureAddr, fieldPlace, Tryz.runUnderlying148, Tryz.sizeOf3, Addr.add_lit]⟩
instance : PFld Tryz.prog 148 2 2 := ⟨fun b o w => by simp [Instr.fieldAt, Instr.sureAddr, fieldPlace, Tryz.runUnderlying148, Tryz.sizeOf146, Addr.add_lit]⟩
instance : PBuild Tryz.prog 148 [.pointer none, .int .i64 0, .pointer none] [(0, 1), (1, 1), (2, 1)] := pbuild_of Tryz.runUnderlying148 inferInstance (fun w => by simp [Tryz.sizeOf144, Tryz.sizeOf146, Tryz.sizeOf3])
instance : PSize Tryz.prog 163 1 := ⟨Tryz.sizeOf163⟩
instance : PAgg Tryz.prog 163 false := ⟨Tryz.isAgg163⟩
instance : PUnd Tryz.prog 163 (.slice 25) := ⟨Tryz.runUnderlying163⟩
instance : PSize Tryz.prog 169 1 := ⟨Tryz.sizeOf169⟩
instance : PAgg Tryz.prog 169 false := ⟨Tryz.isAgg169⟩
instance : PUnd Tryz.prog 169 (.slice 174) := ⟨Tryz.runUnderlying169⟩
instance : PSize Tryz.prog 170 1 := ⟨Tryz.sizeOf170⟩
instance : PAgg Tryz.prog 170 false := ⟨Tryz.isAgg170⟩
instance : PSize Tryz.prog 172 2 := ⟨Tryz.sizeOf172⟩
instance : PAgg Tryz.prog 172 true := ⟨Tryz.isAgg172⟩
instance : PZero Tryz.prog 172 [.slice none 0 0, .nilFunc] := ⟨fun w => ⟨_, Tryz.zeroValue172 w, rfl⟩⟩
instance : PFld Tryz.prog 172 0 0 := ⟨fun b o w => by simp [Instr.fieldAt, Instr.sureAddr, fieldPlace, Tryz.runUnderlying172, Tryz.sizeOf169, Addr.add_lit]⟩
instance : PFld Tryz.prog 172 1 1 := ⟨fun b o w => by simp [Instr.fieldAt, Instr.sureAddr, fieldPlace, Tryz.runUnderlying172, Tryz.sizeOf170, Addr.add_lit]⟩
instance : PBuild Tryz.prog 172 [.slice none 0 0, .nilFunc] [(0, 1), (1, 1)] := pbuild_of Tryz.runUnderlying172 inferInstance (fun w => by simp [Tryz.sizeOf169, Tryz.sizeOf170])
instance : PSize Tryz.prog 174 3 := ⟨Tryz.sizeOf174⟩
instance : PAgg Tryz.prog 174 true := ⟨Tryz.isAgg174⟩
instance : PZero Tryz.prog 174 [.bool false, .int .i64 0, .pointer none] := ⟨fun w => ⟨_, Tryz.zeroValue174 w, rfl⟩⟩
instance : PFld Tryz.prog 174 0 0 := ⟨fun b o w => by simp [Instr.fieldAt, Instr.sureAddr, fieldPlace, Tryz.runUnderlying174, Tryz.sizeOf4, Addr.add_lit]⟩
instance : PFld Tryz.prog 174 1 1 := ⟨fun b o w => by simp [Instr.fieldAt, Instr.sureAddr, fieldPlace, Tryz.runUnderlying174, Tryz.sizeOf3, Addr.add_lit]⟩
instance : PFld Tryz.prog 174 2 2 := ⟨fun b o w => by simp [Instr.fieldAt, Instr.sureAddr, fieldPlace, Tryz.runUnderlying174, Tryz.sizeOf123, Addr.add_lit]⟩
instance : PSize Tryz.prog 176 1 := ⟨Tryz.sizeOf176⟩
instance : PAgg Tryz.prog 176 true := ⟨Tryz.isAgg176⟩
instance : PZero Tryz.prog 176 [.slice none 0 0] := ⟨fun w => ⟨_, Tryz.zeroValue176 w, rfl⟩⟩
instance : PFld Tryz.prog 176 0 0 := ⟨fun b o w => by simp [Instr.fieldAt, Instr.sureAddr, fieldPlace, Tryz.runUnderlying176, Tryz.sizeOf78, Addr.add_lit]⟩
instance : PBuild Tryz.prog 176 [.slice none 0 0] [(0, 1)] := pbuild_of Tryz.runUnderlying176 inferInstance (fun w => by simp [Tryz.sizeOf78])
instance : PSize Tryz.prog 177 1 := ⟨Tryz.sizeOf177⟩
instance : PAgg Tryz.prog 177 false := ⟨Tryz.isAgg177⟩
instance : PUnd Tryz.prog 177 (.pointer 174) := ⟨Tryz.runUnderlying177⟩
instance : PSize Tryz.prog 178 1 := ⟨Tryz.sizeOf178⟩
instance : PAgg Tryz.prog 178 false := ⟨Tryz.isAgg178⟩
instance : PUnd Tryz.prog 178 (.pointer 34) := ⟨Tryz.runUnderlying178⟩
instance : PSize Tryz.prog 182 1 := ⟨Tryz.sizeOf182⟩
instance : PAgg Tryz.prog 182 false := ⟨Tryz.isAgg182⟩
instance : PUnd Tryz.prog 182 (.unsafePointer) := ⟨Tryz.runUnderlying182⟩
instance : PSize Tryz.prog 185 1 := ⟨Tryz.sizeOf185⟩
instance : PAgg Tryz.prog 185 false := ⟨Tryz.isAgg185⟩
instance : PUnd Tryz.prog 185 (.slice 9) := ⟨Tryz.runUnderlying185⟩
instance : PSize Tryz.prog 191 1 := ⟨Tryz.sizeOf191⟩
instance : PAgg Tryz.prog 191 false := ⟨Tryz.isAgg191⟩
instance : PUnd Tryz.prog 191 (.int .u64) := ⟨Tryz.runUnderlying191⟩
instance : PSize Tryz.prog 193 1 := ⟨Tryz.sizeOf193⟩
instance : PAgg Tryz.prog 193 true := ⟨Tryz.isAgg193⟩
instance : PFld Tryz.prog 193 0 0 := ⟨fun b o w => by simp [Instr.fieldAt, Instr.sureAddr, fieldPlace, Tryz.runUnderlying193, Tryz.sizeOf25, Addr.add_lit]⟩
instance : PSize Tryz.prog 195 2 := ⟨Tryz.sizeOf195⟩
instance : PAgg Tryz.prog 195 true := ⟨Tryz.isAgg195⟩
instance : PZero Tryz.prog 195 [.int .i64 0, .slice none 0 0] := ⟨fun w => ⟨_, Tryz.zeroValue195 w, rfl⟩⟩
instance : PFld Tryz.prog 195 0 0 := ⟨fun b o w => by simp [Instr.fieldAt, Instr.sureAddr, fieldPlace, Tryz.runUnderlying195, Tryz.sizeOf193, Addr.add_lit]⟩
instance : PFld Tryz.prog 195 1 1 := ⟨fun b o w => by simp [Instr.fieldAt, Instr.sureAddr, fieldPlace, Tryz.runUnderlying195, Tryz.sizeOf48, Addr.add_lit]⟩
instance : PBuild Tryz.prog 195 [.int .i64 0, .slice none 0 0] [(0, 1), (1, 1)] := pbuild_of Tryz.runUnderlying195 inferInstance (fun w => by simp [Tryz.sizeOf193, Tryz.sizeOf48])
instance : PSize Tryz.prog 198 2 := ⟨Tryz.sizeOf198⟩
instance : PAgg Tryz.prog 198 true := ⟨Tryz.isAgg198⟩
instance : PZero Tryz.prog 198 [.int .i64 0, .int .i64 0] := ⟨fun w => ⟨_, Tryz.zeroValue198 w, rfl⟩⟩
instance : PBuild Tryz.prog 198 [.int .i64 0, .int .i64 0] [(0, 1), (1, 1)] := pbuild_of Tryz.runUnderlying198 inferInstance (fun w => by simp [Tryz.sizeOf25, Tryz.sizeOf3])
instance : PSize Tryz.prog 202 1 := ⟨Tryz.sizeOf202⟩
instance : PAgg Tryz.prog 202 false := ⟨Tryz.isAgg202⟩
instance : PUnd Tryz.prog 202 (.int .u64) := ⟨Tryz.runUnderlying202⟩
instance : PSize Tryz.prog 204 4 := ⟨Tryz.sizeOf204⟩
instance : PAgg Tryz.prog 204 true := ⟨Tryz.isAgg204⟩
instance : PZero Tryz.prog 204 [.int .i64 0, .int .u32 0, .int .i64 0, .string ⟨#[]⟩] := ⟨fun w => ⟨_, Tryz.zeroValue204 w, rfl⟩⟩
instance : PFld Tryz.prog 204 0 0 := ⟨fun b o w => by simp [Instr.fieldAt, Instr.sureAddr, fieldPlace, Tryz.runUnderlying204, Tryz.sizeOf25, Addr.add_lit]⟩
instance : PBuild Tryz.prog 204 [.int .i64 0, .int .u32 0, .int .i64 0, .string ⟨#[]⟩] [(0, 1), (1, 1), (2, 1), (3, 1)] := pbuild_of Tryz.runUnderlying204 inferInstance (fun w => by simp [Tryz.sizeOf25, Tryz.sizeOf3, Tryz.sizeOf32, Tryz.sizeOf9])
instance : PSize Tryz.prog 206 1 := ⟨Tryz.sizeOf206⟩
instance : PAgg Tryz.prog 206 false := ⟨Tryz.isAgg206⟩
instance : PUnd Tryz.prog 206 (.slice 208) := ⟨Tryz.runUnderlying206⟩
instance : PSize Tryz.prog 208 1 := ⟨Tryz.sizeOf208⟩
instance : PAgg Tryz.prog 208 false := ⟨Tryz.isAgg208⟩
instance : PUnd Tryz.prog 208 (.int .i64) := ⟨Tryz.runUnderlying208⟩
instance : PZero Tryz.prog 208 [.int .i64 0] := ⟨fun w => ⟨_, Tryz.zeroValue208 w, rfl⟩⟩
instance : PSize Tryz.prog 211 1 := ⟨Tryz.sizeOf211⟩
instance : PAgg Tryz.prog 211 false := ⟨Tryz.isAgg211⟩
instance : PZero Tryz.prog 211 [.nilFunc] := ⟨fun w => ⟨_, Tryz.zeroValue211 w, rfl⟩⟩
instance : PSize Tryz.prog 213 1 := ⟨Tryz.sizeOf213⟩
instance : PAgg Tryz.prog 213 false := ⟨Tryz.isAgg213⟩
instance : PUnd Tryz.prog 213 (.map 3 211) := ⟨Tryz.runUnderlying213⟩
instance : PSize Tryz.prog 233 76 := ⟨Tryz.sizeOf233⟩
instance : PAgg Tryz.prog 233 true := ⟨Tryz.isAgg233⟩
instance : PUnd Tryz.prog 233 (.array 19 204) := ⟨Tryz.runUnderlying233⟩


instance : PEnter Tryz.prog 2 := ⟨Tryz.call2⟩
instance : PEnter Tryz.prog 3 := ⟨Tryz.call3⟩
instance : PEnter Tryz.prog 4 := ⟨Tryz.call4⟩
instance : PEnter Tryz.prog 5 := ⟨Tryz.call5⟩
instance : PEnter Tryz.prog 6 := ⟨Tryz.call6⟩
instance : PEnter Tryz.prog 7 := ⟨Tryz.call7⟩
instance : PEnter Tryz.prog 8 := ⟨Tryz.call8⟩
instance : PEnter Tryz.prog 9 := ⟨Tryz.call9⟩
instance : PEnter Tryz.prog 10 := ⟨Tryz.call10⟩
instance : PEnter Tryz.prog 11 := ⟨Tryz.call11⟩
instance : PEnter Tryz.prog 12 := ⟨Tryz.call12⟩
instance : PEnter Tryz.prog 13 := ⟨Tryz.call13⟩
instance : PEnter Tryz.prog 14 := ⟨Tryz.call14⟩
instance : PEnter Tryz.prog 15 := ⟨Tryz.call15⟩
instance : PEnter Tryz.prog 16 := ⟨Tryz.call16⟩
instance : PEnter Tryz.prog 17 := ⟨Tryz.call17⟩
instance : PEnter Tryz.prog 18 := ⟨Tryz.call18⟩
instance : PEnter Tryz.prog 19 := ⟨Tryz.call19⟩
instance : PEnter Tryz.prog 20 := ⟨Tryz.call20⟩
instance : PEnter Tryz.prog 21 := ⟨Tryz.call21⟩
instance : PEnter Tryz.prog 22 := ⟨Tryz.call22⟩
instance : PEnter Tryz.prog 23 := ⟨Tryz.call23⟩
instance : PEnter Tryz.prog 24 := ⟨Tryz.call24⟩
instance : PEnter Tryz.prog 25 := ⟨Tryz.call25⟩
instance : PEnter Tryz.prog 26 := ⟨Tryz.call26⟩
instance : PEnter Tryz.prog 27 := ⟨Tryz.call27⟩
instance : PEnter Tryz.prog 28 := ⟨Tryz.call28⟩
instance : PEnter Tryz.prog 29 := ⟨Tryz.call29⟩
instance : PEnter Tryz.prog 30 := ⟨Tryz.call30⟩
instance : PEnter Tryz.prog 31 := ⟨Tryz.call31⟩
instance : PEnter Tryz.prog 32 := ⟨Tryz.call32⟩
instance : PEnter Tryz.prog 33 := ⟨Tryz.call33⟩
instance : PEnter Tryz.prog 34 := ⟨Tryz.call34⟩
instance : PEnter Tryz.prog 35 := ⟨Tryz.call35⟩
instance : PEnter Tryz.prog 36 := ⟨Tryz.call36⟩
instance : PEnter Tryz.prog 37 := ⟨Tryz.call37⟩
instance : PEnter Tryz.prog 38 := ⟨Tryz.call38⟩
instance : PEnter Tryz.prog 39 := ⟨Tryz.call39⟩
instance : PEnter Tryz.prog 40 := ⟨Tryz.call40⟩
instance : PEnter Tryz.prog 41 := ⟨Tryz.call41⟩
instance : PEnter Tryz.prog 42 := ⟨Tryz.call42⟩
instance : PEnter Tryz.prog 43 := ⟨Tryz.call43⟩
instance : PEnter Tryz.prog 44 := ⟨Tryz.call44⟩
instance : PEnter Tryz.prog 45 := ⟨Tryz.call45⟩
instance : PEnter Tryz.prog 46 := ⟨Tryz.call46⟩
instance : PEnter Tryz.prog 47 := ⟨Tryz.call47⟩
instance : PEnter Tryz.prog 48 := ⟨Tryz.call48⟩
instance : PEnter Tryz.prog 49 := ⟨Tryz.call49⟩
instance : PEnter Tryz.prog 50 := ⟨Tryz.call50⟩
instance : PEnter Tryz.prog 51 := ⟨Tryz.call51⟩
instance : PEnter Tryz.prog 52 := ⟨Tryz.call52⟩
instance : PEnter Tryz.prog 53 := ⟨Tryz.call53⟩
instance : PEnter Tryz.prog 54 := ⟨Tryz.call54⟩
instance : PEnter Tryz.prog 55 := ⟨Tryz.call55⟩
instance : PEnter Tryz.prog 56 := ⟨Tryz.call56⟩
instance : PEnter Tryz.prog 57 := ⟨Tryz.call57⟩
instance : PEnter Tryz.prog 58 := ⟨Tryz.call58⟩
instance : PEnter Tryz.prog 59 := ⟨Tryz.call59⟩
instance : PEnter Tryz.prog 60 := ⟨Tryz.call60⟩
instance : PEnter Tryz.prog 61 := ⟨Tryz.call61⟩
instance : PEnter Tryz.prog 62 := ⟨Tryz.call62⟩
instance : PEnter Tryz.prog 63 := ⟨Tryz.call63⟩
instance : PEnter Tryz.prog 64 := ⟨Tryz.call64⟩
instance : PEnter Tryz.prog 65 := ⟨Tryz.call65⟩
instance : PEnter Tryz.prog 66 := ⟨Tryz.call66⟩
instance : PEnter Tryz.prog 67 := ⟨Tryz.call67⟩
instance : PEnter Tryz.prog 68 := ⟨Tryz.call68⟩
instance : PEnter Tryz.prog 69 := ⟨Tryz.call69⟩
instance : PEnter Tryz.prog 70 := ⟨Tryz.call70⟩
instance : PEnter Tryz.prog 71 := ⟨Tryz.call71⟩
instance : PEnter Tryz.prog 72 := ⟨Tryz.call72⟩
instance : PEnter Tryz.prog 73 := ⟨Tryz.call73⟩
instance : PEnter Tryz.prog 74 := ⟨Tryz.call74⟩
instance : PEnter Tryz.prog 75 := ⟨Tryz.call75⟩
instance : PEnter Tryz.prog 76 := ⟨Tryz.call76⟩
instance : PEnter Tryz.prog 77 := ⟨Tryz.call77⟩
instance : PEnter Tryz.prog 78 := ⟨Tryz.call78⟩
instance : PEnter Tryz.prog 79 := ⟨Tryz.call79⟩
instance : PEnter Tryz.prog 80 := ⟨Tryz.call80⟩
instance : PEnter Tryz.prog 81 := ⟨Tryz.call81⟩
instance : PEnter Tryz.prog 82 := ⟨Tryz.call82⟩
instance : PEnter Tryz.prog 83 := ⟨Tryz.call83⟩
instance : PEnter Tryz.prog 84 := ⟨Tryz.call84⟩
instance : PEnter Tryz.prog 85 := ⟨Tryz.call85⟩
instance : PEnter Tryz.prog 86 := ⟨Tryz.call86⟩
instance : PEnter Tryz.prog 87 := ⟨Tryz.call87⟩
instance : PEnter Tryz.prog 88 := ⟨Tryz.call88⟩
instance : PEnter Tryz.prog 89 := ⟨Tryz.call89⟩
instance : PEnter Tryz.prog 90 := ⟨Tryz.call90⟩




instance : PEnter Tryz.prog 95 := ⟨Tryz.call95⟩


instance : PEnter Tryz.prog 98 := ⟨Tryz.call98⟩
instance : PEnter Tryz.prog 99 := ⟨Tryz.call99⟩
instance : PEnter Tryz.prog 100 := ⟨Tryz.call100⟩
instance : PEnter Tryz.prog 101 := ⟨Tryz.call101⟩
instance : PEnter Tryz.prog 102 := ⟨Tryz.call102⟩
instance : PEnter Tryz.prog 103 := ⟨Tryz.call103⟩
instance : PEnter Tryz.prog 104 := ⟨Tryz.call104⟩
instance : PEnter Tryz.prog 105 := ⟨Tryz.call105⟩
instance : PEnter Tryz.prog 106 := ⟨Tryz.call106⟩
instance : PEnter Tryz.prog 107 := ⟨Tryz.call107⟩
instance : PEnter Tryz.prog 108 := ⟨Tryz.call108⟩
instance : PEnter Tryz.prog 109 := ⟨Tryz.call109⟩
instance : PEnter Tryz.prog 110 := ⟨Tryz.call110⟩
instance : PEnter Tryz.prog 111 := ⟨Tryz.call111⟩
instance : PEnter Tryz.prog 112 := ⟨Tryz.call112⟩
instance : PEnter Tryz.prog 113 := ⟨Tryz.call113⟩
instance : PEnter Tryz.prog 114 := ⟨Tryz.call114⟩
instance : PEnter Tryz.prog 115 := ⟨Tryz.call115⟩
instance : PEnter Tryz.prog 116 := ⟨Tryz.call116⟩
instance : PEnter Tryz.prog 117 := ⟨Tryz.call117⟩
instance : PEnter Tryz.prog 118 := ⟨Tryz.call118⟩
instance : PEnter Tryz.prog 119 := ⟨Tryz.call119⟩
instance : PEnter Tryz.prog 120 := ⟨Tryz.call120⟩
instance : PEnter Tryz.prog 121 := ⟨Tryz.call121⟩
instance : PEnter Tryz.prog 122 := ⟨Tryz.call122⟩
instance : PEnter Tryz.prog 123 := ⟨Tryz.call123⟩
instance : PEnter Tryz.prog 124 := ⟨Tryz.call124⟩







instance : PEnter Tryz.prog 132 := ⟨Tryz.call132⟩
instance : PEnter Tryz.prog 133 := ⟨Tryz.call133⟩
instance : PEnter Tryz.prog 134 := ⟨Tryz.call134⟩
instance : PEnter Tryz.prog 135 := ⟨Tryz.call135⟩
instance : PEnter Tryz.prog 136 := ⟨Tryz.call136⟩
instance : PEnter Tryz.prog 137 := ⟨Tryz.call137⟩
instance : PEnter Tryz.prog 138 := ⟨Tryz.call138⟩
instance : PEnter Tryz.prog 139 := ⟨Tryz.call139⟩
instance : PEnter Tryz.prog 140 := ⟨Tryz.call140⟩
instance : PEnter Tryz.prog 141 := ⟨Tryz.call141⟩
instance : PEnter Tryz.prog 142 := ⟨Tryz.call142⟩
instance : PEnter Tryz.prog 143 := ⟨Tryz.call143⟩
instance : PEnter Tryz.prog 144 := ⟨Tryz.call144⟩
instance : PEnter Tryz.prog 145 := ⟨Tryz.call145⟩
instance : PEnter Tryz.prog 146 := ⟨Tryz.call146⟩
instance : PEnter Tryz.prog 147 := ⟨Tryz.call147⟩
instance : PEnter Tryz.prog 148 := ⟨Tryz.call148⟩
instance : PEnter Tryz.prog 149 := ⟨Tryz.call149⟩
instance : PEnter Tryz.prog 150 := ⟨Tryz.call150⟩
instance : PEnter Tryz.prog 151 := ⟨Tryz.call151⟩
instance : PEnter Tryz.prog 152 := ⟨Tryz.call152⟩
instance : PEnter Tryz.prog 153 := ⟨Tryz.call153⟩
instance : PEnter Tryz.prog 154 := ⟨Tryz.call154⟩
instance : PEnter Tryz.prog 155 := ⟨Tryz.call155⟩
instance : PEnter Tryz.prog 156 := ⟨Tryz.call156⟩
instance : PEnter Tryz.prog 157 := ⟨Tryz.call157⟩
instance : PEnter Tryz.prog 158 := ⟨Tryz.call158⟩
instance : PEnter Tryz.prog 159 := ⟨Tryz.call159⟩
instance : PEnter Tryz.prog 160 := ⟨Tryz.call160⟩
instance : PEnter Tryz.prog 161 := ⟨Tryz.call161⟩
instance : PEnter Tryz.prog 162 := ⟨Tryz.call162⟩
instance : PEnter Tryz.prog 163 := ⟨Tryz.call163⟩
instance : PEnter Tryz.prog 164 := ⟨Tryz.call164⟩
instance : PEnter Tryz.prog 165 := ⟨Tryz.call165⟩
instance : PEnter Tryz.prog 166 := ⟨Tryz.call166⟩
instance : PEnter Tryz.prog 167 := ⟨Tryz.call167⟩
instance : PEnter Tryz.prog 168 := ⟨Tryz.call168⟩
instance : PEnter Tryz.prog 169 := ⟨Tryz.call169⟩
instance : PEnter Tryz.prog 170 := ⟨Tryz.call170⟩
instance : PEnter Tryz.prog 171 := ⟨Tryz.call171⟩
instance : PEnter Tryz.prog 172 := ⟨Tryz.call172⟩
instance : PEnter Tryz.prog 173 := ⟨Tryz.call173⟩
instance : PEnter Tryz.prog 174 := ⟨Tryz.call174⟩
instance : PEnter Tryz.prog 175 := ⟨Tryz.call175⟩
instance : PEnter Tryz.prog 176 := ⟨Tryz.call176⟩
instance : PEnter Tryz.prog 177 := ⟨Tryz.call177⟩
instance : PEnter Tryz.prog 178 := ⟨Tryz.call178⟩
instance : PEnter Tryz.prog 179 := ⟨Tryz.call179⟩
instance : PEnter Tryz.prog 180 := ⟨Tryz.call180⟩
instance : PEnter Tryz.prog 181 := ⟨Tryz.call181⟩
instance : PEnter Tryz.prog 182 := ⟨Tryz.call182⟩
instance : PEnter Tryz.prog 183 := ⟨Tryz.call183⟩
instance : PEnter Tryz.prog 184 := ⟨Tryz.call184⟩
instance : PEnter Tryz.prog 185 := ⟨Tryz.call185⟩
instance : PEnter Tryz.prog 186 := ⟨Tryz.call186⟩
instance : PEnter Tryz.prog 187 := ⟨Tryz.call187⟩
instance : PEnter Tryz.prog 188 := ⟨Tryz.call188⟩
instance : PEnter Tryz.prog 189 := ⟨Tryz.call189⟩
instance : PEnter Tryz.prog 190 := ⟨Tryz.call190⟩
instance : PEnter Tryz.prog 191 := ⟨Tryz.call191⟩
instance : PEnter Tryz.prog 192 := ⟨Tryz.call192⟩
instance : PEnter Tryz.prog 193 := ⟨Tryz.call193⟩
instance : PEnter Tryz.prog 194 := ⟨Tryz.call194⟩
instance : PEnter Tryz.prog 195 := ⟨Tryz.call195⟩
instance : PEnter Tryz.prog 196 := ⟨Tryz.call196⟩
instance : PEnter Tryz.prog 197 := ⟨Tryz.call197⟩
instance : PEnter Tryz.prog 198 := ⟨Tryz.call198⟩
instance : PEnter Tryz.prog 199 := ⟨Tryz.call199⟩
instance : PEnter Tryz.prog 200 := ⟨Tryz.call200⟩
instance : PEnter Tryz.prog 201 := ⟨Tryz.call201⟩
instance : PEnter Tryz.prog 202 := ⟨Tryz.call202⟩
instance : PEnter Tryz.prog 203 := ⟨Tryz.call203⟩
instance : PEnter Tryz.prog 204 := ⟨Tryz.call204⟩
instance : PEnter Tryz.prog 205 := ⟨Tryz.call205⟩
instance : PEnter Tryz.prog 206 := ⟨Tryz.call206⟩
instance : PEnter Tryz.prog 207 := ⟨Tryz.call207⟩
instance : PEnter Tryz.prog 208 := ⟨Tryz.call208⟩
instance : PEnter Tryz.prog 209 := ⟨Tryz.call209⟩
instance : PEnter Tryz.prog 210 := ⟨Tryz.call210⟩
instance : PEnter Tryz.prog 211 := ⟨Tryz.call211⟩
instance : PEnter Tryz.prog 212 := ⟨Tryz.call212⟩

instance : PEnter Tryz.prog 214 := ⟨Tryz.call214⟩
instance : PEnter Tryz.prog 215 := ⟨Tryz.call215⟩
instance : PEnter Tryz.prog 216 := ⟨Tryz.call216⟩
instance : PEnter Tryz.prog 217 := ⟨Tryz.call217⟩
instance : PEnter Tryz.prog 218 := ⟨Tryz.call218⟩

instance : PEnter Tryz.prog 220 := ⟨Tryz.call220⟩























instance : PEnter Tryz.prog 244 := ⟨Tryz.call244⟩
end Go.Proofs.YtlkgdidmhmaneaaGreatDoor
/- The engine, part 5: the rules with their side conditions filled by themselves. -/
namespace Go.Proofs.YtlkgdidmhmaneaaGreatDoor
open Go Go.RowKit
section
variable {P : Program} {Q : Exit → Act → World → Prop} {G : Ctx} {F : Fr} {H : List Ast} {ops : Array Oper} {rest tail : List Oper}
variable {d : Nat} {op : Op} {ty : TypeId} {pos : String} {aft : Array Edge}

section
variable {n : Nat} {v : Value}
theorem y_isLoad {t : TypeId} {x : Operand} (h : Yl P n F H (.load t x) v) : Yl P n F H (.load t x) v := h
theorem y_isBin {o : BinOp} {t t2 : TypeId} {x y : Operand} (h : Yl P n F H (.binOp o t x y t2) v) : Yl P n F H (.binOp o t x y t2) v := h
theorem y_isCall {b : Builtin} {xs : Array Operand} {ts : Array TypeId} (h : Yl P n F H (.call ⟨.builtin b, xs, ts⟩) v) : Yl P n F H (.call ⟨.builtin b, xs, ts⟩) v := h
theorem y_isPick {x y z : Operand} (h : Yl P n F H (.pick x y z) v) : Yl P n F H (.pick x y z) v := h
theorem y_isConv {s t : TypeId} {x : Operand} (h : Yl P n F H (.convert s t x) v) : Yl P n F H (.convert s t x) v := h
theorem y_isSlice {t : TypeId} {x : Operand} {a b c : Option Operand} (h : Yl P n F H (.slice t x a b c) v) : Yl P n F H (.slice t x a b c) v := h
end
attribute [local irreducible] Yl OG CG EG SG AG CellIn CellsIn BlkIn TakeA SplitA Ct ResOk Good Held blk
theorem ylA {n : Nat} {v : Value} (hy : Yl P n F H op v := by
      first
      | (apply y_move; exact rfl)
      | (apply y_assign; exact rfl)
      | (apply y_field; exact rfl; (try simp only [Nat.zero_add, Nat.reduceAdd]); exact rfl)
      | (apply y_isLoad; first | (apply y_load; exact rfl; apply CellIn.blk; (repeat (first | exact BlkIn.here | apply BlkIn.there)); exact rfl) | (apply y_loadB; exact rfl; (repeat (first | exact BlkIn.here | apply BlkIn.there)); exact rfl))
      | (apply y_nil; exact rfl)
      | (apply y_extract; exact rfl; exact rfl)
      | (apply y_isBin
         first
         | (apply y_eql; exact rfl; exact rfl)
         | (apply y_neq; exact rfl; exact rfl)
         | (apply y_lss; exact rfl; exact rfl)
         | (apply y_gtr; exact rfl; exact rfl)
         | (apply y_leq; exact rfl; exact rfl)
         | (apply y_geq; exact rfl; exact rfl)
         | (apply y_addi; exact rfl; exact rfl; omega)
         | (apply y_subi; exact rfl; exact rfl; omega)
         | (apply y_seql; exact rfl; exact rfl)
         | (apply y_sneq; exact rfl; exact rfl)
         | (apply y_pne; exact rfl; exact rfl)
         | (apply y_peq; exact rfl; exact rfl)
         | (apply y_remn; exact rfl; exact rfl; omega; omega)
         | (apply y_quoi; exact rfl; exact rfl; omega)
         | (apply y_quou; exact rfl; exact rfl; omega)
         | (apply y_quou64; exact rfl; exact rfl; omega)
         | (apply y_addu; exact rfl; exact rfl; omega)
         | (apply y_addum; exact rfl; exact rfl)
         | (apply y_addu64; exact rfl; exact rfl; omega)
         | (apply y_mulu; exact rfl; exact rfl; omega)
         | (apply y_mulu64; exact rfl; exact rfl; omega)
         | (apply y_muli; exact rfl; exact rfl; omega)
         | (apply y_inz; exact rfl; exact rfl)
         | (apply y_in0; exact rfl)
         | (apply y_iez; exact rfl; exact rfl)
         | (apply y_ie0; exact rfl)
         | (apply y_sle; exact rfl; exact rfl)
         | (apply y_sln; exact rfl; exact rfl)
         | (apply y_scat; exact rfl; exact rfl; omega)
         | (apply y_slss; exact rfl; exact rfl)
         | (apply y_shr; exact rfl; exact rfl; omega))
      | (apply y_isCall; first | (apply y_len; exact rfl) | (apply y_slen; exact rfl) | (apply y_max; exact rfl; exact rfl) | (apply y_min; exact rfl; exact rfl))
      | (apply y_isPick; first | (apply y_pick_t; exact rfl; exact rfl) | (apply y_pick_f; exact rfl; exact rfl))
      | (apply y_not; exact rfl)
      | (apply y_build; exact rfl; exact rfl)
      | (apply y_idx; exact rfl; exact rfl; omega; (try simp only [Int.toNat_natCast, Nat.mul_one, Nat.zero_add]); exact rfl)
      | (apply y_idxp; exact rfl; exact rfl; omega; (try simp only [Int.toNat_natCast, Nat.mul_one]); exact rfl)
      | (apply y_isConv; first | (apply y_conv64; exact rfl; omega) | (apply y_convu32i; exact rfl; omega) | (apply y_convu8i; exact rfl; omega) | (apply y_convu64i; exact rfl; omega) | (apply y_convu32; exact rfl) | (apply y_convu8; exact rfl) | (apply y_convu64; exact rfl))
      | (apply y_isSlice; first | (apply y_cut3; exact rfl; exact rfl; exact rfl; omega) | (apply y_scutlo; exact rfl; exact rfl; omega) | (apply y_scuthi; exact rfl; exact rfl; omega) | (apply y_scut; exact rfl; exact rfl; exact rfl; omega))
      | (apply y_func; exact rfl; exact rfl)
      | (apply y_negi; exact rfl; omega)) : Yl P n F H op v := hy
theorem o_v {v : Value} (hy : Yl P G.n F H op v := by exact ylA) (hd : Nat.ble (d + 1) G.n = true := by rfl) (k : OG P ops Q G rest ((d, v) :: F) H) : OG P ops Q G (⟨some d, op, ty, pos, aft, none⟩ :: rest) F H := o_y hy hd k
theorem s_v {v : Value} (hy : Yl P G.n F H op v := by exact ylA) (hd : Nat.ble (d + 1) G.n = true := by rfl) (k : SG P ops Q G tail rest ((d, v) :: F) H) : SG P ops Q G tail (⟨some d, op, ty, pos, aft, none⟩ :: rest) F H := s_y hy hd k
section
variable {j dj : Nat} {b b' : Bool} {oj : Oper} {v : Value}
theorem o_w (hj : ops[j]? = some oj := by rfl) (hdj : oj.dst = some dj := by rfl) (hv : look F dj = some (.bool b) := by rfl) (hy : Yl P G.n F H op v := by exact ylA) (hd : Nat.ble (d + 1) G.n = true := by rfl) (k : OG P ops Q G rest ((d, v) :: F) H) : OG P ops Q G (⟨some d, op, ty, pos, aft, some (j, b)⟩ :: rest) F H := o_want hj hdj hv hy hd k
theorem o_ung {dst : Option Tmp} (hj : ops[j]? = some oj := by rfl) (hdj : oj.dst = some dj := by rfl) (hv : look F dj = some (.bool b) := by rfl) (k : OG P ops Q G (⟨dst, op, ty, pos, aft, none⟩ :: rest) F H) : OG P ops Q G (⟨dst, op, ty, pos, aft, some (j, b)⟩ :: rest) F H := o_ungd hj hdj hv k
theorem o_k (hj : ops[j]? = some oj := by rfl) (hdj : oj.dst = some dj := by rfl) (hv : look F dj = some (.bool b) := by rfl) (hne : b' = !b := by rfl) (hd : Nat.ble (d + 1) G.n = true := by rfl) (k : OG P ops Q G rest ((d, undef) :: F) H) : OG P ops Q G (⟨some d, op, ty, pos, aft, some (j, b')⟩ :: rest) F H := o_skip hj hdj hv hne hd k
theorem s_w (hj : ops[j]? = some oj := by rfl) (hdj : oj.dst = some dj := by rfl) (hv : look F dj = some (.bool b) := by rfl) (hy : Yl P G.n F H op v := by exact ylA) (hd : Nat.ble (d + 1) G.n = true := by rfl) (k : SG P ops Q G tail rest ((d, v) :: F) H) : SG P ops Q G tail (⟨some d, op, ty, pos, aft, some (j, b)⟩ :: rest) F H := s_want hj hdj hv hy hd k
theorem s_k (hj : ops[j]? = some oj := by rfl) (hdj : oj.dst = some dj := by rfl) (hv : look F dj = some (.bool b) := by rfl) (hne : b' = !b := by rfl) (hd : Nat.ble (d + 1) G.n = true := by rfl) (k : SG P ops Q G tail rest ((d, undef) :: F) H) : SG P ops Q G tail (⟨some d, op, ty, pos, aft, some (j, b')⟩ :: rest) F H := s_skip hj hdj hv hne hd k
end

theorem c_if {x : Operand} {b : Bool} {c1 c2 : Code} (hx : ev F x = some (.bool b) := by rfl) (h1 : b = true → CG P c1 Q G F H) (h2 : b = false → CG P c2 Q G F H) : CG P (.cond x c1 c2) Q G F H := c_cond hx h1 h2
end
end Go.Proofs.YtlkgdidmhmaneaaGreatDoor
