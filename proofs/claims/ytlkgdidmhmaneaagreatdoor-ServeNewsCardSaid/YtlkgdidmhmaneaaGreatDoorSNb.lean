/- A part of the proof: walks and laws that the last part joins. -/
import Derived.Test.YtlkgdidmhmaneaaGreatDoorSNa
import Derived.Deep.AppendSrc
import Derived.KernelRfl
/- The engine, part 6: assertions made of others; rows of bytes; turning what is known about. -/
namespace Go.Proofs.YtlkgdidmhmaneaaGreatDoor
open Go Go.RowKit

/-- A stands somewhere in H. -/
def InA (H : List Ast) (A : Ast) : Prop := ∀ w, Held H w → ∃ S, A.holds S w
theorem InA.here {A : Ast} {H : List Ast} : InA (A :: H) A := by
  rintro w ⟨M, T, h⟩
  cases ha : A.own with
  | true => obtain ⟨S, _, h2, _⟩ := (SepL.cons_own ha).1 h; exact ⟨S, h2⟩
  | false => exact ⟨T, ((SepL.cons_imm ha).1 h).1⟩
theorem InA.there {A B : Ast} {H : List Ast} (h : InA H A) : InA (B :: H) A := by
  rintro w ⟨M, T, hs⟩
  cases ha : B.own with
  | true => obtain ⟨S, _, _, h3⟩ := (SepL.cons_own ha).1 hs; exact h w ⟨_, _, h3⟩
  | false => exact h w ⟨_, _, ((SepL.cons_imm ha).1 hs).2⟩

/-- 'for some x of which p holds: all of Bs x, each apart from the others', as one assertion (Bs x: owned ones alone). -/
def exA {α : Type} (p : α → Prop) (Bs : α → List Ast) : Ast where
  own := true
  holds := fun S w => ∃ x, p x ∧ SepL (Bs x) S (fun _ => False) w
  loc := fun _ _ _ h ⟨x, hx, hs⟩ => ⟨x, hx, SepL.loc h (fun _ hk => hk.elim) hs⟩
  mono := fun _ _ _ h ⟨x, hx, hs⟩ => ⟨x, hx, SepL.mono h (fun _ hk => hk) hs⟩

@[simp] theorem exA_own {α : Type} (p : α → Prop) (Bs : α → List Ast) : (exA p Bs).own = true := rfl
@[simp] theorem blk_own (b : Nat) (t : TypeId) (cs : List Value) (fz : Nat × Nat) : (blk b t cs fz).own = true := by unfold blk; rfl
def allOwn : List Ast → Prop
  | [] => True
  | A :: H => A.own = true ∧ allOwn H
theorem SepL.noT : ∀ {H : List Ast} {M T T' : Nat → Prop} {w : World}, allOwn H → SepL H M T w → SepL H M T' w
  | [], _, _, _, _, _, _ => trivial
  | A :: H, M, T, T', w, ho, h => by
    obtain ⟨S, h1, h2, h3⟩ := (SepL.cons_own ho.1).1 h
    exact (SepL.cons_own ho.1).2 ⟨S, h1, h2, SepL.noT ho.2 h3⟩

section
variable {G : Ctx} {H H1 H0 Hf : List Ast} {A B : Ast} {w : World}
theorem Good.unfold {α : Type} {p : α → Prop} {Bs : α → List Ast} (ho : ∀ x, allOwn (Bs x)) (h : Good G (exA p Bs :: H1) w) : ∃ x, p x ∧ Good G (Bs x ++ H1) w := by
  obtain ⟨M, T, h1, h2⟩ := h
  obtain ⟨S, g1, ⟨x, hx, hs⟩, g3⟩ := (SepL.cons_own rfl).1 h1
  exact ⟨x, hx, M, T, SepL.append_join g1 (SepL.noT (ho x) hs) g3, h2⟩
theorem Good.fold {α : Type} {p : α → Prop} {Bs : α → List Ast} (ho : ∀ x, allOwn (Bs x)) (x : α) (hx : p x) (h : Good G (Bs x ++ H1) w) : Good G (exA p Bs :: H1) w := by
  obtain ⟨M, T, h1, h2⟩ := h
  obtain ⟨S, g1, g2, g3⟩ := SepL.append_split h1
  exact ⟨M, T, (SepL.cons_own rfl).2 ⟨S, g1, ⟨x, hx, SepL.noT (ho x) g2⟩, g3⟩, h2⟩
theorem Good.imp (hi : ∀ S w, A.holds S w → B.holds S w) (ho : A.own = B.own) (h : Good G (A :: H1) w) : Good G (B :: H1) w := by
  obtain ⟨M, T, h1, h2⟩ := h
  refine ⟨M, T, ?_, h2⟩
  cases ha : A.own with
  | true =>
    obtain ⟨S, g1, g2, g3⟩ := (SepL.cons_own ha).1 h1
    exact (SepL.cons_own (ho ▸ ha)).2 ⟨S, g1, hi S w g2, g3⟩
  | false =>
    obtain ⟨g1, g2⟩ := (SepL.cons_imm ha).1 h1
    exact (SepL.cons_imm (ho ▸ ha)).2 ⟨hi T w g1, g2⟩
/-- what was owned is turned no more. -/
theorem Good.freeze (hi : ∀ S w, A.holds S w → B.holds S w) (ha : A.own = true) (hb : B.own = false) (h : Good G (A :: H1) w) : Good G (B :: H1) w := by
  obtain ⟨M, T, h1, h2, h3, h4, h5⟩ := h
  obtain ⟨S, g1, g2, g3⟩ := (SepL.cons_own ha).1 h1
  refine ⟨fun k => M k ∧ ¬ S k, fun k => T k ∨ S k, ?_, ?_, fun k hk => h3 k hk.1, ?_, h5⟩
  · exact (SepL.cons_imm hb).2 ⟨B.mono _ _ _ (fun k hk => .inr hk) (hi S w g2), SepL.mono (fun _ hk => hk) (fun k hk => .inl hk) g3⟩
  · rintro k ⟨hk, hn⟩ (ht | ht)
    · exact h2 k hk ht
    · exact hn ht
  · rintro k (ht | ht)
    · exact h4 k ht
    · have := h3 k (g1 k ht); exact ⟨this.1, .inr this.2⟩
theorem Good.forget (h : Good G (A :: H1) w) : Good G H1 w := h.drop (H0 := H1) (Hf := [A]) (fun _ _ _ hh => by
  have := SepL.drop_left (H0 := [A]) (Hf := H1) (by simpa using hh)
  rename_i M T w
  cases ha : A.own with
  | true =>
    obtain ⟨S, g1, g2, g3⟩ := (SepL.cons_own ha).1 hh
    refine SepL.append_join (S := fun k => M k ∧ ¬ S k) (fun k hk => hk.1) g3 ?_
    exact (SepL.cons_own ha).2 ⟨S, fun k hk => ⟨g1 k hk, fun h => h.2 hk⟩, g2, trivial⟩
  | false =>
    obtain ⟨g1, g2⟩ := (SepL.cons_imm ha).1 hh
    exact SepL.append_join (S := M) (fun k hk => hk) g2 ((SepL.cons_imm ha).2 ⟨g1, trivial⟩))
end

section
variable {P : Program} {Q : Exit → Act → World → Prop} {G : Ctx} {F : Fr} {H H1 : List Ast} {ops : Array Oper} {rest tail : List Oper} {c : Code} {e : Exit}
variable {α : Type} {p : α → Prop} {Bs : α → List Ast} {A B : Ast}
theorem o_unf (A : Ast) (hA : A = exA p Bs := by rfl) (ht : TakeA H A H1 := by repeat (first | exact TakeA.here | apply TakeA.there)) (ho : ∀ x, allOwn (Bs x) := by intro x; simp [allOwn]) (k : ∀ x, p x → OG P ops Q G rest F (Bs x ++ H1)) : OG P ops Q G rest F H := o_open (fun _ hw => Good.unfold ho (hA ▸ hw.take ht)) k
theorem c_unf (A : Ast) (hA : A = exA p Bs := by rfl) (ht : TakeA H A H1 := by repeat (first | exact TakeA.here | apply TakeA.there)) (ho : ∀ x, allOwn (Bs x) := by intro x; simp [allOwn]) (k : ∀ x, p x → CG P c Q G F (Bs x ++ H1)) : CG P c Q G F H := c_open (fun _ hw => Good.unfold ho (hA ▸ hw.take ht)) k
theorem e_unf (A : Ast) (hA : A = exA p Bs := by rfl) (ht : TakeA H A H1 := by repeat (first | exact TakeA.here | apply TakeA.there)) (ho : ∀ x, allOwn (Bs x) := by intro x; simp [allOwn]) (k : ∀ x, p x → EG Q e G F (Bs x ++ H1)) : EG Q e G F H := fun a w h hw => let ⟨x, hx, hg⟩ := Good.unfold ho (hA ▸ hw.take ht); k x hx a w h hg
theorem o_fold (A : Ast) (x : α) (hA : A = exA p Bs := by rfl) (hx : p x) (hs : SplitA H (Bs x) H1 := by (repeat (apply SplitA.cons; (repeat (first | exact TakeA.keepI | exact TakeA.here | apply TakeA.there)))); exact SplitA.nil) (ho : ∀ x, allOwn (Bs x) := by intro x; simp [allOwn]) (k : OG P ops Q G rest F (A :: H1)) : OG P ops Q G rest F H := o_conv (fun _ hw => hA ▸ (hw.split hs).fold ho x hx) k
theorem c_fold (A : Ast) (x : α) (hA : A = exA p Bs := by rfl) (hx : p x) (hs : SplitA H (Bs x) H1 := by (repeat (apply SplitA.cons; (repeat (first | exact TakeA.keepI | exact TakeA.here | apply TakeA.there)))); exact SplitA.nil) (ho : ∀ x, allOwn (Bs x) := by intro x; simp [allOwn]) (k : CG P c Q G F (A :: H1)) : CG P c Q G F H := c_conv (fun _ hw => hA ▸ (hw.split hs).fold ho x hx) k
theorem e_fold (A : Ast) (x : α) (hA : A = exA p Bs := by rfl) (hx : p x) (hs : SplitA H (Bs x) H1 := by (repeat (apply SplitA.cons; (repeat (first | exact TakeA.keepI | exact TakeA.here | apply TakeA.there)))); exact SplitA.nil) (ho : ∀ x, allOwn (Bs x) := by intro x; simp [allOwn]) (k : EG Q e G F (A :: H1)) : EG Q e G F H := e_conv (fun _ hw => hA ▸ (hw.split hs).fold ho x hx) k
theorem Good.add0 {w : World} (ho : A.own = true) (h0 : A.holds (fun _ => False) w) (h : Good G H w) : Good G (A :: H) w := by
  obtain ⟨M, T, h1, h2⟩ := h
  exact ⟨M, T, (SepL.cons_own ho).2 ⟨fun _ => False, fun _ h => h.elim, h0, SepL.mono (fun k hk => ⟨hk, fun h => h⟩) (fun _ hk => hk) h1⟩, h2⟩
theorem o_add0 (A : Ast) (h0 : ∀ w, A.holds (fun _ => False) w) (ho : A.own = true := by simp) (k : OG P ops Q G rest F (A :: H)) : OG P ops Q G rest F H := o_conv (fun w hw => hw.add0 ho (h0 w)) k
theorem c_add0 (A : Ast) (h0 : ∀ w, A.holds (fun _ => False) w) (ho : A.own = true := by simp) (k : CG P c Q G F (A :: H)) : CG P c Q G F H := c_conv (fun w hw => hw.add0 ho (h0 w)) k
theorem e_add0 (A : Ast) (h0 : ∀ w, A.holds (fun _ => False) w) (ho : A.own = true := by simp) (k : EG Q e G F (A :: H)) : EG Q e G F H := e_conv (fun w hw => hw.add0 ho (h0 w)) k
theorem o_imp (A B : Ast) (hi : ∀ S w, A.holds S w → B.holds S w) (ho : A.own = B.own := by simp) (ht : TakeA H A H1 := by repeat (first | exact TakeA.here | apply TakeA.there)) (k : OG P ops Q G rest F (B :: H1)) : OG P ops Q G rest F H := o_conv (fun _ hw => (hw.take ht).imp hi ho) k
theorem c_imp (A B : Ast) (hi : ∀ S w, A.holds S w → B.holds S w) (ho : A.own = B.own := by simp) (ht : TakeA H A H1 := by repeat (first | exact TakeA.here | apply TakeA.there)) (k : CG P c Q G F (B :: H1)) : CG P c Q G F H := c_conv (fun _ hw => (hw.take ht).imp hi ho) k
theorem e_imp (A B : Ast) (hi : ∀ S w, A.holds S w → B.holds S w) (ho : A.own = B.own := by simp) (ht : TakeA H A H1 := by repeat (first | exact TakeA.here | apply TakeA.there)) (k : EG Q e G F (B :: H1)) : EG Q e G F H := e_conv (fun _ hw => (hw.take ht).imp hi ho) k
theorem o_freeze (A B : Ast) (hi : ∀ S w, A.holds S w → B.holds S w) (ha : A.own = true := by simp) (hb : B.own = false := by simp) (ht : TakeA H A H1 := by repeat (first | exact TakeA.here | apply TakeA.there)) (k : OG P ops Q G rest F (B :: H1)) : OG P ops Q G rest F H := o_conv (fun _ hw => (hw.take ht).freeze hi ha hb) k
theorem c_freeze (A B : Ast) (hi : ∀ S w, A.holds S w → B.holds S w) (ha : A.own = true := by simp) (hb : B.own = false := by simp) (ht : TakeA H A H1 := by repeat (first | exact TakeA.here | apply TakeA.there)) (k : CG P c Q G F (B :: H1)) : CG P c Q G F H := c_conv (fun _ hw => (hw.take ht).freeze hi ha hb) k
theorem e_freeze (A B : Ast) (hi : ∀ S w, A.holds S w → B.holds S w) (ha : A.own = true := by simp) (hb : B.own = false := by simp) (ht : TakeA H A H1 := by repeat (first | exact TakeA.here | apply TakeA.there)) (k : EG Q e G F (B :: H1)) : EG Q e G F H := e_conv (fun _ hw => (hw.take ht).freeze hi ha hb) k
theorem o_known (A : Ast) {q : Prop} (hq : ∀ S w, A.holds S w → q) (ha : InA H A := by repeat (first | exact InA.here | apply InA.there)) (k : q → OG P ops Q G rest F H) : OG P ops Q G rest F H := o_fact (fun w hw => let ⟨S, hs⟩ := ha w hw.held; hq S w hs) k
theorem e_known (A : Ast) {q : Prop} (hq : ∀ S w, A.holds S w → q) (ha : InA H A := by repeat (first | exact InA.here | apply InA.there)) (k : q → EG Q e G F H) : EG Q e G F H := fun a w h hw => let ⟨S, hs⟩ := ha w hw.held; k (hq S w hs) a w h hw
theorem c_known (A : Ast) {q : Prop} (hq : ∀ S w, A.holds S w → q) (ha : InA H A := by repeat (first | exact InA.here | apply InA.there)) (k : q → CG P c Q G F H) : CG P c Q G F H := c_fact (fun w hw => let ⟨S, hs⟩ := ha w hw.held; hq S w hs) k
end

/-! ### cells from an address on -/
/-- From q on lie the cells vs (owned, or not). -/
def cellsA (own : Bool) (q : Option Addr) (vs : List Value) : Ast where
  own := own
  holds := fun S w => ∀ j v, vs[j]? = some v → ∃ b o, q = some ⟨b, o, none⟩ ∧ S b ∧ w.cell? ⟨b, o + j, none⟩ = some v
  loc := fun S w w' h hh j v hj => by
    obtain ⟨b, o, h1, h2, h3⟩ := hh j v hj
    refine ⟨b, o, h1, h2, ?_⟩
    rw [World.cell?_of_block (w := w)]
    · exact h3
    · exact h _ h2
  mono := fun S S' w h hh j v hj => let ⟨b, o, h1, h2, h3⟩ := hh j v hj; ⟨b, o, h1, h _ h2, h3⟩

@[simp] theorem cellsA_own (own : Bool) (q : Option Addr) (vs : List Value) : (cellsA own q vs).own = own := rfl
instance (q : Option Addr) (vs : List Value) : ImmA (cellsA false q vs) := ⟨rfl⟩
theorem cells_some {own : Bool} {q : Option Addr} {vs : List Value} (hne : vs ≠ []) (S : Nat → Prop) (w : World) (h : (cellsA own q vs).holds S w) : ∃ b o, q = some ⟨b, o, none⟩ := by
  cases vs with
  | nil => exact absurd rfl hne
  | cons v vs => obtain ⟨b, o, h1, _⟩ := h 0 v rfl; exact ⟨b, o, h1⟩
theorem CellIn.cells {H : List Ast} {own : Bool} {b o j o' : Nat} {vs : List Value} {v : Value} (h : InA H (cellsA own (some ⟨b, o, none⟩) vs)) (hv : vs[j]? = some v) (ho : o' = o + j) : CellIn H ⟨b, o', none⟩ v := fun w hw => by
  subst ho
  obtain ⟨S, hs⟩ := h w hw
  obtain ⟨b', o', h1, _, h3⟩ := hs j v hv
  cases h1
  exact h3
theorem CellsIn.cells {H : List Ast} {own : Bool} {b o o1 m o' : Nat} {vs us : List Value} (h : InA H (cellsA own (some ⟨b, o, none⟩) vs)) (hv : sub vs o1 m = some us) (ho : o' = o + o1) : CellsIn H ⟨b, o', none⟩ us := fun w hw j v hj => by
  subst ho
  obtain ⟨S, hs⟩ := h w hw
  obtain ⟨h1, h2⟩ := sub_spec vs o1 m us hv
  have hlt : j < us.length := (List.getElem?_eq_some_iff.1 hj).1
  obtain ⟨b', o', g1, _, g3⟩ := hs (o1 + j) v (by rw [← h2 j (by omega)]; exact hj)
  cases g1
  rw [Addr.add_lit, Nat.add_assoc]
  exact g3
/-- a row of elements of sz cells each. -/
theorem flat_get {sz : Nat} : ∀ {rows : List (List Value)} {i : Nat} {us : List Value}, (∀ r ∈ rows, r.length = sz) → rows[i]? = some us → ∀ j v, us[j]? = some v → rows.flatten[i * sz + j]? = some v
  | [], i, us, _, h, _, _, _ => by simp at h
  | r :: rows, 0, us, hl, h, j, v, hj => by
    simp only [List.getElem?_cons_zero, Option.some.injEq] at h
    subst h
    have hlt : j < r.length := (List.getElem?_eq_some_iff.1 hj).1
    simp only [Nat.zero_mul, Nat.zero_add, List.flatten_cons]
    rw [List.getElem?_append_left hlt]; exact hj
  | r :: rows, i + 1, us, hl, h, j, v, hj => by
    simp only [List.getElem?_cons_succ] at h
    have hr := hl r (by simp)
    simp only [List.flatten_cons]
    rw [List.getElem?_append_right (by rw [hr, Nat.add_mul]; omega), hr, show (i + 1) * sz + j - sz = i * sz + j from by rw [Nat.add_mul]; omega]
    exact flat_get (fun r hr => hl r (by simp [hr])) h j v hj
theorem CellsIn.row {H : List Ast} {own : Bool} {b o o' sz i : Nat} {rows : List (List Value)} {us : List Value} (h : InA H (cellsA own (some ⟨b, o, none⟩) rows.flatten)) (hl : ∀ r ∈ rows, r.length = sz) (hi : rows[i]? = some us) (ho : o' = o + i * sz) : CellsIn H ⟨b, o', none⟩ us := fun w hw j v hj => by
  subst ho
  obtain ⟨S, hs⟩ := h w hw
  obtain ⟨b', o', g1, _, g3⟩ := hs (i * sz + j) v (flat_get hl hi j v hj)
  cases g1
  rw [Addr.add_lit, Nat.add_assoc]
  exact g3
theorem CellIn.row {H : List Ast} {own : Bool} {b o o' sz i j : Nat} {rows : List (List Value)} {us : List Value} {v : Value} (h : InA H (cellsA own (some ⟨b, o, none⟩) rows.flatten)) (hl : ∀ r ∈ rows, r.length = sz) (hi : rows[i]? = some us) (hj : us[j]? = some v) (ho : o' = o + i * sz + j) : CellIn H ⟨b, o', none⟩ v := fun w hw => by
  subst ho
  have := CellsIn.row h hl hi rfl w hw j v hj
  rw [Addr.add_lit] at this
  exact this

/-- a slice cut at k cells: its cells. -/
theorem cellsA_drop {own : Bool} {q : Option Addr} {vs : List Value} {k : Nat} {p : Prop} [Decidable p] (hc : vs.length ≤ k ∨ ¬ p) (S : Nat → Prop) (w : World) (h : (cellsA own q vs).holds S w) : (cellsA own (if p then q else q.map (·.add k)) (vs.drop k)).holds S w := by
  intro j v hj
  rw [List.getElem?_drop] at hj
  have hlt : k + j < vs.length := (List.getElem?_eq_some_iff.1 hj).1
  rw [if_neg (hc.resolve_left (by omega))]
  obtain ⟨b, o, h1, h2, h3⟩ := h (k + j) v hj
  refine ⟨b, o + k, by rw [h1]; simp [Addr.add_lit], h2, ?_⟩
  rw [Nat.add_assoc]; exact h3
theorem cellsA_take {own : Bool} {q : Option Addr} {vs : List Value} {k : Nat} (S : Nat → Prop) (w : World) (h : (cellsA own q vs).holds S w) : (cellsA own q (vs.take k)).holds S w := by
  intro j v hj
  rw [List.getElem?_take] at hj
  split at hj
  · exact h j v hj
  · cases hj
theorem cellsA_nil {own : Bool} {q : Option Addr} (S : Nat → Prop) (w : World) : (cellsA own q []).holds S w := fun j v hj => by simp at hj

/-! ### bytes -/
def bys (l : List UInt8) : List Value := l.map fun c => .int .u8 c.toNat
theorem bys_get {l : List UInt8} {j : Nat} {c : UInt8} (h : l[j]? = some c) : (bys l)[j]? = some (.int .u8 c.toNat) := by simp [bys, h]
@[simp] theorem bys_length (l : List UInt8) : (bys l).length = l.length := by simp [bys]
theorem bys_append (l m : List UInt8) : bys (l ++ m) = bys l ++ bys m := by simp [bys]
theorem bys_drop (l : List UInt8) (k : Nat) : (bys l).drop k = bys (l.drop k) := by simp [bys]
theorem bys_take (l : List UInt8) (k : Nat) : (bys l).take k = bys (l.take k) := by simp [bys]
@[simp] theorem bys_nil : bys [] = [] := rfl
theorem bys_ne {l : List UInt8} (h : l ≠ []) : bys l ≠ [] := by cases l <;> simp_all [bys]
abbrev bytesA (own : Bool) (q : Option Addr) (l : List UInt8) : Ast := cellsA own q (bys l)

/-! ### what is never turned, made of others -/
/-- 'for some x of which p holds: all of Bs x' (none of them owned), as one assertion. -/
def exI {α : Type} (p : α → Prop) (Bs : α → List Ast) : Ast where
  own := false
  holds := fun S w => ∃ x, p x ∧ ∀ B ∈ Bs x, B.holds S w
  loc := fun S w w' h ⟨x, hx, hs⟩ => ⟨x, hx, fun B hB => B.loc S w w' h (hs B hB)⟩
  mono := fun S S' w h ⟨x, hx, hs⟩ => ⟨x, hx, fun B hB => B.mono S S' w h (hs B hB)⟩
instance {α : Type} (p : α → Prop) (Bs : α → List Ast) : ImmA (exI p Bs) := ⟨rfl⟩
@[simp] theorem exI_own {α : Type} (p : α → Prop) (Bs : α → List Ast) : (exI p Bs).own = false := rfl
def allImm : List Ast → Prop
  | [] => True
  | A :: H => A.own = false ∧ allImm H
theorem SepL.addImm : ∀ {Bs H : List Ast} {M T : Nat → Prop} {w : World}, allImm Bs → (∀ B ∈ Bs, B.holds T w) → SepL H M T w → SepL (Bs ++ H) M T w
  | [], _, _, _, _, _, _, h => h
  | B :: Bs, H, M, T, w, hi, hb, h => (SepL.cons_imm hi.1).2 ⟨hb B (by simp), SepL.addImm hi.2 (fun C hC => hb C (by simp [hC])) h⟩
theorem Good.openI {G : Ctx} {H1 : List Ast} {w : World} {α : Type} {p : α → Prop} {Bs : α → List Ast} (ho : ∀ x, allImm (Bs x)) (h : Good G (exI p Bs :: H1) w) : ∃ x, p x ∧ Good G (Bs x ++ H1) w := by
  obtain ⟨M, T, h1, h2⟩ := h
  obtain ⟨⟨x, hx, hs⟩, g2⟩ := (SepL.cons_imm rfl).1 h1
  exact ⟨x, hx, M, T, SepL.addImm (ho x) hs g2, h2⟩
theorem SepL.allHold : ∀ {Bs H : List Ast} {M T : Nat → Prop} {w : World}, allImm Bs → SepL (Bs ++ H) M T w → (∀ B ∈ Bs, B.holds T w) ∧ SepL H M T w
  | [], _, _, _, _, _, h => ⟨by simp, h⟩
  | B :: Bs, H, M, T, w, hi, h => by
    obtain ⟨h1, h2⟩ := (SepL.cons_imm hi.1).1 h
    obtain ⟨h3, h4⟩ := SepL.allHold hi.2 h2
    refine ⟨fun C hC => ?_, h4⟩
    rcases List.mem_cons.1 hC with rfl | hC
    · exact h1
    · exact h3 C hC
theorem Good.closeI {G : Ctx} {H1 : List Ast} {w : World} {α : Type} {p : α → Prop} {Bs : α → List Ast} (ho : ∀ x, allImm (Bs x)) (x : α) (hx : p x) (h : Good G (Bs x ++ H1) w) : Good G (exI p Bs :: H1) w := by
  obtain ⟨M, T, h1, h2⟩ := h
  obtain ⟨h3, h4⟩ := SepL.allHold (ho x) h1
  exact ⟨M, T, (SepL.cons_imm rfl).2 ⟨⟨x, hx, h3⟩, h4⟩, h2⟩
section
variable {P : Program} {Q : Exit → Act → World → Prop} {G : Ctx} {F : Fr} {H H1 H2 : List Ast} {ops : Array Oper} {rest tail : List Oper} {c : Code} {e : Exit}
variable {α : Type} {p : α → Prop} {Bs : α → List Ast}
theorem o_openI (A : Ast) (hA : A = exI p Bs := by rfl) (ht : TakeA H A H1 := by repeat (first | exact TakeA.here | apply TakeA.there)) (ho : ∀ x, allImm (Bs x) := by intro x; simp [allImm]) (k : ∀ x, p x → OG P ops Q G rest F (Bs x ++ H1)) : OG P ops Q G rest F H := o_open (fun _ hw => Good.openI ho (hA ▸ hw.take ht)) k
theorem c_openI (A : Ast) (hA : A = exI p Bs := by rfl) (ht : TakeA H A H1 := by repeat (first | exact TakeA.here | apply TakeA.there)) (ho : ∀ x, allImm (Bs x) := by intro x; simp [allImm]) (k : ∀ x, p x → CG P c Q G F (Bs x ++ H1)) : CG P c Q G F H := c_open (fun _ hw => Good.openI ho (hA ▸ hw.take ht)) k
theorem o_closeI (A : Ast) (x : α) (hA : A = exI p Bs := by rfl) (hx : p x) (hs : SplitA H (Bs x) H1 := by (repeat (apply SplitA.cons; (repeat (first | exact TakeA.keepI | exact TakeA.here | apply TakeA.there)))); exact SplitA.nil) (ho : ∀ x, allImm (Bs x) := by intro x; simp [allImm]) (k : OG P ops Q G rest F (A :: H1)) : OG P ops Q G rest F H := o_conv (fun _ hw => hA ▸ (hw.split hs).closeI ho x hx) k
theorem c_closeI (A : Ast) (x : α) (hA : A = exI p Bs := by rfl) (hx : p x) (hs : SplitA H (Bs x) H1 := by (repeat (apply SplitA.cons; (repeat (first | exact TakeA.keepI | exact TakeA.here | apply TakeA.there)))); exact SplitA.nil) (ho : ∀ x, allImm (Bs x) := by intro x; simp [allImm]) (k : CG P c Q G F (A :: H1)) : CG P c Q G F H := c_conv (fun _ hw => hA ▸ (hw.split hs).closeI ho x hx) k
theorem e_closeI (A : Ast) (x : α) (hA : A = exI p Bs := by rfl) (hx : p x) (hs : SplitA H (Bs x) H1 := by (repeat (apply SplitA.cons; (repeat (first | exact TakeA.keepI | exact TakeA.here | apply TakeA.there)))); exact SplitA.nil) (ho : ∀ x, allImm (Bs x) := by intro x; simp [allImm]) (k : EG Q e G F (A :: H1)) : EG Q e G F H := e_conv (fun _ hw => hA ▸ (hw.split hs).closeI ho x hx) k
/-- the address of cells that there are -/
theorem o_at (own : Bool) (q : Option Addr) (vs : List Value) (hne : vs ≠ []) (ha : InA H (cellsA own q vs) := by repeat (first | exact InA.here | apply InA.there)) (k : ∀ b o, q = some ⟨b, o, none⟩ → OG P ops Q G rest F H) : OG P ops Q G rest F H :=
  o_open (p := fun x : Nat × Nat => q = some ⟨x.1, x.2, none⟩) (H2 := fun _ => H) (fun w hw => by
    obtain ⟨S, hs⟩ := ha w hw.held
    obtain ⟨b, o, h⟩ := cells_some hne S w hs
    exact ⟨(b, o), h, hw⟩) (fun x hx => k x.1 x.2 hx)
theorem c_at (own : Bool) (q : Option Addr) (vs : List Value) (hne : vs ≠ []) (ha : InA H (cellsA own q vs) := by repeat (first | exact InA.here | apply InA.there)) (k : ∀ b o, q = some ⟨b, o, none⟩ → CG P c Q G F H) : CG P c Q G F H :=
  c_open (p := fun x : Nat × Nat => q = some ⟨x.1, x.2, none⟩) (H2 := fun _ => H) (fun w hw => by
    obtain ⟨S, hs⟩ := ha w hw.held
    obtain ⟨b, o, h⟩ := cells_some hne S w hs
    exact ⟨(b, o), h, hw⟩) (fun x hx => k x.1 x.2 hx)
/-- what is known, spelt otherwise -/
theorem o_eq (he : H = H2) (k : OG P ops Q G rest F H2) : OG P ops Q G rest F H := he ▸ k
theorem c_eq (he : H = H2) (k : CG P c Q G F H2) : CG P c Q G F H := he ▸ k
theorem e_eq (he : H = H2) (k : EG Q e G F H2) : EG Q e G F H := he ▸ k
/-- what is not needed any more -/
theorem o_keep (H0 : List Ast) {Hf : List Ast} (hs : SplitA H H0 Hf := by (repeat (apply SplitA.cons; (repeat (first | exact TakeA.keepI | exact TakeA.here | apply TakeA.there)))); exact SplitA.nil) (k : OG P ops Q G rest F H0) : OG P ops Q G rest F H := o_conv (fun _ hw => hw.drop hs) k
theorem c_keep (H0 : List Ast) {Hf : List Ast} (hs : SplitA H H0 Hf := by (repeat (apply SplitA.cons; (repeat (first | exact TakeA.keepI | exact TakeA.here | apply TakeA.there)))); exact SplitA.nil) (k : CG P c Q G F H0) : CG P c Q G F H := c_conv (fun _ hw => hw.drop hs) k
theorem to_keep (H0 : List Ast) {Hf : List Ast} {G : Ctx} {w : World} (h : Good G H w) (hs : SplitA H H0 Hf := by (repeat (apply SplitA.cons; (repeat (first | exact TakeA.keepI | exact TakeA.here | apply TakeA.there)))); exact SplitA.nil) : Good G H0 w := h.drop hs
end
end Go.Proofs.YtlkgdidmhmaneaaGreatDoor
/- The engine, part 7: rows of the call's own: append, make, literals; strings and bytes. -/
namespace Go.Proofs.YtlkgdidmhmaneaaGreatDoor
open Go Go.RowKit

/-- t is a slice type: its elements' type, their cells, their bytes, the zero's cells. -/
class PElem (P : Program) (t : TypeId) (e sz bytes : outParam Nat) (z : outParam (List Value)) : Prop where
  hu : P.underlying t = some (.slice e)
  hi : ∃ i zv, P.info? e = some i ∧ i.zero = some zv ∧ zv.cells = z.toArray ∧ i.size = sz ∧ i.bytes = bytes
  hz : z.length = sz
  h0 : 0 < sz

/-- nothing of the first n cells is frozen. -/
def fzOk (fz : Nat × Nat) (n : Nat) : Prop := fz.2 = 0 ∨ n ≤ fz.1
theorem run_storeCells_fz (P : Program) (g o : Nat) (t : TypeId) (fz : Nat × Nat) : ∀ (vs : List Value) (i : Nat) (cur : Array Value) (w : World), w.heap[g]? = some (.cells cur t fz) → fzOk fz cur.size → o + i + vs.length ≤ cur.size → (∀ v ∈ vs, v.oneCell' = true) →
    (storeCells ⟨g, o, none⟩ vs i).run P w = .ok () (w.setRow g (cur.toList.take (o + i) ++ vs ++ cur.toList.drop (o + i + vs.length)).toArray)
  | [], i, cur, w, hg, _, _, _ => by
    simp only [storeCells, List.append_nil, List.length_nil, Nat.add_zero, List.take_append_drop, Array.toArray_toList]
    rw [setRow_self w g cur t fz hg]
    rfl
  | v :: rest, i, cur, w, hg, hfz, hl, h1 => by
    have hi : o + i < cur.size := by simp at hl; omega
    have hcell : w.cell? ⟨g, o + i, none⟩ = some cur[o + i] := by simp [World.cell?, hg, hi]
    have hfro : w.frozen? ⟨g, o + i, none⟩ = false := by
      obtain ⟨lo, hi'⟩ := fz
      simp only [World.frozen?, hg, Bool.and_eq_false_iff, decide_eq_false_iff_not]
      unfold fzOk at hfz
      simp only at hfz
      omega
    have hst : (store ((⟨g, o, none⟩ : Addr).add i) v).run P w = .ok () (w.setRow g (cur.setIfInBounds (o + i) v)) := by
      rw [Addr.add_lit, run_store P w _ v _ (h1 v (by simp)), hcell]
      simp [hfro, setCell_eq_setRow w g (o + i) cur t fz v hg]
    have ih := run_storeCells_fz P g o t fz rest (i + 1) (cur.setIfInBounds (o + i) v) (w.setRow g (cur.setIfInBounds (o + i) v)) (setRow_heap w g cur _ t _ hg) (by simpa using hfz) (by simp at hl ⊢; omega) (fun x hx => h1 x (by simp [hx]))
    simp only [storeCells, Sem.run_bind, hst, Result.andThen_ok, ih, setRow_setRow]
    congr 3
    have e := list_seg_step cur.toList (o + i) v rest (by simp at hl ⊢; omega)
    simpa [Array.toList_setIfInBounds, Nat.add_assoc] using e

/-- The slice v of n elements (of sz cells each) owns the cells xs, at the head of a block of its own (nil: none). -/
def rowA (v : Value) (e : TypeId) (sz n : Nat) (xs : List Value) : Ast :=
  exA (α := Option (Nat × Nat × List Value × (Nat × Nat)))
    (fun o => xs.length = n * sz ∧ match o with
      | none => v = .slice none 0 0 ∧ n = 0
      | some (g, cap, tl, fz) => v = .slice (some ⟨g, 0, none⟩) n cap ∧ n ≤ cap ∧ cap ≤ 9223372036854775807 ∧ xs.length + tl.length = cap * sz ∧ fzOk fz (xs.length + tl.length))
    (fun o => match o with
      | none => []
      | some (g, _, tl, fz) => [blk g e (xs ++ tl) fz])
@[simp] theorem rowA_own (v : Value) (e : TypeId) (sz n : Nat) (xs : List Value) : (rowA v e sz n xs).own = true := rfl
theorem rowA_bs {e : TypeId} {xs : List Value} : ∀ o : Option (Nat × Nat × List Value × (Nat × Nat)), allOwn (match o with | none => [] | some (g, _, tl, fz) => [blk g e (xs ++ tl) fz])
  | none => trivial
  | some _ => ⟨blk_own _ _ _ _, trivial⟩
theorem Good.setRowF {G : Ctx} {w : World} {b : Nat} {t : TypeId} {cs : List Value} {fz : Nat × Nat} {H1 : List Ast} (hw : Good G (blk b t cs fz :: H1) w) (ds : List Value) : Good G (blk b t ds fz :: H1) (w.setRow b ds.toArray) := by
  obtain ⟨M, T, h1, h2, h3, h4, h5⟩ := hw
  obtain ⟨S, g1, g2, g3⟩ := (SepL.cons_own (blk_own _ _ _ _)).1 h1
  have hne : ∀ k, k ≠ b → (w.setRow b ds.toArray).heap[k]? = w.heap[k]? := fun k hk => setRow_other w b k _ hk
  have hb := h3 b (g1 b g2.1)
  have hsz : (w.setRow b ds.toArray).heap.size = w.heap.size := by simp [World.setRow]
  refine ⟨M, T, ?_, h2, fun k hk => by rw [hsz]; exact h3 k hk, fun k hk => by rw [hsz]; exact h4 k hk, ?_⟩
  · refine (SepL.cons_own (blk_own _ _ _ _)).2 ⟨S, g1, ⟨g2.1, setRow_heap w b cs.toArray ds.toArray t fz g2.2⟩, ?_⟩
    exact SepL.loc (fun k hk => hne k (fun e => hk.2 (e ▸ g2.1))) (fun k hk => hne k (fun e => h2 b (g1 b g2.1) (e ▸ hk))) g3
  · refine h5.trans (M1 := fun k => k = b) ⟨rfl, rfl, rfl, by rw [hsz]; exact Nat.le_refl _, fun k _ hk => hne k hk⟩ ?_
    rintro k rfl hlt
    exact hb.2.resolve_right (by omega)

section
variable {P : Program} {G : Ctx} {H H1 : List Ast} {w : World} {v : Value} {e t tx ty : TypeId} {sz bytes n m : Nat} {xs news z : List Value} {x : Value}
theorem rowA_nil0 (e : TypeId) (sz : Nat) (w : World) : (rowA (.slice none 0 0) e sz 0 []).holds (fun _ => False) w := ⟨none, ⟨by simp, rfl, rfl⟩, trivial⟩

theorem run_append_row (g cap : Nat) (tl : List Value) (fz : Nat × Nat) [he : PElem P t e sz bytes z] (hg : w.heap[g]? = some (.cells (xs ++ tl).toArray e fz)) (hfz : fzOk fz (xs.length + tl.length)) (hl : xs.length = n * sz) (hc : xs.length + tl.length = cap * sz) (hs : Src P sz tx x m news w) (hroom : n + m ≤ cap) :
    (Builtin.append_ #[t, tx] ty #[.slice (some ⟨g, 0, none⟩) n cap, x]).run P w = .ok (.slice (some ⟨g, 0, none⟩) (n + m) cap) (w.setRow g (xs ++ news ++ tl.drop news.length).toArray) := by
  obtain ⟨i, zv, h1, h2, h3, h4, h5⟩ := he.hi
  have hfit : n * sz + news.length ≤ (xs ++ tl).length := by
    rw [List.length_append, hc, hs.newsLen, ← Nat.add_mul]; exact Nat.mul_le_mul_right _ hroom
  have hst := run_storeCells_fz P g (n * sz) e fz news 0 (xs ++ tl).toArray w hg (by simpa using hfz) (by simpa using hfit) hs.one
  simp only [Nat.add_zero] at hst
  have e1 : List.take (n * sz) (xs ++ tl) = xs := by rw [← hl]; simp
  have e2 : List.drop (n * sz + news.length) (xs ++ tl) = tl.drop news.length := by rw [← hl, ← List.drop_drop]; simp
  rw [e1, e2] at hst
  have hlen := hs.len w
  rcases hs.kind with ⟨e', hk⟩ | hk <;> simp [Builtin.append_, run_underlying he.hu, run_underlying hk, sizeOf, typeInfo, h1, h4, hlen, hroom, hs.cells, Addr.add_lit, hst]

theorem Good.grown (cap : Nat) [he : PElem P t e sz bytes z] {base : Option Addr} (hw : Good G H1 w) (hl : xs.length = n * sz) (hold : (Builtin.firstCells sz n (.slice base n cap)).run P w.drew = .ok xs.toArray w.drew) (hs : Src P sz tx x m news w)
    (hno : cap < n + m) (h63 : n + m ≤ 9223372036854775807) (hb : (n + m) * bytes ≤ 140737488355328) :
    ∃ v' w', (Builtin.append_ #[t, tx] ty #[.slice base n cap, x]).run P w = .ok v' w' ∧ Good G (rowA v' e sz (n + m) (xs ++ news) :: H1) w' := by
  obtain ⟨i, zv, h1, h2, h3, h4, h5⟩ := he.hi
  subst h4
  have hr := run_append_grow_src (P := P) w t tx ty e i zv he.hu h1 h2 base n cap xs hold x m news hs hno (by omega) (by rw [h5]; exact growslice_fits (by omega) hb)
  refine ⟨_, _, hr, ?_⟩
  have hge := grownCap_ge w (n + m) cap e
  have hcm : grownCap w (n + m) cap e ≤ 9223372036854775807 := grownCap_le_maxLen w (n + m) cap e (by unfold maxLen; omega)
  have hg := (hw.drew).alloc e (xs ++ news ++ (Builtin.zeroCells zv.cells (grownCap w (n + m) cap e - (n + m))).toList)
  have hzs : zv.cells.size = i.size := by rw [h3]; simpa using he.hz
  refine Good.fold (H1 := H1) rowA_bs (some (w.heap.size, grownCap w (n + m) cap e, (Builtin.zeroCells zv.cells (grownCap w (n + m) cap e - (n + m))).toList, (0, 0))) ⟨?_, rfl, hge, hcm, ?_, .inl rfl⟩ ?_
  · rw [List.length_append, hl, hs.newsLen, Nat.add_mul]
  · rw [List.length_append, hl, hs.newsLen, ← Nat.add_mul, Array.length_toList, size_zeroCells, hzs, ← Nat.add_mul]
    congr 1; omega
  · have e1 : (xs ++ news ++ (Builtin.zeroCells zv.cells (grownCap w (n + m) cap e - (n + m))).toList).toArray = (xs ++ news).toArray ++ Builtin.zeroCells zv.cells (grownCap w (n + m) cap e - (n + m)) := by
      apply Array.toList_inj.1; simp
    rw [e1] at hg
    have e2 : ({ w with drawn := w.drawn + 1 } : World) = w.drew := rfl
    rw [e2] at hg
    simpa using hg

theorem Good.append [he : PElem P t e sz bytes z] (hw : Good G (rowA v e sz n xs :: H1) w) (hs : Src P sz tx x m news w) (h63 : n + m ≤ 9223372036854775807) (hb : (n + m) * bytes ≤ 140737488355328) :
    ∃ v' w', (Builtin.append_ #[t, tx] ty #[v, x]).run P w = .ok v' w' ∧ Good G (rowA v' e sz (n + m) (xs ++ news) :: H1) w' := by
  obtain ⟨o, ⟨hl, hp⟩, hg⟩ := Good.unfold rowA_bs hw
  have hf : Good G H1 w := hw.forget
  cases o with
  | none =>
    obtain ⟨rfl, rfl⟩ := hp
    have hx : xs = [] := List.eq_nil_of_length_eq_zero (by simpa using hl)
    subst hx
    by_cases hm : m = 0
    · subst hm
      have hn : news = [] := List.eq_nil_of_length_eq_zero (by simpa using hs.newsLen)
      subst hn
      obtain ⟨i, zv, h1, h2, h3, h4, h5⟩ := he.hi
      refine ⟨.slice none 0 0, w, ?_, hw⟩
      have hlen := hs.len w
      rcases hs.kind with ⟨e', hk⟩ | hk <;> simp [Builtin.append_, run_underlying he.hu, run_underlying hk, sizeOf, typeInfo, h1, h4, hlen, hs.cells]
    · have := Good.grown (P := P) (t := t) (tx := tx) (ty := ty) (xs := []) (base := none) (n := 0) 0 hf (by simp) (by simp [Builtin.firstCells]) hs (by omega) h63 hb
      simpa using this
  | some gc =>
    obtain ⟨g, cap, tl, fz⟩ := gc
    obtain ⟨rfl, hnc, hcm, hlen, hfz⟩ := hp
    simp only [List.cons_append, List.nil_append] at hg
    by_cases hroom : n + m ≤ cap
    · refine ⟨_, _, run_append_row (P := P) (t := t) (ty := ty) g cap tl fz hg.blk_heap hfz hl hlen hs hroom, ?_⟩
      have hnt : news.length ≤ tl.length := by
        have h1 := hs.newsLen
        have h2 : (n + m) * sz ≤ cap * sz := Nat.mul_le_mul_right _ hroom
        rw [Nat.add_mul] at h2
        omega
      have hsum : (xs ++ news).length + (tl.drop news.length).length = xs.length + tl.length := by rw [List.length_append, List.length_drop]; omega
      refine Good.fold (H1 := H1) rowA_bs (some (g, cap, tl.drop news.length, fz)) ⟨by rw [List.length_append, hl, hs.newsLen, Nat.add_mul], rfl, hroom, hcm, by rw [hsum]; exact hlen, by rw [hsum]; exact hfz⟩ ?_
      simpa using hg.setRowF (xs ++ news ++ tl.drop news.length)
    · have hcells : ∀ j u, xs[j]? = some u → w.drew.cell? ((⟨g, 0, none⟩ : Addr).add j) = some u := fun j u hu => by
        have := hg.blk_heap
        rw [Addr.add_lit]
        show w.cell? _ = _
        rw [cell_of_row w g (0 + j) _ e fz this]
        have hj : j < xs.length := (List.getElem?_eq_some_iff.1 hu).1
        simp only [Nat.zero_add, List.getElem?_toArray]
        rw [List.getElem?_append_left hj]; exact hu
      exact Good.grown (P := P) (t := t) (tx := tx) (ty := ty) cap hf hl (run_firstCells_some (P := P) w.drew sz n ⟨g, 0, none⟩ n cap xs hl hcells) hs (by omega) h63 hb
end

/-- what is appended. -/
def SrcIn (P : Program) (H : List Ast) (sz : Nat) (tx : TypeId) (x : Value) (m : Nat) (news : List Value) : Prop := ∀ w, Held H w → Src P sz tx x m news w
section
variable {P : Program} {H : List Ast} {sz : Nat} {tx e : TypeId} {p : Addr} {m c : Nat} {news : List Value}
theorem src_nil {e' sz' b' : Nat} {z' : List Value} [h : PElem P tx e' sz' b' z'] : SrcIn P H sz tx (.slice none 0 c) 0 [] := fun w _ => Src.ofNil (e' := e') w h.hu c
theorem src_cells {e' sz' b' : Nat} {z' : List Value} [h : PElem P tx e' sz' b' z'] (hc : CellsIn H p news) (hl : news.length = m * sz) (h1 : ∀ u ∈ news, u.oneCell' = true) : SrcIn P H sz tx (.slice (some p) m c) m news := fun w hw => Src.ofSlice (e' := e') w h.hu p m c news hl (hc w hw) h1
class PStr (P : Program) (t : TypeId) : Prop where
  hu : P.underlying t = some .string
theorem src_str [h : PStr P tx] (s : ByteArray) : SrcIn P H 1 tx (.string s) s.size (byteCells s) := fun w _ => Src.ofString w h.hu s
end

section
variable {P : Program} {Q : Exit → Act → World → Prop} {G : Ctx} {F : Fr} {H H1 : List Ast} {ops : Array Oper} {rest : List Oper}
variable {d : Nat} {ty : TypeId} {pos : String} {aft : Array Edge}
theorem o_append {s x : Operand} {t tx e : TypeId} {sz bytes n m : Nat} {z xs news : List Value} {v xv : Value} [he : PElem P t e sz bytes z] (hs : ev F s = some v := by rfl) (hx : ev F x = some xv := by rfl)
    (ht : TakeA H (rowA v e sz n xs) H1 := by repeat (first | exact TakeA.here | apply TakeA.there)) (hsrc : SrcIn P H sz tx xv m news) (hb : n + m ≤ 9223372036854775807 ∧ (n + m) * bytes ≤ 140737488355328) (hd : Nat.ble (d + 1) G.n = true := by rfl)
    (k : ∀ v', OG P ops Q G rest ((d, v') :: F) (rowA v' e sz (n + m) (xs ++ news) :: H1)) : OG P ops Q G (⟨some d, .call ⟨.builtin .append, #[s, x], #[t, tx]⟩, ty, pos, aft, none⟩ :: rest) F H := by
  intro a w ha hw
  refine wpList_plain rfl fun K hK => ?_
  obtain ⟨v', w', hr, hg⟩ := Good.append (P := P) (t := t) (tx := tx) (ty := ty) (hw.take ht) (hsrc w hw.held) hb.1 hb.2
  unfold Oper.wp
  have hrun : (execOp a.eval ⟨some d, .call ⟨.builtin .append, #[s, x], #[t, tx]⟩, ty, pos, aft, none⟩).run P w = .ok (.value v') w' := by
    simp [execOp, resolve, invoke, builtin, ha.ev hs, ha.ev hx, hr]
  rw [hrun]
  exact hK _ _ (k v' _ _ (ha.put hd v') hg)
/-- append onto a slice that is full (three indexes) or of which only its cells are known: a new row. -/
theorem o_append_full {s x : Operand} {t tx e : TypeId} {sz bytes n m cap : Nat} {z xs news : List Value} {base : Option Addr} {xv : Value} [he : PElem P t e sz bytes z] (hs : ev F s = some (.slice base n cap) := by rfl) (hx : ev F x = some xv := by rfl)
    (hold : xs = [] ∧ n = 0 ∨ ∃ p, base = some p ∧ CellsIn H p xs) (hl : xs.length = n * sz) (hsrc : SrcIn P H sz tx xv m news) (hcap : cap < n + m) (hb : n + m ≤ 9223372036854775807 ∧ (n + m) * bytes ≤ 140737488355328) (hd : Nat.ble (d + 1) G.n = true := by rfl)
    (k : ∀ v', OG P ops Q G rest ((d, v') :: F) (rowA v' e sz (n + m) (xs ++ news) :: H)) : OG P ops Q G (⟨some d, .call ⟨.builtin .append, #[s, x], #[t, tx]⟩, ty, pos, aft, none⟩ :: rest) F H := by
  intro a w ha hw
  refine wpList_plain rfl fun K hK => ?_
  have hfirst : (Builtin.firstCells sz n (.slice base n cap)).run P w.drew = .ok xs.toArray w.drew := by
    rcases hold with ⟨rfl, rfl⟩ | ⟨p, rfl, hc⟩
    · cases base with
      | none => simp [Builtin.firstCells]
      | some p => exact run_firstCells_some (P := P) w.drew sz 0 p 0 cap [] (by simp) (fun j u hu => by simp at hu)
    · exact run_firstCells_some (P := P) w.drew sz n p n cap xs hl (fun j u hu => hc w hw.held j u hu)
  obtain ⟨v', w', hr, hg⟩ := Good.grown (P := P) (t := t) (tx := tx) (ty := ty) cap hw hl hfirst (hsrc w hw.held) hcap hb.1 hb.2
  unfold Oper.wp
  have hrun : (execOp a.eval ⟨some d, .call ⟨.builtin .append, #[s, x], #[t, tx]⟩, ty, pos, aft, none⟩).run P w = .ok (.value v') w' := by
    simp [execOp, resolve, invoke, builtin, ha.ev hs, ha.ev hx, hr]
  rw [hrun]
  exact hK _ _ (k v' _ _ (ha.put hd v') hg)
end

/-! ### from a row to cells that turn no more, and back to a block -/
theorem rowA_cells {v : Value} {e : TypeId} {sz n : Nat} {xs : List Value} {S : Nat → Prop} {w : World} (own : Bool) (h : (rowA v e sz n xs).holds S w) : ∃ q c, v = .slice q n c ∧ n ≤ c ∧ c ≤ 9223372036854775807 ∧ xs.length = n * sz ∧ (cellsA own q xs).holds S w := by
  obtain ⟨o, ⟨hl, hp⟩, hs⟩ := h
  cases o with
  | none =>
    obtain ⟨rfl, rfl⟩ := hp
    have hx : xs = [] := List.eq_nil_of_length_eq_zero (by simpa using hl)
    subst hx
    exact ⟨none, 0, rfl, Nat.le_refl _, by omega, hl, cellsA_nil _ _⟩
  | some gc =>
    obtain ⟨g, cap, tl, fz⟩ := gc
    obtain ⟨rfl, h1, h2, h3, _⟩ := hp
    obtain ⟨S', g1, g2, _⟩ := (SepL.cons_own (blk_own _ _ _ _)).1 hs
    refine ⟨_, _, rfl, h1, h2, hl, fun j u hu => ⟨g, 0, rfl, g1 g g2.1, ?_⟩⟩
    have hj : j < xs.length := (List.getElem?_eq_some_iff.1 hu).1
    rw [cell_of_row w g (0 + j) _ e fz g2.2]
    simp only [Nat.zero_add, List.getElem?_toArray]
    rw [List.getElem?_append_left hj]; exact hu
theorem Good.row {G : Ctx} {H1 : List Ast} {w : World} {v : Value} {e : TypeId} {sz n : Nat} {xs : List Value} (own : Bool) (h : Good G (rowA v e sz n xs :: H1) w) : ∃ x : Option Addr × Nat, (v = .slice x.1 n x.2 ∧ n ≤ x.2 ∧ x.2 ≤ 9223372036854775807 ∧ xs.length = n * sz) ∧ Good G (cellsA own x.1 xs :: H1) w := by
  obtain ⟨q, c, h1, h2, h3, h4⟩ : ∃ q c, v = .slice q n c ∧ n ≤ c ∧ c ≤ 9223372036854775807 ∧ xs.length = n * sz := by
    obtain ⟨S, hs⟩ := InA.here (A := rowA v e sz n xs) (H := H1) w h.held
    obtain ⟨q, c, h1, h2, h3, h4, _⟩ := rowA_cells own hs
    exact ⟨q, c, h1, h2, h3, h4⟩
  refine ⟨(q, c), ⟨h1, h2, h3, h4⟩, ?_⟩
  have hi : ∀ S w, (rowA v e sz n xs).holds S w → (cellsA own q xs).holds S w := fun S w hs => by
    obtain ⟨q', c', g1, _, _, _, g5⟩ := rowA_cells own hs
    rw [h1] at g1
    cases g1
    exact g5
  cases own with
  | true => exact h.imp hi rfl
  | false => exact h.freeze hi rfl rfl
section
variable {P : Program} {Q : Exit → Act → World → Prop} {G : Ctx} {F : Fr} {H H1 : List Ast} {ops : Array Oper} {rest : List Oper} {c : Code} {e : Exit} {v : Value} {t : TypeId} {sz n : Nat} {xs : List Value}
/-- a row's slice: its cells, that are turned no more (own: that nobody else turns). -/
theorem o_row (own : Bool) (v : Value) (ht : TakeA H (rowA v t sz n xs) H1 := by repeat (first | exact TakeA.here | apply TakeA.there)) (k : ∀ q c, v = .slice q n c → n ≤ c → c ≤ 9223372036854775807 → xs.length = n * sz → OG P ops Q G rest F (cellsA own q xs :: H1)) : OG P ops Q G rest F H :=
  o_open (fun _ hw => (hw.take ht).row own) (fun x hx => k x.1 x.2 hx.1 hx.2.1 hx.2.2.1 hx.2.2.2)
theorem c_row (own : Bool) (v : Value) (ht : TakeA H (rowA v t sz n xs) H1 := by repeat (first | exact TakeA.here | apply TakeA.there)) (k : ∀ q cp, v = .slice q n cp → n ≤ cp → cp ≤ 9223372036854775807 → xs.length = n * sz → CG P c Q G F (cellsA own q xs :: H1)) : CG P c Q G F H :=
  c_open (fun _ hw => (hw.take ht).row own) (fun x hx => k x.1 x.2 hx.1 hx.2.1 hx.2.2.1 hx.2.2.2)
theorem e_open {α : Type} {p : α → Prop} {H2 : α → List Ast} (hc : ∀ w, Good G H w → ∃ x, p x ∧ Good G (H2 x) w) (k : ∀ x, p x → EG Q e G F (H2 x)) : EG Q e G F H :=
  fun a w ha hw => let ⟨x, hx, hg⟩ := hc w hw; k x hx a w ha hg
theorem e_row (own : Bool) (v : Value) (ht : TakeA H (rowA v t sz n xs) H1 := by repeat (first | exact TakeA.here | apply TakeA.there)) (k : ∀ q cp, v = .slice q n cp → n ≤ cp → cp ≤ 9223372036854775807 → xs.length = n * sz → EG Q e G F (cellsA own q xs :: H1)) : EG Q e G F H :=
  e_open (fun _ hw => (hw.take ht).row own) (fun x hx => k x.1 x.2 hx.1 hx.2.1 hx.2.2.1 hx.2.2.2)
/-- no row yet -/
theorem o_row0 (t : TypeId) (sz : Nat) (k : OG P ops Q G rest F (rowA (.slice none 0 0) t sz 0 [] :: H)) : OG P ops Q G rest F H := o_add0 _ (fun w => rowA_nil0 t sz w) (k := k)
theorem c_row0 (t : TypeId) (sz : Nat) (k : CG P c Q G F (rowA (.slice none 0 0) t sz 0 [] :: H)) : CG P c Q G F H := c_add0 _ (fun w => rowA_nil0 t sz w) (k := k)
end
end Go.Proofs.YtlkgdidmhmaneaaGreatDoor
/- The engine, part 8: literal slices, slices that are made, strings and bytes, stores at a place that is not written out. -/
namespace Go.Proofs.YtlkgdidmhmaneaaGreatDoor
open Go Go.RowKit

/-! ### literal slices -/
def repL (z : List Value) : Nat → List Value
  | 0 => []
  | n + 1 => z ++ repL z n
theorem repL_length (z : List Value) : ∀ n, (repL z n).length = n * z.length
  | 0 => by simp [repL]
  | n + 1 => by simp [repL, repL_length z n, Nat.add_mul]; omega
theorem repL_get (z : List Value) : ∀ n i, i < n * z.length → (repL z n)[i]? = z[i % z.length]?
  | 0, i, h => by simp at h
  | n + 1, i, h => by
    simp only [repL]
    by_cases hi : i < z.length
    · rw [List.getElem?_append_left hi, Nat.mod_eq_of_lt hi]
    · rw [List.getElem?_append_right (by omega), repL_get z n (i - z.length) (by rw [Nat.add_mul] at h; omega), ← Nat.mod_eq_sub_mod (by omega)]
theorem repL_range (z : List Value) (n : Nat) : ((Array.range (n * z.length)).map fun i => z.toArray[i % z.toArray.size]!) = (repL z n).toArray := by
  apply Array.ext_getElem?
  intro i
  by_cases hi : i < n * z.length
  · have hz : 0 < z.length := by cases z with
      | nil => simp at hi
      | cons => simp
    have hm := Nat.mod_lt i hz
    simp only [Array.getElem?_map, List.getElem?_toArray, repL_get z n i hi]
    rw [Array.getElem?_range, if_pos hi]
    simp [hm]
  · have h2 := repL_length z n
    rw [Array.getElem?_eq_none (by simp; omega), Array.getElem?_eq_none (by simp; omega)]
theorem repL_one (v : Value) : ∀ n, repL [v] n = List.replicate n v
  | 0 => rfl
  | n + 1 => by simp [repL, repL_one v n, List.replicate_succ]
def litL (sz : Nat) : List Value → List (Nat × Value) → Option (List Value)
  | z, [] => some z
  | z, (i, v) :: rest => match Nat.beq (cellsL v).length sz && Nat.ble (i * sz + sz) z.length with
    | true => match setMany z (i * sz) (cellsL v) with
      | some z' => litL sz z' rest
      | none => none
    | false => none
theorem litL_fill (sz : Nat) : ∀ (parts : List (Nat × Value)) (z ds : List Value), litL sz z parts = some ds → Instr.fill (fun i => some (i * sz, sz)) z.toArray parts = some ds.toArray
  | [], z, ds, h => by simp only [litL, Option.some.injEq] at h; subst h; rfl
  | (i, v) :: rest, z, ds, h => by
    simp only [litL] at h
    split at h
    · rename_i hb
      rw [Bool.and_eq_true] at hb
      have hsz := Nat.eq_of_beq_eq_true hb.1
      have hfit := Nat.le_of_ble_eq_true hb.2
      split at h
      · rename_i z' hz
        obtain ⟨g2, g3⟩ := setMany_spec _ _ _ _ hz
        have hc : v.cells.size = sz := by rw [cellsL_spec]; simpa using hsz
        have := litL_fill sz rest z' ds h
        have g4 := g3 0
        simp only [Nat.sub_zero] at g4
        simp only [Instr.fill]
        rw [if_neg (by simp [hc]; omega), cellsL_spec, ← Array.foldl_toList, Array.toList_zipIdx]
        simp only [List.toList_toArray]
        rw [g4]
        exact this
      · cases h
    · cases h

section
variable {P : Program} {Q : Exit → Act → World → Prop} {G : Ctx} {F : Fr} {H H1 : List Ast} {ops : Array Oper} {rest : List Oper}
variable {d : Nat} {ty : TypeId} {pos : String} {aft : Array Edge} {t e : TypeId} {sz bytes : Nat} {z : List Value}
theorem o_lit {parts : Array (Nat × Operand)} {len : Nat} {ps : List (Nat × Value)} {cs : List Value} [he : PElem P t e sz bytes z] (h1 : evp F parts.toList = some ps := by rfl) (h2 : litL sz (repL z len) ps = some cs := by rfl) (h3 : Nat.ble (len * sz) 16777216 = true := by rfl) (hd : Nat.ble (d + 1) G.n = true := by rfl)
    (k : ∀ b, OG P ops Q G rest ((d, .slice (some ⟨b, 0, none⟩) len len) :: F) (blk b e cs (0, 0) :: H)) : OG P ops Q G (⟨some d, .buildSlice t len parts, ty, pos, aft, none⟩ :: rest) F H :=
  og_new (v := fun b => .slice (some ⟨b, 0, none⟩) len len) (fun a w ha _ => by
    obtain ⟨i, zv, g1, g2, g3, g4, g5⟩ := he.hi
    have e1 := ha.evp h1
    have e2 : parts.map (fun x : Nat × Operand => (x.1, a.eval x.2)) = ps.toArray := Array.toList_inj.1 (by simp [e1])
    have e3 := litL_fill sz ps _ _ h2
    have h3' := Nat.le_of_ble_eq_true h3
    have e4 : ¬ (len * sz > 2 ^ 24) := by omega
    have hzl : z.toArray.size = sz := by simpa using he.hz
    have e5 : ((Array.range (len * sz)).map fun i => z.toArray[i % z.toArray.size]!) = (repL z len).toArray := by
      have := repL_range z len
      rw [he.hz] at this
      exact this
    simp only [execOp, Instr.buildSlice]
    rw [e2]
    by_cases h0 : len * sz = 0
    · have e6 : (repL z len) = [] := List.eq_nil_of_length_eq_zero (by rw [repL_length, he.hz]; exact h0)
      rw [e6] at e3
      have e0 : Array.map (fun _ : Nat => (default : Value)) (Array.range 0) = #[] := Array.eq_empty_of_size_eq_zero (by simp)
      simp [run_underlying he.hu, sizeOf, typeInfo, g1, g4, h0, newRow, e0, e3]
    · simp only [Nat.reducePow] at e4
      rw [← e5] at e3
      simp [run_underlying he.hu, sizeOf, typeInfo, zeroValue, g1, g2, g3, g4, h0, newRow, e4] at e3 ⊢
      simp [e3]) hd k

/-- a new slice of zeros -/
theorem o_make {x y : Operand} {n c : Int} [he : PElem P t e sz bytes z] (hx : ev F x = some (.int .i64 n) := by rfl) (hy : ev F y = some (.int .i64 c) := by rfl) (h : 0 ≤ n ∧ n ≤ c ∧ c ≤ 9223372036854775807 ∧ c * bytes ≤ 281474976710656) (hd : Nat.ble (d + 1) G.n = true := by rfl)
    (k : ∀ b, OG P ops Q G rest ((d, .slice (some ⟨b, 0, none⟩) n.toNat c.toNat) :: F) (blk b e (repL z c.toNat) (0, 0) :: H)) : OG P ops Q G (⟨some d, .makeSlice t x y, ty, pos, aft, none⟩ :: rest) F H :=
  og_new (v := fun b => .slice (some ⟨b, 0, none⟩) n.toNat c.toNat) (fun a w ha _ => by
    obtain ⟨i, zv, g1, g2, g3, g4, g5⟩ := he.hi
    obtain ⟨h0, h1, h2, h3⟩ := h
    have e1 : IntKind.i64.wrap n = n := Go.IntWalk.i64_in n (by omega)
    have e2 : IntKind.i64.wrap c = c := Go.IntWalk.i64_in c (by omega)
    have e5 : ((Array.range (c.toNat * sz)).map fun i => z.toArray[i % z.toArray.size]!) = (repL z c.toNat).toArray := by
      have := repL_range z c.toNat
      rw [he.hz] at this
      exact this
    have h3' : (bytes : Int) * c ≤ 281474976710656 := by rw [Int.mul_comm]; exact h3
    have e6 : ¬ (c < 0 ∨ 281474976710656 < (bytes : Int) * c) := by omega
    have e7 : ¬ (n < 0) := by omega
    have e8 : ¬ (c < n) := by omega
    by_cases hz0 : c.toNat * sz = 0
    · have e9 : (repL z c.toNat) = [] := List.eq_nil_of_length_eq_zero (by rw [repL_length, he.hz]; exact hz0)
      have hc0 : c.toNat = 0 ∨ sz = 0 := Nat.mul_eq_zero.1 hz0
      simp [execOp, ha.ev hx, ha.ev hy, Instr.makeSlice, asInt, asIntOf, run_underlying he.hu, sizeOf, typeInfo, g1, g4, g5, e1, e2, e6, e7, e8, newRow, e9, hz0]
      rw [show Array.map (fun _ : Nat => (default : Value)) (Array.range 0) = #[] from Array.eq_empty_of_size_eq_zero (by simp)]
    · simp [execOp, ha.ev hx, ha.ev hy, Instr.makeSlice, asInt, asIntOf, run_underlying he.hu, sizeOf, typeInfo, zeroValue, g1, g2, g3, g4, g5, e1, e2, e6, e7, e8, newRow, hz0]
      rw [← e5]; simp) hd k

/-- a block of the call's own as a row -/
theorem o_rowof (b cap n : Nat) (xs tl : List Value) {cs : List Value} (hcs : cs = xs ++ tl) (ht : TakeA H (blk b e cs (0, 0)) H1 := by repeat (first | exact TakeA.here | apply TakeA.there)) (h : xs.length = n * sz ∧ n ≤ cap ∧ cap ≤ 9223372036854775807 ∧ xs.length + tl.length = cap * sz)
    (k : OG P ops Q G rest F (rowA (.slice (some ⟨b, 0, none⟩) n cap) e sz n xs :: H1)) : OG P ops Q G rest F H :=
  o_conv (fun _ hw => Good.fold rowA_bs (some (b, cap, tl, (0, 0))) ⟨h.1, rfl, h.2.1, h.2.2.1, h.2.2.2, .inl rfl⟩ (by subst hcs; simpa using hw.take ht)) k
theorem e_rowof {ex : Exit} (b cap n : Nat) (xs tl : List Value) {cs : List Value} (hcs : cs = xs ++ tl) (ht : TakeA H (blk b e cs (0, 0)) H1 := by repeat (first | exact TakeA.here | apply TakeA.there)) (h : xs.length = n * sz ∧ n ≤ cap ∧ cap ≤ 9223372036854775807 ∧ xs.length + tl.length = cap * sz)
    (k : EG Q ex G F (rowA (.slice (some ⟨b, 0, none⟩) n cap) e sz n xs :: H1)) : EG Q ex G F H :=
  e_conv (fun _ hw => Good.fold rowA_bs (some (b, cap, tl, (0, 0))) ⟨h.1, rfl, h.2.1, h.2.2.1, h.2.2.2, .inl rfl⟩ (by subst hcs; simpa using hw.take ht)) k
theorem c_rowof {c : Code} (b cap n : Nat) (xs tl : List Value) {cs : List Value} (hcs : cs = xs ++ tl) (ht : TakeA H (blk b e cs (0, 0)) H1 := by repeat (first | exact TakeA.here | apply TakeA.there)) (h : xs.length = n * sz ∧ n ≤ cap ∧ cap ≤ 9223372036854775807 ∧ xs.length + tl.length = cap * sz)
    (k : CG P c Q G F (rowA (.slice (some ⟨b, 0, none⟩) n cap) e sz n xs :: H1)) : CG P c Q G F H :=
  c_conv (fun _ hw => Good.fold rowA_bs (some (b, cap, tl, (0, 0))) ⟨h.1, rfl, h.2.1, h.2.2.1, h.2.2.2, .inl rfl⟩ (by subst hcs; simpa using hw.take ht)) k
/-- a block that is turned no more -/
theorem blk_cells {own : Bool} {b : Nat} {t : TypeId} {cs : List Value} {fz : Nat × Nat} (S : Nat → Prop) (w : World) (h : (blk b t cs fz).holds S w) : (cellsA own (some ⟨b, 0, none⟩) cs).holds S w := fun j v hj => by
  refine ⟨b, 0, rfl, h.1, ?_⟩
  rw [cell_of_row w b (0 + j) _ t fz h.2]
  simpa using hj
theorem Good.blkCells {b : Nat} {t : TypeId} {cs : List Value} {fz : Nat × Nat} {w : World} (h : Good G (blk b t cs fz :: H1) w) : Good G (cellsA true (some ⟨b, 0, none⟩) cs :: H1) w := h.imp (fun S w h => blk_cells S w h) (by simp)
theorem Good.blkImm {b : Nat} {t : TypeId} {cs : List Value} {fz : Nat × Nat} {w : World} (h : Good G (blk b t cs fz :: H1) w) : Good G (cellsA false (some ⟨b, 0, none⟩) cs :: H1) w := h.freeze (fun S w h => blk_cells S w h) (by simp) (by simp)
/-- a row, opened: none, or a block. -/
theorem Good.rowCases {w : World} {v : Value} {n : Nat} {xs : List Value} (hw : Good G (rowA v e sz n xs :: H1) w) : (v = .slice none 0 0 ∧ n = 0 ∧ xs = [] ∧ Good G H1 w) ∨ ∃ g cap tl fz, v = .slice (some ⟨g, 0, none⟩) n cap ∧ xs.length = n * sz ∧ n ≤ cap ∧ cap ≤ 9223372036854775807 ∧ xs.length + tl.length = cap * sz ∧ fzOk fz (xs.length + tl.length) ∧ Good G (blk g e (xs ++ tl) fz :: H1) w := by
  obtain ⟨o, ⟨hl, hp⟩, hg⟩ := Good.unfold rowA_bs hw
  cases o with
  | none => exact .inl ⟨hp.1, hp.2, List.eq_nil_of_length_eq_zero (by rw [hl, hp.2]; simp), by simpa using hg⟩
  | some x =>
    obtain ⟨g, cap, tl, fz⟩ := x
    exact .inr ⟨g, cap, tl, fz, hp.1, hl, hp.2.1, hp.2.2.1, hp.2.2.2.1, hp.2.2.2.2, by simpa using hg⟩
theorem o_rowopen (v : Value) {n : Nat} {xs : List Value} (hne : xs ≠ []) (ht : TakeA H (rowA v e sz n xs) H1 := by repeat (first | exact TakeA.here | apply TakeA.there))
    (k : ∀ g cap tl fz, v = .slice (some ⟨g, 0, none⟩) n cap → xs.length = n * sz → n ≤ cap → cap ≤ 9223372036854775807 → xs.length + tl.length = cap * sz → fzOk fz (xs.length + tl.length) → OG P ops Q G rest F (blk g e (xs ++ tl) fz :: H1)) : OG P ops Q G rest F H := by
  intro a w ha hw
  rcases (hw.take ht).rowCases with ⟨_, _, h, _⟩ | ⟨g, cap, tl, fz, h1, h2, h3, h4, h5, h6, h7⟩
  · exact absurd h hne
  · exact k g cap tl fz h1 h2 h3 h4 h5 h6 a w ha h7
theorem o_rowshut (v : Value) {g cap n : Nat} {tl xs : List Value} {fz : Nat × Nat} (ht : TakeA H (blk g e (xs ++ tl) fz) H1 := by repeat (first | exact TakeA.here | apply TakeA.there)) (h : v = .slice (some ⟨g, 0, none⟩) n cap ∧ xs.length = n * sz ∧ n ≤ cap ∧ cap ≤ 9223372036854775807 ∧ xs.length + tl.length = cap * sz ∧ fzOk fz (xs.length + tl.length))
    (k : OG P ops Q G rest F (rowA v e sz n xs :: H1)) : OG P ops Q G rest F H :=
  o_conv (fun _ hw => Good.fold rowA_bs (some (g, cap, tl, fz)) ⟨h.2.1, h.1, h.2.2⟩ (by simpa using hw.take ht)) k

/-- a store at a place that is not written out -/
theorem o_storeAt {t' : TypeId} {x y : Operand} {b o m : Nat} {v : Value} {cs us : List Value} {fz : Nat × Nat} [hs : PSize P t m] (hx : ev F x = some (.pointer (some ⟨b, o, none⟩)) := by rfl) (hy : ev F y = some v := by rfl)
    (ht : TakeA H (blk b t' cs fz) H1 := by repeat (first | exact TakeA.here | apply TakeA.there)) (hu : copyL (cellsL v) = some us := by rfl) (hl : us.length = m := by rfl) (h1 : allOne us = true := by rfl) (hfz : fzOk fz cs.length) (hm : o + us.length ≤ cs.length) (k : OG P ops Q G rest F (blk b t' (cs.take o ++ us ++ cs.drop (o + us.length)) fz :: H1)) :
    OG P ops Q G (⟨none, .store t x y, ty, pos, aft, none⟩ :: rest) F H := by
  intro a w ha hw
  have hw' := hw.take ht
  have hb := hw'.blk_heap
  have hcl := copyL_spec hu
  refine wpList_plain rfl fun K hK => ?_
  unfold Oper.wp
  have hst := run_storeCells_fz P b o t' fz us 0 cs.toArray w hb (by simpa using hfz) (by simpa using hm) (allOne_spec h1)
  simp only [Nat.add_zero] at hst
  have hsz : v.cells.size = m := by rw [cellsL_spec, ← hcl]; simpa using hl
  have hvl : v.cells.toList = us := by rw [cellsL_spec, ← hcl]
  have hrun : (execOp a.eval ⟨none, .store t x y, ty, pos, aft, none⟩).run P w = .ok .skip (w.setRow b (cs.take o ++ us ++ cs.drop (o + us.length)).toArray) := by
    simp [execOp, ha.ev hx, ha.ev hy, Instr.storeAt, Instr.sureAddr, storeVar, hs.h, hsz, hvl, hst]
  rw [hrun]
  exact hK _ _ (k _ _ ha (hw'.setRowF _))

/-! ### strings and bytes -/
theorem src_bytes {tx : TypeId} {m c : Nat} {b o : Nat} {own : Bool} {news : List Value} {e' sz' b' : Nat} {z' : List Value} [h : PElem P tx e' sz' b' z'] (hc : InA H (cellsA own (some ⟨b, o, none⟩) news)) (hl : news.length = m * sz) (h1 : ∀ u ∈ news, u.oneCell' = true) : SrcIn P H sz tx (.slice (some ⟨b, o, none⟩) m c) m news :=
  src_cells (fun w hw j v hj => by
    have := CellIn.cells (o' := o + j) hc hj rfl w hw
    rw [Addr.add_lit]; exact this) hl h1
/-- cells of a slice of which the address is not known to be one -/
theorem src_any {tx : TypeId} {m c : Nat} {q : Option Addr} {own : Bool} {news : List Value} {e' sz' b' : Nat} {z' : List Value} [h : PElem P tx e' sz' b' z'] (hc : InA H (cellsA own q news)) (hl : news.length = m * sz) (hs : 0 < sz) (h1 : ∀ u ∈ news, u.oneCell' = true) : SrcIn P H sz tx (.slice q m c) m news := fun w hw => by
  cases q with
  | none =>
    have hn : news = [] := by
      cases news with
      | nil => rfl
      | cons v vs =>
        obtain ⟨S, hh⟩ := hc w hw
        obtain ⟨b, o, h1, _⟩ := hh 0 v rfl
        cases h1
    subst hn
    have : m = 0 := by rcases Nat.mul_eq_zero.1 (show m * sz = 0 from by simpa using hl.symm) with h | h <;> omega
    subst this
    exact src_nil w hw
  | some p => exact src_cells (fun w hw j v hj => by
      obtain ⟨S, hh⟩ := hc w hw
      obtain ⟨b, o, g1, _, g3⟩ := hh j v hj
      cases g1
      rw [Addr.add_lit]; exact g3) hl h1 w hw
theorem bys_one {l : List UInt8} : ∀ u ∈ bys l, u.oneCell' = true := by
  intro u hu
  simp only [bys, List.mem_map] at hu
  obtain ⟨c, _, rfl⟩ := hu
  rfl
theorem byteCells_bys (l : List UInt8) : byteCells ⟨l.toArray⟩ = bys l := by simp [byteCells, bys]
theorem src_strL {tx : TypeId} [h : PStr P tx] (l : List UInt8) : SrcIn P H 1 tx (str l) l.length (bys l) := fun w hw => by
  have := src_str (P := P) (H := H) (tx := tx) ⟨l.toArray⟩ w hw
  rw [byteCells_bys, str_size] at this
  exact this

theorem foldl_push (ns : List UInt8) : ∀ s : ByteArray, (ns.map fun c => (c.toNat : Int)).foldl (fun r n => r.push (UInt8.ofNat n.toNat)) s = ⟨(s.data.toList ++ ns).toArray⟩ := by
  induction ns with
  | nil => intro s; simp
  | cons c ns ih =>
    intro s
    simp only [List.map_cons, List.foldl_cons]
    rw [ih]
    simp [ByteArray.push]
theorem y_b2s {n : Nat} {s d e : TypeId} {x : Operand} {q : Option Addr} {c : Nat} {own : Bool} {l : List UInt8} [h1 : PUnd P s (.slice e)] [h2 : PUnd P e (.int .u8)] [h3 : PUnd P d .string] (hx : ev F x = some (.slice q l.length c)) (hc : InA H (cellsA own q (bys l))) : Yl P n F H (.convert s d x) (str l) := fun a w _ _ _ _ _ ha hw => by
  have key : (Conv.bytesToString (.slice q l.length c)).run P w = .ok (str l) w := by
    cases q with
    | none =>
      have hn : l = [] := by
        cases l with
        | nil => rfl
        | cons v vs =>
          obtain ⟨S, hh⟩ := hc w hw
          obtain ⟨b, o, h1, _⟩ := hh 0 _ rfl
          cases h1
      subst hn
      simp [Conv.bytesToString]; rfl
    | some p =>
      have hl := run_loadCells_of (P := P) (w := w) (p := p) (us := bys l) (fun j v hj => by
        obtain ⟨S, hh⟩ := hc w hw
        obtain ⟨b, o, g1, _, g3⟩ := hh j v hj
        cases g1
        rw [Addr.add_lit]; exact g3)
      rw [bys_length] at hl
      have := run_bytesToString (P := P) w p l.length c (l.map fun c => (c.toNat : Int)) (by rw [hl]; simp [bys])
      rw [this, foldl_push]
      simp [str]
  have hcv : (convert s d (.slice q l.length c)).run P w = (Conv.bytesToString (.slice q l.length c)).run P w := by
    simp [convert, h1.h, h2.h, h3.h]
  simp [execOp, ha.ev hx, hcv, key]

theorem o_s2b {s d' e : TypeId} {x : Operand} {l : List UInt8} [h1 : PUnd P s .string] [h2 : PUnd P d' (.slice e)] [h3 : PUnd P e (.int .u8)] (hx : ev F x = some (str l) := by rfl) (hm : l.length < 9223372036854775807 := by omega) (hd : Nat.ble (d + 1) G.n = true := by rfl)
    (k : ∀ v, OG P ops Q G rest ((d, v) :: F) (rowA v e 1 l.length (bys l) :: H)) : OG P ops Q G (⟨some d, .convert s d' x, ty, pos, aft, none⟩ :: rest) F H := by
  intro a w ha hw
  refine wpList_plain rfl fun K hK => ?_
  let cap := if Question.forced (.appendCap l.length 0 e) then 0 else (Question.appendCap l.length 0 e).cut (w.tape w.drawn (.appendCap l.length 0 e))
  have hf : Question.forced (.appendCap l.length 0 e) = false := by simp [Question.forced]
  obtain ⟨cap, hcap⟩ : ∃ cap, (Question.appendCap l.length 0 e).cut (w.tape w.drawn (.appendCap l.length 0 e)) = cap := ⟨_, rfl⟩
  have hge : l.length ≤ cap := by rw [← hcap]; simp [Question.cut]
  have hle : cap ≤ 9223372036854775807 := by
    rw [← hcap]
    have hlt := Nat.mod_lt (w.tape w.drawn (.appendCap l.length 0 e)) (show 0 < 2 ^ 63 - l.length by omega)
    simp only [Question.cut]
    omega
  let cs := bys l ++ List.replicate (cap - l.length) (.int .u8 0)
  have hcl : cs.length = cap := by simp [cs]; omega
  have hg := (hw.drew).alloc e cs
  have hnew : (w.drew.alloc (.cells cs.toArray e)).heap[w.heap.size]? = some (.cells cs.toArray e (0, 0)) := hg.blk_heap
  have hfr : Good G (blk w.heap.size e cs (cap, cap + 1) :: H) ((w.drew.alloc (.cells cs.toArray e)).freeze ⟨w.heap.size, cap, none⟩ 1) := by
    obtain ⟨M, T, h1, h2, h3, h4, h5⟩ := hg
    obtain ⟨S, g1, g2, g3⟩ := (SepL.cons_own (blk_own _ _ _ _)).1 h1
    have hne : ∀ k, k ≠ w.heap.size → ((w.drew.alloc (.cells cs.toArray e)).freeze ⟨w.heap.size, cap, none⟩ 1).heap[k]? = (w.drew.alloc (.cells cs.toArray e)).heap[k]? := fun k hk => by
      simp only [World.freeze, Nat.one_ne_zero, if_false]
      rw [Array.getElem?_modify, if_neg (fun h => hk h.symm)]
    have hat : ((w.drew.alloc (.cells cs.toArray e)).freeze ⟨w.heap.size, cap, none⟩ 1).heap[w.heap.size]? = some (.cells cs.toArray e (cap, cap + 1)) := by
      simp only [World.freeze, Nat.one_ne_zero, if_false]
      rw [Array.getElem?_modify, if_pos rfl, hnew]
      simp
    have hsz : ((w.drew.alloc (.cells cs.toArray e)).freeze ⟨w.heap.size, cap, none⟩ 1).heap.size = (w.drew.alloc (.cells cs.toArray e)).heap.size := by simp [World.freeze]
    refine ⟨M, T, ?_, h2, fun k hk => by rw [hsz]; exact h3 k hk, fun k hk => by rw [hsz]; exact h4 k hk, ?_⟩
    · refine (SepL.cons_own (blk_own _ _ _ _)).2 ⟨S, g1, ⟨g2.1, hat⟩, ?_⟩
      exact SepL.loc (fun k hk => hne k (fun e => hk.2 (e ▸ g2.1))) (fun k hk => hne k (fun e => h2 _ (g1 _ g2.1) (e ▸ hk))) g3
    · refine h5.trans (M1 := fun k => k = w.heap.size) ⟨by simp [World.freeze], by simp [World.freeze], by simp [World.freeze], by rw [hsz]; exact Nat.le_refl _, fun k _ hk => hne k hk⟩ ?_
      rintro k rfl hlt
      refine (h3 _ (g1 _ g2.1)).2.resolve_right (fun hle => ?_)
      have := hw.keep.size
      omega
  have hrow : Good G (rowA (.slice (some ⟨w.heap.size, 0, none⟩) l.length cap) e 1 l.length (bys l) :: H) ((w.drew.alloc (.cells cs.toArray e)).freeze ⟨w.heap.size, cap, none⟩ 1) :=
    Good.fold (H1 := H) rowA_bs (some (w.heap.size, cap, List.replicate (cap - l.length) (.int .u8 0), (cap, cap + 1))) ⟨by simp, rfl, hge, hle, by simp; omega, .inr (by simp; omega)⟩ hfr
  have hrun : (execOp a.eval ⟨some d, .convert s d' x, ty, pos, aft, none⟩).run P w = .ok (.value (.slice (some ⟨w.heap.size, 0, none⟩) l.length cap)) ((w.drew.alloc (.cells cs.toArray e)).freeze ⟨w.heap.size, cap, none⟩ 1) := by
    have ecs : (Array.map (fun b : UInt8 => Value.int .u8 (b.toNat : Int)) l.toArray ++ Array.replicate (cap - l.length) (.int .u8 0)) = cs.toArray := Array.toList_inj.1 (by simp [cs, bys])
    have hshape : (w.drew.alloc (.cells cs.toArray e)).shape? w.heap.size = some (e, cap) := by
      rw [World.shape?, hnew]
      simp [hcl]
    have hconv : (convert s d' (str l)).run P w = (Conv.stringToBytes e ⟨l.toArray⟩).run P w := by
      simp [convert, h1.h, h2.h, h3.h, str]
    have hsb : (Conv.stringToBytes e ⟨l.toArray⟩).run P w = .ok (.slice (some ⟨w.heap.size, 0, none⟩) l.length cap) ((w.drew.alloc (.cells cs.toArray e)).freeze ⟨w.heap.size, cap, none⟩ 1) := by
      unfold Conv.stringToBytes
      simp only [Sem.run_bind, run_choose, str_size, hf, Bool.false_eq_true, if_false, hcap, Result.andThen_ok]
      rw [ecs]
      have e0 : ({ w with drawn := w.drawn + 1 } : World) = w.drew := rfl
      rw [e0]
      have hnr : (newRow e cs.toArray).run P w.drew = .ok ⟨w.heap.size, 0, none⟩ (w.drew.alloc (.cells cs.toArray e)) := by simp [newRow]
      simp only [hnr, Result.andThen_ok]
      unfold markStringish
      simp [hshape]
    simp [execOp, ha.ev hx, hconv, hsb]
  unfold Oper.wp
  rw [hrun]
  exact hK _ _ (k _ _ _ (ha.put hd _) hrow)

/-! ### slices cut -/
theorem Good.cut {w : World} {own : Bool} {q : Option Addr} {vs : List Value} {j : Nat} {p : Prop} [Decidable p] (hp : vs.length ≤ j ∨ ¬ p) (ht : TakeA H (cellsA own q vs) H1) (hw : Good G H w) : Good G (cellsA own (if p then q else q.map (·.add j)) (vs.drop j) :: H1) w :=
  (hw.take ht).imp (fun S w h => cellsA_drop hp S w h) rfl
/-- x[j:] -/
theorem o_cutlo (own : Bool) (q : Option Addr) (vs : List Value) (j m' : Nat) {x y : Operand} {m c sz : Nat} {i : Int} {k' : IntKind} [g1 : PUnd P t (.slice e)] [g2 : PSize P e sz] (hx : ev F x = some (.slice q m c) := by rfl) (hy : ev F y = some (.int k' i) := by rfl) (hj : i = j := by omega) (hm : m' + j = m := by omega) (hc : m ≤ c ∧ c ≤ 9223372036854775807 := by omega) (hl : vs.length = m * sz := by simp)
    (ht : TakeA H (cellsA own q vs) H1 := by repeat (first | exact TakeA.keepI | exact TakeA.here | apply TakeA.there)) (hd : Nat.ble (d + 1) G.n = true := by rfl)
    (k : ∀ q' c', m' ≤ c' → c' ≤ 9223372036854775807 → OG P ops Q G rest ((d, .slice q' m' c') :: F) (cellsA own q' (vs.drop (j * sz)) :: H1)) : OG P ops Q G (⟨some d, .slice t x (some y) none none, ty, pos, aft, none⟩ :: rest) F H := by
  subst hj
  have h := y_cutlo (P := P) (n := G.n) (H := H) (t := t) hx hy (by omega)
  refine o_y h hd ?_
  simp only [Int.toNat_natCast]
  rw [show m - j = m' from by omega]
  refine o_conv (fun w hw => Good.cut (p := c = j) (j := j * sz) ?_ ht hw) (k _ _ (by omega) (by omega))
  by_cases hcj : c = j
  · left; rw [hl]; exact Nat.mul_le_mul_right _ (by omega)
  · exact .inr hcj
/-- x[:j] -/
theorem o_cuthi (own : Bool) (q : Option Addr) (vs : List Value) (j : Nat) {x y : Operand} {m c sz : Nat} {i : Int} {k' : IntKind} [g1 : PUnd P t (.slice e)] [g2 : PSize P e sz] (hx : ev F x = some (.slice q m c) := by rfl) (hy : ev F y = some (.int k' i) := by rfl) (hj : i = j := by omega) (hc : j ≤ c := by omega)
    (ht : TakeA H (cellsA own q vs) H1 := by repeat (first | exact TakeA.keepI | exact TakeA.here | apply TakeA.there)) (hd : Nat.ble (d + 1) G.n = true := by rfl)
    (k : OG P ops Q G rest ((d, .slice q j c) :: F) (cellsA own q (vs.take (j * sz)) :: H1)) : OG P ops Q G (⟨some d, .slice t x none (some y) none, ty, pos, aft, none⟩ :: rest) F H := by
  subst hj
  have h := y_cuthi (P := P) (n := G.n) (H := H) (t := t) hx hy (by omega)
  refine o_y h hd ?_
  simp only [Int.toNat_natCast]
  exact o_conv (fun w hw => (hw.take ht).imp (fun S w h => cellsA_take S w h) rfl) k
/-- x[:j], what is known of the whole kept -/
theorem o_cuthi0 (j : Nat) {x y : Operand} {q : Option Addr} {m c sz : Nat} {i : Int} {k' : IntKind} [g1 : PUnd P t (.slice e)] [g2 : PSize P e sz] (hx : ev F x = some (.slice q m c) := by rfl) (hy : ev F y = some (.int k' i) := by rfl) (hj : i = j := by omega) (hc : j ≤ c := by omega) (hd : Nat.ble (d + 1) G.n = true := by rfl)
    (k : OG P ops Q G rest ((d, .slice q j c) :: F) H) : OG P ops Q G (⟨some d, .slice t x none (some y) none, ty, pos, aft, none⟩ :: rest) F H := by
  subst hj
  have h := y_cuthi (P := P) (n := G.n) (H := H) (t := t) hx hy (by omega)
  refine o_y h hd ?_
  simp only [Int.toNat_natCast]
  exact k
/-- x[i:j], what is known of the whole kept -/
theorem o_cutv (i j m' : Nat) {x y z : Operand} {q : Option Addr} {m c sz : Nat} {i' j' : Int} {k' k2 : IntKind} [g1 : PUnd P t (.slice e)] [g2 : PSize P e sz] (hx : ev F x = some (.slice q m c) := by rfl) (hy : ev F y = some (.int k' i') := by rfl) (hz : ev F z = some (.int k2 j') := by rfl) (hi : i' = i := by omega) (hj : j' = j := by omega) (hm : m' + i = j := by omega) (hc : j ≤ c := by omega) (hd : Nat.ble (d + 1) G.n = true := by rfl)
    (k : ∀ q' c', (∀ b o, q = some ⟨b, o, none⟩ → i < c → q' = some ⟨b, o + i * sz, none⟩) → m' ≤ c' → OG P ops Q G rest ((d, .slice q' m' c') :: F) H) : OG P ops Q G (⟨some d, .slice t x (some y) (some z) none, ty, pos, aft, none⟩ :: rest) F H := by
  subst hi hj
  have h := y_cut (P := P) (n := G.n) (H := H) (t := t) hx hy hz (by omega)
  refine o_y h hd ?_
  simp only [Int.toNat_natCast]
  rw [show j - i = m' from by omega]
  refine k _ _ ?_ (by omega)
  rintro b o rfl hlt
  rw [if_neg (by omega)]
  simp [Addr.add_lit]
/-- x[i:], what is known of the whole kept -/
theorem o_cutlov (i m' : Nat) {x y : Operand} {q : Option Addr} {m c sz : Nat} {i' : Int} {k' : IntKind} [g1 : PUnd P t (.slice e)] [g2 : PSize P e sz] (hx : ev F x = some (.slice q m c) := by rfl) (hy : ev F y = some (.int k' i') := by rfl) (hi : i' = i := by omega) (hm : m' + i = m := by omega) (hc : m ≤ c := by omega) (hd : Nat.ble (d + 1) G.n = true := by rfl)
    (k : ∀ q' c', (∀ b o, q = some ⟨b, o, none⟩ → i < c → q' = some ⟨b, o + i * sz, none⟩) → m' ≤ c' → OG P ops Q G rest ((d, .slice q' m' c') :: F) H) : OG P ops Q G (⟨some d, .slice t x (some y) none none, ty, pos, aft, none⟩ :: rest) F H := by
  subst hi
  have h := y_cutlo (P := P) (n := G.n) (H := H) (t := t) hx hy (by omega)
  refine o_y h hd ?_
  simp only [Int.toNat_natCast]
  rw [show m - i = m' from by omega]
  refine k _ _ ?_ (by omega)
  rintro b o rfl hlt
  rw [if_neg (by omega)]
  simp [Addr.add_lit]
/-- x[i:j] -/
theorem o_cut (own : Bool) (q : Option Addr) (vs : List Value) (i j m' : Nat) {x y z : Operand} {m c sz : Nat} {i' j' : Int} {k' k2 : IntKind} [g1 : PUnd P t (.slice e)] [g2 : PSize P e sz] (hx : ev F x = some (.slice q m c) := by rfl) (hy : ev F y = some (.int k' i') := by rfl) (hz : ev F z = some (.int k2 j') := by rfl) (hi : i' = i := by omega) (hj : j' = j := by omega) (hm : m' + i = j := by omega) (hc : j ≤ m ∧ m ≤ c ∧ c ≤ 9223372036854775807 := by omega) (hl : vs.length = m * sz := by simp)
    (ht : TakeA H (cellsA own q vs) H1 := by repeat (first | exact TakeA.keepI | exact TakeA.here | apply TakeA.there)) (hd : Nat.ble (d + 1) G.n = true := by rfl)
    (k : ∀ q' c', m' ≤ c' → c' ≤ 9223372036854775807 → OG P ops Q G rest ((d, .slice q' m' c') :: F) (cellsA own q' ((vs.take (j * sz)).drop (i * sz)) :: H1)) : OG P ops Q G (⟨some d, .slice t x (some y) (some z) none, ty, pos, aft, none⟩ :: rest) F H := by
  subst hi hj
  have h := y_cut (P := P) (n := G.n) (H := H) (t := t) hx hy hz (by omega)
  refine o_y h hd ?_
  simp only [Int.toNat_natCast]
  rw [show j - i = m' from by omega]
  refine o_conv (fun w hw => ((hw.take ht).imp (fun S w h => cellsA_take (k := j * sz) S w h) rfl).imp (fun S w h => cellsA_drop (p := c = i) (k := i * sz) ?_ S w h) rfl) (k _ _ (by omega) (by omega))
  by_cases hcj : c = i
  · left; rw [List.length_take, hl]; exact Nat.le_trans (Nat.min_le_left _ _) (Nat.mul_le_mul_right _ (by omega))
  · exact .inr hcj

/-! ### interfaces, fields of values -/
theorem y_iface {n : Nat} {t : TypeId} {ud : TypeDesc} {x : Operand} {v : Value} [h1 : PUnd P t ud] (hni : ∀ ms, ud ≠ .interface ms) (hx : ev F x = some v) : Yl P n F H (.makeInterface t x) (.iface t v) := fun a w _ _ _ _ _ ha _ => by
  have : (Instr.makeInterface t v).run P w = .ok (.iface t v) w := by
    simp only [Instr.makeInterface, Sem.run_bind, h1.h, Result.andThen_ok]
    cases ud <;> first | rfl | exact absurd rfl (hni _)
  simp [execOp, ha.ev hx, this]
end
end Go.Proofs.YtlkgdidmhmaneaaGreatDoor
/- WRITTEN BY A PROGRAM (gen_inst.py): slice types, as instances. -/
namespace Go.Proofs.YtlkgdidmhmaneaaGreatDoor
open Go
theorem pelem_of {P : Program} {t e sz bytes : Nat} {z : List Value} (hu : P.underlying t = some (.slice e)) (h : (P.info? e).map (fun i => (i.zero.map (fun v => v.cells.toList), i.size, i.bytes)) = some (some z, sz, bytes)) (hz : z.length = sz) (h0 : 0 < sz) : PElem P t e sz bytes z where
  hu := hu
  hz := hz
  h0 := h0
  hi := by
    cases hi : P.info? e with
    | none => rw [hi] at h; cases h
    | some i =>
      rw [hi] at h
      simp only [Option.map_some, Option.some.injEq, Prod.mk.injEq] at h
      obtain ⟨h1, h2, h3⟩ := h
      cases hv : i.zero with
      | none => rw [hv] at h1; cases h1
      | some v =>
        rw [hv] at h1
        simp only [Option.map_some, Option.some.injEq] at h1
        exact ⟨i, v, rfl, hv, by rw [← h1], h2, h3⟩
instance : PStr Tryz.prog 9 := ⟨Tryz.underlying9⟩
instance : PElem Tryz.prog 23 3 1 8 [.int .i64 0] := pelem_of Tryz.underlying23 (by kernel_rfl) rfl (by decide)
instance : PElem Tryz.prog 44 53 12 112 [.int .i64 0, .int .i64 0, .int .i64 0, .int .i64 0, .int .i64 0, .int .i64 0, .slice none 0 0, .string ⟨#[]⟩, .int .u32 0, .int .i64 0, .int .u8 0, .bool false] := pelem_of Tryz.underlying44 (by kernel_rfl) rfl (by decide)
instance : PElem Tryz.prog 48 5 1 1 [.int .u8 0] := pelem_of Tryz.underlying48 (by kernel_rfl) rfl (by decide)
instance : PElem Tryz.prog 54 134 8 88 [.int .i64 0, .int .i64 0, .int .i64 0, .int .i64 0, .int .i64 0, .int .i64 0, .string ⟨#[]⟩, .slice none 0 0] := pelem_of Tryz.underlying54 (by kernel_rfl) rfl (by decide)
instance : PElem Tryz.prog 57 41 2 16 [.int .i64 0, .int .i64 0] := pelem_of Tryz.underlying57 (by kernel_rfl) rfl (by decide)
instance : PElem Tryz.prog 61 48 1 24 [.slice none 0 0] := pelem_of Tryz.underlying61 (by kernel_rfl) rfl (by decide)
instance : PElem Tryz.prog 78 120 3 32 [.string ⟨#[]⟩, .int .i64 0, .int .i64 0] := pelem_of Tryz.underlying78 (by kernel_rfl) rfl (by decide)
instance : PElem Tryz.prog 97 32 1 4 [.int .u32 0] := pelem_of Tryz.underlying97 (by kernel_rfl) rfl (by decide)
instance : PElem Tryz.prog 163 25 1 8 [.int .i64 0] := pelem_of Tryz.underlying163 (by kernel_rfl) rfl (by decide)
instance : PElem Tryz.prog 169 174 3 24 [.bool false, .int .i64 0, .pointer none] := pelem_of Tryz.underlying169 (by kernel_rfl) rfl (by decide)
instance : PElem Tryz.prog 185 9 1 16 [.string ⟨#[]⟩] := pelem_of Tryz.underlying185 (by kernel_rfl) rfl (by decide)
instance : PElem Tryz.prog 206 208 1 8 [.int .i64 0] := pelem_of Tryz.underlying206 (by kernel_rfl) rfl (by decide)
end Go.Proofs.YtlkgdidmhmaneaaGreatDoor
/- The engine, part 10: buffers of bytes. -/
namespace Go.Proofs.YtlkgdidmhmaneaaGreatDoor
open Go Go.RowKit

/-- the slice v owns the bytes L, at the head of a block of its own -/
abbrev bufA (v : Value) (L : List UInt8) : Ast := rowA v 5 1 L.length (bys L)
theorem InA.range {H : List Ast} {own : Bool} {q q' : Option Addr} {vs : List Value} (i n : Nat) (hq : ∀ b o, q = some ⟨b, o, none⟩ → 0 < n → q' = some ⟨b, o + i, none⟩) (h : InA H (cellsA own q vs)) : InA H (cellsA own q' ((vs.drop i).take n)) := fun w hw => by
  obtain ⟨S, hs⟩ := h w hw
  refine ⟨S, fun j v hj => ?_⟩
  rw [List.getElem?_take] at hj
  split at hj
  · rename_i hjn
    rw [List.getElem?_drop] at hj
    obtain ⟨b, o, h1, h2, h3⟩ := hs (i + j) v hj
    exact ⟨b, o + i, hq b o h1 (by omega), h2, by rw [Nat.add_assoc]; exact h3⟩
  · cases hj
theorem InA.rangeB {H : List Ast} {own : Bool} {q q' : Option Addr} {L : List UInt8} (i n : Nat) (hq : ∀ b o, q = some ⟨b, o, none⟩ → 0 < n → q' = some ⟨b, o + i, none⟩) (h : InA H (bytesA own q L)) : InA H (bytesA own q' ((L.drop i).take n)) := by
  have := InA.range i n hq h
  rw [bys_drop, bys_take] at this
  exact this
section
variable {P : Program} {Q : Exit → Act → World → Prop} {G : Ctx} {F : Fr} {H H1 : List Ast} {ops : Array Oper} {rest : List Oper} {c : Code} {ex : Exit}
variable {d : Nat} {ty : TypeId} {pos : String} {aft : Array Edge} {t tx : TypeId}
/-- append(s, x...): x is a slice of bytes -/
theorem o_appb (own : Bool) (q : Option Addr) (l2 : List UInt8) {s x : Operand} {L : List UInt8} {v : Value} {m c : Nat} [he : PElem P t 5 1 1 [.int .u8 0]] [hx' : PElem P tx 5 1 1 [.int .u8 0]] (hs : ev F s = some v := by rfl) (hx : ev F x = some (.slice q m c) := by rfl)
    (ht : TakeA H (bufA v L) H1 := by repeat (first | exact TakeA.here | apply TakeA.there)) (hi : InA H (bytesA own q l2) := by repeat (first | exact InA.here | apply InA.there)) (hb : L.length + l2.length ≤ 140737488355328 := by first | omega | (simp <;> omega)) (hm : m = l2.length := by rfl) (hd : Nat.ble (d + 1) G.n = true := by rfl)
    (k : ∀ v', OG P ops Q G rest ((d, v') :: F) (bufA v' (L ++ l2) :: H1)) : OG P ops Q G (⟨some d, .call ⟨.builtin .append, #[s, x], #[t, tx]⟩, ty, pos, aft, none⟩ :: rest) F H := by
  subst hm
  refine o_append (hs := hs) (hx := hx) (ht := ht) (hsrc := src_any hi (by simp) (by decide) bys_one) (hb := by omega) (hd := hd) (k := fun v' => ?_)
  have := k v'
  simp only [bufA, List.length_append, bys_append] at this
  exact this
/-- append(s, x...): x is a string -/
theorem o_apps {s x : Operand} {L l2 : List UInt8} {v : Value} [he : PElem P t 5 1 1 [.int .u8 0]] [hx' : PStr P tx] (hs : ev F s = some v := by rfl) (hx : ev F x = some (str l2) := by rfl)
    (ht : TakeA H (bufA v L) H1 := by repeat (first | exact TakeA.here | apply TakeA.there)) (hb : L.length + l2.length ≤ 140737488355328 := by first | omega | (simp <;> omega)) (hd : Nat.ble (d + 1) G.n = true := by rfl)
    (k : ∀ v', OG P ops Q G rest ((d, v') :: F) (bufA v' (L ++ l2) :: H1)) : OG P ops Q G (⟨some d, .call ⟨.builtin .append, #[s, x], #[t, tx]⟩, ty, pos, aft, none⟩ :: rest) F H := by
  refine o_append (hs := hs) (hx := hx) (ht := ht) (hsrc := src_strL l2) (hb := by omega) (hd := hd) (k := fun v' => ?_)
  have := k v'
  simp only [bufA, List.length_append, bys_append] at this
  exact this
/-- a literal slice of bytes -/
theorem o_litb (L : List UInt8) {parts : Array (Nat × Operand)} {len : Nat} {ps : List (Nat × Value)} {cs : List Value} [he : PElem P t 5 1 1 [.int .u8 0]] (h1 : evp F parts.toList = some ps := by rfl) (h2 : litL 1 (repL [.int .u8 0] len) ps = some cs := by rfl) (hL : cs = bys L) (hl : len = L.length := by rfl) (h3 : Nat.ble (len * 1) 16777216 = true := by rfl) (hd : Nat.ble (d + 1) G.n = true := by rfl)
    (k : ∀ b, OG P ops Q G rest ((d, .slice (some ⟨b, 0, none⟩) L.length L.length) :: F) (bytesA true (some ⟨b, 0, none⟩) L :: H)) : OG P ops Q G (⟨some d, .buildSlice t len parts, ty, pos, aft, none⟩ :: rest) F H := by
  subst hl hL
  exact o_lit (h1 := h1) (h2 := h2) (h3 := h3) (hd := hd) (k := fun b => o_imp (blk b 5 (bys L) (0, 0)) (bytesA true (some ⟨b, 0, none⟩) L) (fun S w h => blk_cells S w h) (by simp) TakeA.here (k b))
/-- a literal slice of bytes, to be appended onto -/
theorem o_litbuf (L : List UInt8) {parts : Array (Nat × Operand)} {len : Nat} {ps : List (Nat × Value)} {cs : List Value} [he : PElem P t 5 1 1 [.int .u8 0]] (h1 : evp F parts.toList = some ps := by rfl) (h2 : litL 1 (repL [.int .u8 0] len) ps = some cs := by rfl) (hL : cs = bys L) (hl : len = L.length := by rfl) (h3 : Nat.ble (len * 1) 16777216 = true := by rfl) (hd : Nat.ble (d + 1) G.n = true := by rfl)
    (k : ∀ v, OG P ops Q G rest ((d, v) :: F) (bufA v L :: H)) : OG P ops Q G (⟨some d, .buildSlice t len parts, ty, pos, aft, none⟩ :: rest) F H := by
  subst hl hL
  have h3' := Nat.le_of_ble_eq_true h3
  exact o_lit (h1 := h1) (h2 := h2) (h3 := h3) (hd := hd) (k := fun b => o_rowof b L.length L.length (bys L) [] (sz := 1) (cs := bys L) (by simp) (h := by first | omega | (simp <;> omega)) (k := k _))
/-- append(b[:n:n], x...): a new buffer -/
theorem o_appfull (own own2 : Bool) (q q2 : Option Addr) (l l2 : List UInt8) {s x : Operand} {n cap m c : Nat} [he : PElem P t 5 1 1 [.int .u8 0]] [hx' : PElem P tx 5 1 1 [.int .u8 0]] (hs : ev F s = some (.slice q n cap) := by rfl) (hx : ev F x = some (.slice q2 m c) := by rfl)
    (hi : InA H (bytesA own q l) := by repeat (first | exact InA.here | apply InA.there)) (hi2 : InA H (bytesA own2 q2 l2) := by repeat (first | exact InA.here | apply InA.there)) (hn : n = l.length := by simp) (hm : m = l2.length := by rfl) (hcap : cap < n + m := by first | omega | (simp <;> omega)) (hb : l.length + l2.length ≤ 140737488355328 := by first | omega | (simp <;> omega)) (hd : Nat.ble (d + 1) G.n = true := by rfl)
    (k : ∀ v', OG P ops Q G rest ((d, v') :: F) (bufA v' (l ++ l2) :: H)) : OG P ops Q G (⟨some d, .call ⟨.builtin .append, #[s, x], #[t, tx]⟩, ty, pos, aft, none⟩ :: rest) F H := by
  subst hn hm
  have key : ∀ w, Held H w → (l = [] ∨ ∃ p, q = some p ∧ ∀ j v, (bys l)[j]? = some v → w.cell? (p.add j) = some v) := fun w hw => by
    by_cases hl : l = []
    · exact .inl hl
    · right
      obtain ⟨S, hh⟩ := hi w hw
      obtain ⟨b, o, h⟩ := cells_some (bys_ne hl) S w hh
      refine ⟨_, h, fun j v hj => ?_⟩
      obtain ⟨b', o', g1, _, g3⟩ := hh j v hj
      rw [h] at g1
      cases g1
      rw [Addr.add_lit]; exact g3
  intro a w ha hw
  by_cases hl : l = []
  · subst hl
    refine o_append_full (hs := hs) (hx := hx) (xs := []) (hold := .inl ⟨rfl, rfl⟩) (hl := by simp) (hsrc := src_any hi2 (by simp) (by decide) bys_one) (hcap := hcap) (hb := by omega) (hd := hd) (k := fun v' => ?_) a w ha hw
    have := k v'
    simp only [bufA, List.length_append, bys_append] at this
    exact this
  · obtain ⟨S, hh⟩ := hi w hw.held
    obtain ⟨b, o, rfl⟩ := cells_some (bys_ne hl) S w hh
    refine o_append_full (hs := hs) (hx := hx) (xs := bys l) (hold := .inr ⟨_, rfl, fun w hw j v hj => ?_⟩) (hl := by simp) (hsrc := src_any hi2 (by simp) (by decide) bys_one) (hcap := hcap) (hb := by omega) (hd := hd) (k := fun v' => ?_) a w ha hw
    · rcases key w hw with h | ⟨p, h, h2⟩
      · exact absurd h hl
      · cases h; exact h2 j v hj
    · have := k v'
      simp only [bufA, List.length_append, bys_append] at this
      exact this
/-- a buffer's bytes, that are turned no more (own: that nobody else turns) -/
theorem o_buf (own : Bool) (v : Value) {L : List UInt8} (ht : TakeA H (bufA v L) H1 := by repeat (first | exact TakeA.here | apply TakeA.there)) (k : ∀ q cp, v = .slice q L.length cp → L.length ≤ cp → cp ≤ 9223372036854775807 → OG P ops Q G rest F (bytesA own q L :: H1)) : OG P ops Q G rest F H := o_row own v (ht := ht) (fun q cp h1 h2 h3 _ => k q cp h1 h2 h3)
theorem c_buf (own : Bool) (v : Value) {L : List UInt8} (ht : TakeA H (bufA v L) H1 := by repeat (first | exact TakeA.here | apply TakeA.there)) (k : ∀ q cp, v = .slice q L.length cp → L.length ≤ cp → cp ≤ 9223372036854775807 → CG P c Q G F (bytesA own q L :: H1)) : CG P c Q G F H := c_row own v (ht := ht) (fun q cp h1 h2 h3 _ => k q cp h1 h2 h3)
theorem e_buf (own : Bool) (v : Value) {L : List UInt8} (ht : TakeA H (bufA v L) H1 := by repeat (first | exact TakeA.here | apply TakeA.there)) (k : ∀ q cp, v = .slice q L.length cp → L.length ≤ cp → cp ≤ 9223372036854775807 → EG Q ex G F (bytesA own q L :: H1)) : EG Q ex G F H := e_row own v (ht := ht) (fun q cp h1 h2 h3 _ => k q cp h1 h2 h3)
theorem o_buf0 (k : OG P ops Q G rest F (bufA (.slice none 0 0) [] :: H)) : OG P ops Q G rest F H := o_row0 _ 1 k
theorem c_buf0 (k : CG P c Q G F (bufA (.slice none 0 0) [] :: H)) : CG P c Q G F H := c_row0 _ 1 k
theorem e_buf0 (k : EG Q ex G F (bufA (.slice none 0 0) [] :: H)) : EG Q ex G F H := e_add0 _ (fun w => rowA_nil0 _ 1 w) (k := k)
end
end Go.Proofs.YtlkgdidmhmaneaaGreatDoor
/- Plain: rows of entries that rise by their names; no program in sight. -/
namespace Go.Proofs.YtlkgdidmhmaneaaGreatDoor
abbrev Bts := List UInt8
abbrev Hd := Int × Int
abbrev Ent := List UInt8 × Int × Int

/-- is a text below another one, byte by byte? -/
def ltB : Bts → Bts → Bool
  | [], [] => false
  | [], _ :: _ => true
  | _ :: _, [] => false
  | a :: l, b :: m => if a < b then true else if b < a then false else ltB l m
theorem ltB_irrefl : ∀ l : Bts, ltB l l = false
  | [] => rfl
  | a :: l => by simp [ltB, UInt8.lt_irrefl, ltB_irrefl l]
theorem ltB_trans : ∀ {l m n : Bts}, ltB l m = true → ltB m n = true → ltB l n = true
  | [], [], _, h, _ => by simp [ltB] at h
  | [], _ :: _, [], _, h => by simp [ltB] at h
  | [], _ :: _, _ :: _, _, _ => rfl
  | _ :: _, [], _, h, _ => by simp [ltB] at h
  | _ :: _, _ :: _, [], _, h => by simp [ltB] at h
  | a :: l, b :: m, c :: n, h1, h2 => by
    simp only [ltB, UInt8.lt_iff_toNat_lt] at h1 h2 ⊢
    by_cases hab : a.toNat < b.toNat
    · by_cases hbc : b.toNat < c.toNat
      · rw [if_pos (by omega)]
      · rw [if_neg hbc] at h2
        split at h2
        · cases h2
        · rw [if_pos (by omega)]
    · rw [if_neg hab] at h1
      split at h1
      · cases h1
      · by_cases hbc : b.toNat < c.toNat
        · rw [if_pos (by omega)]
        · rw [if_neg hbc] at h2
          split at h2
          · cases h2
          · rw [if_neg (by omega), if_neg (by omega)]
            exact ltB_trans h1 h2
theorem ltB_total : ∀ l m : Bts, ltB l m = true ∨ l = m ∨ ltB m l = true
  | [], [] => .inr (.inl rfl)
  | [], _ :: _ => .inl rfl
  | _ :: _, [] => .inr (.inr rfl)
  | a :: l, b :: m => by
    simp only [ltB, UInt8.lt_iff_toNat_lt]
    by_cases hab : a.toNat < b.toNat
    · exact .inl (if_pos hab)
    · by_cases hba : b.toNat < a.toNat
      · exact .inr (.inr (if_pos hba))
      · have : a = b := UInt8.toNat_inj.1 (by omega)
        subst this
        simp only [Nat.lt_irrefl, if_false]
        rcases ltB_total l m with h | h | h
        · exact .inl h
        · exact .inr (.inl (by rw [h]))
        · exact .inr (.inr h)
theorem ltB_ne {l m : Bts} (h : ltB l m = true) : l ≠ m := fun e => by subst e; rw [ltB_irrefl] at h; cases h
theorem ltB_asymm {l m : Bts} (h : ltB l m = true) : ltB m l = false := by
  cases hm : ltB m l with
  | false => rfl
  | true => have := ltB_trans h hm; rw [ltB_irrefl] at this; cases this

/-- rising by their names -/
def Rising (l : List Ent) : Prop := l.Pairwise fun a b => ltB a.1 b.1 = true
/-- the handle of a name -/
def getE (l : List Ent) (s : Bts) : Option Hd := (l.find? fun e => decide (e.1 = s)).map (·.2)
/-- how many entries stand ahead of a name's place -/
def idxE (l : List Ent) (s : Bts) : Nat := (l.takeWhile fun e => ltB e.1 s).length
def putE (l : List Ent) (s : Bts) (h : Hd) : List Ent := l.take (idxE l s) ++ (s, h) :: l.drop (idxE l s)
def setE (l : List Ent) (s : Bts) (h : Hd) : List Ent := l.map fun e => if e.1 = s then (s, h) else e
def dropE (l : List Ent) (s : Bts) : List Ent := l.filter fun e => !decide (e.1 = s)

theorem getE_nil (s : Bts) : getE [] s = none := rfl
theorem getE_cons (e : Ent) (l : List Ent) (s : Bts) : getE (e :: l) s = if e.1 = s then some e.2 else getE l s := by
  simp only [getE, List.find?_cons]
  by_cases h : e.1 = s <;> simp [h]
theorem getE_append (l m : List Ent) (s : Bts) : getE (l ++ m) s = (getE l s).or (getE m s) := by
  induction l with
  | nil => simp [getE_nil]
  | cons e l ih =>
    rw [List.cons_append, getE_cons, getE_cons, ih]
    by_cases h : e.1 = s <;> simp [h]
theorem getE_some_mem {l : List Ent} {s : Bts} {h : Hd} (hg : getE l s = some h) : (s, h) ∈ l := by
  induction l with
  | nil => cases hg
  | cons e l ih =>
    rw [getE_cons] at hg
    by_cases he : e.1 = s
    · rw [if_pos he] at hg
      cases hg; cases he
      exact List.mem_cons_self
    · rw [if_neg he] at hg
      exact List.mem_cons_of_mem _ (ih hg)
theorem getE_none_iff {l : List Ent} {s : Bts} : getE l s = none ↔ ∀ e ∈ l, e.1 ≠ s := by
  induction l with
  | nil => simp [getE_nil]
  | cons e l ih =>
    rw [getE_cons]
    by_cases he : e.1 = s
    · simp [he]
    · simp [he, ih]
theorem Rising.nil : Rising [] := List.Pairwise.nil
theorem Rising.mem_get {l : List Ent} (hr : Rising l) {s : Bts} {h : Hd} (hm : (s, h) ∈ l) : getE l s = some h := by
  induction l with
  | nil => cases hm
  | cons e l ih =>
    rw [getE_cons]
    have hp := List.pairwise_cons.1 hr
    rcases List.mem_cons.1 hm with rfl | hm
    · simp
    · rw [if_neg (ltB_ne (hp.1 _ hm))]
      exact ih hp.2 hm
theorem getE_mem {l : List Ent} (hr : Rising l) {s : Bts} {h : Hd} : getE l s = some h ↔ (s, h) ∈ l := ⟨getE_some_mem, hr.mem_get⟩
theorem Rising.ext {l m : List Ent} (hl : Rising l) (hm : Rising m) (h : ∀ s, getE l s = getE m s) : l = m := by
  induction l generalizing m with
  | nil =>
    cases m with
    | nil => rfl
    | cons e m => have := h e.1; rw [getE_nil, getE_cons, if_pos rfl] at this; cases this
  | cons e l ih =>
    cases m with
    | nil => have := h e.1; rw [getE_nil, getE_cons, if_pos rfl] at this; cases this
    | cons f m =>
      have hp := List.pairwise_cons.1 hl
      have hq := List.pairwise_cons.1 hm
      have h1 : e.1 = f.1 := by
        rcases ltB_total e.1 f.1 with h1 | h1 | h1
        · have h2 := h e.1
          rw [getE_cons, getE_cons, if_pos rfl, if_neg (fun h3 => ltB_ne h1 h3.symm)] at h2
          have h4 := hq.1 _ (getE_some_mem h2.symm)
          have := ltB_asymm h4
          rw [h1] at this; cases this
        · exact h1
        · have h2 := h f.1
          rw [getE_cons, getE_cons, if_pos rfl, if_neg (fun h3 => ltB_ne h1 h3.symm)] at h2
          have h4 := hp.1 _ (getE_some_mem h2)
          have := ltB_asymm h4
          rw [h1] at this; cases this
      have h2 : e = f := by
        have := h e.1
        rw [getE_cons, getE_cons, if_pos rfl, if_pos h1.symm] at this
        exact Prod.ext h1 (Option.some.inj this)
      subst h2
      congr 1
      refine ih hp.2 hq.2 (fun s => ?_)
      have := h s
      rw [getE_cons, getE_cons] at this
      by_cases hs : e.1 = s
      · subst hs
        rw [getE_none_iff.2 (fun x hx hxe => ltB_ne (hp.1 x hx) hxe.symm), getE_none_iff.2 (fun x hx hxe => ltB_ne (hq.1 x hx) hxe.symm)]
      · rwa [if_neg hs, if_neg hs] at this

theorem idxE_le (l : List Ent) (s : Bts) : idxE l s ≤ l.length := (List.takeWhile_sublist _).length_le
theorem take_idxE (l : List Ent) (s : Bts) : l.take (idxE l s) = l.takeWhile fun e => ltB e.1 s := by
  induction l with
  | nil => rfl
  | cons e l ih =>
    simp only [idxE, List.takeWhile_cons] at ih ⊢
    by_cases h : ltB e.1 s = true
    · simp only [h, if_true, List.length_cons, List.take_succ_cons]; rw [ih]
    · simp [h]
theorem drop_idxE (l : List Ent) (s : Bts) : l.drop (idxE l s) = l.dropWhile fun e => ltB e.1 s := by
  induction l with
  | nil => rfl
  | cons e l ih =>
    simp only [idxE, List.takeWhile_cons, List.dropWhile_cons] at ih ⊢
    by_cases h : ltB e.1 s = true
    · simp only [h, if_true, List.length_cons, List.drop_succ_cons]; rw [ih]
    · simp [h]
theorem take_below (l : List Ent) (s : Bts) : ∀ e ∈ l.take (idxE l s), ltB e.1 s = true := by
  intro e he
  rw [take_idxE] at he
  induction l with
  | nil => cases he
  | cons f l ih =>
    rw [List.takeWhile_cons] at he
    split at he
    · rename_i h
      rcases List.mem_cons.1 he with rfl | he
      · exact h
      · exact ih he
    · cases he
theorem drop_above {l : List Ent} (hr : Rising l) (s : Bts) : ∀ e ∈ l.drop (idxE l s), ltB e.1 s = false := by
  intro e he
  rw [drop_idxE] at he
  induction l with
  | nil => cases he
  | cons f l ih =>
    rw [List.dropWhile_cons] at he
    have hp := List.pairwise_cons.1 hr
    split at he
    · exact ih hp.2 he
    · rename_i h
      rcases List.mem_cons.1 he with rfl | he
      · simpa using h
      · have h1 := hp.1 e he
        cases h2 : ltB e.1 s with
        | false => rfl
        | true => exact absurd (ltB_trans h1 h2) h
theorem putE_rising {l : List Ent} (hr : Rising l) {s : Bts} (hs : getE l s = none) (h : Hd) : Rising (putE l s h) := by
  have h1 := take_below l s
  have h2 := drop_above hr s
  have h3 := getE_none_iff.1 hs
  unfold Rising putE
  rw [List.pairwise_append, List.pairwise_cons]
  have hr' := hr
  unfold Rising at hr'
  rw [← List.take_append_drop (idxE l s) l, List.pairwise_append] at hr'
  obtain ⟨g1, g2, g3⟩ := hr'
  refine ⟨g1, ⟨fun a ha => ?_, g2⟩, fun a ha b hb => ?_⟩
  · have := h2 a ha
    rcases ltB_total a.1 s with h4 | h4 | h4
    · rw [h4] at this; cases this
    · exact absurd h4 (h3 a (List.mem_of_mem_drop ha))
    · exact h4
  · rcases List.mem_cons.1 hb with rfl | hb
    · exact h1 a ha
    · exact g3 a ha b hb
theorem getE_putE {l : List Ent} {s : Bts} (hs : getE l s = none) (h : Hd) (t : Bts) : getE (putE l s h) t = if t = s then some h else getE l t := by
  have e1 : getE l t = (getE (l.take (idxE l s)) t).or (getE (l.drop (idxE l s)) t) := by rw [← getE_append, List.take_append_drop]
  unfold putE
  rw [getE_append, getE_cons]
  by_cases hts : t = s
  · subst hts
    rw [if_pos rfl, if_pos rfl]
    rw [hs] at e1
    have : getE (l.take (idxE l t)) t = none := by
      cases hh : getE (l.take (idxE l t)) t with
      | none => rfl
      | some x => rw [hh] at e1; cases e1
    rw [this]; rfl
  · rw [if_neg hts, if_neg (fun e => hts e.symm), e1]
theorem putE_length (l : List Ent) (s : Bts) (h : Hd) : (putE l s h).length = l.length + 1 := by
  have := idxE_le l s
  simp [putE, List.length_append]; omega
theorem mem_putE {l : List Ent} {s : Bts} {h : Hd} {e : Ent} : e ∈ putE l s h ↔ e = (s, h) ∨ e ∈ l := by
  unfold putE
  rw [List.mem_append, List.mem_cons]
  have : e ∈ l ↔ e ∈ l.take (idxE l s) ∨ e ∈ l.drop (idxE l s) := by rw [← List.mem_append, List.take_append_drop]
  rw [this]
  constructor
  · rintro (h | h | h)
    · exact .inr (.inl h)
    · exact .inl h
    · exact .inr (.inr h)
  · rintro (h | h | h)
    · exact .inr (.inl h)
    · exact .inl h
    · exact .inr (.inr h)
theorem dropE_rising {l : List Ent} (hr : Rising l) (s : Bts) : Rising (dropE l s) := List.Pairwise.sublist List.filter_sublist hr
theorem getE_dropE (l : List Ent) (s t : Bts) : getE (dropE l s) t = if t = s then none else getE l t := by
  unfold dropE
  induction l with
  | nil => simp [getE_nil]
  | cons e l ih =>
    by_cases he : e.1 = s
    · simp only [List.filter_cons, he, decide_true, Bool.not_true, Bool.false_eq_true, if_false]
      rw [ih, getE_cons]
      by_cases hts : t = s
      · rw [if_pos hts, if_pos hts]
      · rw [if_neg hts, if_neg hts, if_neg (by rw [he]; exact fun h => hts h.symm)]
    · simp only [List.filter_cons, he, decide_false, Bool.not_false, if_true]
      rw [getE_cons, getE_cons, ih]
      by_cases het : e.1 = t
      · rw [if_pos het, if_neg (by rw [← het]; exact he)]
        simp [het]
      · rw [if_neg het, if_neg het]
theorem mem_dropE {l : List Ent} {s : Bts} {e : Ent} : e ∈ dropE l s ↔ e ∈ l ∧ e.1 ≠ s := by simp [dropE]
theorem setE_rising {l : List Ent} (hr : Rising l) (s : Bts) (h : Hd) : Rising (setE l s h) := by
  unfold Rising setE
  rw [List.pairwise_map]
  refine List.Pairwise.imp ?_ hr
  intro a b hab
  have e : ∀ x : Ent, (if x.1 = s then ((s, h) : Ent) else x).1 = x.1 := fun x => by split <;> simp_all
  rw [e, e]; exact hab
theorem getE_setE {l : List Ent} {s : Bts} {x : Hd} (hs : getE l s = some x) (h : Hd) (t : Bts) : getE (setE l s h) t = if t = s then some h else getE l t := by
  have key : ∀ l : List Ent, getE (setE l s h) t = if t = s then (getE l s).map (fun _ => h) else getE l t := by
    intro l
    unfold setE
    induction l with
    | nil => simp [getE_nil]
    | cons e l ih =>
      rw [List.map_cons, getE_cons, ih, getE_cons, getE_cons]
      by_cases he : e.1 = s
      · rw [if_pos he, if_pos he]
        by_cases hts : t = s
        · simp [hts]
        · rw [if_neg (fun h => hts h.symm), if_neg hts, if_neg hts, if_neg (by rw [he]; exact fun h => hts h.symm)]
      · rw [if_neg he, if_neg he]
        by_cases hts : t = s
        · subst hts; simp [he]
        · simp [hts]
  rw [key, hs]; rfl
theorem setE_length (l : List Ent) (s : Bts) (h : Hd) : (setE l s h).length = l.length := by simp [setE]
theorem dropE_length (l : List Ent) (s : Bts) : (dropE l s).length ≤ l.length := List.length_filter_le _ _
/-- what stands at a name's place, if the name is there. -/
theorem at_idxE {l : List Ent} (hr : Rising l) {s : Bts} {h : Hd} (hs : getE l s = some h) : l[idxE l s]? = some (s, h) := by
  have hm := getE_some_mem hs
  induction l with
  | nil => cases hm
  | cons e l ih =>
    have hp := List.pairwise_cons.1 hr
    rcases List.mem_cons.1 hm with rfl | hm
    · simp [idxE, ltB_irrefl]
    · have := hp.1 _ hm
      have h2 : idxE (e :: l) s = idxE l s + 1 := by simp [idxE, this]
      rw [h2]
      exact ih hp.2 (by rw [getE_cons, if_neg (ltB_ne this)] at hs; exact hs) hm
theorem dropE_eq {l : List Ent} (hr : Rising l) {s : Bts} {h : Hd} (hs : getE l s = some h) : dropE l s = l.take (idxE l s) ++ l.drop (idxE l s + 1) := by
  have hm := getE_some_mem hs
  induction l with
  | nil => cases hm
  | cons e l ih =>
    have hp := List.pairwise_cons.1 hr
    rcases List.mem_cons.1 hm with rfl | hm
    · have h2 : idxE ((s, h) :: l) s = 0 := by simp [idxE, ltB_irrefl]
      rw [h2]
      simp only [dropE, List.filter_cons, decide_true, Bool.not_true, Bool.false_eq_true, if_false, List.take_zero, List.drop_succ_cons, List.drop_zero, List.nil_append]
      refine List.filter_eq_self.2 (fun a ha => ?_)
      have := ltB_ne (hp.1 a ha)
      simpa using fun h => this h.symm
    · have h1 := hp.1 _ hm
      have h2 : idxE (e :: l) s = idxE l s + 1 := by simp [idxE, h1]
      rw [h2, List.take_succ_cons, List.drop_succ_cons, List.cons_append, ← ih hp.2 (by rw [getE_cons, if_neg (ltB_ne h1)] at hs; exact hs) hm]
      simp [dropE, ltB_ne h1]
theorem setE_eq {l : List Ent} (hr : Rising l) {s : Bts} {x : Hd} (hs : getE l s = some x) (h : Hd) : setE l s h = l.set (idxE l s) (s, h) := by
  have hm := getE_some_mem hs
  induction l with
  | nil => cases hm
  | cons e l ih =>
    have hp := List.pairwise_cons.1 hr
    rcases List.mem_cons.1 hm with rfl | hm
    · have h2 : idxE ((s, x) :: l) s = 0 := by simp [idxE, ltB_irrefl]
      rw [h2]
      simp only [setE, List.map_cons, if_true, List.set_cons_zero]
      congr 1
      refine (List.map_congr_left (g := id) (fun a ha => ?_)).trans (List.map_id _)
      have := ltB_ne (hp.1 a ha)
      exact if_neg (fun h => this h.symm)
    · have h1 := hp.1 _ hm
      have h2 : idxE (e :: l) s = idxE l s + 1 := by simp [idxE, h1]
      rw [h2, List.set_cons_succ, ← ih hp.2 (by rw [getE_cons, if_neg (ltB_ne h1)] at hs; exact hs) hm]
      simp [setE, ltB_ne h1]
theorem at_idxE_none {l : List Ent} {s : Bts} (hs : getE l s = none) : ∀ e, l[idxE l s]? = some e → e.1 ≠ s := fun e he => getE_none_iff.1 hs e (List.mem_of_getElem? he)
end Go.Proofs.YtlkgdidmhmaneaaGreatDoor
/- Plain: what the program's file system does, and what the document's does; no program in sight. -/
namespace Go.Proofs.YtlkgdidmhmaneaaGreatDoor
structure MArgs where
  proc : Int
  off : Int
  count : Int
  size : Int
  mode : Int
  ino : Int
  gen : Int
  ino2 : Int
  gen2 : Int
  name : List UInt8
  name2 : List UInt8
  data : List UInt8
def args0 (proc : Int) : MArgs := ⟨proc, 0, 0, 0, 0, 0, 0, 0, 0, [], [], []⟩
def MArgs.h1 (a : MArgs) : Hd := (a.ino, a.gen)
def MArgs.h2 (a : MArgs) : Hd := (a.ino2, a.gen2)
structure MRes where
  errno : Int
  ino : Int
  gen : Int
  kind : Int
  mode : Int
  size : Int
  data : List UInt8
  count : Int
  eof : Bool
  ents : List Ent
  deriving DecidableEq
def res0 (e : Int) : MRes := ⟨e, 0, 0, 0, 0, 0, [], 0, false, []⟩
def nameHead (l : List UInt8) : Bool := decide (1 ≤ l.length) && decide (l.length ≤ 32) && !decide (l = [46]) && !decide (l = [46, 46])
def nameByte (c : UInt8) : Bool := !decide (c = 0) && !decide (c = 47)
def nameOk (l : List UInt8) : Bool := nameHead l && l.all nameByte

/-! ### bytes of files -/
def tooBigB (off n : Int) : Bool := decide (0 < n) && (decide (2048 < n) || decide (2048 - n < off))
def stretchB (b : Bts) (size : Nat) : Bts := b.take size ++ List.replicate (size - b.length) 0
def readB (b : Bts) (off n : Nat) : Bts × Bool := if b.length ≤ off then ([], true) else ((b.drop off).take n, decide (b.length ≤ off + n))
def writeB (b : Bts) (off : Nat) (d : Bts) : Bts := if d = [] then b else let o := stretchB b (max b.length (off + d.length)); o.take off ++ d ++ o.drop (off + d.length)
def fitsB (size off n room : Int) : Int := if n < 1 then 0 else if tooBigB off n = true then 15 else if room < off + n - size then 14 else 0

/-! ### the program's -/
structure Nd where
  mode : Int
  up : Hd
  dir : Option (List Ent)
  data : Bts
abbrev rootH : Hd := (1, 1)
abbrev Places := List (Int × Option Nd)
structure PF where
  places : Places
  room : Int
  used : Int
def getPl (l : Places) (h : Hd) : Option Nd :=
  if 1 ≤ h.1 then
    match l[(h.1 - 1).toNat]? with
    | some (g, some n) => if g = h.2 then some n else none
    | _ => none
  else none
def updPl (l : Places) (h : Hd) (f : Option Nd → Option Nd) : Places := l.modify (h.1 - 1).toNat fun x => (x.1, f x.2)
def PF.get (p : PF) (h : Hd) : Option Nd := getPl p.places h
def PF.upd (p : PF) (h : Hd) (f : Nd → Nd) : PF := { p with places := updPl p.places h (Option.map f) }
def PF.del (p : PF) (h : Hd) : PF := { p with places := updPl p.places h fun _ => none }
def freePl (l : Places) : Option Nat := l.findIdx? fun x => x.2.isNone
def genAt (l : Places) (i : Nat) : Int := ((l[i]?).map (·.1)).getD 0
def addPl (l : Places) (i : Nat) (n : Nd) : Places := l.set i (genAt l i + 1, some n)
def newF (nodes : Nat) (room : Int) : PF := ⟨(1, some ⟨493, rootH, some [], []⟩) :: List.replicate (nodes - 1) (0, none), room, 0⟩
def sizeN (n : Nd) : Int := match n.dir with | some l => l.length | none => n.data.length
def kindN (n : Nd) : Int := if n.dir.isSome = true then 1 else 2
def attrR (h : Hd) (n : Nd) : MRes := { res0 0 with ino := h.1, gen := h.2, kind := kindN n, mode := n.mode, size := sizeN n }
def fileP (p : PF) (h : Hd) : Except Int Nd := match p.get h with | none => .error 8 | some n => if n.dir.isSome = true then .error 12 else .ok n
def folderP (p : PF) (h : Hd) : Except Int (Nd × List Ent) := match p.get h with | none => .error 8 | some n => match n.dir with | none => .error 11 | some l => .ok (n, l)
def entryP (l : List Ent) (s : Bts) : Except Int Hd := if nameOk s = true then match getE l s with | none => .error 9 | some h => .ok h else .error 16
def fillP (p : PF) (h : Hd) (n : Nd) (d : Bts) : PF := { p.upd h (fun n => { n with data := d }) with used := p.used + (d.length - n.data.length) }
def forgetP (p : PF) (h : Hd) (n : Nd) : PF := { p.del h with used := p.used + (0 - n.data.length) }
def getattrP (p : PF) (h : Hd) : MRes := match p.get h with | none => res0 8 | some n => attrR h n
def setsizeP (p : PF) (a : MArgs) : PF × MRes := match fileP p a.h1 with
  | .error e => (p, res0 e)
  | .ok n => if 2048 < a.size then (p, res0 15) else if p.room - p.used < a.size - n.data.length then (p, res0 14) else
    let d := stretchB n.data a.size.toNat
    (fillP p a.h1 n d, attrR a.h1 { n with data := d })
def lookupP (p : PF) (a : MArgs) : MRes := match folderP p a.h1 with
  | .error e => res0 e
  | .ok (n, l) => if a.name = [46, 46] then getattrP p n.up else match entryP l a.name with
    | .error e => res0 e
    | .ok h => getattrP p h
def readP (p : PF) (a : MArgs) : MRes := match fileP p a.h1 with
  | .error e => res0 e
  | .ok n => let r := readB n.data a.off.toNat a.count.toNat; { res0 0 with data := r.1, count := r.1.length, eof := r.2 }
def writeP (p : PF) (a : MArgs) : PF × MRes := match fileP p a.h1 with
  | .error e => (p, res0 e)
  | .ok n => let e := fitsB n.data.length a.off a.data.length (p.room - p.used); if e ≠ 0 then (p, res0 e) else
    let d := writeB n.data a.off.toNat a.data
    (fillP p a.h1 n d, { attrR a.h1 { n with data := d } with count := a.data.length })
def addP (p : PF) (a : MArgs) (n : Nd) : PF × MRes := match folderP p a.h1 with
  | .error e => (p, res0 e)
  | .ok (_, l) => match entryP l a.name with
    | .ok _ => (p, res0 10)
    | .error e => if e ≠ 9 then (p, res0 e) else match freePl p.places with
      | none => (p, res0 14)
      | some i =>
        let h : Hd := ((i : Int) + 1, genAt p.places i + 1)
        ({ p with places := updPl (addPl p.places i n) a.h1 (Option.map fun d => { d with dir := d.dir.map fun l => putE l a.name h }) }, attrR h n)
def findP (p : PF) (h : Hd) (s : Bts) : Except Int (Hd × Nd) := match folderP p h with
  | .error e => .error e
  | .ok (_, l) => match entryP l s with
    | .error e => .error e
    | .ok x => match p.get x with | none => .error 8 | some n => .ok (x, n)
def inDir (p : PF) (h : Hd) (f : List Ent → List Ent) : PF := p.upd h fun d => { d with dir := d.dir.map f }
def removeP (p : PF) (a : MArgs) : PF × MRes := match findP p a.h1 a.name with
  | .error e => (p, res0 e)
  | .ok (h, n) => if n.dir.isSome = true then (p, res0 12) else (forgetP (inDir p a.h1 fun l => dropE l a.name) h n, res0 0)
def rmdirP (p : PF) (a : MArgs) : PF × MRes := match findP p a.h1 a.name with
  | .error e => (p, res0 e)
  | .ok (h, n) => match n.dir with
    | none => (p, res0 11)
    | some l => if l ≠ [] then (p, res0 13) else (forgetP (inDir p a.h1 fun l => dropE l a.name) h n, res0 0)
/-- is a node this directory, or one that it is in? -/
def holdsF (g : Hd → Option Nd) (h : Hd) : Nat → Hd → Bool
  | 0, _ => false
  | k + 1, x => if x = h then true else if x = rootH then false else match g x with | none => false | some n => holdsF g h k n.up
def givesP (n old : Nd) : Int := if n.dir.isSome = true ∧ old.dir = none then 11 else if n.dir = none ∧ old.dir.isSome = true then 12 else match old.dir with | some l => if l ≠ [] then 13 else 0 | none => 0
def moveP (p : PF) (a : MArgs) (h : Hd) : PF := (inDir p a.h1 fun l => dropE l a.name).upd h fun n => { n with up := a.h2 }
def renameP (p : PF) (a : MArgs) : PF × MRes := match folderP p a.h1 with
  | .error e => (p, res0 e)
  | .ok _ => match folderP p a.h2 with
    | .error e => (p, res0 e)
    | .ok (_, l2) => if nameOk a.name = false ∨ nameOk a.name2 = false then (p, res0 16) else match findP p a.h1 a.name with
      | .error e => (p, res0 e)
      | .ok (h, n) => if holdsF p.get h 70 a.h2 = true then (p, res0 16) else match getE l2 a.name2 with
        | none => (moveP (inDir p a.h2 fun l => putE l a.name2 h) a h, res0 0)
        | some old => if old = h then (p, res0 0) else match p.get old with
          | none => (p, res0 8)
          | some m => if givesP n m ≠ 0 then (p, res0 (givesP n m)) else (moveP (inDir (forgetP p old m) a.h2 fun l => setE l a.name2 h) a h, res0 0)
def pageE (l : List Ent) (off most : Nat) : List Ent × Bool := ((l.drop off).take most, decide (l.length ≤ off + most))
def readdirP (p : PF) (a : MArgs) : MRes := match folderP p a.h1 with
  | .error e => res0 e
  | .ok (_, l) => if a.off < 0 ∨ l.length < a.off then res0 20 else let r := pageE l a.off.toNat a.count.toNat; { res0 0 with ents := r.1, eof := r.2 }
def argsD (a : MArgs) : MArgs := { a with off := max a.off 0, count := max a.count 0, size := max a.size 0, mode := a.mode % 512 }
def doP (p : PF) (x : MArgs) : PF × MRes :=
  let a := argsD x
  if a.proc = 1 then (p, getattrP p a.h1)
  else if a.proc = 2 then setsizeP p a
  else if a.proc = 3 then (p, lookupP p a)
  else if a.proc = 6 then (p, readP p a)
  else if a.proc = 7 then writeP p a
  else if a.proc = 8 then addP p a ⟨a.mode, a.h1, none, []⟩
  else if a.proc = 9 then addP p a ⟨a.mode, a.h1, some [], []⟩
  else if a.proc = 12 then removeP p a
  else if a.proc = 13 then rmdirP p a
  else if a.proc = 14 then renameP p a
  else if a.proc = 16 then (p, readdirP p a)
  else (p, res0 2)
def liveN (l : Places) : Nat := l.countP fun x => x.2.isSome

/-! ### the document's -/
structure RN where
  h : Hd
  kind : Int
  mode : Int
  up : Hd
  b : Bts
  l : List Ent
structure RF where
  most : Int
  room : Int
  L : List RN
  gens : List Int
def newR (nodes : Nat) (room : Int) : RF := ⟨nodes, room, [⟨rootH, 1, 493, rootH, [], []⟩], 0 :: 1 :: List.replicate (nodes - 1) 0⟩
def lookR (L : List RN) (h : Hd) : Option RN := L.find? fun n => decide (n.h = h)
def usedR (L : List RN) : Int := (L.map fun n => (n.b.length : Int)).sum
def withR (L : List RN) (n : RN) : List RN := L.map fun x => if x.h = n.h then n else x
def withoutR (L : List RN) (h : Hd) : List RN := L.filter fun x => !decide (x.h = h)
def attrOfR (n : RN) : MRes := { res0 0 with ino := n.h.1, gen := n.h.2, kind := n.kind, mode := n.mode, size := if n.kind = 1 then (n.l.length : Int) else n.b.length }
def kindR (L : List RN) (h : Hd) (k : Int) : Except Int RN := match lookR L h with | none => .error 8 | some n => if n.kind = k then .ok n else if k = 1 then .error 11 else .error 12
/-- an entry's handle, and whether it is there: BadName, NoEnt. -/
def entryR (l : List Ent) (s : Bts) : Except Int Hd := if nameOk s = true then match getE l s with | none => .error 9 | some h => .ok h else .error 16
def takenR (L : List RN) (ino : Int) : Bool := L.any fun n => decide (n.h.1 = ino)
def freeR (most : Nat) (L : List RN) : Option Nat := (List.range most).find? fun i => !takenR L ((i : Int) + 1)
def addR (f : RF) (a : MArgs) (k : Int) : RF × MRes := match kindR f.L a.h1 1 with
  | .error e => (f, res0 e)
  | .ok d => match entryR d.l a.name with
    | .ok _ => (f, res0 10)
    | .error e => if e = 16 then (f, res0 16) else match freeR f.most.toNat f.L with
      | none => (f, res0 14)
      | some i =>
        let g := (f.gens[i + 1]?).getD 0 + 1
        let h : Hd := ((i : Int) + 1, g)
        let n : RN := ⟨h, k, a.mode % 512, a.h1, [], []⟩
        ({ f with L := withR f.L { d with l := putE d.l a.name h } ++ [n], gens := f.gens.set (i + 1) g }, attrOfR n)
def nodeR (L : List RN) (h : Hd) : RN := ((lookR L h).or L.head?).getD ⟨(0, 0), 0, 0, (0, 0), [], []⟩
def dropR (f : RF) (a : MArgs) (k : Int) : RF × MRes := match kindR f.L a.h1 1 with
  | .error e => (f, res0 e)
  | .ok d => match entryR d.l a.name with
    | .error e => (f, res0 e)
    | .ok x =>
      let n := nodeR f.L x
      if n.kind ≠ k ∧ k = 2 then (f, res0 12) else if n.kind ≠ k then (f, res0 11) else if n.l ≠ [] then (f, res0 13) else
      ({ f with L := withoutR (withR f.L { d with l := dropE d.l a.name }) n.h }, res0 0)
def underR (L : List RN) (above : Hd) : Nat → Hd → Bool
  | 0, _ => false
  | k + 1, h => if h = above then true else match lookR L h with | none => false | some n => if n.up = h then false else underR L above k n.up
/-- the error, or (none) that it is to be done; (some 0): there is nothing to do. -/
def whyR (L : List RN) (a : MArgs) : Option Int := match kindR L a.h1 1 with
  | .error e => some e
  | .ok d => match kindR L a.h2 1 with
    | .error e => some e
    | .ok d2 => if nameOk a.name = false ∨ nameOk a.name2 = false then some 16 else match entryR d.l a.name with
      | .error e => some e
      | .ok x =>
        let n := nodeR L x
        if underR L n.h 70 a.h2 = true then some 16 else match entryR d2.l a.name2 with
        | .error _ => none
        | .ok y =>
          let m := nodeR L y
          if m.h = n.h then some 0 else if n.kind = 1 ∧ m.kind = 2 then some 11 else if n.kind = 2 ∧ m.kind = 1 then some 12 else if m.l ≠ [] then some 13 else none
def renameR (f : RF) (a : MArgs) : RF × MRes := match whyR f.L a with
  | some e => (f, res0 e)
  | none =>
    let d := nodeR f.L a.h1
    let h := (getE d.l a.name).getD (0, 0)
    let L1 := withR f.L { d with l := dropE d.l a.name }
    let d2 := nodeR L1 a.h2
    let old := getE d2.l a.name2
    let L2 := withR L1 { d2 with l := putE (dropE d2.l a.name2) a.name2 h }
    let L3 := match old with | none => L2 | some o => withoutR L2 o
    let n := nodeR L3 h
    ({ f with L := withR L3 { n with up := a.h2 } }, res0 0)
def fileR (f : RF) (a : MArgs) : RF × MRes := match kindR f.L a.h1 2 with
  | .error e => (f, res0 e)
  | .ok n =>
    let room := f.room - usedR f.L
    if a.proc = 6 then let r := readB n.b a.off.toNat a.count.toNat; (f, { res0 0 with data := r.1, count := r.1.length, eof := r.2 })
    else if a.proc = 2 then
      if 2048 < a.size then (f, res0 15) else
      let s := stretchB n.b a.size.toNat
      if n.b.length + room < s.length then (f, res0 14) else ({ f with L := withR f.L { n with b := s } }, attrOfR { n with b := s })
    else
      let e := fitsB n.b.length a.off a.data.length room
      if e ≠ 0 then (f, res0 e) else
      let s := writeB n.b a.off.toNat a.data
      ({ f with L := withR f.L { n with b := s } }, { attrOfR { n with b := s } with count := a.data.length })
def lookupR (f : RF) (a : MArgs) : MRes := match kindR f.L a.h1 1 with
  | .error e => res0 e
  | .ok d => if a.name = [46, 46] then attrOfR (nodeR f.L d.up) else match entryR d.l a.name with
    | .error e => res0 e
    | .ok h => attrOfR (nodeR f.L h)
def argsR (a : MArgs) : MArgs := { a with off := max a.off 0, count := max a.count 0, size := max a.size 0 }
def doR (f : RF) (x : MArgs) : RF × MRes :=
  let a := argsR x
  if a.proc = 1 then (f, match lookR f.L a.h1 with | none => res0 8 | some n => attrOfR n)
  else if a.proc = 2 ∨ a.proc = 6 ∨ a.proc = 7 then fileR f a
  else if a.proc = 3 then (f, lookupR f a)
  else if a.proc = 8 then addR f a 2
  else if a.proc = 9 then addR f a 1
  else if a.proc = 12 then dropR f a 2
  else if a.proc = 13 then dropR f a 1
  else if a.proc = 14 then renameR f a
  else if a.proc = 16 then (f, match kindR f.L a.h1 1 with
    | .error e => res0 e
    | .ok d => if d.l.length < a.off then res0 20 else let r := pageE d.l a.off.toNat a.count.toNat; { res0 0 with ents := r.1, eof := r.2 })
  else (f, res0 2)
end Go.Proofs.YtlkgdidmhmaneaaGreatDoor
