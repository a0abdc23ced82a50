/- A part of the proof: walks and laws that the last part joins. -/
import Derived.Test.YtlkgdidmhmaneaaGreatDoorSNf
/- fsys, part 1: what a file system is in memory; New, Root, Used, Nodes. -/
namespace Go.Proofs.YtlkgdidmhmaneaaGreatDoor
open Go Go.RowKit
attribute [local irreducible] Yl OG CG EG SG AG  CellIn CellsIn BlkIn InA TakeA SplitA SubA Ct ResOk Good Held blk cellsA exA
/-- a node: its block, its directory's block (if it is one) -/
def nodeA (x : Nat × Nat) (n : Nd) : Ast := exA (α := Option Addr × Nat) (fun s => n.data.length ≤ s.2 ∧ s.2 ≤ 9223372036854775807) fun s =>
  [blk x.1 129 [.int .i64 n.mode, .int .i64 n.up.1, .int .i64 n.up.2, .pointer (n.dir.map fun _ => ⟨x.2, 0, none⟩), .slice s.1 n.data.length s.2] (0, 0), bytesA true s.1 n.data] ++ (match n.dir with | none => [] | some l => [dirA x.2 l])
@[simp] theorem nodeA_own (x : Nat × Nat) (n : Nd) : (nodeA x n).own = true := by unfold nodeA; exact exA_own _ _
/-- what stands for a place: its node, if there is one -/
def placeA (x : Nat × Nat) (p : Int × Option Nd) : Ast := match p.2 with
  | none => allA []
  | some n => nodeA x n
@[simp] theorem placeA_own (x : Nat × Nat) (p : Int × Option Nd) : (placeA x p).own = true := by
  unfold placeA; split
  · exact exA_own _ _
  · exact nodeA_own _ _
abbrev Lay := List (Nat × Nat)
def nodesL (lay : Lay) (pl : Places) : List Ast := List.zipWith placeA lay pl
theorem nodesL_own (lay : Lay) (pl : Places) : ∀ A ∈ nodesL lay pl, A.own = true := by
  intro A hA
  simp only [nodesL, List.mem_iff_getElem, List.length_zipWith, List.getElem_zipWith] at hA
  obtain ⟨i, _, rfl⟩ := hA
  exact placeA_own _ _
def plOf (lay : Lay) (pl : Places) : List Pl := List.zipWith (fun x p => (p.2.isSome, p.1, p.2.map fun _ => x.1)) lay pl
/-- a file system -/
def fsA (fb : Nat) (lay : Lay) (p : PF) : Ast := exA (α := Nat) (fun _ => lay.length = p.places.length) fun tb =>
  [blk fb 89 [.pointer (some ⟨tb, 0, none⟩), .int .i64 1, .int .i64 1, .int .i64 p.room, .int .i64 p.used] (0, 0), tableA tb p.places.length (plOf lay p.places), allA (nodesL lay p.places)]
@[simp] theorem fsA_own (fb : Nat) (lay : Lay) (p : PF) : (fsA fb lay p).own = true := by unfold fsA; exact exA_own _ _
theorem fsA_bs (fb : Nat) (lay : Lay) (p : PF) : ∀ tb : Nat, allOwn [blk fb 89 [.pointer (some ⟨tb, 0, none⟩), .int .i64 1, .int .i64 1, .int .i64 p.room, .int .i64 p.used] (0, 0), tableA tb p.places.length (plOf lay p.places), allA (nodesL lay p.places)] := fun _ => ⟨blk_own _ _ _ _, tableA_own _ _ _, exA_own _ _, trivial⟩
theorem nodeA_bs (x : Nat × Nat) (n : Nd) : ∀ s : Option Addr × Nat, allOwn ([blk x.1 129 [.int .i64 n.mode, .int .i64 n.up.1, .int .i64 n.up.2, .pointer (n.dir.map fun _ => ⟨x.2, 0, none⟩), .slice s.1 n.data.length s.2] (0, 0), bytesA true s.1 n.data] ++ (match n.dir with | none => [] | some l => [dirA x.2 l])) := fun s => by
  cases n.dir with
  | none => exact ⟨blk_own _ _ _ _, cellsA_own _ _ _, trivial⟩
  | some l => exact ⟨blk_own _ _ _ _, cellsA_own _ _ _, dirA_own _ _, trivial⟩

theorem plOf_length {lay : Lay} {pl : Places} (h : lay.length = pl.length) : (plOf lay pl).length = pl.length := by simp [plOf, h]
theorem plOf_get {lay : Lay} {pl : Places} (h : lay.length = pl.length) (i : Nat) : (plOf lay pl)[i]? = match pl[i]?, lay[i]? with | some p, some x => some (p.2.isSome, p.1, p.2.map fun _ => x.1) | _, _ => none := by
  simp only [plOf, List.getElem?_zipWith]
  cases lay[i]? <;> cases pl[i]? <;> rfl
theorem getPl_idx {lay : Lay} {pl : Places} (h : lay.length = pl.length) (x : Hd) : idxT (plOf lay pl) x = (getPl pl x).map (fun _ => (x.1 - 1).toNat) := by
  simp only [idxT, getPl]
  split
  · rw [plOf_get h]
    cases hp : pl[(x.1 - 1).toNat]? with
    | none => rfl
    | some p =>
      have hl : (x.1 - 1).toNat < lay.length := by have := (List.getElem?_eq_some_iff.1 hp).1; omega
      rw [List.getElem?_eq_getElem hl]
      obtain ⟨g, n⟩ := p
      cases n with
      | none => rfl
      | some n =>
        dsimp only [Option.isSome]
        split <;> rfl
  · rfl
/-- the blocks of a node -/
def layAt (lay : Lay) (x : Hd) : Nat × Nat := (lay[(x.1 - 1).toNat]?).getD (0, 0)
theorem getT_of {lay : Lay} {pl : Places} (h : lay.length = pl.length) (x : Hd) : getT (plOf lay pl) x = (getPl pl x).map fun _ => some (layAt lay x).1 := by
  unfold getT
  rw [getPl_idx h]
  cases hg : getPl pl x with
  | none => rfl
  | some n =>
    simp only [Option.map_some, Option.bind_some]
    rw [plOf_get h]
    simp only [getPl] at hg
    split at hg
    · split at hg
      · rename_i g m hp
        rw [hp]
        have hl : (x.1 - 1).toNat < lay.length := by have := (List.getElem?_eq_some_iff.1 hp).1; omega
        rw [layAt, List.getElem?_eq_getElem hl]
        rfl
      · cases hg
    · cases hg
theorem getPl_at {pl : Places} {x : Hd} {n : Nd} (h : getPl pl x = some n) : 1 ≤ x.1 ∧ pl[(x.1 - 1).toNat]? = some (x.2, some n) := by
  simp only [getPl] at h
  split at h
  · split at h
    · rename_i g m hp
      split at h
      · rename_i hg
        cases h
        exact ⟨‹_›, by rw [hp, hg]⟩
      · cases h
    · cases h
  · cases h
/-- the nodes, one of them by itself -/
theorem nodesL_split {lay : Lay} {pl : Places} (h : lay.length = pl.length) {i : Nat} {p : Int × Option Nd} (hp : pl[i]? = some p) : ∃ x, lay[i]? = some x ∧ nodesL lay pl = (nodesL lay pl).take i ++ placeA x p :: (nodesL lay pl).drop (i + 1) := by
  have hl : i < pl.length := (List.getElem?_eq_some_iff.1 hp).1
  have hl2 : i < lay.length := by omega
  have hn : i < (nodesL lay pl).length := by simp [nodesL]; omega
  refine ⟨lay[i], List.getElem?_eq_getElem hl2, ?_⟩
  have : placeA lay[i] p = (nodesL lay pl)[i] := by
    have h2 := List.getElem?_eq_getElem hl
    rw [hp] at h2
    simp only [Option.some.injEq] at h2
    simp [nodesL, h2]
  rw [this, List.getElem_cons_drop, List.take_append_drop]
theorem zipWith_set {α β γ : Type} (f : α → β → γ) : ∀ (a : List α) (b : List β) (i : Nat) (y : β), List.zipWith f a (b.set i y) = match a[i]? with | some x => (List.zipWith f a b).set i (f x y) | none => List.zipWith f a b
  | [], b, i, y => by simp
  | a :: l, [], i, y => by cases i <;> simp <;> (split <;> rfl)
  | a :: l, b :: m, 0, y => by simp
  | a :: l, b :: m, i + 1, y => by
    simp only [List.set_cons_succ, List.zipWith_cons_cons, List.getElem?_cons_succ, zipWith_set f l m i y]
    split <;> simp
theorem nodesL_set {lay : Lay} {pl : Places} (h : lay.length = pl.length) {i : Nat} {x : Nat × Nat} (hx : lay[i]? = some x) (p : Int × Option Nd) : nodesL lay (pl.set i p) = (nodesL lay pl).take i ++ placeA x p :: (nodesL lay pl).drop (i + 1) := by
  have hl : i < lay.length := (List.getElem?_eq_some_iff.1 hx).1
  have hn : i < (nodesL lay pl).length := by simp [nodesL]; omega
  rw [nodesL, zipWith_set, hx]
  exact List.set_eq_take_append_cons_drop.trans (if_pos hn)
theorem plOf_set {lay : Lay} {pl : Places} {i : Nat} {x : Nat × Nat} (hx : lay[i]? = some x) (p : Int × Option Nd) : plOf lay (pl.set i p) = (plOf lay pl).set i (p.2.isSome, p.1, p.2.map fun _ => x.1) := by
  rw [plOf, zipWith_set, hx]; rfl
theorem modify_eq_set {α : Type} {l : List α} {i : Nat} {x : α} (f : α → α) (h : l[i]? = some x) : l.modify i f = l.set i (f x) := by
  apply List.ext_getElem?
  intro j
  rw [List.getElem?_modify, List.getElem?_set]
  by_cases hj : i = j
  · subst hj
    obtain ⟨h1, h2⟩ := List.getElem?_eq_some_iff.1 h
    simp [h1, h2]
  · simp [hj]
end Go.Proofs.YtlkgdidmhmaneaaGreatDoor
/- fsys, part 2: New, Root, Used, Nodes; attr. -/
namespace Go.Proofs.YtlkgdidmhmaneaaGreatDoor
open Go Go.RowKit
theorem emptyA (S : Nat → Prop) (w : World) : (allA []).holds S w := ⟨(), trivial, trivial⟩
theorem SepL.empties (w : World) (T : Nat → Prop) : ∀ (k : Nat) (M : Nat → Prop), SepL (List.replicate k (allA [])) M T w
  | 0, _ => trivial
  | k + 1, M => by
    rw [List.replicate_succ]
    exact (SepL.cons_own (exA_own _ _)).2 ⟨fun _ => False, fun _ h => h.elim, emptyA _ _, SepL.empties w T k _⟩
theorem alone_all {A : Ast} (ho : A.own = true) (k : Nat) (S : Nat → Prop) (w : World) (h : A.holds S w) : (allA (A :: List.replicate k (allA []))).holds S w :=
  ⟨(), trivial, (SepL.cons_own ho).2 ⟨S, fun _ h => h, h, SepL.empties w _ k _⟩⟩
theorem freeT_zero {n : Nat} (h : 1 ≤ n) : freeT (List.replicate n (false, 0, none)) = some 0 := by
  obtain ⟨m, rfl⟩ := Nat.exists_eq_succ_of_ne_zero (show n ≠ 0 by omega)
  rfl
theorem newF_pl (nb db m : Nat) (r : Int) : plOf ((nb, db) :: List.replicate m (0, 0)) (newF (m + 1) r).places = (List.replicate (m + 1) ((false, 0, none) : Pl)).set 0 (true, 1, some nb) := by
  simp only [newF, plOf, List.zipWith_cons_cons, Option.isSome, Option.map_some, List.replicate_succ, List.set_cons_zero, Nat.add_sub_cancel]
  congr 1
  rw [List.zipWith_replicate']
  rfl
theorem newF_nodes (nb db m : Nat) (r : Int) : nodesL ((nb, db) :: List.replicate m (0, 0)) (newF (m + 1) r).places = nodeA (nb, db) ⟨493, rootH, some [], []⟩ :: List.replicate m (allA []) := by
  simp only [newF, nodesL, List.zipWith_cons_cons, Nat.add_sub_cancel]
  congr 1
  rw [List.zipWith_replicate']
  rfl
attribute [local irreducible] Yl OG CG EG SG AG JG CellIn CellsIn BlkIn InA TakeA SplitA SubA Ct ResOk Good Held blk cellsA exA

set_option maxRecDepth 20000 in
set_option maxHeartbeats 4000000 in
theorem fsNew_ok (n room : Int) : Ct Tryz.prog 27 [.int .i64 n, .int .i64 room] [] (Ret fun u H => if (1 ≤ n ∧ n ≤ 64) ∧ 0 ≤ room ∧ room ≤ 65536 then ∃ fb lay, u = .tuple #[.pointer (some ⟨fb, 0, none⟩), .int .i64 0] ∧ H = [fsA fb lay (newF n.toNat room)] else u = .tuple #[.pointer none, .int .i64 1] ∧ H = []) := by
  by_cases hok : (1 ≤ n ∧ n ≤ 64) ∧ 0 ≤ room ∧ room ≤ 65536
  · simp only [if_pos hok]
    obtain ⟨⟨hn1, hn2⟩, hr1, hr2⟩ := hok
    obtain ⟨m, rfl⟩ : ∃ m : Nat, n = (m : Int) + 1 := ⟨(n - 1).toNat, by omega⟩
    have e1 : decide ((m : Int) + 1 < 1) = false := by simp; omega
    have e2 : decide ((64 : Int) < (m : Int) + 1) = false := by simp; omega
    have e3 : decide (room < 0) = false := by simp; omega
    have e4 : decide ((65536 : Int) < room) = false := by simp; omega
    refine fn_enter Tryz.func27 rfl Tryz.ntmps27 rfl fun _ _ _ => ?_
    repeat (first | refine o_v (k := ?_) | refine c_seq ?_ | refine c_region ?_ | refine o_nil ?_ | refine e_then_normal ?_ | refine o_store (k := ?_) | refine c_true (h1 := ?_) | refine c_false (h1 := ?_) | refine c_ret ?_ | refine c_skip ?_ | refine e_then_ret ?_ | refine c_block ?_ | refine c_exit ?_ | refine e_then_exit ?_ | refine e_block_exit ?_ | refine e_block_normal ?_ | refine e_block_ret ?_ | refine o_box (k := fun _ => ?_) | refine o_alloc (k := fun _ => ?_) | refine e_norm ?_ | refine o_ung (k := ?_) | refine o_k (k := ?_) | refine s_v (k := ?_) | refine s_w (k := ?_) | refine s_k (k := ?_) | refine s_nil ?_ | refine e_block_exit_ne rfl ?_)
    simp only [e1]
    repeat (first | refine o_v (k := ?_) | refine c_seq ?_ | refine c_region ?_ | refine o_nil ?_ | refine e_then_normal ?_ | refine o_store (k := ?_) | refine c_true (h1 := ?_) | refine c_false (h1 := ?_) | refine c_ret ?_ | refine c_skip ?_ | refine e_then_ret ?_ | refine c_block ?_ | refine c_exit ?_ | refine e_then_exit ?_ | refine e_block_exit ?_ | refine e_block_normal ?_ | refine e_block_ret ?_ | refine o_box (k := fun _ => ?_) | refine o_alloc (k := fun _ => ?_) | refine e_norm ?_ | refine o_ung (k := ?_) | refine o_k (k := ?_) | refine s_v (k := ?_) | refine s_w (k := ?_) | refine s_k (k := ?_) | refine s_nil ?_ | refine e_block_exit_ne rfl ?_)
    simp only [e2]
    repeat (first | refine o_v (k := ?_) | refine c_seq ?_ | refine c_region ?_ | refine o_nil ?_ | refine e_then_normal ?_ | refine o_store (k := ?_) | refine c_true (h1 := ?_) | refine c_false (h1 := ?_) | refine c_ret ?_ | refine c_skip ?_ | refine e_then_ret ?_ | refine c_block ?_ | refine c_exit ?_ | refine e_then_exit ?_ | refine e_block_exit ?_ | refine e_block_normal ?_ | refine e_block_ret ?_ | refine o_box (k := fun _ => ?_) | refine o_alloc (k := fun _ => ?_) | refine e_norm ?_ | refine o_ung (k := ?_) | refine o_k (k := ?_) | refine s_v (k := ?_) | refine s_w (k := ?_) | refine s_k (k := ?_) | refine s_nil ?_ | refine e_block_exit_ne rfl ?_)
    simp only [e3]
    repeat (first | refine o_v (k := ?_) | refine c_seq ?_ | refine c_region ?_ | refine o_nil ?_ | refine e_then_normal ?_ | refine o_store (k := ?_) | refine c_true (h1 := ?_) | refine c_false (h1 := ?_) | refine c_ret ?_ | refine c_skip ?_ | refine e_then_ret ?_ | refine c_block ?_ | refine c_exit ?_ | refine e_then_exit ?_ | refine e_block_exit ?_ | refine e_block_normal ?_ | refine e_block_ret ?_ | refine o_box (k := fun _ => ?_) | refine o_alloc (k := fun _ => ?_) | refine e_norm ?_ | refine o_ung (k := ?_) | refine o_k (k := ?_) | refine s_v (k := ?_) | refine s_w (k := ?_) | refine s_k (k := ?_) | refine s_nil ?_ | refine e_block_exit_ne rfl ?_)
    simp only [e4]
    repeat (first | refine o_v (k := ?_) | refine c_seq ?_ | refine c_region ?_ | refine o_nil ?_ | refine e_then_normal ?_ | refine o_store (k := ?_) | refine c_true (h1 := ?_) | refine c_false (h1 := ?_) | refine c_ret ?_ | refine c_skip ?_ | refine e_then_ret ?_ | refine c_block ?_ | refine c_exit ?_ | refine e_then_exit ?_ | refine e_block_exit ?_ | refine e_block_normal ?_ | refine e_block_ret ?_ | refine o_box (k := fun _ => ?_) | refine o_alloc (k := fun _ => ?_) | refine e_norm ?_ | refine o_ung (k := ?_) | refine o_k (k := ?_) | refine s_v (k := ?_) | refine s_w (k := ?_) | refine s_k (k := ?_) | refine s_nil ?_ | refine e_block_exit_ne rfl ?_)
    have hc := tabNew_ok ((m : Int) + 1)
    simp only [if_pos (show 1 ≤ (m : Int) + 1 ∧ (m : Int) + 1 ≤ 64 from ⟨hn1, hn2⟩)] at hc
    refine o_call hc (k := ?_)
    rintro _ _ ⟨tb, rfl, rfl⟩
    dsimp only [List.cons_append, List.nil_append]
    rw [show ((m : Int) + 1).toNat = m + 1 from by omega]
    repeat (first | refine o_v (k := ?_) | refine c_seq ?_ | refine c_region ?_ | refine o_nil ?_ | refine e_then_normal ?_ | refine o_store (k := ?_) | refine c_true (h1 := ?_) | refine c_false (h1 := ?_) | refine c_ret ?_ | refine c_skip ?_ | refine e_then_ret ?_ | refine c_block ?_ | refine c_exit ?_ | refine e_then_exit ?_ | refine e_block_exit ?_ | refine e_block_normal ?_ | refine e_block_ret ?_ | refine o_box (k := fun _ => ?_) | refine o_alloc (k := fun _ => ?_) | refine e_norm ?_ | refine o_ung (k := ?_) | refine o_k (k := ?_) | refine s_v (k := ?_) | refine s_w (k := ?_) | refine s_k (k := ?_) | refine s_nil ?_ | refine e_block_exit_ne rfl ?_)
    refine o_call dirNew_ok (k := ?_)
    rintro _ _ ⟨db, rfl, rfl⟩
    dsimp only [List.cons_append, List.nil_append]
    repeat (first | refine o_v (k := ?_) | refine c_seq ?_ | refine c_region ?_ | refine o_nil ?_ | refine e_then_normal ?_ | refine o_store (k := ?_) | refine c_true (h1 := ?_) | refine c_false (h1 := ?_) | refine c_ret ?_ | refine c_skip ?_ | refine e_then_ret ?_ | refine c_block ?_ | refine c_exit ?_ | refine e_then_exit ?_ | refine e_block_exit ?_ | refine e_block_normal ?_ | refine e_block_ret ?_ | refine o_box (k := fun _ => ?_) | refine o_alloc (k := fun _ => ?_) | refine e_norm ?_ | refine o_ung (k := ?_) | refine o_k (k := ?_) | refine s_v (k := ?_) | refine s_w (k := ?_) | refine s_k (k := ?_) | refine s_nil ?_ | refine e_block_exit_ne rfl ?_)
    rename_i nb
    have ha := tabAdd_ok tb (m + 1) (List.replicate (m + 1) (false, 0, none)) nb (by intro x hx; rw [List.eq_of_mem_replicate hx]; decide)
    rw [freeT_zero (by omega)] at ha
    refine o_call ha (k := ?_)
    rintro _ _ ⟨rfl, rfl⟩
    dsimp only [List.cons_append, List.nil_append]
    simp only [List.getElem?_replicate, Nat.zero_lt_succ, if_true, Option.map_some, Option.getD_some]
    repeat (first | refine o_v (k := ?_) | refine c_seq ?_ | refine c_region ?_ | refine o_nil ?_ | refine e_then_normal ?_ | refine o_store (k := ?_) | refine c_true (h1 := ?_) | refine c_false (h1 := ?_) | refine c_ret ?_ | refine c_skip ?_ | refine e_then_ret ?_ | refine c_block ?_ | refine c_exit ?_ | refine e_then_exit ?_ | refine e_block_exit ?_ | refine e_block_normal ?_ | refine e_block_ret ?_ | refine o_box (k := fun _ => ?_) | refine o_alloc (k := fun _ => ?_) | refine e_norm ?_ | refine o_ung (k := ?_) | refine o_k (k := ?_) | refine s_v (k := ?_) | refine s_w (k := ?_) | refine s_k (k := ?_) | refine s_nil ?_ | refine e_block_exit_ne rfl ?_)
    rename_i fb
    rw [show (((0 : Nat) : Int) + 1) = 1 from rfl, show ((0 : Int) + 1) = 1 from rfl]
    refine e_add0 (bytesA true none []) (fun w => cellsA_nil _ w) (k := ?_)
    refine e_fold (nodeA (nb, db) ⟨493, rootH, some [], []⟩) (none, 0) (hx := by exact ⟨by simp, by simp⟩) (ho := nodeA_bs _ _) (k := ?_)
    refine e_imp (nodeA (nb, db) ⟨493, rootH, some [], []⟩) (allA (nodeA (nb, db) ⟨493, rootH, some [], []⟩ :: List.replicate m (allA []))) (fun S w h => alone_all (nodeA_own _ _) m S w h) (by rw [nodeA_own]; exact (exA_own _ _).symm) (k := ?_)
    have hlen : (newF (m + 1) room).places.length = m + 1 := by simp [newF]
    have e5 : tableA tb (m + 1) ((List.replicate (m + 1) ((false, 0, none) : Pl)).set 0 (true, 1, some nb)) = tableA tb (newF (m + 1) room).places.length (plOf ((nb, db) :: List.replicate m (0, 0)) (newF (m + 1) room).places) := by rw [newF_pl, hlen]
    rw [e5, ← newF_nodes nb db m room]
    refine e_fold (fsA fb ((nb, db) :: List.replicate m (0, 0)) (newF (m + 1) room)) tb (hx := by simp [newF]) (ho := fsA_bs _ _ _) (k := ?_)
    exact e_2 (h1 := rs_tmp rfl) (h2 := rs_tmp rfl) (H' := [fsA fb ((nb, db) :: List.replicate m (0, 0)) (newF (m + 1) room)]) (hT := ⟨fb, _, rfl, rfl⟩)
  · simp only [if_neg hok]
    refine fn_enter Tryz.func27 rfl Tryz.ntmps27 rfl fun _ _ _ => ?_
    repeat (first | refine o_v (k := ?_) | refine c_seq ?_ | refine c_region ?_ | refine o_nil ?_ | refine e_then_normal ?_ | refine o_store (k := ?_) | refine c_true (h1 := ?_) | refine c_false (h1 := ?_) | refine c_ret ?_ | refine c_skip ?_ | refine e_then_ret ?_ | refine c_block ?_ | refine c_exit ?_ | refine e_then_exit ?_ | refine e_block_exit ?_ | refine e_block_normal ?_ | refine e_block_ret ?_ | refine o_box (k := fun _ => ?_) | refine o_alloc (k := fun _ => ?_) | refine e_norm ?_ | refine o_ung (k := ?_) | refine o_k (k := ?_) | refine s_v (k := ?_) | refine s_w (k := ?_) | refine s_k (k := ?_) | refine s_nil ?_ | refine e_block_exit_ne rfl ?_)
    refine o_bool 12 rfl (fun h1 => ?_) (fun h1 => ?_)
    · repeat (first | refine o_v (k := ?_) | refine c_seq ?_ | refine c_region ?_ | refine o_nil ?_ | refine e_then_normal ?_ | refine o_store (k := ?_) | refine c_true (h1 := ?_) | refine c_false (h1 := ?_) | refine c_ret ?_ | refine c_skip ?_ | refine e_then_ret ?_ | refine c_block ?_ | refine c_exit ?_ | refine e_then_exit ?_ | refine e_block_exit ?_ | refine e_block_normal ?_ | refine e_block_ret ?_ | refine o_box (k := fun _ => ?_) | refine o_alloc (k := fun _ => ?_) | refine e_norm ?_ | refine o_ung (k := ?_) | refine o_k (k := ?_) | refine s_v (k := ?_) | refine s_w (k := ?_) | refine s_k (k := ?_) | refine s_nil ?_ | refine e_block_exit_ne rfl ?_)
      exact e_2 (h1 := rs_tmp rfl) (h2 := rs_tmp rfl) (H' := []) (hT := ⟨rfl, rfl⟩)
    repeat (first | refine o_v (k := ?_) | refine c_seq ?_ | refine c_region ?_ | refine o_nil ?_ | refine e_then_normal ?_ | refine o_store (k := ?_) | refine c_true (h1 := ?_) | refine c_false (h1 := ?_) | refine c_ret ?_ | refine c_skip ?_ | refine e_then_ret ?_ | refine c_block ?_ | refine c_exit ?_ | refine e_then_exit ?_ | refine e_block_exit ?_ | refine e_block_normal ?_ | refine e_block_ret ?_ | refine o_box (k := fun _ => ?_) | refine o_alloc (k := fun _ => ?_) | refine e_norm ?_ | refine o_ung (k := ?_) | refine o_k (k := ?_) | refine s_v (k := ?_) | refine s_w (k := ?_) | refine s_k (k := ?_) | refine s_nil ?_ | refine e_block_exit_ne rfl ?_)
    refine o_bool 16 rfl (fun h2 => ?_) (fun h2 => ?_)
    · repeat (first | refine o_v (k := ?_) | refine c_seq ?_ | refine c_region ?_ | refine o_nil ?_ | refine e_then_normal ?_ | refine o_store (k := ?_) | refine c_true (h1 := ?_) | refine c_false (h1 := ?_) | refine c_ret ?_ | refine c_skip ?_ | refine e_then_ret ?_ | refine c_block ?_ | refine c_exit ?_ | refine e_then_exit ?_ | refine e_block_exit ?_ | refine e_block_normal ?_ | refine e_block_ret ?_ | refine o_box (k := fun _ => ?_) | refine o_alloc (k := fun _ => ?_) | refine e_norm ?_ | refine o_ung (k := ?_) | refine o_k (k := ?_) | refine s_v (k := ?_) | refine s_w (k := ?_) | refine s_k (k := ?_) | refine s_nil ?_ | refine e_block_exit_ne rfl ?_)
      exact e_2 (h1 := rs_tmp rfl) (h2 := rs_tmp rfl) (H' := []) (hT := ⟨rfl, rfl⟩)
    repeat (first | refine o_v (k := ?_) | refine c_seq ?_ | refine c_region ?_ | refine o_nil ?_ | refine e_then_normal ?_ | refine o_store (k := ?_) | refine c_true (h1 := ?_) | refine c_false (h1 := ?_) | refine c_ret ?_ | refine c_skip ?_ | refine e_then_ret ?_ | refine c_block ?_ | refine c_exit ?_ | refine e_then_exit ?_ | refine e_block_exit ?_ | refine e_block_normal ?_ | refine e_block_ret ?_ | refine o_box (k := fun _ => ?_) | refine o_alloc (k := fun _ => ?_) | refine e_norm ?_ | refine o_ung (k := ?_) | refine o_k (k := ?_) | refine s_v (k := ?_) | refine s_w (k := ?_) | refine s_k (k := ?_) | refine s_nil ?_ | refine e_block_exit_ne rfl ?_)
    refine o_bool 20 rfl (fun h3 => ?_) (fun h3 => ?_)
    · repeat (first | refine o_v (k := ?_) | refine c_seq ?_ | refine c_region ?_ | refine o_nil ?_ | refine e_then_normal ?_ | refine o_store (k := ?_) | refine c_true (h1 := ?_) | refine c_false (h1 := ?_) | refine c_ret ?_ | refine c_skip ?_ | refine e_then_ret ?_ | refine c_block ?_ | refine c_exit ?_ | refine e_then_exit ?_ | refine e_block_exit ?_ | refine e_block_normal ?_ | refine e_block_ret ?_ | refine o_box (k := fun _ => ?_) | refine o_alloc (k := fun _ => ?_) | refine e_norm ?_ | refine o_ung (k := ?_) | refine o_k (k := ?_) | refine s_v (k := ?_) | refine s_w (k := ?_) | refine s_k (k := ?_) | refine s_nil ?_ | refine e_block_exit_ne rfl ?_)
      exact e_2 (h1 := rs_tmp rfl) (h2 := rs_tmp rfl) (H' := []) (hT := ⟨rfl, rfl⟩)
    repeat (first | refine o_v (k := ?_) | refine c_seq ?_ | refine c_region ?_ | refine o_nil ?_ | refine e_then_normal ?_ | refine o_store (k := ?_) | refine c_true (h1 := ?_) | refine c_false (h1 := ?_) | refine c_ret ?_ | refine c_skip ?_ | refine e_then_ret ?_ | refine c_block ?_ | refine c_exit ?_ | refine e_then_exit ?_ | refine e_block_exit ?_ | refine e_block_normal ?_ | refine e_block_ret ?_ | refine o_box (k := fun _ => ?_) | refine o_alloc (k := fun _ => ?_) | refine e_norm ?_ | refine o_ung (k := ?_) | refine o_k (k := ?_) | refine s_v (k := ?_) | refine s_w (k := ?_) | refine s_k (k := ?_) | refine s_nil ?_ | refine e_block_exit_ne rfl ?_)
    refine c_if (h1 := fun h4 => ?_) (h2 := fun h4 => ?_)
    · repeat (first | refine o_v (k := ?_) | refine c_seq ?_ | refine c_region ?_ | refine o_nil ?_ | refine e_then_normal ?_ | refine o_store (k := ?_) | refine c_true (h1 := ?_) | refine c_false (h1 := ?_) | refine c_ret ?_ | refine c_skip ?_ | refine e_then_ret ?_ | refine c_block ?_ | refine c_exit ?_ | refine e_then_exit ?_ | refine e_block_exit ?_ | refine e_block_normal ?_ | refine e_block_ret ?_ | refine o_box (k := fun _ => ?_) | refine o_alloc (k := fun _ => ?_) | refine e_norm ?_ | refine o_ung (k := ?_) | refine o_k (k := ?_) | refine s_v (k := ?_) | refine s_w (k := ?_) | refine s_k (k := ?_) | refine s_nil ?_ | refine e_block_exit_ne rfl ?_)
      exact e_2 (h1 := rs_tmp rfl) (h2 := rs_tmp rfl) (H' := []) (hT := ⟨rfl, rfl⟩)
    · exact absurd (by simp at h1 h2 h3 h4; omega) hok

set_option maxRecDepth 20000 in
set_option maxHeartbeats 4000000 in
theorem fsRoot_ok (fb : Nat) (lay : Lay) (p : PF) : Ct Tryz.prog 12 [.pointer (some ⟨fb, 0, none⟩)] [fsA fb lay p] (Ret fun u H => u = .agg #[.int .i64 1, .int .i64 1] ∧ H = [fsA fb lay p]) := by
  refine fn_enter Tryz.func12 rfl Tryz.ntmps12 rfl fun _ _ _ => ?_
  refine c_unf (fsA fb lay p) (ho := fsA_bs _ _ _) (k := ?_)
  rintro tb hlay
  dsimp only [List.cons_append, List.nil_append]
  repeat (first | refine o_v (k := ?_) | refine c_seq ?_ | refine c_region ?_ | refine o_nil ?_ | refine e_then_normal ?_ | refine o_store (k := ?_) | refine c_true (h1 := ?_) | refine c_false (h1 := ?_) | refine c_ret ?_ | refine c_skip ?_ | refine e_then_ret ?_ | refine c_block ?_ | refine c_exit ?_ | refine e_then_exit ?_ | refine e_block_exit ?_ | refine e_block_normal ?_ | refine e_block_ret ?_ | refine o_box (k := fun _ => ?_) | refine o_alloc (k := fun _ => ?_) | refine e_norm ?_ | refine o_ung (k := ?_) | refine o_k (k := ?_) | refine s_v (k := ?_) | refine s_w (k := ?_) | refine s_k (k := ?_) | refine s_nil ?_ | refine e_block_exit_ne rfl ?_)
  refine e_fold (fsA fb lay p) tb (hx := hlay) (ho := fsA_bs _ _ _) (k := ?_)
  exact e_1 (h1 := rs_blk) (H' := [fsA fb lay p]) (hT := ⟨rfl, rfl⟩)

set_option maxRecDepth 20000 in
set_option maxHeartbeats 4000000 in
theorem fsUsed_ok (fb : Nat) (lay : Lay) (p : PF) : Ct Tryz.prog 25 [.pointer (some ⟨fb, 0, none⟩)] [fsA fb lay p] (Ret fun u H => u = .int .i64 p.used ∧ H = [fsA fb lay p]) := by
  refine fn_enter Tryz.func25 rfl Tryz.ntmps25 rfl fun _ _ _ => ?_
  refine c_unf (fsA fb lay p) (ho := fsA_bs _ _ _) (k := ?_)
  rintro tb hlay
  dsimp only [List.cons_append, List.nil_append]
  repeat (first | refine o_v (k := ?_) | refine c_seq ?_ | refine c_region ?_ | refine o_nil ?_ | refine e_then_normal ?_ | refine o_store (k := ?_) | refine c_true (h1 := ?_) | refine c_false (h1 := ?_) | refine c_ret ?_ | refine c_skip ?_ | refine e_then_ret ?_ | refine c_block ?_ | refine c_exit ?_ | refine e_then_exit ?_ | refine e_block_exit ?_ | refine e_block_normal ?_ | refine e_block_ret ?_ | refine o_box (k := fun _ => ?_) | refine o_alloc (k := fun _ => ?_) | refine e_norm ?_ | refine o_ung (k := ?_) | refine o_k (k := ?_) | refine s_v (k := ?_) | refine s_w (k := ?_) | refine s_k (k := ?_) | refine s_nil ?_ | refine e_block_exit_ne rfl ?_)
  refine e_fold (fsA fb lay p) tb (hx := hlay) (ho := fsA_bs _ _ _) (k := ?_)
  exact e_1 (h1 := rs_tmp rfl) (H' := [fsA fb lay p]) (hT := ⟨rfl, rfl⟩)

theorem plOf_count {lay : Lay} {pl : Places} (h : lay.length = pl.length) : (plOf lay pl).countP (·.1) = liveN pl := by
  have : ∀ (lay : Lay) (pl : Places), lay.length = pl.length → (plOf lay pl).countP (·.1) = liveN pl := by
    intro lay
    induction lay with
    | nil => intro pl h; cases pl with
      | nil => rfl
      | cons p pl => simp at h
    | cons x lay ih => intro pl h; cases pl with
      | nil => simp at h
      | cons p pl =>
        have := ih pl (by simpa using h)
        simp only [plOf, liveN, List.zipWith_cons_cons, List.countP_cons] at this ⊢
        rw [this]
  exact this lay pl h

set_option maxRecDepth 20000 in
set_option maxHeartbeats 4000000 in
theorem fsNodes_ok (fb : Nat) (lay : Lay) (p : PF) : Ct Tryz.prog 26 [.pointer (some ⟨fb, 0, none⟩)] [fsA fb lay p] (Ret fun u H => u = .int .i64 (liveN p.places) ∧ H = [fsA fb lay p]) := by
  refine fn_enter Tryz.func26 rfl Tryz.ntmps26 rfl fun _ _ _ => ?_
  refine c_unf (fsA fb lay p) (ho := fsA_bs _ _ _) (k := ?_)
  rintro tb hlay
  dsimp only [List.cons_append, List.nil_append]
  repeat (first | refine o_v (k := ?_) | refine c_seq ?_ | refine c_region ?_ | refine o_nil ?_ | refine e_then_normal ?_ | refine o_store (k := ?_) | refine c_true (h1 := ?_) | refine c_false (h1 := ?_) | refine c_ret ?_ | refine c_skip ?_ | refine e_then_ret ?_ | refine c_block ?_ | refine c_exit ?_ | refine e_then_exit ?_ | refine e_block_exit ?_ | refine e_block_normal ?_ | refine e_block_ret ?_ | refine o_box (k := fun _ => ?_) | refine o_alloc (k := fun _ => ?_) | refine e_norm ?_ | refine o_ung (k := ?_) | refine o_k (k := ?_) | refine s_v (k := ?_) | refine s_w (k := ?_) | refine s_k (k := ?_) | refine s_nil ?_ | refine e_block_exit_ne rfl ?_ | (refine o_call (tabLen_ok _ _ _) (k := ?_); rintro _ _ ⟨rfl, rfl⟩; dsimp only [List.cons_append, List.nil_append]))
  refine e_fold (fsA fb lay p) tb (hx := hlay) (ho := fsA_bs _ _ _) (k := ?_)
  exact e_1 (h1 := rs_tmp rfl) (H' := [fsA fb lay p]) (hT := ⟨by rw [plOf_count hlay], rfl⟩)

def attrV (h : Hd) (n : Nd) : Value := .agg #[.int .i64 h.1, .int .i64 h.2, .int .i64 (kindN n), .int .i64 n.mode, .int .i64 (sizeN n)]
set_option maxRecDepth 20000 in
set_option maxHeartbeats 4000000 in
theorem attr_ok (x : Nat × Nat) (n : Nd) (h : Hd) : Ct Tryz.prog 179 [.agg #[.int .i64 h.1, .int .i64 h.2], .pointer (some ⟨x.1, 0, none⟩)] [nodeA x n] (Ret fun u H => u = attrV h n ∧ H = [nodeA x n]) := by
  refine fn_enter Tryz.func179 rfl Tryz.ntmps179 rfl fun _ _ _ => ?_
  refine c_unf (nodeA x n) (ho := nodeA_bs _ _) (k := ?_)
  rintro ⟨q, cp⟩ hq
  obtain ⟨mode, up, dir, data⟩ := n
  cases dir with
  | none =>
    dsimp only [List.cons_append, List.nil_append, Option.map] at hq ⊢
    repeat (first | refine o_v (k := ?_) | refine c_seq ?_ | refine c_region ?_ | refine o_nil ?_ | refine e_then_normal ?_ | refine o_store (k := ?_) | refine c_true (h1 := ?_) | refine c_false (h1 := ?_) | refine c_ret ?_ | refine c_skip ?_ | refine e_then_ret ?_ | refine c_block ?_ | refine c_exit ?_ | refine e_then_exit ?_ | refine e_block_exit ?_ | refine e_block_normal ?_ | refine e_block_ret ?_ | refine o_box (k := fun _ => ?_) | refine o_alloc (k := fun _ => ?_) | refine e_norm ?_ | refine o_ung (k := ?_) | refine o_k (k := ?_) | refine s_v (k := ?_) | refine s_w (k := ?_) | refine s_k (k := ?_) | refine s_nil ?_ | refine e_block_exit_ne rfl ?_)
    refine c_still (P := Tryz.prog) 11 (by kernel_rfl) ?_
    repeat (first | refine o_v (k := ?_) | refine c_seq ?_ | refine c_region ?_ | refine o_nil ?_ | refine e_then_normal ?_ | refine o_store (k := ?_) | refine c_true (h1 := ?_) | refine c_false (h1 := ?_) | refine c_ret ?_ | refine c_skip ?_ | refine e_then_ret ?_ | refine c_block ?_ | refine c_exit ?_ | refine e_then_exit ?_ | refine e_block_exit ?_ | refine e_block_normal ?_ | refine e_block_ret ?_ | refine o_box (k := fun _ => ?_) | refine o_alloc (k := fun _ => ?_) | refine e_norm ?_ | refine o_ung (k := ?_) | refine o_k (k := ?_) | refine s_v (k := ?_) | refine s_w (k := ?_) | refine s_k (k := ?_) | refine s_nil ?_ | refine e_block_exit_ne rfl ?_)
    refine e_fold (nodeA x ⟨mode, up, none, data⟩) (q, cp) (hx := hq) (ho := nodeA_bs _ _) (k := ?_)
    exact e_1 (h1 := rs_blk) (H' := [nodeA x ⟨mode, up, none, data⟩]) (hT := ⟨rfl, rfl⟩)
  | some l =>
    dsimp only [List.cons_append, List.nil_append, Option.map] at hq ⊢
    repeat (first | refine o_v (k := ?_) | refine c_seq ?_ | refine c_region ?_ | refine o_nil ?_ | refine e_then_normal ?_ | refine o_store (k := ?_) | refine c_true (h1 := ?_) | refine c_false (h1 := ?_) | refine c_ret ?_ | refine c_skip ?_ | refine e_then_ret ?_ | refine c_block ?_ | refine c_exit ?_ | refine e_then_exit ?_ | refine e_block_exit ?_ | refine e_block_normal ?_ | refine e_block_ret ?_ | refine o_box (k := fun _ => ?_) | refine o_alloc (k := fun _ => ?_) | refine e_norm ?_ | refine o_ung (k := ?_) | refine o_k (k := ?_) | refine s_v (k := ?_) | refine s_w (k := ?_) | refine s_k (k := ?_) | refine s_nil ?_ | refine e_block_exit_ne rfl ?_)
    rename_i hb rb
    refine c_j [blk hb 41 [.int .i64 h.1, .int .i64 h.2] (0, 0), blk x.1 129 [.int .i64 mode, .int .i64 up.1, .int .i64 up.2, .pointer (some ⟨x.2, 0, none⟩), .slice q data.length cp] (0, 0)] [0, 1, 2, 3, 4, 5, 6, 7, 8] ?_
    refine j_v 0 (k := ?_); refine j_v 1 (k := ?_); refine j_v 2 (k := ?_); refine j_v 3 (k := ?_); refine j_v 4 (k := ?_); refine j_v 5 (k := ?_); refine j_v 6 (k := ?_); refine j_v 7 (k := ?_); refine j_v 8 (k := ?_)
    refine j_one 9 (nd := true) (k := ?_)
    refine o_call (dirLen_ok _ _) (k := ?_)
    rintro _ _ ⟨rfl, rfl⟩
    dsimp only [List.cons_append, List.nil_append]
    refine o_nil ?_
    refine e_jt (k := ?_)
    refine j_one 10 (nd := true) (k := ?_)
    repeat (first | refine o_v (k := ?_) | refine c_seq ?_ | refine c_region ?_ | refine o_nil ?_ | refine e_then_normal ?_ | refine o_store (k := ?_) | refine c_true (h1 := ?_) | refine c_false (h1 := ?_) | refine c_ret ?_ | refine c_skip ?_ | refine e_then_ret ?_ | refine c_block ?_ | refine c_exit ?_ | refine e_then_exit ?_ | refine e_block_exit ?_ | refine e_block_normal ?_ | refine e_block_ret ?_ | refine o_box (k := fun _ => ?_) | refine o_alloc (k := fun _ => ?_) | refine e_norm ?_ | refine o_ung (k := ?_) | refine o_k (k := ?_) | refine s_v (k := ?_) | refine s_w (k := ?_) | refine s_k (k := ?_) | refine s_nil ?_ | refine e_block_exit_ne rfl ?_)
    refine e_jt (k := ?_)
    refine j_one 11 (nd := false) (k := ?_)
    repeat (first | refine o_v (k := ?_) | refine c_seq ?_ | refine c_region ?_ | refine o_nil ?_ | refine e_then_normal ?_ | refine o_store (k := ?_) | refine c_true (h1 := ?_) | refine c_false (h1 := ?_) | refine c_ret ?_ | refine c_skip ?_ | refine e_then_ret ?_ | refine c_block ?_ | refine c_exit ?_ | refine e_then_exit ?_ | refine e_block_exit ?_ | refine e_block_normal ?_ | refine e_block_ret ?_ | refine o_box (k := fun _ => ?_) | refine o_alloc (k := fun _ => ?_) | refine e_norm ?_ | refine o_ung (k := ?_) | refine o_k (k := ?_) | refine s_v (k := ?_) | refine s_w (k := ?_) | refine s_k (k := ?_) | refine s_nil ?_ | refine e_block_exit_ne rfl ?_)
    refine e_jf (k := ?_)
    refine j_end (k := ?_)
    repeat (first | refine o_v (k := ?_) | refine c_seq ?_ | refine c_region ?_ | refine o_nil ?_ | refine e_then_normal ?_ | refine o_store (k := ?_) | refine c_true (h1 := ?_) | refine c_false (h1 := ?_) | refine c_ret ?_ | refine c_skip ?_ | refine e_then_ret ?_ | refine c_block ?_ | refine c_exit ?_ | refine e_then_exit ?_ | refine e_block_exit ?_ | refine e_block_normal ?_ | refine e_block_ret ?_ | refine o_box (k := fun _ => ?_) | refine o_alloc (k := fun _ => ?_) | refine e_norm ?_ | refine o_ung (k := ?_) | refine o_k (k := ?_) | refine s_v (k := ?_) | refine s_w (k := ?_) | refine s_k (k := ?_) | refine s_nil ?_ | refine e_block_exit_ne rfl ?_)
    refine e_fold (nodeA x ⟨mode, up, some l, data⟩) (q, cp) (hx := hq) (ho := nodeA_bs _ _) (k := ?_)
    exact e_1 (h1 := rs_blk) (H' := [nodeA x ⟨mode, up, some l, data⟩]) (hT := ⟨rfl, rfl⟩)
end Go.Proofs.YtlkgdidmhmaneaaGreatDoor
/- fsys, part 3: getattr, procedures. -/
namespace Go.Proofs.YtlkgdidmhmaneaaGreatDoor
open Go Go.RowKit
attribute [local irreducible] Yl OG CG EG SG AG JG CellIn CellsIn BlkIn InA TakeA SplitA SubA Ct ResOk Good Held blk cellsA exA
/-- a file system, one node by itself -/
theorem fs_split {lay : Lay} {pl : Places} (h : lay.length = pl.length) {x : Hd} {n : Nd} (hg : getPl pl x = some n) : nodesL lay pl = (nodesL lay pl).take (x.1 - 1).toNat ++ nodeA (layAt lay x) n :: (nodesL lay pl).drop ((x.1 - 1).toNat + 1) := by
  obtain ⟨_, hp⟩ := getPl_at hg
  obtain ⟨y, hy, he⟩ := nodesL_split h hp
  have : layAt lay x = y := by rw [layAt, hy]; rfl
  rw [this]
  exact he
/-- an answer that tells an attribute alone -/
def attrRes (h : Hd) (n : Nd) : List Value := resC (attrR h n) none 0 none 0
theorem attrRes_eq (h : Hd) (n : Nd) : attrRes h n = [.int .i64 0, .int .i64 h.1, .int .i64 h.2, .int .i64 (kindN n), .int .i64 n.mode, .int .i64 (sizeN n), .slice none 0 0, .int .i64 0, .bool false, .slice none 0 0] := rfl

theorem fsGet_none {lay : Lay} {pl : Places} (hlay : lay.length = pl.length) (tb n : Nat) (h : Hd) (hg : getPl pl h = none) : Ct Tryz.prog 178 [.pointer (some ⟨tb, 0, none⟩), .agg #[.int .i64 h.1, .int .i64 h.2]] [tableA tb n (plOf lay pl)] (Ret fun u H => u = .tuple #[.pointer none, .int .i64 8] ∧ H = [tableA tb n (plOf lay pl)]) := by
  have := tabGet_ok tb n (plOf lay pl) h
  rw [getT_of hlay, hg] at this
  exact this
theorem fsGet_some {lay : Lay} {pl : Places} (hlay : lay.length = pl.length) (tb n : Nat) (h : Hd) {m : Nd} (hg : getPl pl h = some m) : Ct Tryz.prog 178 [.pointer (some ⟨tb, 0, none⟩), .agg #[.int .i64 h.1, .int .i64 h.2]] [tableA tb n (plOf lay pl)] (Ret fun u H => u = .tuple #[.pointer (some ⟨(layAt lay h).1, 0, none⟩), .int .i64 0] ∧ H = [tableA tb n (plOf lay pl)]) := by
  have := tabGet_ok tb n (plOf lay pl) h
  rw [getT_of hlay, hg] at this
  exact this

set_option maxRecDepth 20000 in
set_option maxHeartbeats 4000000 in
theorem getattr_ok (fb : Nat) (lay : Lay) (p : PF) (a : MArgs) (q : Option Addr) (c : Nat) : Ct Tryz.prog 154 [.pointer (some ⟨fb, 0, none⟩), .agg (argsC a q c).toArray] [fsA fb lay p] (Ret fun u H => (match p.get a.h1 with | none => u = .tuple #[.agg (resC (res0 0) none 0 none 0).toArray, .int .i64 8] | some n => u = .tuple #[.agg (resC (attrR a.h1 n) none 0 none 0).toArray, .int .i64 0]) ∧ H = [fsA fb lay p]) := by
  refine fn_enter Tryz.func154 rfl Tryz.ntmps154 rfl fun _ _ _ => ?_
  refine c_unf (fsA fb lay p) (ho := fsA_bs _ _ _) (k := ?_)
  rintro tb hlay
  dsimp only [List.cons_append, List.nil_append]
  repeat (first | refine o_v (k := ?_) | refine c_seq ?_ | refine c_region ?_ | refine o_nil ?_ | refine e_then_normal ?_ | refine o_store (k := ?_) | refine c_true (h1 := ?_) | refine c_false (h1 := ?_) | refine c_ret ?_ | refine c_skip ?_ | refine e_then_ret ?_ | refine c_block ?_ | refine c_exit ?_ | refine e_then_exit ?_ | refine e_block_exit ?_ | refine e_block_normal ?_ | refine e_block_ret ?_ | refine o_box (k := fun _ => ?_) | refine o_alloc (k := fun _ => ?_) | refine e_norm ?_ | refine o_ung (k := ?_) | refine o_k (k := ?_) | refine s_v (k := ?_) | refine s_w (k := ?_) | refine s_k (k := ?_) | refine s_nil ?_ | refine e_block_exit_ne rfl ?_)
  rename_i ab rb
  refine c_j [blk ab 70 (argsC a q c) (0, 0), blk fb 89 [.pointer (some ⟨tb, 0, none⟩), .int .i64 1, .int .i64 1, .int .i64 p.room, .int .i64 p.used] (0, 0)] [0, 1, 2, 3, 4, 5, 8, 9] ?_
  refine j_v 0 (k := ?_); refine j_v 1 (k := ?_); refine j_v 2 (k := ?_); refine j_v 3 (k := ?_); refine j_v 4 (k := ?_); refine j_v 5 (k := ?_)
  refine j_one 6 (nd := true) (k := ?_)
  cases hg : getPl p.places a.h1 with
  | none =>
    refine o_call (fsGet_none hlay tb _ a.h1 hg) (k := ?_)
    rintro _ _ ⟨rfl, rfl⟩
    dsimp only [List.cons_append, List.nil_append]
    refine o_nil ?_
    refine e_jt (k := ?_)
    refine j_one 7 (nd := true) (k := ?_); (repeat (first | refine o_v (k := ?_) | refine c_seq ?_ | refine c_region ?_ | refine o_nil ?_ | refine e_then_normal ?_ | refine o_store (k := ?_) | refine c_true (h1 := ?_) | refine c_false (h1 := ?_) | refine c_ret ?_ | refine c_skip ?_ | refine e_then_ret ?_ | refine c_block ?_ | refine c_exit ?_ | refine e_then_exit ?_ | refine e_block_exit ?_ | refine e_block_normal ?_ | refine e_block_ret ?_ | refine o_box (k := fun _ => ?_) | refine o_alloc (k := fun _ => ?_) | refine e_norm ?_ | refine o_ung (k := ?_) | refine o_k (k := ?_) | refine s_v (k := ?_) | refine s_w (k := ?_) | refine s_k (k := ?_) | refine s_nil ?_ | refine e_block_exit_ne rfl ?_)); refine e_jt (k := ?_)
    refine j_v 8 (k := ?_); refine j_v 9 (k := ?_)
    refine j_one 10 (nd := true) (k := ?_); (repeat (first | refine o_v (k := ?_) | refine c_seq ?_ | refine c_region ?_ | refine o_nil ?_ | refine e_then_normal ?_ | refine o_store (k := ?_) | refine c_true (h1 := ?_) | refine c_false (h1 := ?_) | refine c_ret ?_ | refine c_skip ?_ | refine e_then_ret ?_ | refine c_block ?_ | refine c_exit ?_ | refine e_then_exit ?_ | refine e_block_exit ?_ | refine e_block_normal ?_ | refine e_block_ret ?_ | refine o_box (k := fun _ => ?_) | refine o_alloc (k := fun _ => ?_) | refine e_norm ?_ | refine o_ung (k := ?_) | refine o_k (k := ?_) | refine s_v (k := ?_) | refine s_w (k := ?_) | refine s_k (k := ?_) | refine s_nil ?_ | refine e_block_exit_ne rfl ?_)); refine e_jt (k := ?_); refine j_one 11 (nd := false) (k := ?_); (repeat (first | refine o_v (k := ?_) | refine c_seq ?_ | refine c_region ?_ | refine o_nil ?_ | refine e_then_normal ?_ | refine o_store (k := ?_) | refine c_true (h1 := ?_) | refine c_false (h1 := ?_) | refine c_ret ?_ | refine c_skip ?_ | refine e_then_ret ?_ | refine c_block ?_ | refine c_exit ?_ | refine e_then_exit ?_ | refine e_block_exit ?_ | refine e_block_normal ?_ | refine e_block_ret ?_ | refine o_box (k := fun _ => ?_) | refine o_alloc (k := fun _ => ?_) | refine e_norm ?_ | refine o_ung (k := ?_) | refine o_k (k := ?_) | refine s_v (k := ?_) | refine s_w (k := ?_) | refine s_k (k := ?_) | refine s_nil ?_ | refine e_block_exit_ne rfl ?_)); refine e_jf (k := ?_)
    refine j_end (k := ?_)
    repeat (first | refine o_v (k := ?_) | refine c_seq ?_ | refine c_region ?_ | refine o_nil ?_ | refine e_then_normal ?_ | refine o_store (k := ?_) | refine c_true (h1 := ?_) | refine c_false (h1 := ?_) | refine c_ret ?_ | refine c_skip ?_ | refine e_then_ret ?_ | refine c_block ?_ | refine c_exit ?_ | refine e_then_exit ?_ | refine e_block_exit ?_ | refine e_block_normal ?_ | refine e_block_ret ?_ | refine o_box (k := fun _ => ?_) | refine o_alloc (k := fun _ => ?_) | refine e_norm ?_ | refine o_ung (k := ?_) | refine o_k (k := ?_) | refine s_v (k := ?_) | refine s_w (k := ?_) | refine s_k (k := ?_) | refine s_nil ?_ | refine e_block_exit_ne rfl ?_)
    refine e_fold (fsA fb lay p) tb (hx := hlay) (ho := fsA_bs _ _ _) (k := ?_)
    exact e_2 (h1 := rs_blk) (h2 := rs_tmp rfl) (H' := [fsA fb lay p]) (hT := ⟨by simp only [PF.get, hg]; rfl, rfl⟩)
  | some n =>
    refine o_call (fsGet_some hlay tb _ a.h1 hg) (k := ?_)
    rintro _ _ ⟨rfl, rfl⟩
    dsimp only [List.cons_append, List.nil_append]
    refine o_nil ?_
    refine e_jt (k := ?_)
    refine j_one 7 (nd := true) (k := ?_); (repeat (first | refine o_v (k := ?_) | refine c_seq ?_ | refine c_region ?_ | refine o_nil ?_ | refine e_then_normal ?_ | refine o_store (k := ?_) | refine c_true (h1 := ?_) | refine c_false (h1 := ?_) | refine c_ret ?_ | refine c_skip ?_ | refine e_then_ret ?_ | refine c_block ?_ | refine c_exit ?_ | refine e_then_exit ?_ | refine e_block_exit ?_ | refine e_block_normal ?_ | refine e_block_ret ?_ | refine o_box (k := fun _ => ?_) | refine o_alloc (k := fun _ => ?_) | refine e_norm ?_ | refine o_ung (k := ?_) | refine o_k (k := ?_) | refine s_v (k := ?_) | refine s_w (k := ?_) | refine s_k (k := ?_) | refine s_nil ?_ | refine e_block_exit_ne rfl ?_)); refine e_jt (k := ?_)
    refine j_v 8 (k := ?_); refine j_v 9 (k := ?_)
    refine j_one 10 (nd := true) (k := ?_); (repeat (first | refine o_v (k := ?_) | refine c_seq ?_ | refine c_region ?_ | refine o_nil ?_ | refine e_then_normal ?_ | refine o_store (k := ?_) | refine c_true (h1 := ?_) | refine c_false (h1 := ?_) | refine c_ret ?_ | refine c_skip ?_ | refine e_then_ret ?_ | refine c_block ?_ | refine c_exit ?_ | refine e_then_exit ?_ | refine e_block_exit ?_ | refine e_block_normal ?_ | refine e_block_ret ?_ | refine o_box (k := fun _ => ?_) | refine o_alloc (k := fun _ => ?_) | refine e_norm ?_ | refine o_ung (k := ?_) | refine o_k (k := ?_) | refine s_v (k := ?_) | refine s_w (k := ?_) | refine s_k (k := ?_) | refine s_nil ?_ | refine e_block_exit_ne rfl ?_)); refine e_jt (k := ?_); refine j_one 11 (nd := false) (k := ?_); (repeat (first | refine o_v (k := ?_) | refine c_seq ?_ | refine c_region ?_ | refine o_nil ?_ | refine e_then_normal ?_ | refine o_store (k := ?_) | refine c_true (h1 := ?_) | refine c_false (h1 := ?_) | refine c_ret ?_ | refine c_skip ?_ | refine e_then_ret ?_ | refine c_block ?_ | refine c_exit ?_ | refine e_then_exit ?_ | refine e_block_exit ?_ | refine e_block_normal ?_ | refine e_block_ret ?_ | refine o_box (k := fun _ => ?_) | refine o_alloc (k := fun _ => ?_) | refine e_norm ?_ | refine o_ung (k := ?_) | refine o_k (k := ?_) | refine s_v (k := ?_) | refine s_w (k := ?_) | refine s_k (k := ?_) | refine s_nil ?_ | refine e_block_exit_ne rfl ?_)); refine e_jf (k := ?_)
    refine j_end (k := ?_)
    repeat (first | refine o_v (k := ?_) | refine c_seq ?_ | refine c_region ?_ | refine o_nil ?_ | refine e_then_normal ?_ | refine o_store (k := ?_) | refine c_true (h1 := ?_) | refine c_false (h1 := ?_) | refine c_ret ?_ | refine c_skip ?_ | refine e_then_ret ?_ | refine c_block ?_ | refine c_exit ?_ | refine e_then_exit ?_ | refine e_block_exit ?_ | refine e_block_normal ?_ | refine e_block_ret ?_ | refine o_box (k := fun _ => ?_) | refine o_alloc (k := fun _ => ?_) | refine e_norm ?_ | refine o_ung (k := ?_) | refine o_k (k := ?_) | refine s_v (k := ?_) | refine s_w (k := ?_) | refine s_k (k := ?_) | refine s_nil ?_ | refine e_block_exit_ne rfl ?_)
    have hsp := fs_split hlay hg
    refine o_focus _ _ _ hsp (nodesL_own _ _) (k := ?_)
    refine o_call (attr_ok (layAt lay a.h1) n a.h1) (k := ?_)
    rintro _ _ ⟨rfl, rfl⟩
    dsimp only [List.cons_append, List.nil_append]
    refine o_unfocus _ _ _ hsp (nodesL_own _ _) (k := ?_)
    repeat (first | refine o_v (k := ?_) | refine c_seq ?_ | refine c_region ?_ | refine o_nil ?_ | refine e_then_normal ?_ | refine o_store (k := ?_) | refine c_true (h1 := ?_) | refine c_false (h1 := ?_) | refine c_ret ?_ | refine c_skip ?_ | refine e_then_ret ?_ | refine c_block ?_ | refine c_exit ?_ | refine e_then_exit ?_ | refine e_block_exit ?_ | refine e_block_normal ?_ | refine e_block_ret ?_ | refine o_box (k := fun _ => ?_) | refine o_alloc (k := fun _ => ?_) | refine e_norm ?_ | refine o_ung (k := ?_) | refine o_k (k := ?_) | refine s_v (k := ?_) | refine s_w (k := ?_) | refine s_k (k := ?_) | refine s_nil ?_ | refine e_block_exit_ne rfl ?_)
    refine e_fold (fsA fb lay p) tb (hx := hlay) (ho := fsA_bs _ _ _) (k := ?_)
    exact e_2 (h1 := rs_blk) (h2 := rs_tmp rfl) (H' := [fsA fb lay p]) (hT := ⟨by simp only [PF.get, hg]; rfl, rfl⟩)

def procsM : List (Int × Value) := [(1, .func (.func 154) #[] #[]), (2, .func (.func 155) #[] #[]), (3, .func (.func 156) #[] #[]), (6, .func (.func 157) #[] #[]), (7, .func (.func 158) #[] #[]), (8, .func (.func 159) #[] #[]), (9, .func (.func 160) #[] #[]), (12, .func (.func 161) #[] #[]), (13, .func (.func 162) #[] #[]), (14, .func (.func 163) #[] #[]), (16, .func (.func 164) #[] #[])]
set_option maxRecDepth 20000 in
set_option maxHeartbeats 4000000 in
theorem procedures_ok : Ct Tryz.prog 123 [] [] (Ret fun u H => ∃ r, u = .map (some r) ∧ H = [mapA r procsM]) := by
  refine fn_enter Tryz.func123 rfl Tryz.ntmps123 rfl fun _ _ _ => ?_
  repeat (first | refine o_v (k := ?_) | refine c_seq ?_ | refine c_region ?_ | refine o_nil ?_ | refine e_then_normal ?_ | refine o_store (k := ?_) | refine c_true (h1 := ?_) | refine c_false (h1 := ?_) | refine c_ret ?_ | refine c_skip ?_ | refine e_then_ret ?_ | refine c_block ?_ | refine c_exit ?_ | refine e_then_exit ?_ | refine e_block_exit ?_ | refine e_block_normal ?_ | refine e_block_ret ?_ | refine o_box (k := fun _ => ?_) | refine o_alloc (k := fun _ => ?_) | refine e_norm ?_ | refine o_ung (k := ?_) | refine o_k (k := ?_) | refine s_v (k := ?_) | refine s_w (k := ?_) | refine s_k (k := ?_) | refine s_nil ?_ | refine e_block_exit_ne rfl ?_)
  refine o_makeMap (k := fun r => ?_)
  refine o_insert (hu := Tryz.underlying213) (hk := Tryz.underlying3) (k := ?_)
  refine o_insert (hu := Tryz.underlying213) (hk := Tryz.underlying3) (k := ?_)
  refine o_insert (hu := Tryz.underlying213) (hk := Tryz.underlying3) (k := ?_)
  refine o_insert (hu := Tryz.underlying213) (hk := Tryz.underlying3) (k := ?_)
  refine o_insert (hu := Tryz.underlying213) (hk := Tryz.underlying3) (k := ?_)
  refine o_insert (hu := Tryz.underlying213) (hk := Tryz.underlying3) (k := ?_)
  refine o_insert (hu := Tryz.underlying213) (hk := Tryz.underlying3) (k := ?_)
  refine o_insert (hu := Tryz.underlying213) (hk := Tryz.underlying3) (k := ?_)
  refine o_insert (hu := Tryz.underlying213) (hk := Tryz.underlying3) (k := ?_)
  refine o_insert (hu := Tryz.underlying213) (hk := Tryz.underlying3) (k := ?_)
  refine o_insert (hu := Tryz.underlying213) (hk := Tryz.underlying3) (k := ?_)
  repeat (first | refine o_v (k := ?_) | refine c_seq ?_ | refine c_region ?_ | refine o_nil ?_ | refine e_then_normal ?_ | refine o_store (k := ?_) | refine c_true (h1 := ?_) | refine c_false (h1 := ?_) | refine c_ret ?_ | refine c_skip ?_ | refine e_then_ret ?_ | refine c_block ?_ | refine c_exit ?_ | refine e_then_exit ?_ | refine e_block_exit ?_ | refine e_block_normal ?_ | refine e_block_ret ?_ | refine o_box (k := fun _ => ?_) | refine o_alloc (k := fun _ => ?_) | refine e_norm ?_ | refine o_ung (k := ?_) | refine o_k (k := ?_) | refine s_v (k := ?_) | refine s_w (k := ?_) | refine s_k (k := ?_) | refine s_nil ?_ | refine e_block_exit_ne rfl ?_)
  exact e_1 (h1 := rs_tmp rfl) (H' := [mapA r procsM]) (hT := ⟨r, rfl, rfl⟩)
end Go.Proofs.YtlkgdidmhmaneaaGreatDoor
/- answers, part 6: May. -/
namespace Go.Proofs.YtlkgdidmhmaneaaGreatDoor
open Go Go.RowKit
attribute [local irreducible] Yl OG CG EG SG AG  CellIn CellsIn BlkIn InA TakeA SplitA SubA Ct ResOk Good Held blk cellsA exA
def MRes.noAttr (r : MRes) : MRes := { r with ino := 0, gen := 0, kind := 0, mode := 0, size := 0 }
def mayM (p : Int) (r : MRes) : Bool :=
  if ¬ p ∈ procsL ∨ ¬ r.errno ∈ codeE then false
  else if r.errno ≠ 0 then decide (r = res0 r.errno)
  else if p = 1 ∨ p = 2 ∨ p = 3 ∨ p = 8 ∨ p = 9 then mayAttrM r.ino r.gen r.kind r.mode r.size && decide (r.noAttr = res0 0)
  else if p = 6 then (decide (r.data.length ≤ 2048) && decide (r.count = r.data.length)) && decide ({ r with data := [], count := 0, eof := false } = res0 0)
  else if p = 7 then (wordOk r.count && mayAttrM r.ino r.gen r.kind r.mode r.size) && decide ({ r.noAttr with count := 0 } = res0 0)
  else if p = 16 then mayEntsM r.ents && decide ({ r with ents := [], eof := false } = res0 0)
  else decide (r = res0 0)

set_option maxRecDepth 20000 in
set_option maxHeartbeats 4000000 in
theorem may_ok (p : Int) (r : MRes) (o1 o2 : Bool) (q1 q2 : Option Addr) (c1 c2 : Nat) (hl : r.data.length ≤ 1000000) (he : r.ents.length ≤ 1000000) (hn : ∀ e ∈ r.ents, e.1.length ≤ 1000000) : Ct Tryz.prog 72 [.int .i64 p, .agg (resC r q1 c1 q2 c2).toArray] [bytesA o1 q1 r.data, cellsA o2 q2 (entsC r.ents), tabA] (Ret fun u H => u = .bool (mayM p r) ∧ H = [bytesA o1 q1 r.data, cellsA o2 q2 (entsC r.ents), tabA]) := by
  refine fn_enter Tryz.func72 rfl Tryz.ntmps72 rfl fun _ _ _ => ?_
  repeat (first | refine o_v (k := ?_) | refine c_seq ?_ | refine c_region ?_ | refine o_nil ?_ | refine e_then_normal ?_ | refine o_store (k := ?_) | refine c_true (h1 := ?_) | refine c_false (h1 := ?_) | refine c_ret ?_ | refine c_skip ?_ | refine e_then_ret ?_ | refine c_block ?_ | refine c_exit ?_ | refine e_then_exit ?_ | refine e_block_exit ?_ | refine e_block_normal ?_ | refine e_block_ret ?_ | refine o_box (k := fun _ => ?_) | refine o_alloc (k := fun _ => ?_) | refine e_norm ?_ | refine o_ung (k := ?_) | refine o_k (k := ?_) | refine s_v (k := ?_) | refine s_w (k := ?_) | refine s_k (k := ?_) | refine s_nil ?_ | refine e_block_exit_ne rfl ?_)
  rename_i rb
  refine c_held (Hf := [blk rb 80 (resC r q1 c1 q2 c2) (0, 0)]) ?_
  refine a_v _ 0 (k := ?_)
  refine a_one 1 (k := ?_)
  refine o_call (known_ok p) (k := ?_)
  rintro _ _ ⟨rfl, rfl⟩
  dsimp only [List.cons_append, List.nil_append]
  refine o_nil ?_
  refine e_ag ?_
  refine a_v _ 2 (k := ?_)
  refine a_v _ 3 (k := ?_)
  refine a_bool 10 rfl (fun g1 => ?_) (fun g1 => ?_)
  · refine a_k _ 5 (k := ?_)
    refine a_k _ 6 (k := ?_)
    refine a_one 4 (k := ?_)
    repeat (first | refine o_v (k := ?_) | refine c_seq ?_ | refine c_region ?_ | refine o_nil ?_ | refine e_then_normal ?_ | refine o_store (k := ?_) | refine c_true (h1 := ?_) | refine c_false (h1 := ?_) | refine c_ret ?_ | refine c_skip ?_ | refine e_then_ret ?_ | refine c_block ?_ | refine c_exit ?_ | refine e_then_exit ?_ | refine e_block_exit ?_ | refine e_block_normal ?_ | refine e_block_ret ?_ | refine o_box (k := fun _ => ?_) | refine o_alloc (k := fun _ => ?_) | refine e_norm ?_ | refine o_ung (k := ?_) | refine o_k (k := ?_) | refine s_v (k := ?_) | refine s_w (k := ?_) | refine s_k (k := ?_) | refine s_nil ?_ | refine e_block_exit_ne rfl ?_)
    refine e_ag ?_
    refine a_one 7 (k := ?_)
    repeat (first | refine o_v (k := ?_) | refine c_seq ?_ | refine c_region ?_ | refine o_nil ?_ | refine e_then_normal ?_ | refine o_store (k := ?_) | refine c_true (h1 := ?_) | refine c_false (h1 := ?_) | refine c_ret ?_ | refine c_skip ?_ | refine e_then_ret ?_ | refine c_block ?_ | refine c_exit ?_ | refine e_then_exit ?_ | refine e_block_exit ?_ | refine e_block_normal ?_ | refine e_block_ret ?_ | refine o_box (k := fun _ => ?_) | refine o_alloc (k := fun _ => ?_) | refine e_norm ?_ | refine o_ung (k := ?_) | refine o_k (k := ?_) | refine s_v (k := ?_) | refine s_w (k := ?_) | refine s_k (k := ?_) | refine s_nil ?_ | refine e_block_exit_ne rfl ?_)
    refine e_ag ?_
    refine a_k _ 8 (k := ?_)
    refine a_v _ 9 (k := ?_)
    refine a_end (k := ?_)
    repeat (first | refine o_v (k := ?_) | refine c_seq ?_ | refine c_region ?_ | refine o_nil ?_ | refine e_then_normal ?_ | refine o_store (k := ?_) | refine c_true (h1 := ?_) | refine c_false (h1 := ?_) | refine c_ret ?_ | refine c_skip ?_ | refine e_then_ret ?_ | refine c_block ?_ | refine c_exit ?_ | refine e_then_exit ?_ | refine e_block_exit ?_ | refine e_block_normal ?_ | refine e_block_ret ?_ | refine o_box (k := fun _ => ?_) | refine o_alloc (k := fun _ => ?_) | refine e_norm ?_ | refine o_ung (k := ?_) | refine o_k (k := ?_) | refine s_v (k := ?_) | refine s_w (k := ?_) | refine s_k (k := ?_) | refine s_nil ?_ | refine e_block_exit_ne rfl ?_)
    have hM : mayM p r = false := by simp at g1; simp [mayM, g1]
    exact e_1 (h1 := rs_tmp rfl) (H' := [bytesA o1 q1 r.data, cellsA o2 q2 (entsC r.ents), tabA]) (hT := ⟨by rw [hM], rfl⟩)
  · refine a_w _ 5 (k := ?_)
    refine a_w _ 6 (k := ?_)
    refine a_one 4 (k := ?_)
    refine o_ung (k := ?_)
    refine o_call all_ok (k := ?_)
    rintro v _ rfl
    dsimp only [List.cons_append, List.nil_append]
    refine o_row true v (k := ?_)
    rintro eq ec rfl hec hem -
    refine o_nil ?_
    refine e_ag ?_
    refine a_one 7 (k := ?_)
    refine o_ung (k := ?_)
    refine o_call (containsE_ok true eq codeE ec r.errno (by decide)) (k := ?_)
    rintro _ _ ⟨rfl, rfl⟩
    dsimp only [List.cons_append, List.nil_append]
    refine o_nil ?_
    refine e_ag ?_
    refine a_w _ 8 (k := ?_)
    refine a_v _ 9 (k := ?_)
    refine a_end (k := ?_)
    have hp : p ∈ procsL := by simpa using g1
    repeat (first | refine o_v (k := ?_) | refine c_seq ?_ | refine c_region ?_ | refine o_nil ?_ | refine e_then_normal ?_ | refine o_store (k := ?_) | refine c_true (h1 := ?_) | refine c_false (h1 := ?_) | refine c_ret ?_ | refine c_skip ?_ | refine e_then_ret ?_ | refine c_block ?_ | refine c_exit ?_ | refine e_then_exit ?_ | refine e_block_exit ?_ | refine e_block_normal ?_ | refine e_block_ret ?_ | refine o_box (k := fun _ => ?_) | refine o_alloc (k := fun _ => ?_) | refine e_norm ?_ | refine o_ung (k := ?_) | refine o_k (k := ?_) | refine s_v (k := ?_) | refine s_w (k := ?_) | refine s_k (k := ?_) | refine s_nil ?_ | refine e_block_exit_ne rfl ?_)
    refine c_if (h1 := fun g2 => ?_) (h2 := fun g2 => ?_)
    · repeat (first | refine o_v (k := ?_) | refine c_seq ?_ | refine c_region ?_ | refine o_nil ?_ | refine e_then_normal ?_ | refine o_store (k := ?_) | refine c_true (h1 := ?_) | refine c_false (h1 := ?_) | refine c_ret ?_ | refine c_skip ?_ | refine e_then_ret ?_ | refine c_block ?_ | refine c_exit ?_ | refine e_then_exit ?_ | refine e_block_exit ?_ | refine e_block_normal ?_ | refine e_block_ret ?_ | refine o_box (k := fun _ => ?_) | refine o_alloc (k := fun _ => ?_) | refine e_norm ?_ | refine o_ung (k := ?_) | refine o_k (k := ?_) | refine s_v (k := ?_) | refine s_w (k := ?_) | refine s_k (k := ?_) | refine s_nil ?_ | refine e_block_exit_ne rfl ?_)
      have hM : mayM p r = false := by simp at g2; simp [mayM, g2]
      exact e_1 (h1 := rs_tmp rfl) (H' := [bytesA o1 q1 r.data, cellsA o2 q2 (entsC r.ents), tabA]) (hT := ⟨by rw [hM], rfl⟩)
    have hee : r.errno ∈ codeE := by simpa using g2
    repeat (first | refine o_v (k := ?_) | refine c_seq ?_ | refine c_region ?_ | refine o_nil ?_ | refine e_then_normal ?_ | refine o_store (k := ?_) | refine c_true (h1 := ?_) | refine c_false (h1 := ?_) | refine c_ret ?_ | refine c_skip ?_ | refine e_then_ret ?_ | refine c_block ?_ | refine c_exit ?_ | refine e_then_exit ?_ | refine e_block_exit ?_ | refine e_block_normal ?_ | refine e_block_ret ?_ | refine o_box (k := fun _ => ?_) | refine o_alloc (k := fun _ => ?_) | refine e_norm ?_ | refine o_ung (k := ?_) | refine o_k (k := ?_) | refine s_v (k := ?_) | refine s_w (k := ?_) | refine s_k (k := ?_) | refine s_nil ?_ | refine e_block_exit_ne rfl ?_)
    refine c_if (h1 := fun g3 => ?_) (h2 := fun g3 => ?_)
    · have hne : r.errno ≠ 0 := by simpa using g3
      repeat (first | refine o_v (k := ?_) | refine c_seq ?_ | refine c_region ?_ | refine o_nil ?_ | refine e_then_normal ?_ | refine o_store (k := ?_) | refine c_true (h1 := ?_) | refine c_false (h1 := ?_) | refine c_ret ?_ | refine c_skip ?_ | refine e_then_ret ?_ | refine c_block ?_ | refine c_exit ?_ | refine e_then_exit ?_ | refine e_block_exit ?_ | refine e_block_normal ?_ | refine e_block_ret ?_ | refine o_box (k := fun _ => ?_) | refine o_alloc (k := fun _ => ?_) | refine e_norm ?_ | refine o_ung (k := ?_) | refine o_k (k := ?_) | refine s_v (k := ?_) | refine s_w (k := ?_) | refine s_k (k := ?_) | refine s_nil ?_ | refine e_block_exit_ne rfl ?_)
      refine o_add0 (bytesA true none []) (fun w => cellsA_nil _ w) (k := ?_)
      refine o_add0 (cellsA true none (entsC [])) (fun w => cellsA_nil _ w) (k := ?_)
      refine o_call (same_ok r (res0 r.errno) o1 o2 true true q1 q2 none none c1 c2 0 0 he (by simp [res0])) (k := ?_)
      rintro _ _ ⟨rfl, rfl⟩
      dsimp only [List.cons_append, List.nil_append]
      repeat (first | refine o_v (k := ?_) | refine c_seq ?_ | refine c_region ?_ | refine o_nil ?_ | refine e_then_normal ?_ | refine o_store (k := ?_) | refine c_true (h1 := ?_) | refine c_false (h1 := ?_) | refine c_ret ?_ | refine c_skip ?_ | refine e_then_ret ?_ | refine c_block ?_ | refine c_exit ?_ | refine e_then_exit ?_ | refine e_block_exit ?_ | refine e_block_normal ?_ | refine e_block_ret ?_ | refine o_box (k := fun _ => ?_) | refine o_alloc (k := fun _ => ?_) | refine e_norm ?_ | refine o_ung (k := ?_) | refine o_k (k := ?_) | refine s_v (k := ?_) | refine s_w (k := ?_) | refine s_k (k := ?_) | refine s_nil ?_ | refine e_block_exit_ne rfl ?_)
      have hM : mayM p r = decide (r = res0 r.errno) := by simp [mayM, hp, hee, hne]
      exact e_1 (h1 := rs_tmp rfl) (H' := [bytesA o1 q1 r.data, cellsA o2 q2 (entsC r.ents), tabA]) (hT := ⟨by rw [hM], rfl⟩)
    have h0 : r.errno = 0 := by simpa using g3
    repeat (first | refine o_v (k := ?_) | refine c_seq ?_ | refine c_region ?_ | refine o_nil ?_ | refine e_then_normal ?_ | refine o_store (k := ?_) | refine c_true (h1 := ?_) | refine c_false (h1 := ?_) | refine c_ret ?_ | refine c_skip ?_ | refine e_then_ret ?_ | refine c_block ?_ | refine c_exit ?_ | refine e_then_exit ?_ | refine e_block_exit ?_ | refine e_block_normal ?_ | refine e_block_ret ?_ | refine o_box (k := fun _ => ?_) | refine o_alloc (k := fun _ => ?_) | refine e_norm ?_ | refine o_ung (k := ?_) | refine o_k (k := ?_) | refine s_v (k := ?_) | refine s_w (k := ?_) | refine s_k (k := ?_) | refine s_nil ?_ | refine e_block_exit_ne rfl ?_)
    refine c_held (Hf := [blk rb 80 (resC r q1 c1 q2 c2) (0, 0)]) ?_
    refine a_v _ 0 (k := ?_)
    refine a_one 1 (k := ?_)
    repeat (first | refine o_v (k := ?_) | refine c_seq ?_ | refine c_region ?_ | refine o_nil ?_ | refine e_then_normal ?_ | refine o_store (k := ?_) | refine c_true (h1 := ?_) | refine c_false (h1 := ?_) | refine c_ret ?_ | refine c_skip ?_ | refine e_then_ret ?_ | refine c_block ?_ | refine c_exit ?_ | refine e_then_exit ?_ | refine e_block_exit ?_ | refine e_block_normal ?_ | refine e_block_ret ?_ | refine o_box (k := fun _ => ?_) | refine o_alloc (k := fun _ => ?_) | refine e_norm ?_ | refine o_ung (k := ?_) | refine o_k (k := ?_) | refine s_v (k := ?_) | refine s_w (k := ?_) | refine s_k (k := ?_) | refine s_nil ?_ | refine e_block_exit_ne rfl ?_)
    refine e_ag ?_
    refine a_v _ 2 (k := ?_)
    refine a_one 3 (k := ?_)
    repeat (first | refine o_v (k := ?_) | refine c_seq ?_ | refine c_region ?_ | refine o_nil ?_ | refine e_then_normal ?_ | refine o_store (k := ?_) | refine c_true (h1 := ?_) | refine c_false (h1 := ?_) | refine c_ret ?_ | refine c_skip ?_ | refine e_then_ret ?_ | refine c_block ?_ | refine c_exit ?_ | refine e_then_exit ?_ | refine e_block_exit ?_ | refine e_block_normal ?_ | refine e_block_ret ?_ | refine o_box (k := fun _ => ?_) | refine o_alloc (k := fun _ => ?_) | refine e_norm ?_ | refine o_ung (k := ?_) | refine o_k (k := ?_) | refine s_v (k := ?_) | refine s_w (k := ?_) | refine s_k (k := ?_) | refine s_nil ?_ | refine e_block_exit_ne rfl ?_)
    refine e_ag ?_
    refine a_end (k := ?_)
    have hcases : p = 1 ∨ p = 2 ∨ p = 3 ∨ p = 6 ∨ p = 7 ∨ p = 8 ∨ p = 9 ∨ p = 12 ∨ p = 13 ∨ p = 14 ∨ p = 16 := by simpa [procsL] using hp
    rcases hcases with rfl | rfl | rfl | rfl | rfl | rfl | rfl | rfl | rfl | rfl | rfl
    · repeat (first | refine o_v (k := ?_) | refine c_seq ?_ | refine c_region ?_ | refine o_nil ?_ | refine e_then_normal ?_ | refine o_store (k := ?_) | refine c_true (h1 := ?_) | refine c_false (h1 := ?_) | refine c_ret ?_ | refine c_skip ?_ | refine e_then_ret ?_ | refine c_block ?_ | refine c_exit ?_ | refine e_then_exit ?_ | refine e_block_exit ?_ | refine e_block_normal ?_ | refine e_block_ret ?_ | refine o_box (k := fun _ => ?_) | refine o_alloc (k := fun _ => ?_) | refine e_norm ?_ | refine o_ung (k := ?_) | refine o_k (k := ?_) | refine s_v (k := ?_) | refine s_w (k := ?_) | refine s_k (k := ?_) | refine s_nil ?_ | refine e_block_exit_ne rfl ?_ | (refine o_call (mayAttr_ok _ _ _ _ _) (k := ?_); rintro _ _ ⟨rfl, rfl⟩; dsimp only [List.cons_append, List.nil_append]))
      refine o_bool 76 rfl (fun g5 => ?_) (fun g5 => ?_)
      · repeat (first | refine o_v (k := ?_) | refine c_seq ?_ | refine c_region ?_ | refine o_nil ?_ | refine e_then_normal ?_ | refine o_store (k := ?_) | refine c_true (h1 := ?_) | refine c_false (h1 := ?_) | refine c_ret ?_ | refine c_skip ?_ | refine e_then_ret ?_ | refine c_block ?_ | refine c_exit ?_ | refine e_then_exit ?_ | refine e_block_exit ?_ | refine e_block_normal ?_ | refine e_block_ret ?_ | refine o_box (k := fun _ => ?_) | refine o_alloc (k := fun _ => ?_) | refine e_norm ?_ | refine o_ung (k := ?_) | refine o_k (k := ?_) | refine s_v (k := ?_) | refine s_w (k := ?_) | refine s_k (k := ?_) | refine s_nil ?_ | refine e_block_exit_ne rfl ?_)
        refine o_add0 (bytesA true none []) (fun w => cellsA_nil _ w) (k := ?_)
        refine o_add0 (cellsA true none (entsC [])) (fun w => cellsA_nil _ w) (k := ?_)
        refine o_call (same_ok r.noAttr (res0 0) o1 o2 true true q1 q2 none none c1 c2 0 0 he (by simp [res0])) (k := ?_)
        rintro _ _ ⟨rfl, rfl⟩
        dsimp only [List.cons_append, List.nil_append]
        repeat (first | refine o_v (k := ?_) | refine c_seq ?_ | refine c_region ?_ | refine o_nil ?_ | refine e_then_normal ?_ | refine o_store (k := ?_) | refine c_true (h1 := ?_) | refine c_false (h1 := ?_) | refine c_ret ?_ | refine c_skip ?_ | refine e_then_ret ?_ | refine c_block ?_ | refine c_exit ?_ | refine e_then_exit ?_ | refine e_block_exit ?_ | refine e_block_normal ?_ | refine e_block_ret ?_ | refine o_box (k := fun _ => ?_) | refine o_alloc (k := fun _ => ?_) | refine e_norm ?_ | refine o_ung (k := ?_) | refine o_k (k := ?_) | refine s_v (k := ?_) | refine s_w (k := ?_) | refine s_k (k := ?_) | refine s_nil ?_ | refine e_block_exit_ne rfl ?_)
        have hM : mayM 1 r = decide (r.noAttr = res0 0) := by simp [mayM, hp, hee, (by decide : (0 : Int) ∈ codeE), h0, g5]
        exact e_1 (h1 := rs_tmp rfl) (H' := [bytesA o1 q1 r.data, cellsA o2 q2 (entsC r.ents), tabA]) (hT := ⟨by rw [hM], rfl⟩)
      · repeat (first | refine o_v (k := ?_) | refine c_seq ?_ | refine c_region ?_ | refine o_nil ?_ | refine e_then_normal ?_ | refine o_store (k := ?_) | refine c_true (h1 := ?_) | refine c_false (h1 := ?_) | refine c_ret ?_ | refine c_skip ?_ | refine e_then_ret ?_ | refine c_block ?_ | refine c_exit ?_ | refine e_then_exit ?_ | refine e_block_exit ?_ | refine e_block_normal ?_ | refine e_block_ret ?_ | refine o_box (k := fun _ => ?_) | refine o_alloc (k := fun _ => ?_) | refine e_norm ?_ | refine o_ung (k := ?_) | refine o_k (k := ?_) | refine s_v (k := ?_) | refine s_w (k := ?_) | refine s_k (k := ?_) | refine s_nil ?_ | refine e_block_exit_ne rfl ?_)
        have hM : mayM 1 r = false := by simp [mayM, hp, hee, (by decide : (0 : Int) ∈ codeE), h0, g5]
        exact e_1 (h1 := rs_tmp rfl) (H' := [bytesA o1 q1 r.data, cellsA o2 q2 (entsC r.ents), tabA]) (hT := ⟨by rw [hM], rfl⟩)
    · repeat (first | refine o_v (k := ?_) | refine c_seq ?_ | refine c_region ?_ | refine o_nil ?_ | refine e_then_normal ?_ | refine o_store (k := ?_) | refine c_true (h1 := ?_) | refine c_false (h1 := ?_) | refine c_ret ?_ | refine c_skip ?_ | refine e_then_ret ?_ | refine c_block ?_ | refine c_exit ?_ | refine e_then_exit ?_ | refine e_block_exit ?_ | refine e_block_normal ?_ | refine e_block_ret ?_ | refine o_box (k := fun _ => ?_) | refine o_alloc (k := fun _ => ?_) | refine e_norm ?_ | refine o_ung (k := ?_) | refine o_k (k := ?_) | refine s_v (k := ?_) | refine s_w (k := ?_) | refine s_k (k := ?_) | refine s_nil ?_ | refine e_block_exit_ne rfl ?_ | (refine o_call (mayAttr_ok _ _ _ _ _) (k := ?_); rintro _ _ ⟨rfl, rfl⟩; dsimp only [List.cons_append, List.nil_append]))
      refine o_bool 76 rfl (fun g5 => ?_) (fun g5 => ?_)
      · repeat (first | refine o_v (k := ?_) | refine c_seq ?_ | refine c_region ?_ | refine o_nil ?_ | refine e_then_normal ?_ | refine o_store (k := ?_) | refine c_true (h1 := ?_) | refine c_false (h1 := ?_) | refine c_ret ?_ | refine c_skip ?_ | refine e_then_ret ?_ | refine c_block ?_ | refine c_exit ?_ | refine e_then_exit ?_ | refine e_block_exit ?_ | refine e_block_normal ?_ | refine e_block_ret ?_ | refine o_box (k := fun _ => ?_) | refine o_alloc (k := fun _ => ?_) | refine e_norm ?_ | refine o_ung (k := ?_) | refine o_k (k := ?_) | refine s_v (k := ?_) | refine s_w (k := ?_) | refine s_k (k := ?_) | refine s_nil ?_ | refine e_block_exit_ne rfl ?_)
        refine o_add0 (bytesA true none []) (fun w => cellsA_nil _ w) (k := ?_)
        refine o_add0 (cellsA true none (entsC [])) (fun w => cellsA_nil _ w) (k := ?_)
        refine o_call (same_ok r.noAttr (res0 0) o1 o2 true true q1 q2 none none c1 c2 0 0 he (by simp [res0])) (k := ?_)
        rintro _ _ ⟨rfl, rfl⟩
        dsimp only [List.cons_append, List.nil_append]
        repeat (first | refine o_v (k := ?_) | refine c_seq ?_ | refine c_region ?_ | refine o_nil ?_ | refine e_then_normal ?_ | refine o_store (k := ?_) | refine c_true (h1 := ?_) | refine c_false (h1 := ?_) | refine c_ret ?_ | refine c_skip ?_ | refine e_then_ret ?_ | refine c_block ?_ | refine c_exit ?_ | refine e_then_exit ?_ | refine e_block_exit ?_ | refine e_block_normal ?_ | refine e_block_ret ?_ | refine o_box (k := fun _ => ?_) | refine o_alloc (k := fun _ => ?_) | refine e_norm ?_ | refine o_ung (k := ?_) | refine o_k (k := ?_) | refine s_v (k := ?_) | refine s_w (k := ?_) | refine s_k (k := ?_) | refine s_nil ?_ | refine e_block_exit_ne rfl ?_)
        have hM : mayM 2 r = decide (r.noAttr = res0 0) := by simp [mayM, hp, hee, (by decide : (0 : Int) ∈ codeE), h0, g5]
        exact e_1 (h1 := rs_tmp rfl) (H' := [bytesA o1 q1 r.data, cellsA o2 q2 (entsC r.ents), tabA]) (hT := ⟨by rw [hM], rfl⟩)
      · repeat (first | refine o_v (k := ?_) | refine c_seq ?_ | refine c_region ?_ | refine o_nil ?_ | refine e_then_normal ?_ | refine o_store (k := ?_) | refine c_true (h1 := ?_) | refine c_false (h1 := ?_) | refine c_ret ?_ | refine c_skip ?_ | refine e_then_ret ?_ | refine c_block ?_ | refine c_exit ?_ | refine e_then_exit ?_ | refine e_block_exit ?_ | refine e_block_normal ?_ | refine e_block_ret ?_ | refine o_box (k := fun _ => ?_) | refine o_alloc (k := fun _ => ?_) | refine e_norm ?_ | refine o_ung (k := ?_) | refine o_k (k := ?_) | refine s_v (k := ?_) | refine s_w (k := ?_) | refine s_k (k := ?_) | refine s_nil ?_ | refine e_block_exit_ne rfl ?_)
        have hM : mayM 2 r = false := by simp [mayM, hp, hee, (by decide : (0 : Int) ∈ codeE), h0, g5]
        exact e_1 (h1 := rs_tmp rfl) (H' := [bytesA o1 q1 r.data, cellsA o2 q2 (entsC r.ents), tabA]) (hT := ⟨by rw [hM], rfl⟩)
    · repeat (first | refine o_v (k := ?_) | refine c_seq ?_ | refine c_region ?_ | refine o_nil ?_ | refine e_then_normal ?_ | refine o_store (k := ?_) | refine c_true (h1 := ?_) | refine c_false (h1 := ?_) | refine c_ret ?_ | refine c_skip ?_ | refine e_then_ret ?_ | refine c_block ?_ | refine c_exit ?_ | refine e_then_exit ?_ | refine e_block_exit ?_ | refine e_block_normal ?_ | refine e_block_ret ?_ | refine o_box (k := fun _ => ?_) | refine o_alloc (k := fun _ => ?_) | refine e_norm ?_ | refine o_ung (k := ?_) | refine o_k (k := ?_) | refine s_v (k := ?_) | refine s_w (k := ?_) | refine s_k (k := ?_) | refine s_nil ?_ | refine e_block_exit_ne rfl ?_ | (refine o_call (mayAttr_ok _ _ _ _ _) (k := ?_); rintro _ _ ⟨rfl, rfl⟩; dsimp only [List.cons_append, List.nil_append]))
      refine o_bool 76 rfl (fun g5 => ?_) (fun g5 => ?_)
      · repeat (first | refine o_v (k := ?_) | refine c_seq ?_ | refine c_region ?_ | refine o_nil ?_ | refine e_then_normal ?_ | refine o_store (k := ?_) | refine c_true (h1 := ?_) | refine c_false (h1 := ?_) | refine c_ret ?_ | refine c_skip ?_ | refine e_then_ret ?_ | refine c_block ?_ | refine c_exit ?_ | refine e_then_exit ?_ | refine e_block_exit ?_ | refine e_block_normal ?_ | refine e_block_ret ?_ | refine o_box (k := fun _ => ?_) | refine o_alloc (k := fun _ => ?_) | refine e_norm ?_ | refine o_ung (k := ?_) | refine o_k (k := ?_) | refine s_v (k := ?_) | refine s_w (k := ?_) | refine s_k (k := ?_) | refine s_nil ?_ | refine e_block_exit_ne rfl ?_)
        refine o_add0 (bytesA true none []) (fun w => cellsA_nil _ w) (k := ?_)
        refine o_add0 (cellsA true none (entsC [])) (fun w => cellsA_nil _ w) (k := ?_)
        refine o_call (same_ok r.noAttr (res0 0) o1 o2 true true q1 q2 none none c1 c2 0 0 he (by simp [res0])) (k := ?_)
        rintro _ _ ⟨rfl, rfl⟩
        dsimp only [List.cons_append, List.nil_append]
        repeat (first | refine o_v (k := ?_) | refine c_seq ?_ | refine c_region ?_ | refine o_nil ?_ | refine e_then_normal ?_ | refine o_store (k := ?_) | refine c_true (h1 := ?_) | refine c_false (h1 := ?_) | refine c_ret ?_ | refine c_skip ?_ | refine e_then_ret ?_ | refine c_block ?_ | refine c_exit ?_ | refine e_then_exit ?_ | refine e_block_exit ?_ | refine e_block_normal ?_ | refine e_block_ret ?_ | refine o_box (k := fun _ => ?_) | refine o_alloc (k := fun _ => ?_) | refine e_norm ?_ | refine o_ung (k := ?_) | refine o_k (k := ?_) | refine s_v (k := ?_) | refine s_w (k := ?_) | refine s_k (k := ?_) | refine s_nil ?_ | refine e_block_exit_ne rfl ?_)
        have hM : mayM 3 r = decide (r.noAttr = res0 0) := by simp [mayM, hp, hee, (by decide : (0 : Int) ∈ codeE), h0, g5]
        exact e_1 (h1 := rs_tmp rfl) (H' := [bytesA o1 q1 r.data, cellsA o2 q2 (entsC r.ents), tabA]) (hT := ⟨by rw [hM], rfl⟩)
      · repeat (first | refine o_v (k := ?_) | refine c_seq ?_ | refine c_region ?_ | refine o_nil ?_ | refine e_then_normal ?_ | refine o_store (k := ?_) | refine c_true (h1 := ?_) | refine c_false (h1 := ?_) | refine c_ret ?_ | refine c_skip ?_ | refine e_then_ret ?_ | refine c_block ?_ | refine c_exit ?_ | refine e_then_exit ?_ | refine e_block_exit ?_ | refine e_block_normal ?_ | refine e_block_ret ?_ | refine o_box (k := fun _ => ?_) | refine o_alloc (k := fun _ => ?_) | refine e_norm ?_ | refine o_ung (k := ?_) | refine o_k (k := ?_) | refine s_v (k := ?_) | refine s_w (k := ?_) | refine s_k (k := ?_) | refine s_nil ?_ | refine e_block_exit_ne rfl ?_)
        have hM : mayM 3 r = false := by simp [mayM, hp, hee, (by decide : (0 : Int) ∈ codeE), h0, g5]
        exact e_1 (h1 := rs_tmp rfl) (H' := [bytesA o1 q1 r.data, cellsA o2 q2 (entsC r.ents), tabA]) (hT := ⟨by rw [hM], rfl⟩)
    · repeat (first | refine o_v (k := ?_) | refine c_seq ?_ | refine c_region ?_ | refine o_nil ?_ | refine e_then_normal ?_ | refine o_store (k := ?_) | refine c_true (h1 := ?_) | refine c_false (h1 := ?_) | refine c_ret ?_ | refine c_skip ?_ | refine e_then_ret ?_ | refine c_block ?_ | refine c_exit ?_ | refine e_then_exit ?_ | refine e_block_exit ?_ | refine e_block_normal ?_ | refine e_block_ret ?_ | refine o_box (k := fun _ => ?_) | refine o_alloc (k := fun _ => ?_) | refine e_norm ?_ | refine o_ung (k := ?_) | refine o_k (k := ?_) | refine s_v (k := ?_) | refine s_w (k := ?_) | refine s_k (k := ?_) | refine s_nil ?_ | refine e_block_exit_ne rfl ?_)
      refine o_bool 44 rfl (fun g5 => ?_) (fun g5 => ?_)
      · repeat (first | refine o_v (k := ?_) | refine c_seq ?_ | refine c_region ?_ | refine o_nil ?_ | refine e_then_normal ?_ | refine o_store (k := ?_) | refine c_true (h1 := ?_) | refine c_false (h1 := ?_) | refine c_ret ?_ | refine c_skip ?_ | refine e_then_ret ?_ | refine c_block ?_ | refine c_exit ?_ | refine e_then_exit ?_ | refine e_block_exit ?_ | refine e_block_normal ?_ | refine e_block_ret ?_ | refine o_box (k := fun _ => ?_) | refine o_alloc (k := fun _ => ?_) | refine e_norm ?_ | refine o_ung (k := ?_) | refine o_k (k := ?_) | refine s_v (k := ?_) | refine s_w (k := ?_) | refine s_k (k := ?_) | refine s_nil ?_ | refine e_block_exit_ne rfl ?_)
        refine o_bool 76 rfl (fun g9 => ?_) (fun g9 => ?_)
        · repeat (first | refine o_v (k := ?_) | refine c_seq ?_ | refine c_region ?_ | refine o_nil ?_ | refine e_then_normal ?_ | refine o_store (k := ?_) | refine c_true (h1 := ?_) | refine c_false (h1 := ?_) | refine c_ret ?_ | refine c_skip ?_ | refine e_then_ret ?_ | refine c_block ?_ | refine c_exit ?_ | refine e_then_exit ?_ | refine e_block_exit ?_ | refine e_block_normal ?_ | refine e_block_ret ?_ | refine o_box (k := fun _ => ?_) | refine o_alloc (k := fun _ => ?_) | refine e_norm ?_ | refine o_ung (k := ?_) | refine o_k (k := ?_) | refine s_v (k := ?_) | refine s_w (k := ?_) | refine s_k (k := ?_) | refine s_nil ?_ | refine e_block_exit_ne rfl ?_)
          refine o_add0 (bytesA true none []) (fun w => cellsA_nil _ w) (k := ?_)
          refine o_add0 (bytesA true none []) (fun w => cellsA_nil _ w) (k := ?_)
          refine o_add0 (cellsA true none (entsC [])) (fun w => cellsA_nil _ w) (k := ?_)
          refine o_call (same_ok ({ r with data := [], count := 0, eof := false }) (res0 0) true o2 true true none q2 none none 0 c2 0 0 he (by simp [res0])) (k := ?_)
          rintro _ _ ⟨rfl, rfl⟩
          dsimp only [List.cons_append, List.nil_append]
          repeat (first | refine o_v (k := ?_) | refine c_seq ?_ | refine c_region ?_ | refine o_nil ?_ | refine e_then_normal ?_ | refine o_store (k := ?_) | refine c_true (h1 := ?_) | refine c_false (h1 := ?_) | refine c_ret ?_ | refine c_skip ?_ | refine e_then_ret ?_ | refine c_block ?_ | refine c_exit ?_ | refine e_then_exit ?_ | refine e_block_exit ?_ | refine e_block_normal ?_ | refine e_block_ret ?_ | refine o_box (k := fun _ => ?_) | refine o_alloc (k := fun _ => ?_) | refine e_norm ?_ | refine o_ung (k := ?_) | refine o_k (k := ?_) | refine s_v (k := ?_) | refine s_w (k := ?_) | refine s_k (k := ?_) | refine s_nil ?_ | refine e_block_exit_ne rfl ?_)
          have hd : r.data.length ≤ 2048 := by simp at g5; omega
          have hM : mayM 6 r = decide (({ r with data := [], count := 0, eof := false }) = res0 0) := by simp [mayM, hp, (by decide : (0 : Int) ∈ codeE), h0, hd, g9]
          exact e_1 (h1 := rs_tmp rfl) (H' := [bytesA o1 q1 r.data, cellsA o2 q2 (entsC r.ents), tabA]) (hT := ⟨by rw [hM], rfl⟩)
        · repeat (first | refine o_v (k := ?_) | refine c_seq ?_ | refine c_region ?_ | refine o_nil ?_ | refine e_then_normal ?_ | refine o_store (k := ?_) | refine c_true (h1 := ?_) | refine c_false (h1 := ?_) | refine c_ret ?_ | refine c_skip ?_ | refine e_then_ret ?_ | refine c_block ?_ | refine c_exit ?_ | refine e_then_exit ?_ | refine e_block_exit ?_ | refine e_block_normal ?_ | refine e_block_ret ?_ | refine o_box (k := fun _ => ?_) | refine o_alloc (k := fun _ => ?_) | refine e_norm ?_ | refine o_ung (k := ?_) | refine o_k (k := ?_) | refine s_v (k := ?_) | refine s_w (k := ?_) | refine s_k (k := ?_) | refine s_nil ?_ | refine e_block_exit_ne rfl ?_)
          have hM : mayM 6 r = false := by simp [mayM, hp, (by decide : (0 : Int) ∈ codeE), h0, g5, g9]
          exact e_1 (h1 := rs_tmp rfl) (H' := [bytesA o1 q1 r.data, cellsA o2 q2 (entsC r.ents), tabA]) (hT := ⟨by rw [hM], rfl⟩)
      · repeat (first | refine o_v (k := ?_) | refine c_seq ?_ | refine c_region ?_ | refine o_nil ?_ | refine e_then_normal ?_ | refine o_store (k := ?_) | refine c_true (h1 := ?_) | refine c_false (h1 := ?_) | refine c_ret ?_ | refine c_skip ?_ | refine e_then_ret ?_ | refine c_block ?_ | refine c_exit ?_ | refine e_then_exit ?_ | refine e_block_exit ?_ | refine e_block_normal ?_ | refine e_block_ret ?_ | refine o_box (k := fun _ => ?_) | refine o_alloc (k := fun _ => ?_) | refine e_norm ?_ | refine o_ung (k := ?_) | refine o_k (k := ?_) | refine s_v (k := ?_) | refine s_w (k := ?_) | refine s_k (k := ?_) | refine s_nil ?_ | refine e_block_exit_ne rfl ?_)
        have hM : mayM 6 r = false := by
          have : ¬ r.data.length ≤ 2048 := by simp at g5; omega
          simp [mayM, hp, (by decide : (0 : Int) ∈ codeE), h0, this]
        exact e_1 (h1 := rs_tmp rfl) (H' := [bytesA o1 q1 r.data, cellsA o2 q2 (entsC r.ents), tabA]) (hT := ⟨by rw [hM], rfl⟩)
    · repeat (first | refine o_v (k := ?_) | refine c_seq ?_ | refine c_region ?_ | refine o_nil ?_ | refine e_then_normal ?_ | refine o_store (k := ?_) | refine c_true (h1 := ?_) | refine c_false (h1 := ?_) | refine c_ret ?_ | refine c_skip ?_ | refine e_then_ret ?_ | refine c_block ?_ | refine c_exit ?_ | refine e_then_exit ?_ | refine e_block_exit ?_ | refine e_block_normal ?_ | refine e_block_ret ?_ | refine o_box (k := fun _ => ?_) | refine o_alloc (k := fun _ => ?_) | refine e_norm ?_ | refine o_ung (k := ?_) | refine o_k (k := ?_) | refine s_v (k := ?_) | refine s_w (k := ?_) | refine s_k (k := ?_) | refine s_nil ?_ | refine e_block_exit_ne rfl ?_ | (refine o_call (word_ok _) (k := ?_); rintro _ _ ⟨rfl, rfl⟩; dsimp only [List.cons_append, List.nil_append]))
      refine o_bool 60 rfl (fun g5 => ?_) (fun g5 => ?_)
      · repeat (first | refine o_v (k := ?_) | refine c_seq ?_ | refine c_region ?_ | refine o_nil ?_ | refine e_then_normal ?_ | refine o_store (k := ?_) | refine c_true (h1 := ?_) | refine c_false (h1 := ?_) | refine c_ret ?_ | refine c_skip ?_ | refine e_then_ret ?_ | refine c_block ?_ | refine c_exit ?_ | refine e_then_exit ?_ | refine e_block_exit ?_ | refine e_block_normal ?_ | refine e_block_ret ?_ | refine o_box (k := fun _ => ?_) | refine o_alloc (k := fun _ => ?_) | refine e_norm ?_ | refine o_ung (k := ?_) | refine o_k (k := ?_) | refine s_v (k := ?_) | refine s_w (k := ?_) | refine s_k (k := ?_) | refine s_nil ?_ | refine e_block_exit_ne rfl ?_ | (refine o_call (mayAttr_ok _ _ _ _ _) (k := ?_); rintro _ _ ⟨rfl, rfl⟩; dsimp only [List.cons_append, List.nil_append]))
        refine o_bool 76 rfl (fun g9 => ?_) (fun g9 => ?_)
        · repeat (first | refine o_v (k := ?_) | refine c_seq ?_ | refine c_region ?_ | refine o_nil ?_ | refine e_then_normal ?_ | refine o_store (k := ?_) | refine c_true (h1 := ?_) | refine c_false (h1 := ?_) | refine c_ret ?_ | refine c_skip ?_ | refine e_then_ret ?_ | refine c_block ?_ | refine c_exit ?_ | refine e_then_exit ?_ | refine e_block_exit ?_ | refine e_block_normal ?_ | refine e_block_ret ?_ | refine o_box (k := fun _ => ?_) | refine o_alloc (k := fun _ => ?_) | refine e_norm ?_ | refine o_ung (k := ?_) | refine o_k (k := ?_) | refine s_v (k := ?_) | refine s_w (k := ?_) | refine s_k (k := ?_) | refine s_nil ?_ | refine e_block_exit_ne rfl ?_)
          refine o_add0 (bytesA true none []) (fun w => cellsA_nil _ w) (k := ?_)
          refine o_add0 (cellsA true none (entsC [])) (fun w => cellsA_nil _ w) (k := ?_)
          refine o_call (same_ok ({ r.noAttr with count := 0 }) (res0 0) o1 o2 true true q1 q2 none none c1 c2 0 0 he (by simp [res0])) (k := ?_)
          rintro _ _ ⟨rfl, rfl⟩
          dsimp only [List.cons_append, List.nil_append]
          repeat (first | refine o_v (k := ?_) | refine c_seq ?_ | refine c_region ?_ | refine o_nil ?_ | refine e_then_normal ?_ | refine o_store (k := ?_) | refine c_true (h1 := ?_) | refine c_false (h1 := ?_) | refine c_ret ?_ | refine c_skip ?_ | refine e_then_ret ?_ | refine c_block ?_ | refine c_exit ?_ | refine e_then_exit ?_ | refine e_block_exit ?_ | refine e_block_normal ?_ | refine e_block_ret ?_ | refine o_box (k := fun _ => ?_) | refine o_alloc (k := fun _ => ?_) | refine e_norm ?_ | refine o_ung (k := ?_) | refine o_k (k := ?_) | refine s_v (k := ?_) | refine s_w (k := ?_) | refine s_k (k := ?_) | refine s_nil ?_ | refine e_block_exit_ne rfl ?_)
          have hM : mayM 7 r = decide (({ r.noAttr with count := 0 }) = res0 0) := by simp [mayM, hp, (by decide : (0 : Int) ∈ codeE), h0, g5, g9]
          exact e_1 (h1 := rs_tmp rfl) (H' := [bytesA o1 q1 r.data, cellsA o2 q2 (entsC r.ents), tabA]) (hT := ⟨by rw [hM], rfl⟩)
        · repeat (first | refine o_v (k := ?_) | refine c_seq ?_ | refine c_region ?_ | refine o_nil ?_ | refine e_then_normal ?_ | refine o_store (k := ?_) | refine c_true (h1 := ?_) | refine c_false (h1 := ?_) | refine c_ret ?_ | refine c_skip ?_ | refine e_then_ret ?_ | refine c_block ?_ | refine c_exit ?_ | refine e_then_exit ?_ | refine e_block_exit ?_ | refine e_block_normal ?_ | refine e_block_ret ?_ | refine o_box (k := fun _ => ?_) | refine o_alloc (k := fun _ => ?_) | refine e_norm ?_ | refine o_ung (k := ?_) | refine o_k (k := ?_) | refine s_v (k := ?_) | refine s_w (k := ?_) | refine s_k (k := ?_) | refine s_nil ?_ | refine e_block_exit_ne rfl ?_)
          have hM : mayM 7 r = false := by simp [mayM, hp, (by decide : (0 : Int) ∈ codeE), h0, g5, g9]
          exact e_1 (h1 := rs_tmp rfl) (H' := [bytesA o1 q1 r.data, cellsA o2 q2 (entsC r.ents), tabA]) (hT := ⟨by rw [hM], rfl⟩)
      · repeat (first | refine o_v (k := ?_) | refine c_seq ?_ | refine c_region ?_ | refine o_nil ?_ | refine e_then_normal ?_ | refine o_store (k := ?_) | refine c_true (h1 := ?_) | refine c_false (h1 := ?_) | refine c_ret ?_ | refine c_skip ?_ | refine e_then_ret ?_ | refine c_block ?_ | refine c_exit ?_ | refine e_then_exit ?_ | refine e_block_exit ?_ | refine e_block_normal ?_ | refine e_block_ret ?_ | refine o_box (k := fun _ => ?_) | refine o_alloc (k := fun _ => ?_) | refine e_norm ?_ | refine o_ung (k := ?_) | refine o_k (k := ?_) | refine s_v (k := ?_) | refine s_w (k := ?_) | refine s_k (k := ?_) | refine s_nil ?_ | refine e_block_exit_ne rfl ?_)
        have hM : mayM 7 r = false := by simp [mayM, hp, (by decide : (0 : Int) ∈ codeE), h0, g5]
        exact e_1 (h1 := rs_tmp rfl) (H' := [bytesA o1 q1 r.data, cellsA o2 q2 (entsC r.ents), tabA]) (hT := ⟨by rw [hM], rfl⟩)
    · repeat (first | refine o_v (k := ?_) | refine c_seq ?_ | refine c_region ?_ | refine o_nil ?_ | refine e_then_normal ?_ | refine o_store (k := ?_) | refine c_true (h1 := ?_) | refine c_false (h1 := ?_) | refine c_ret ?_ | refine c_skip ?_ | refine e_then_ret ?_ | refine c_block ?_ | refine c_exit ?_ | refine e_then_exit ?_ | refine e_block_exit ?_ | refine e_block_normal ?_ | refine e_block_ret ?_ | refine o_box (k := fun _ => ?_) | refine o_alloc (k := fun _ => ?_) | refine e_norm ?_ | refine o_ung (k := ?_) | refine o_k (k := ?_) | refine s_v (k := ?_) | refine s_w (k := ?_) | refine s_k (k := ?_) | refine s_nil ?_ | refine e_block_exit_ne rfl ?_ | (refine o_call (mayAttr_ok _ _ _ _ _) (k := ?_); rintro _ _ ⟨rfl, rfl⟩; dsimp only [List.cons_append, List.nil_append]))
      refine o_bool 76 rfl (fun g5 => ?_) (fun g5 => ?_)
      · repeat (first | refine o_v (k := ?_) | refine c_seq ?_ | refine c_region ?_ | refine o_nil ?_ | refine e_then_normal ?_ | refine o_store (k := ?_) | refine c_true (h1 := ?_) | refine c_false (h1 := ?_) | refine c_ret ?_ | refine c_skip ?_ | refine e_then_ret ?_ | refine c_block ?_ | refine c_exit ?_ | refine e_then_exit ?_ | refine e_block_exit ?_ | refine e_block_normal ?_ | refine e_block_ret ?_ | refine o_box (k := fun _ => ?_) | refine o_alloc (k := fun _ => ?_) | refine e_norm ?_ | refine o_ung (k := ?_) | refine o_k (k := ?_) | refine s_v (k := ?_) | refine s_w (k := ?_) | refine s_k (k := ?_) | refine s_nil ?_ | refine e_block_exit_ne rfl ?_)
        refine o_add0 (bytesA true none []) (fun w => cellsA_nil _ w) (k := ?_)
        refine o_add0 (cellsA true none (entsC [])) (fun w => cellsA_nil _ w) (k := ?_)
        refine o_call (same_ok r.noAttr (res0 0) o1 o2 true true q1 q2 none none c1 c2 0 0 he (by simp [res0])) (k := ?_)
        rintro _ _ ⟨rfl, rfl⟩
        dsimp only [List.cons_append, List.nil_append]
        repeat (first | refine o_v (k := ?_) | refine c_seq ?_ | refine c_region ?_ | refine o_nil ?_ | refine e_then_normal ?_ | refine o_store (k := ?_) | refine c_true (h1 := ?_) | refine c_false (h1 := ?_) | refine c_ret ?_ | refine c_skip ?_ | refine e_then_ret ?_ | refine c_block ?_ | refine c_exit ?_ | refine e_then_exit ?_ | refine e_block_exit ?_ | refine e_block_normal ?_ | refine e_block_ret ?_ | refine o_box (k := fun _ => ?_) | refine o_alloc (k := fun _ => ?_) | refine e_norm ?_ | refine o_ung (k := ?_) | refine o_k (k := ?_) | refine s_v (k := ?_) | refine s_w (k := ?_) | refine s_k (k := ?_) | refine s_nil ?_ | refine e_block_exit_ne rfl ?_)
        have hM : mayM 8 r = decide (r.noAttr = res0 0) := by simp [mayM, hp, hee, (by decide : (0 : Int) ∈ codeE), h0, g5]
        exact e_1 (h1 := rs_tmp rfl) (H' := [bytesA o1 q1 r.data, cellsA o2 q2 (entsC r.ents), tabA]) (hT := ⟨by rw [hM], rfl⟩)
      · repeat (first | refine o_v (k := ?_) | refine c_seq ?_ | refine c_region ?_ | refine o_nil ?_ | refine e_then_normal ?_ | refine o_store (k := ?_) | refine c_true (h1 := ?_) | refine c_false (h1 := ?_) | refine c_ret ?_ | refine c_skip ?_ | refine e_then_ret ?_ | refine c_block ?_ | refine c_exit ?_ | refine e_then_exit ?_ | refine e_block_exit ?_ | refine e_block_normal ?_ | refine e_block_ret ?_ | refine o_box (k := fun _ => ?_) | refine o_alloc (k := fun _ => ?_) | refine e_norm ?_ | refine o_ung (k := ?_) | refine o_k (k := ?_) | refine s_v (k := ?_) | refine s_w (k := ?_) | refine s_k (k := ?_) | refine s_nil ?_ | refine e_block_exit_ne rfl ?_)
        have hM : mayM 8 r = false := by simp [mayM, hp, hee, (by decide : (0 : Int) ∈ codeE), h0, g5]
        exact e_1 (h1 := rs_tmp rfl) (H' := [bytesA o1 q1 r.data, cellsA o2 q2 (entsC r.ents), tabA]) (hT := ⟨by rw [hM], rfl⟩)
    · repeat (first | refine o_v (k := ?_) | refine c_seq ?_ | refine c_region ?_ | refine o_nil ?_ | refine e_then_normal ?_ | refine o_store (k := ?_) | refine c_true (h1 := ?_) | refine c_false (h1 := ?_) | refine c_ret ?_ | refine c_skip ?_ | refine e_then_ret ?_ | refine c_block ?_ | refine c_exit ?_ | refine e_then_exit ?_ | refine e_block_exit ?_ | refine e_block_normal ?_ | refine e_block_ret ?_ | refine o_box (k := fun _ => ?_) | refine o_alloc (k := fun _ => ?_) | refine e_norm ?_ | refine o_ung (k := ?_) | refine o_k (k := ?_) | refine s_v (k := ?_) | refine s_w (k := ?_) | refine s_k (k := ?_) | refine s_nil ?_ | refine e_block_exit_ne rfl ?_ | (refine o_call (mayAttr_ok _ _ _ _ _) (k := ?_); rintro _ _ ⟨rfl, rfl⟩; dsimp only [List.cons_append, List.nil_append]))
      refine o_bool 76 rfl (fun g5 => ?_) (fun g5 => ?_)
      · repeat (first | refine o_v (k := ?_) | refine c_seq ?_ | refine c_region ?_ | refine o_nil ?_ | refine e_then_normal ?_ | refine o_store (k := ?_) | refine c_true (h1 := ?_) | refine c_false (h1 := ?_) | refine c_ret ?_ | refine c_skip ?_ | refine e_then_ret ?_ | refine c_block ?_ | refine c_exit ?_ | refine e_then_exit ?_ | refine e_block_exit ?_ | refine e_block_normal ?_ | refine e_block_ret ?_ | refine o_box (k := fun _ => ?_) | refine o_alloc (k := fun _ => ?_) | refine e_norm ?_ | refine o_ung (k := ?_) | refine o_k (k := ?_) | refine s_v (k := ?_) | refine s_w (k := ?_) | refine s_k (k := ?_) | refine s_nil ?_ | refine e_block_exit_ne rfl ?_)
        refine o_add0 (bytesA true none []) (fun w => cellsA_nil _ w) (k := ?_)
        refine o_add0 (cellsA true none (entsC [])) (fun w => cellsA_nil _ w) (k := ?_)
        refine o_call (same_ok r.noAttr (res0 0) o1 o2 true true q1 q2 none none c1 c2 0 0 he (by simp [res0])) (k := ?_)
        rintro _ _ ⟨rfl, rfl⟩
        dsimp only [List.cons_append, List.nil_append]
        repeat (first | refine o_v (k := ?_) | refine c_seq ?_ | refine c_region ?_ | refine o_nil ?_ | refine e_then_normal ?_ | refine o_store (k := ?_) | refine c_true (h1 := ?_) | refine c_false (h1 := ?_) | refine c_ret ?_ | refine c_skip ?_ | refine e_then_ret ?_ | refine c_block ?_ | refine c_exit ?_ | refine e_then_exit ?_ | refine e_block_exit ?_ | refine e_block_normal ?_ | refine e_block_ret ?_ | refine o_box (k := fun _ => ?_) | refine o_alloc (k := fun _ => ?_) | refine e_norm ?_ | refine o_ung (k := ?_) | refine o_k (k := ?_) | refine s_v (k := ?_) | refine s_w (k := ?_) | refine s_k (k := ?_) | refine s_nil ?_ | refine e_block_exit_ne rfl ?_)
        have hM : mayM 9 r = decide (r.noAttr = res0 0) := by simp [mayM, hp, hee, (by decide : (0 : Int) ∈ codeE), h0, g5]
        exact e_1 (h1 := rs_tmp rfl) (H' := [bytesA o1 q1 r.data, cellsA o2 q2 (entsC r.ents), tabA]) (hT := ⟨by rw [hM], rfl⟩)
      · repeat (first | refine o_v (k := ?_) | refine c_seq ?_ | refine c_region ?_ | refine o_nil ?_ | refine e_then_normal ?_ | refine o_store (k := ?_) | refine c_true (h1 := ?_) | refine c_false (h1 := ?_) | refine c_ret ?_ | refine c_skip ?_ | refine e_then_ret ?_ | refine c_block ?_ | refine c_exit ?_ | refine e_then_exit ?_ | refine e_block_exit ?_ | refine e_block_normal ?_ | refine e_block_ret ?_ | refine o_box (k := fun _ => ?_) | refine o_alloc (k := fun _ => ?_) | refine e_norm ?_ | refine o_ung (k := ?_) | refine o_k (k := ?_) | refine s_v (k := ?_) | refine s_w (k := ?_) | refine s_k (k := ?_) | refine s_nil ?_ | refine e_block_exit_ne rfl ?_)
        have hM : mayM 9 r = false := by simp [mayM, hp, hee, (by decide : (0 : Int) ∈ codeE), h0, g5]
        exact e_1 (h1 := rs_tmp rfl) (H' := [bytesA o1 q1 r.data, cellsA o2 q2 (entsC r.ents), tabA]) (hT := ⟨by rw [hM], rfl⟩)
    · repeat (first | refine o_v (k := ?_) | refine c_seq ?_ | refine c_region ?_ | refine o_nil ?_ | refine e_then_normal ?_ | refine o_store (k := ?_) | refine c_true (h1 := ?_) | refine c_false (h1 := ?_) | refine c_ret ?_ | refine c_skip ?_ | refine e_then_ret ?_ | refine c_block ?_ | refine c_exit ?_ | refine e_then_exit ?_ | refine e_block_exit ?_ | refine e_block_normal ?_ | refine e_block_ret ?_ | refine o_box (k := fun _ => ?_) | refine o_alloc (k := fun _ => ?_) | refine e_norm ?_ | refine o_ung (k := ?_) | refine o_k (k := ?_) | refine s_v (k := ?_) | refine s_w (k := ?_) | refine s_k (k := ?_) | refine s_nil ?_ | refine e_block_exit_ne rfl ?_)
      refine o_add0 (bytesA true none []) (fun w => cellsA_nil _ w) (k := ?_)
      refine o_add0 (cellsA true none (entsC [])) (fun w => cellsA_nil _ w) (k := ?_)
      refine o_call (same_ok r (res0 0) o1 o2 true true q1 q2 none none c1 c2 0 0 he (by simp [res0])) (k := ?_)
      rintro _ _ ⟨rfl, rfl⟩
      dsimp only [List.cons_append, List.nil_append]
      repeat (first | refine o_v (k := ?_) | refine c_seq ?_ | refine c_region ?_ | refine o_nil ?_ | refine e_then_normal ?_ | refine o_store (k := ?_) | refine c_true (h1 := ?_) | refine c_false (h1 := ?_) | refine c_ret ?_ | refine c_skip ?_ | refine e_then_ret ?_ | refine c_block ?_ | refine c_exit ?_ | refine e_then_exit ?_ | refine e_block_exit ?_ | refine e_block_normal ?_ | refine e_block_ret ?_ | refine o_box (k := fun _ => ?_) | refine o_alloc (k := fun _ => ?_) | refine e_norm ?_ | refine o_ung (k := ?_) | refine o_k (k := ?_) | refine s_v (k := ?_) | refine s_w (k := ?_) | refine s_k (k := ?_) | refine s_nil ?_ | refine e_block_exit_ne rfl ?_)
      have hM : mayM 12 r = decide (r = res0 0) := by simp [mayM, hp, hee, (by decide : (0 : Int) ∈ codeE), h0]
      exact e_1 (h1 := rs_tmp rfl) (H' := [bytesA o1 q1 r.data, cellsA o2 q2 (entsC r.ents), tabA]) (hT := ⟨by rw [hM], rfl⟩)
    · repeat (first | refine o_v (k := ?_) | refine c_seq ?_ | refine c_region ?_ | refine o_nil ?_ | refine e_then_normal ?_ | refine o_store (k := ?_) | refine c_true (h1 := ?_) | refine c_false (h1 := ?_) | refine c_ret ?_ | refine c_skip ?_ | refine e_then_ret ?_ | refine c_block ?_ | refine c_exit ?_ | refine e_then_exit ?_ | refine e_block_exit ?_ | refine e_block_normal ?_ | refine e_block_ret ?_ | refine o_box (k := fun _ => ?_) | refine o_alloc (k := fun _ => ?_) | refine e_norm ?_ | refine o_ung (k := ?_) | refine o_k (k := ?_) | refine s_v (k := ?_) | refine s_w (k := ?_) | refine s_k (k := ?_) | refine s_nil ?_ | refine e_block_exit_ne rfl ?_)
      refine o_add0 (bytesA true none []) (fun w => cellsA_nil _ w) (k := ?_)
      refine o_add0 (cellsA true none (entsC [])) (fun w => cellsA_nil _ w) (k := ?_)
      refine o_call (same_ok r (res0 0) o1 o2 true true q1 q2 none none c1 c2 0 0 he (by simp [res0])) (k := ?_)
      rintro _ _ ⟨rfl, rfl⟩
      dsimp only [List.cons_append, List.nil_append]
      repeat (first | refine o_v (k := ?_) | refine c_seq ?_ | refine c_region ?_ | refine o_nil ?_ | refine e_then_normal ?_ | refine o_store (k := ?_) | refine c_true (h1 := ?_) | refine c_false (h1 := ?_) | refine c_ret ?_ | refine c_skip ?_ | refine e_then_ret ?_ | refine c_block ?_ | refine c_exit ?_ | refine e_then_exit ?_ | refine e_block_exit ?_ | refine e_block_normal ?_ | refine e_block_ret ?_ | refine o_box (k := fun _ => ?_) | refine o_alloc (k := fun _ => ?_) | refine e_norm ?_ | refine o_ung (k := ?_) | refine o_k (k := ?_) | refine s_v (k := ?_) | refine s_w (k := ?_) | refine s_k (k := ?_) | refine s_nil ?_ | refine e_block_exit_ne rfl ?_)
      have hM : mayM 13 r = decide (r = res0 0) := by simp [mayM, hp, hee, (by decide : (0 : Int) ∈ codeE), h0]
      exact e_1 (h1 := rs_tmp rfl) (H' := [bytesA o1 q1 r.data, cellsA o2 q2 (entsC r.ents), tabA]) (hT := ⟨by rw [hM], rfl⟩)
    · repeat (first | refine o_v (k := ?_) | refine c_seq ?_ | refine c_region ?_ | refine o_nil ?_ | refine e_then_normal ?_ | refine o_store (k := ?_) | refine c_true (h1 := ?_) | refine c_false (h1 := ?_) | refine c_ret ?_ | refine c_skip ?_ | refine e_then_ret ?_ | refine c_block ?_ | refine c_exit ?_ | refine e_then_exit ?_ | refine e_block_exit ?_ | refine e_block_normal ?_ | refine e_block_ret ?_ | refine o_box (k := fun _ => ?_) | refine o_alloc (k := fun _ => ?_) | refine e_norm ?_ | refine o_ung (k := ?_) | refine o_k (k := ?_) | refine s_v (k := ?_) | refine s_w (k := ?_) | refine s_k (k := ?_) | refine s_nil ?_ | refine e_block_exit_ne rfl ?_)
      refine o_add0 (bytesA true none []) (fun w => cellsA_nil _ w) (k := ?_)
      refine o_add0 (cellsA true none (entsC [])) (fun w => cellsA_nil _ w) (k := ?_)
      refine o_call (same_ok r (res0 0) o1 o2 true true q1 q2 none none c1 c2 0 0 he (by simp [res0])) (k := ?_)
      rintro _ _ ⟨rfl, rfl⟩
      dsimp only [List.cons_append, List.nil_append]
      repeat (first | refine o_v (k := ?_) | refine c_seq ?_ | refine c_region ?_ | refine o_nil ?_ | refine e_then_normal ?_ | refine o_store (k := ?_) | refine c_true (h1 := ?_) | refine c_false (h1 := ?_) | refine c_ret ?_ | refine c_skip ?_ | refine e_then_ret ?_ | refine c_block ?_ | refine c_exit ?_ | refine e_then_exit ?_ | refine e_block_exit ?_ | refine e_block_normal ?_ | refine e_block_ret ?_ | refine o_box (k := fun _ => ?_) | refine o_alloc (k := fun _ => ?_) | refine e_norm ?_ | refine o_ung (k := ?_) | refine o_k (k := ?_) | refine s_v (k := ?_) | refine s_w (k := ?_) | refine s_k (k := ?_) | refine s_nil ?_ | refine e_block_exit_ne rfl ?_)
      have hM : mayM 14 r = decide (r = res0 0) := by simp [mayM, hp, hee, (by decide : (0 : Int) ∈ codeE), h0]
      exact e_1 (h1 := rs_tmp rfl) (H' := [bytesA o1 q1 r.data, cellsA o2 q2 (entsC r.ents), tabA]) (hT := ⟨by rw [hM], rfl⟩)
    · repeat (first | refine o_v (k := ?_) | refine c_seq ?_ | refine c_region ?_ | refine o_nil ?_ | refine e_then_normal ?_ | refine o_store (k := ?_) | refine c_true (h1 := ?_) | refine c_false (h1 := ?_) | refine c_ret ?_ | refine c_skip ?_ | refine e_then_ret ?_ | refine c_block ?_ | refine c_exit ?_ | refine e_then_exit ?_ | refine e_block_exit ?_ | refine e_block_normal ?_ | refine e_block_ret ?_ | refine o_box (k := fun _ => ?_) | refine o_alloc (k := fun _ => ?_) | refine e_norm ?_ | refine o_ung (k := ?_) | refine o_k (k := ?_) | refine s_v (k := ?_) | refine s_w (k := ?_) | refine s_k (k := ?_) | refine s_nil ?_ | refine e_block_exit_ne rfl ?_)
      refine o_call (mayEnts_ok o2 q2 r.ents c2 he hn) (k := ?_)
      rintro _ _ ⟨rfl, rfl⟩
      dsimp only [List.cons_append, List.nil_append]
      repeat (first | refine o_v (k := ?_) | refine c_seq ?_ | refine c_region ?_ | refine o_nil ?_ | refine e_then_normal ?_ | refine o_store (k := ?_) | refine c_true (h1 := ?_) | refine c_false (h1 := ?_) | refine c_ret ?_ | refine c_skip ?_ | refine e_then_ret ?_ | refine c_block ?_ | refine c_exit ?_ | refine e_then_exit ?_ | refine e_block_exit ?_ | refine e_block_normal ?_ | refine e_block_ret ?_ | refine o_box (k := fun _ => ?_) | refine o_alloc (k := fun _ => ?_) | refine e_norm ?_ | refine o_ung (k := ?_) | refine o_k (k := ?_) | refine s_v (k := ?_) | refine s_w (k := ?_) | refine s_k (k := ?_) | refine s_nil ?_ | refine e_block_exit_ne rfl ?_)
      refine o_bool 76 rfl (fun g9 => ?_) (fun g9 => ?_)
      · repeat (first | refine o_v (k := ?_) | refine c_seq ?_ | refine c_region ?_ | refine o_nil ?_ | refine e_then_normal ?_ | refine o_store (k := ?_) | refine c_true (h1 := ?_) | refine c_false (h1 := ?_) | refine c_ret ?_ | refine c_skip ?_ | refine e_then_ret ?_ | refine c_block ?_ | refine c_exit ?_ | refine e_then_exit ?_ | refine e_block_exit ?_ | refine e_block_normal ?_ | refine e_block_ret ?_ | refine o_box (k := fun _ => ?_) | refine o_alloc (k := fun _ => ?_) | refine e_norm ?_ | refine o_ung (k := ?_) | refine o_k (k := ?_) | refine s_v (k := ?_) | refine s_w (k := ?_) | refine s_k (k := ?_) | refine s_nil ?_ | refine e_block_exit_ne rfl ?_)
        refine o_add0 (cellsA true none (entsC [])) (fun w => cellsA_nil _ w) (k := ?_)
        refine o_add0 (bytesA true none []) (fun w => cellsA_nil _ w) (k := ?_)
        refine o_add0 (cellsA true none (entsC [])) (fun w => cellsA_nil _ w) (k := ?_)
        refine o_call (same_ok ({ r with ents := [], eof := false }) (res0 0) o1 true true true q1 none none none c1 0 0 0 (by simp) (by simp [res0])) (k := ?_)
        rintro _ _ ⟨rfl, rfl⟩
        dsimp only [List.cons_append, List.nil_append]
        repeat (first | refine o_v (k := ?_) | refine c_seq ?_ | refine c_region ?_ | refine o_nil ?_ | refine e_then_normal ?_ | refine o_store (k := ?_) | refine c_true (h1 := ?_) | refine c_false (h1 := ?_) | refine c_ret ?_ | refine c_skip ?_ | refine e_then_ret ?_ | refine c_block ?_ | refine c_exit ?_ | refine e_then_exit ?_ | refine e_block_exit ?_ | refine e_block_normal ?_ | refine e_block_ret ?_ | refine o_box (k := fun _ => ?_) | refine o_alloc (k := fun _ => ?_) | refine e_norm ?_ | refine o_ung (k := ?_) | refine o_k (k := ?_) | refine s_v (k := ?_) | refine s_w (k := ?_) | refine s_k (k := ?_) | refine s_nil ?_ | refine e_block_exit_ne rfl ?_)
        have hM : mayM 16 r = decide (({ r with ents := [], eof := false }) = res0 0) := by simp [mayM, hp, (by decide : (0 : Int) ∈ codeE), h0, g9]
        exact e_1 (h1 := rs_tmp rfl) (H' := [bytesA o1 q1 r.data, cellsA o2 q2 (entsC r.ents), tabA]) (hT := ⟨by rw [hM], rfl⟩)
      · repeat (first | refine o_v (k := ?_) | refine c_seq ?_ | refine c_region ?_ | refine o_nil ?_ | refine e_then_normal ?_ | refine o_store (k := ?_) | refine c_true (h1 := ?_) | refine c_false (h1 := ?_) | refine c_ret ?_ | refine c_skip ?_ | refine e_then_ret ?_ | refine c_block ?_ | refine c_exit ?_ | refine e_then_exit ?_ | refine e_block_exit ?_ | refine e_block_normal ?_ | refine e_block_ret ?_ | refine o_box (k := fun _ => ?_) | refine o_alloc (k := fun _ => ?_) | refine e_norm ?_ | refine o_ung (k := ?_) | refine o_k (k := ?_) | refine s_v (k := ?_) | refine s_w (k := ?_) | refine s_k (k := ?_) | refine s_nil ?_ | refine e_block_exit_ne rfl ?_)
        have hM : mayM 16 r = false := by simp [mayM, hp, (by decide : (0 : Int) ∈ codeE), h0, g9]
        exact e_1 (h1 := rs_tmp rfl) (H' := [bytesA o1 q1 r.data, cellsA o2 q2 (entsC r.ents), tabA]) (hT := ⟨by rw [hM], rfl⟩)
end Go.Proofs.YtlkgdidmhmaneaaGreatDoor
/- answers.Write: what it leaves. -/
namespace Go.Proofs.YtlkgdidmhmaneaaGreatDoor
open Go Go.RowKit
def attrB (r : MRes) : List UInt8 := w32 r.ino.toNat ++ w32 r.gen.toNat ++ w32 r.kind.toNat ++ w32 r.mode.toNat ++ w32 r.size.toNat
def entB (e : Ent) : List UInt8 := textB e.1 ++ w32 e.2.1.toNat ++ w32 e.2.2.toNat
def entsB (l : List Ent) : List UInt8 := l.flatMap entB
def ansB (p : Int) (r : MRes) : List UInt8 := w32 (statusOf r.errno).toNat ++
  if r.errno ≠ 0 then [] else if p = 1 ∨ p = 2 ∨ p = 3 ∨ p = 8 ∨ p = 9 then attrB r
  else if p = 6 then textB r.data ++ w32 r.eof.toNat
  else if p = 7 then w32 r.count.toNat ++ attrB r
  else if p = 16 then w32 r.ents.length ++ entsB r.ents ++ w32 r.eof.toNat
  else []
theorem codeT_status : ∀ r ∈ codeT, 0 ≤ r.2.1 ∧ r.2.1 < 4294967296 := by decide
theorem status_range (e : Int) : 0 ≤ statusOf e ∧ statusOf e < 4294967296 := by
  unfold statusOf codeFind
  cases h : codeT.find? (fun r => decide (r.1 = e)) with
  | none => decide
  | some r => exact codeT_status r (List.mem_of_find?_eq_some h)
theorem word_nat {n : Int} (h : wordOk n = true) : ∃ m : Nat, n = m ∧ m < 4294967296 := by
  simp [wordOk] at h
  exact ⟨n.toNat, by omega, by omega⟩
theorem mayAttr_nat {i g k m s : Int} (h : mayAttrM i g k m s = true) : ∃ i' g' k' m' s' : Nat, (i = i' ∧ g = g' ∧ k = k' ∧ m = m' ∧ s = s') ∧ i' < 4294967296 ∧ g' < 4294967296 ∧ k' < 4294967296 ∧ m' < 4294967296 ∧ s' < 4294967296 := by
  simp only [mayAttrM, Bool.and_eq_true, decide_eq_true_eq, Bool.or_eq_true] at h
  obtain ⟨⟨⟨⟨⟨⟨h1, h2⟩, h3⟩, h4⟩, h5⟩, h6⟩, h7⟩ := h
  obtain ⟨i', rfl, hi⟩ := word_nat h1
  obtain ⟨g', rfl, hg⟩ := word_nat h2
  exact ⟨i', g', k.toNat, m.toNat, s.toNat, ⟨rfl, rfl, by omega, by omega, by omega⟩, hi, hg, by omega, by omega, by omega⟩
theorem nameOk_len {l : List UInt8} (h : nameOk l = true) : l.length ≤ 32 := by
  simp [nameOk, nameHead] at h; omega
theorem entsB_take (l : List Ent) (k : Nat) (h : k < l.length) : entsB (l.take (k + 1)) = entsB (l.take k) ++ entB l[k] := by
  rw [entsB, entsB, List.take_succ_eq_append_getElem h, List.flatMap_append]; simp
theorem entsB_len (l : List Ent) (h : ∀ e ∈ l, e.1.length ≤ 32) : (entsB l).length ≤ 48 * l.length := by
  induction l with
  | nil => simp [entsB]
  | cons e l ih =>
    have h1 := h e (by simp)
    have h2 := ih (fun e he => h e (by simp [he]))
    have h3 := padN_lt e.1.length
    simp only [entsB, List.flatMap_cons, List.length_append, List.length_cons] at h2 ⊢
    simp only [entB, List.length_append, textB_length, w32_length]
    simp only [padN] at h3 ⊢
    omega
attribute [local irreducible] Yl OG CG EG SG AG  CellIn CellsIn BlkIn InA TakeA SplitA SubA Ct ResOk Good Held blk cellsA exA

set_option maxRecDepth 20000 in
set_option maxHeartbeats 4000000 in
theorem ansWrite_ok (p : Int) (r : MRes) (o1 o2 : Bool) (q1 q2 : Option Addr) (c1 c2 : Nat) (hl : r.data.length ≤ 1000000) (he : r.ents.length ≤ 1000000) (hn : ∀ e ∈ r.ents, e.1.length ≤ 1000000) : Ct Tryz.prog 40 [.int .i64 p, .agg (resC r q1 c1 q2 c2).toArray] [bytesA o1 q1 r.data, cellsA o2 q2 (entsC r.ents), tabA] (Ret fun u H => if mayM p r = true then ∃ v, u = .tuple #[v, .int .i64 0] ∧ H = [bufA v (ansB p r), tabA] else u = .tuple #[.slice none 0 0, .int .i64 1] ∧ H = [tabA]) := by
  refine fn_enter Tryz.func40 rfl Tryz.ntmps40 rfl fun _ _ _ => ?_
  repeat (first | refine o_v (k := ?_) | refine c_seq ?_ | refine c_region ?_ | refine o_nil ?_ | refine e_then_normal ?_ | refine o_store (k := ?_) | refine c_true (h1 := ?_) | refine c_false (h1 := ?_) | refine c_ret ?_ | refine c_skip ?_ | refine e_then_ret ?_ | refine c_block ?_ | refine c_exit ?_ | refine e_then_exit ?_ | refine e_block_exit ?_ | refine e_block_normal ?_ | refine e_block_ret ?_ | refine o_box (k := fun _ => ?_) | refine o_alloc (k := fun _ => ?_) | refine e_norm ?_ | refine o_ung (k := ?_) | refine o_k (k := ?_) | refine s_v (k := ?_) | refine s_w (k := ?_) | refine s_k (k := ?_) | refine s_nil ?_ | refine e_block_exit_ne rfl ?_)
  rename_i rb
  refine o_call (may_ok p r o1 o2 q1 q2 c1 c2 hl he hn) (k := ?_)
  rintro _ _ ⟨rfl, rfl⟩
  dsimp only [List.cons_append, List.nil_append]
  repeat (first | refine o_v (k := ?_) | refine c_seq ?_ | refine c_region ?_ | refine o_nil ?_ | refine e_then_normal ?_ | refine o_store (k := ?_) | refine c_true (h1 := ?_) | refine c_false (h1 := ?_) | refine c_ret ?_ | refine c_skip ?_ | refine e_then_ret ?_ | refine c_block ?_ | refine c_exit ?_ | refine e_then_exit ?_ | refine e_block_exit ?_ | refine e_block_normal ?_ | refine e_block_ret ?_ | refine o_box (k := fun _ => ?_) | refine o_alloc (k := fun _ => ?_) | refine e_norm ?_ | refine o_ung (k := ?_) | refine o_k (k := ?_) | refine s_v (k := ?_) | refine s_w (k := ?_) | refine s_k (k := ?_) | refine s_nil ?_ | refine e_block_exit_ne rfl ?_)
  refine c_if (h1 := fun h1 => ?_) (h2 := fun h1 => ?_)
  · have hm : ¬ mayM p r = true := by simpa using h1
    simp only [if_neg hm]
    repeat (first | refine o_v (k := ?_) | refine c_seq ?_ | refine c_region ?_ | refine o_nil ?_ | refine e_then_normal ?_ | refine o_store (k := ?_) | refine c_true (h1 := ?_) | refine c_false (h1 := ?_) | refine c_ret ?_ | refine c_skip ?_ | refine e_then_ret ?_ | refine c_block ?_ | refine c_exit ?_ | refine e_then_exit ?_ | refine e_block_exit ?_ | refine e_block_normal ?_ | refine e_block_ret ?_ | refine o_box (k := fun _ => ?_) | refine o_alloc (k := fun _ => ?_) | refine e_norm ?_ | refine o_ung (k := ?_) | refine o_k (k := ?_) | refine s_v (k := ?_) | refine s_w (k := ?_) | refine s_k (k := ?_) | refine s_nil ?_ | refine e_block_exit_ne rfl ?_)
    exact e_2 (h1 := rs_tmp rfl) (h2 := rs_tmp rfl) (H' := [tabA]) (hT := ⟨rfl, rfl⟩)
  have hm : mayM p r = true := by simpa using h1
  simp only [if_pos hm]
  have hst := status_range r.errno
  have hse : statusOf r.errno = ((statusOf r.errno).toNat : Int) := by omega
  repeat (first | refine o_v (k := ?_) | refine c_seq ?_ | refine c_region ?_ | refine o_nil ?_ | refine e_then_normal ?_ | refine o_store (k := ?_) | refine c_true (h1 := ?_) | refine c_false (h1 := ?_) | refine c_ret ?_ | refine c_skip ?_ | refine e_then_ret ?_ | refine c_block ?_ | refine c_exit ?_ | refine e_then_exit ?_ | refine e_block_exit ?_ | refine e_block_normal ?_ | refine e_block_ret ?_ | refine o_box (k := fun _ => ?_) | refine o_alloc (k := fun _ => ?_) | refine e_norm ?_ | refine o_ung (k := ?_) | refine o_k (k := ?_) | refine s_v (k := ?_) | refine s_w (k := ?_) | refine s_k (k := ?_) | refine s_nil ?_ | refine e_block_exit_ne rfl ?_ | (refine o_call (status_ok _) (k := ?_); rintro _ _ ⟨rfl, rfl⟩; dsimp only [List.cons_append, List.nil_append]))
  rw [hse]
  refine o_add0 (bytesA true none []) (fun w => cellsA_nil _ w) (k := ?_)
  refine o_call (u32_ok true none [] 0 (statusOf r.errno).toNat (by simp) (by simp) (by omega)) (k := ?_)
  rintro v0 _ rfl
  dsimp only [List.cons_append, List.nil_append]
  repeat (first | refine o_v (k := ?_) | refine c_seq ?_ | refine c_region ?_ | refine o_nil ?_ | refine e_then_normal ?_ | refine o_store (k := ?_) | refine c_true (h1 := ?_) | refine c_false (h1 := ?_) | refine c_ret ?_ | refine c_skip ?_ | refine e_then_ret ?_ | refine c_block ?_ | refine c_exit ?_ | refine e_then_exit ?_ | refine e_block_exit ?_ | refine e_block_normal ?_ | refine e_block_ret ?_ | refine o_box (k := fun _ => ?_) | refine o_alloc (k := fun _ => ?_) | refine e_norm ?_ | refine o_ung (k := ?_) | refine o_k (k := ?_) | refine s_v (k := ?_) | refine s_w (k := ?_) | refine s_k (k := ?_) | refine s_nil ?_ | refine e_block_exit_ne rfl ?_)
  refine c_if (h1 := fun h2 => ?_) (h2 := fun h2 => ?_)
  · have hne : r.errno ≠ 0 := by simpa using h2
    repeat (first | refine o_v (k := ?_) | refine c_seq ?_ | refine c_region ?_ | refine o_nil ?_ | refine e_then_normal ?_ | refine o_store (k := ?_) | refine c_true (h1 := ?_) | refine c_false (h1 := ?_) | refine c_ret ?_ | refine c_skip ?_ | refine e_then_ret ?_ | refine c_block ?_ | refine c_exit ?_ | refine e_then_exit ?_ | refine e_block_exit ?_ | refine e_block_normal ?_ | refine e_block_ret ?_ | refine o_box (k := fun _ => ?_) | refine o_alloc (k := fun _ => ?_) | refine e_norm ?_ | refine o_ung (k := ?_) | refine o_k (k := ?_) | refine s_v (k := ?_) | refine s_w (k := ?_) | refine s_k (k := ?_) | refine s_nil ?_ | refine e_block_exit_ne rfl ?_)
    have hB : ansB p r = [] ++ w32 (statusOf r.errno).toNat := by simp [ansB, hne]
    rw [hB]
    exact e_2 (h1 := rs_tmp rfl) (h2 := rs_tmp rfl) (H' := [bufA v0 ([] ++ w32 (statusOf r.errno).toNat), tabA]) (hT := ⟨v0, rfl, rfl⟩)
  have h0 : r.errno = 0 := by simpa using h2
  have hp : p ∈ procsL := by
    refine Classical.byContradiction fun hc => ?_
    simp [mayM, hc] at hm
  have hee : r.errno ∈ codeE := by
    refine Classical.byContradiction fun hc => ?_
    simp [mayM, hc] at hm
  have hcases : p = 1 ∨ p = 2 ∨ p = 3 ∨ p = 6 ∨ p = 7 ∨ p = 8 ∨ p = 9 ∨ p = 12 ∨ p = 13 ∨ p = 14 ∨ p = 16 := by simpa [procsL] using hp
  have hsl : (w32 (statusOf r.errno).toNat).length = 4 := rfl
  obtain ⟨S, hS⟩ : ∃ S, w32 (statusOf r.errno).toNat = S := ⟨_, rfl⟩
  (try simp only [List.nil_append])
  rw [hS] at hsl ⊢
  have hM0 : ∀ q, p = q → mayM q r = true := fun q e => e ▸ hm
  rcases hcases with rfl | rfl | rfl | rfl | rfl | rfl | rfl | rfl | rfl | rfl | rfl
  · have hA : mayAttrM r.ino r.gen r.kind r.mode r.size = true := by simp [mayM, hp, h0, (by decide : (0 : Int) ∈ codeE)] at hm; exact hm.1
    obtain ⟨i, g, k, m, s, ⟨e1, e2, e3, e4, e5⟩, hi, hg, hk, hmm, hs⟩ := mayAttr_nat hA
    rw [e1, e2, e3, e4, e5]
    refine c_buf true v0 (k := ?_)
    rintro q0 c0 rfl hc0 hm0
    repeat (first | refine o_v (k := ?_) | refine c_seq ?_ | refine c_region ?_ | refine o_nil ?_ | refine e_then_normal ?_ | refine o_store (k := ?_) | refine c_true (h1 := ?_) | refine c_false (h1 := ?_) | refine c_ret ?_ | refine c_skip ?_ | refine e_then_ret ?_ | refine c_block ?_ | refine c_exit ?_ | refine e_then_exit ?_ | refine e_block_exit ?_ | refine e_block_normal ?_ | refine e_block_ret ?_ | refine o_box (k := fun _ => ?_) | refine o_alloc (k := fun _ => ?_) | refine e_norm ?_ | refine o_ung (k := ?_) | refine o_k (k := ?_) | refine s_v (k := ?_) | refine s_w (k := ?_) | refine s_k (k := ?_) | refine s_nil ?_ | refine e_block_exit_ne rfl ?_)
    refine o_call (layAttr_ok true q0 S c0 i g k m s (by omega) hc0 hi hg hk hmm hs) (k := ?_)
    rintro v _ rfl
    dsimp only [List.cons_append, List.nil_append]
    repeat (first | refine o_v (k := ?_) | refine c_seq ?_ | refine c_region ?_ | refine o_nil ?_ | refine e_then_normal ?_ | refine o_store (k := ?_) | refine c_true (h1 := ?_) | refine c_false (h1 := ?_) | refine c_ret ?_ | refine c_skip ?_ | refine e_then_ret ?_ | refine c_block ?_ | refine c_exit ?_ | refine e_then_exit ?_ | refine e_block_exit ?_ | refine e_block_normal ?_ | refine e_block_ret ?_ | refine o_box (k := fun _ => ?_) | refine o_alloc (k := fun _ => ?_) | refine e_norm ?_ | refine o_ung (k := ?_) | refine o_k (k := ?_) | refine s_v (k := ?_) | refine s_w (k := ?_) | refine s_k (k := ?_) | refine s_nil ?_ | refine e_block_exit_ne rfl ?_)
    have hB : ansB 1 r = S ++ w32 i ++ w32 g ++ w32 k ++ w32 m ++ w32 s := by simp [ansB, h0, attrB, e1, e2, e3, e4, e5, ← hS]
    rw [hB]
    exact e_2 (h1 := rs_tmp rfl) (h2 := rs_tmp rfl) (H' := [bufA v (S ++ w32 i ++ w32 g ++ w32 k ++ w32 m ++ w32 s), tabA]) (hT := ⟨v, rfl, rfl⟩)
  · have hA : mayAttrM r.ino r.gen r.kind r.mode r.size = true := by simp [mayM, hp, h0, (by decide : (0 : Int) ∈ codeE)] at hm; exact hm.1
    obtain ⟨i, g, k, m, s, ⟨e1, e2, e3, e4, e5⟩, hi, hg, hk, hmm, hs⟩ := mayAttr_nat hA
    rw [e1, e2, e3, e4, e5]
    refine c_buf true v0 (k := ?_)
    rintro q0 c0 rfl hc0 hm0
    repeat (first | refine o_v (k := ?_) | refine c_seq ?_ | refine c_region ?_ | refine o_nil ?_ | refine e_then_normal ?_ | refine o_store (k := ?_) | refine c_true (h1 := ?_) | refine c_false (h1 := ?_) | refine c_ret ?_ | refine c_skip ?_ | refine e_then_ret ?_ | refine c_block ?_ | refine c_exit ?_ | refine e_then_exit ?_ | refine e_block_exit ?_ | refine e_block_normal ?_ | refine e_block_ret ?_ | refine o_box (k := fun _ => ?_) | refine o_alloc (k := fun _ => ?_) | refine e_norm ?_ | refine o_ung (k := ?_) | refine o_k (k := ?_) | refine s_v (k := ?_) | refine s_w (k := ?_) | refine s_k (k := ?_) | refine s_nil ?_ | refine e_block_exit_ne rfl ?_)
    refine o_call (layAttr_ok true q0 S c0 i g k m s (by omega) hc0 hi hg hk hmm hs) (k := ?_)
    rintro v _ rfl
    dsimp only [List.cons_append, List.nil_append]
    repeat (first | refine o_v (k := ?_) | refine c_seq ?_ | refine c_region ?_ | refine o_nil ?_ | refine e_then_normal ?_ | refine o_store (k := ?_) | refine c_true (h1 := ?_) | refine c_false (h1 := ?_) | refine c_ret ?_ | refine c_skip ?_ | refine e_then_ret ?_ | refine c_block ?_ | refine c_exit ?_ | refine e_then_exit ?_ | refine e_block_exit ?_ | refine e_block_normal ?_ | refine e_block_ret ?_ | refine o_box (k := fun _ => ?_) | refine o_alloc (k := fun _ => ?_) | refine e_norm ?_ | refine o_ung (k := ?_) | refine o_k (k := ?_) | refine s_v (k := ?_) | refine s_w (k := ?_) | refine s_k (k := ?_) | refine s_nil ?_ | refine e_block_exit_ne rfl ?_)
    have hB : ansB 2 r = S ++ w32 i ++ w32 g ++ w32 k ++ w32 m ++ w32 s := by simp [ansB, h0, attrB, e1, e2, e3, e4, e5, ← hS]
    rw [hB]
    exact e_2 (h1 := rs_tmp rfl) (h2 := rs_tmp rfl) (H' := [bufA v (S ++ w32 i ++ w32 g ++ w32 k ++ w32 m ++ w32 s), tabA]) (hT := ⟨v, rfl, rfl⟩)
  · have hA : mayAttrM r.ino r.gen r.kind r.mode r.size = true := by simp [mayM, hp, h0, (by decide : (0 : Int) ∈ codeE)] at hm; exact hm.1
    obtain ⟨i, g, k, m, s, ⟨e1, e2, e3, e4, e5⟩, hi, hg, hk, hmm, hs⟩ := mayAttr_nat hA
    rw [e1, e2, e3, e4, e5]
    refine c_buf true v0 (k := ?_)
    rintro q0 c0 rfl hc0 hm0
    repeat (first | refine o_v (k := ?_) | refine c_seq ?_ | refine c_region ?_ | refine o_nil ?_ | refine e_then_normal ?_ | refine o_store (k := ?_) | refine c_true (h1 := ?_) | refine c_false (h1 := ?_) | refine c_ret ?_ | refine c_skip ?_ | refine e_then_ret ?_ | refine c_block ?_ | refine c_exit ?_ | refine e_then_exit ?_ | refine e_block_exit ?_ | refine e_block_normal ?_ | refine e_block_ret ?_ | refine o_box (k := fun _ => ?_) | refine o_alloc (k := fun _ => ?_) | refine e_norm ?_ | refine o_ung (k := ?_) | refine o_k (k := ?_) | refine s_v (k := ?_) | refine s_w (k := ?_) | refine s_k (k := ?_) | refine s_nil ?_ | refine e_block_exit_ne rfl ?_)
    refine o_call (layAttr_ok true q0 S c0 i g k m s (by omega) hc0 hi hg hk hmm hs) (k := ?_)
    rintro v _ rfl
    dsimp only [List.cons_append, List.nil_append]
    repeat (first | refine o_v (k := ?_) | refine c_seq ?_ | refine c_region ?_ | refine o_nil ?_ | refine e_then_normal ?_ | refine o_store (k := ?_) | refine c_true (h1 := ?_) | refine c_false (h1 := ?_) | refine c_ret ?_ | refine c_skip ?_ | refine e_then_ret ?_ | refine c_block ?_ | refine c_exit ?_ | refine e_then_exit ?_ | refine e_block_exit ?_ | refine e_block_normal ?_ | refine e_block_ret ?_ | refine o_box (k := fun _ => ?_) | refine o_alloc (k := fun _ => ?_) | refine e_norm ?_ | refine o_ung (k := ?_) | refine o_k (k := ?_) | refine s_v (k := ?_) | refine s_w (k := ?_) | refine s_k (k := ?_) | refine s_nil ?_ | refine e_block_exit_ne rfl ?_)
    have hB : ansB 3 r = S ++ w32 i ++ w32 g ++ w32 k ++ w32 m ++ w32 s := by simp [ansB, h0, attrB, e1, e2, e3, e4, e5, ← hS]
    rw [hB]
    exact e_2 (h1 := rs_tmp rfl) (h2 := rs_tmp rfl) (H' := [bufA v (S ++ w32 i ++ w32 g ++ w32 k ++ w32 m ++ w32 s), tabA]) (hT := ⟨v, rfl, rfl⟩)
  · have hd : r.data.length ≤ 2048 := by simp [mayM, hp, h0, (by decide : (0 : Int) ∈ codeE)] at hm; omega
    refine c_buf true v0 (k := ?_)
    rintro q0 c0 rfl hc0 hm0
    repeat (first | refine o_v (k := ?_) | refine c_seq ?_ | refine c_region ?_ | refine o_nil ?_ | refine e_then_normal ?_ | refine o_store (k := ?_) | refine c_true (h1 := ?_) | refine c_false (h1 := ?_) | refine c_ret ?_ | refine c_skip ?_ | refine e_then_ret ?_ | refine c_block ?_ | refine c_exit ?_ | refine e_then_exit ?_ | refine e_block_exit ?_ | refine e_block_normal ?_ | refine e_block_ret ?_ | refine o_box (k := fun _ => ?_) | refine o_alloc (k := fun _ => ?_) | refine e_norm ?_ | refine o_ung (k := ?_) | refine o_k (k := ?_) | refine s_v (k := ?_) | refine s_w (k := ?_) | refine s_k (k := ?_) | refine s_nil ?_ | refine e_block_exit_ne rfl ?_)
    refine o_call (text_ok true o1 q0 q1 S r.data c0 c1 (by omega) hc0 (by omega)) (k := ?_)
    rintro v _ rfl
    dsimp only [List.cons_append, List.nil_append]
    refine o_buf true v (k := ?_)
    rintro q3 c3 rfl hc3 hm3
    have htl : (S ++ textB r.data).length ≤ 3000 := by rw [List.length_append, textB_length]; have := padN_lt r.data.length; omega
    repeat (first | refine o_v (k := ?_) | refine c_seq ?_ | refine c_region ?_ | refine o_nil ?_ | refine e_then_normal ?_ | refine o_store (k := ?_) | refine c_true (h1 := ?_) | refine c_false (h1 := ?_) | refine c_ret ?_ | refine c_skip ?_ | refine e_then_ret ?_ | refine c_block ?_ | refine c_exit ?_ | refine e_then_exit ?_ | refine e_block_exit ?_ | refine e_block_normal ?_ | refine e_block_ret ?_ | refine o_box (k := fun _ => ?_) | refine o_alloc (k := fun _ => ?_) | refine e_norm ?_ | refine o_ung (k := ?_) | refine o_k (k := ?_) | refine s_v (k := ?_) | refine s_w (k := ?_) | refine s_k (k := ?_) | refine s_nil ?_ | refine e_block_exit_ne rfl ?_)
    refine o_call (bool_ok true q3 (S ++ textB r.data) c3 r.eof (by omega) hc3) (k := ?_)
    rintro v _ rfl
    dsimp only [List.cons_append, List.nil_append]
    repeat (first | refine o_v (k := ?_) | refine c_seq ?_ | refine c_region ?_ | refine o_nil ?_ | refine e_then_normal ?_ | refine o_store (k := ?_) | refine c_true (h1 := ?_) | refine c_false (h1 := ?_) | refine c_ret ?_ | refine c_skip ?_ | refine e_then_ret ?_ | refine c_block ?_ | refine c_exit ?_ | refine e_then_exit ?_ | refine e_block_exit ?_ | refine e_block_normal ?_ | refine e_block_ret ?_ | refine o_box (k := fun _ => ?_) | refine o_alloc (k := fun _ => ?_) | refine e_norm ?_ | refine o_ung (k := ?_) | refine o_k (k := ?_) | refine s_v (k := ?_) | refine s_w (k := ?_) | refine s_k (k := ?_) | refine s_nil ?_ | refine e_block_exit_ne rfl ?_)
    have hB : ansB 6 r = S ++ textB r.data ++ w32 r.eof.toNat := by simp [ansB, h0, ← hS]
    rw [hB]
    exact e_2 (h1 := rs_tmp rfl) (h2 := rs_tmp rfl) (H' := [bufA v (S ++ textB r.data ++ w32 r.eof.toNat), tabA]) (hT := ⟨v, rfl, rfl⟩)
  · have hA : mayAttrM r.ino r.gen r.kind r.mode r.size = true ∧ wordOk r.count = true := by simp [mayM, hp, h0, (by decide : (0 : Int) ∈ codeE)] at hm; exact ⟨hm.1.2, hm.1.1⟩
    obtain ⟨i, g, k, m, s, ⟨e1, e2, e3, e4, e5⟩, hi, hg, hk, hmm, hs⟩ := mayAttr_nat hA.1
    obtain ⟨c, e6, hc⟩ := word_nat hA.2
    rw [e1, e2, e3, e4, e5, e6]
    refine c_buf true v0 (k := ?_)
    rintro q0 c0 rfl hc0 hm0
    repeat (first | refine o_v (k := ?_) | refine c_seq ?_ | refine c_region ?_ | refine o_nil ?_ | refine e_then_normal ?_ | refine o_store (k := ?_) | refine c_true (h1 := ?_) | refine c_false (h1 := ?_) | refine c_ret ?_ | refine c_skip ?_ | refine e_then_ret ?_ | refine c_block ?_ | refine c_exit ?_ | refine e_then_exit ?_ | refine e_block_exit ?_ | refine e_block_normal ?_ | refine e_block_ret ?_ | refine o_box (k := fun _ => ?_) | refine o_alloc (k := fun _ => ?_) | refine e_norm ?_ | refine o_ung (k := ?_) | refine o_k (k := ?_) | refine s_v (k := ?_) | refine s_w (k := ?_) | refine s_k (k := ?_) | refine s_nil ?_ | refine e_block_exit_ne rfl ?_)
    refine o_call (u32_ok true q0 S c0 c (by omega) hc0 hc) (k := ?_)
    rintro v _ rfl
    dsimp only [List.cons_append, List.nil_append]
    refine o_buf true v (k := ?_)
    rintro q3 c3 rfl hc3 hm3
    have hl3 : (S ++ w32 c).length = 8 := by rw [List.length_append, hsl]; rfl
    repeat (first | refine o_v (k := ?_) | refine c_seq ?_ | refine c_region ?_ | refine o_nil ?_ | refine e_then_normal ?_ | refine o_store (k := ?_) | refine c_true (h1 := ?_) | refine c_false (h1 := ?_) | refine c_ret ?_ | refine c_skip ?_ | refine e_then_ret ?_ | refine c_block ?_ | refine c_exit ?_ | refine e_then_exit ?_ | refine e_block_exit ?_ | refine e_block_normal ?_ | refine e_block_ret ?_ | refine o_box (k := fun _ => ?_) | refine o_alloc (k := fun _ => ?_) | refine e_norm ?_ | refine o_ung (k := ?_) | refine o_k (k := ?_) | refine s_v (k := ?_) | refine s_w (k := ?_) | refine s_k (k := ?_) | refine s_nil ?_ | refine e_block_exit_ne rfl ?_)
    refine o_call (layAttr_ok true q3 (S ++ w32 c) c3 i g k m s (by omega) hc3 hi hg hk hmm hs) (k := ?_)
    rintro v _ rfl
    dsimp only [List.cons_append, List.nil_append]
    repeat (first | refine o_v (k := ?_) | refine c_seq ?_ | refine c_region ?_ | refine o_nil ?_ | refine e_then_normal ?_ | refine o_store (k := ?_) | refine c_true (h1 := ?_) | refine c_false (h1 := ?_) | refine c_ret ?_ | refine c_skip ?_ | refine e_then_ret ?_ | refine c_block ?_ | refine c_exit ?_ | refine e_then_exit ?_ | refine e_block_exit ?_ | refine e_block_normal ?_ | refine e_block_ret ?_ | refine o_box (k := fun _ => ?_) | refine o_alloc (k := fun _ => ?_) | refine e_norm ?_ | refine o_ung (k := ?_) | refine o_k (k := ?_) | refine s_v (k := ?_) | refine s_w (k := ?_) | refine s_k (k := ?_) | refine s_nil ?_ | refine e_block_exit_ne rfl ?_)
    have hB : ansB 7 r = S ++ w32 c ++ w32 i ++ w32 g ++ w32 k ++ w32 m ++ w32 s := by simp [ansB, h0, attrB, e1, e2, e3, e4, e5, e6, ← hS]
    rw [hB]
    exact e_2 (h1 := rs_tmp rfl) (h2 := rs_tmp rfl) (H' := [bufA v (S ++ w32 c ++ w32 i ++ w32 g ++ w32 k ++ w32 m ++ w32 s), tabA]) (hT := ⟨v, rfl, rfl⟩)
  · have hA : mayAttrM r.ino r.gen r.kind r.mode r.size = true := by simp [mayM, hp, h0, (by decide : (0 : Int) ∈ codeE)] at hm; exact hm.1
    obtain ⟨i, g, k, m, s, ⟨e1, e2, e3, e4, e5⟩, hi, hg, hk, hmm, hs⟩ := mayAttr_nat hA
    rw [e1, e2, e3, e4, e5]
    refine c_buf true v0 (k := ?_)
    rintro q0 c0 rfl hc0 hm0
    repeat (first | refine o_v (k := ?_) | refine c_seq ?_ | refine c_region ?_ | refine o_nil ?_ | refine e_then_normal ?_ | refine o_store (k := ?_) | refine c_true (h1 := ?_) | refine c_false (h1 := ?_) | refine c_ret ?_ | refine c_skip ?_ | refine e_then_ret ?_ | refine c_block ?_ | refine c_exit ?_ | refine e_then_exit ?_ | refine e_block_exit ?_ | refine e_block_normal ?_ | refine e_block_ret ?_ | refine o_box (k := fun _ => ?_) | refine o_alloc (k := fun _ => ?_) | refine e_norm ?_ | refine o_ung (k := ?_) | refine o_k (k := ?_) | refine s_v (k := ?_) | refine s_w (k := ?_) | refine s_k (k := ?_) | refine s_nil ?_ | refine e_block_exit_ne rfl ?_)
    refine o_call (layAttr_ok true q0 S c0 i g k m s (by omega) hc0 hi hg hk hmm hs) (k := ?_)
    rintro v _ rfl
    dsimp only [List.cons_append, List.nil_append]
    repeat (first | refine o_v (k := ?_) | refine c_seq ?_ | refine c_region ?_ | refine o_nil ?_ | refine e_then_normal ?_ | refine o_store (k := ?_) | refine c_true (h1 := ?_) | refine c_false (h1 := ?_) | refine c_ret ?_ | refine c_skip ?_ | refine e_then_ret ?_ | refine c_block ?_ | refine c_exit ?_ | refine e_then_exit ?_ | refine e_block_exit ?_ | refine e_block_normal ?_ | refine e_block_ret ?_ | refine o_box (k := fun _ => ?_) | refine o_alloc (k := fun _ => ?_) | refine e_norm ?_ | refine o_ung (k := ?_) | refine o_k (k := ?_) | refine s_v (k := ?_) | refine s_w (k := ?_) | refine s_k (k := ?_) | refine s_nil ?_ | refine e_block_exit_ne rfl ?_)
    have hB : ansB 8 r = S ++ w32 i ++ w32 g ++ w32 k ++ w32 m ++ w32 s := by simp [ansB, h0, attrB, e1, e2, e3, e4, e5, ← hS]
    rw [hB]
    exact e_2 (h1 := rs_tmp rfl) (h2 := rs_tmp rfl) (H' := [bufA v (S ++ w32 i ++ w32 g ++ w32 k ++ w32 m ++ w32 s), tabA]) (hT := ⟨v, rfl, rfl⟩)
  · have hA : mayAttrM r.ino r.gen r.kind r.mode r.size = true := by simp [mayM, hp, h0, (by decide : (0 : Int) ∈ codeE)] at hm; exact hm.1
    obtain ⟨i, g, k, m, s, ⟨e1, e2, e3, e4, e5⟩, hi, hg, hk, hmm, hs⟩ := mayAttr_nat hA
    rw [e1, e2, e3, e4, e5]
    refine c_buf true v0 (k := ?_)
    rintro q0 c0 rfl hc0 hm0
    repeat (first | refine o_v (k := ?_) | refine c_seq ?_ | refine c_region ?_ | refine o_nil ?_ | refine e_then_normal ?_ | refine o_store (k := ?_) | refine c_true (h1 := ?_) | refine c_false (h1 := ?_) | refine c_ret ?_ | refine c_skip ?_ | refine e_then_ret ?_ | refine c_block ?_ | refine c_exit ?_ | refine e_then_exit ?_ | refine e_block_exit ?_ | refine e_block_normal ?_ | refine e_block_ret ?_ | refine o_box (k := fun _ => ?_) | refine o_alloc (k := fun _ => ?_) | refine e_norm ?_ | refine o_ung (k := ?_) | refine o_k (k := ?_) | refine s_v (k := ?_) | refine s_w (k := ?_) | refine s_k (k := ?_) | refine s_nil ?_ | refine e_block_exit_ne rfl ?_)
    refine o_call (layAttr_ok true q0 S c0 i g k m s (by omega) hc0 hi hg hk hmm hs) (k := ?_)
    rintro v _ rfl
    dsimp only [List.cons_append, List.nil_append]
    repeat (first | refine o_v (k := ?_) | refine c_seq ?_ | refine c_region ?_ | refine o_nil ?_ | refine e_then_normal ?_ | refine o_store (k := ?_) | refine c_true (h1 := ?_) | refine c_false (h1 := ?_) | refine c_ret ?_ | refine c_skip ?_ | refine e_then_ret ?_ | refine c_block ?_ | refine c_exit ?_ | refine e_then_exit ?_ | refine e_block_exit ?_ | refine e_block_normal ?_ | refine e_block_ret ?_ | refine o_box (k := fun _ => ?_) | refine o_alloc (k := fun _ => ?_) | refine e_norm ?_ | refine o_ung (k := ?_) | refine o_k (k := ?_) | refine s_v (k := ?_) | refine s_w (k := ?_) | refine s_k (k := ?_) | refine s_nil ?_ | refine e_block_exit_ne rfl ?_)
    have hB : ansB 9 r = S ++ w32 i ++ w32 g ++ w32 k ++ w32 m ++ w32 s := by simp [ansB, h0, attrB, e1, e2, e3, e4, e5, ← hS]
    rw [hB]
    exact e_2 (h1 := rs_tmp rfl) (h2 := rs_tmp rfl) (H' := [bufA v (S ++ w32 i ++ w32 g ++ w32 k ++ w32 m ++ w32 s), tabA]) (hT := ⟨v, rfl, rfl⟩)
  · repeat (first | refine o_v (k := ?_) | refine c_seq ?_ | refine c_region ?_ | refine o_nil ?_ | refine e_then_normal ?_ | refine o_store (k := ?_) | refine c_true (h1 := ?_) | refine c_false (h1 := ?_) | refine c_ret ?_ | refine c_skip ?_ | refine e_then_ret ?_ | refine c_block ?_ | refine c_exit ?_ | refine e_then_exit ?_ | refine e_block_exit ?_ | refine e_block_normal ?_ | refine e_block_ret ?_ | refine o_box (k := fun _ => ?_) | refine o_alloc (k := fun _ => ?_) | refine e_norm ?_ | refine o_ung (k := ?_) | refine o_k (k := ?_) | refine s_v (k := ?_) | refine s_w (k := ?_) | refine s_k (k := ?_) | refine s_nil ?_ | refine e_block_exit_ne rfl ?_)
    have hB : ansB 12 r = S := by simp [ansB, h0, ← hS]
    rw [hB]
    exact e_2 (h1 := rs_tmp rfl) (h2 := rs_tmp rfl) (H' := [bufA v0 S, tabA]) (hT := ⟨v0, rfl, rfl⟩)
  · repeat (first | refine o_v (k := ?_) | refine c_seq ?_ | refine c_region ?_ | refine o_nil ?_ | refine e_then_normal ?_ | refine o_store (k := ?_) | refine c_true (h1 := ?_) | refine c_false (h1 := ?_) | refine c_ret ?_ | refine c_skip ?_ | refine e_then_ret ?_ | refine c_block ?_ | refine c_exit ?_ | refine e_then_exit ?_ | refine e_block_exit ?_ | refine e_block_normal ?_ | refine e_block_ret ?_ | refine o_box (k := fun _ => ?_) | refine o_alloc (k := fun _ => ?_) | refine e_norm ?_ | refine o_ung (k := ?_) | refine o_k (k := ?_) | refine s_v (k := ?_) | refine s_w (k := ?_) | refine s_k (k := ?_) | refine s_nil ?_ | refine e_block_exit_ne rfl ?_)
    have hB : ansB 13 r = S := by simp [ansB, h0, ← hS]
    rw [hB]
    exact e_2 (h1 := rs_tmp rfl) (h2 := rs_tmp rfl) (H' := [bufA v0 S, tabA]) (hT := ⟨v0, rfl, rfl⟩)
  · repeat (first | refine o_v (k := ?_) | refine c_seq ?_ | refine c_region ?_ | refine o_nil ?_ | refine e_then_normal ?_ | refine o_store (k := ?_) | refine c_true (h1 := ?_) | refine c_false (h1 := ?_) | refine c_ret ?_ | refine c_skip ?_ | refine e_then_ret ?_ | refine c_block ?_ | refine c_exit ?_ | refine e_then_exit ?_ | refine e_block_exit ?_ | refine e_block_normal ?_ | refine e_block_ret ?_ | refine o_box (k := fun _ => ?_) | refine o_alloc (k := fun _ => ?_) | refine e_norm ?_ | refine o_ung (k := ?_) | refine o_k (k := ?_) | refine s_v (k := ?_) | refine s_w (k := ?_) | refine s_k (k := ?_) | refine s_nil ?_ | refine e_block_exit_ne rfl ?_)
    have hB : ansB 14 r = S := by simp [ansB, h0, ← hS]
    rw [hB]
    exact e_2 (h1 := rs_tmp rfl) (h2 := rs_tmp rfl) (H' := [bufA v0 S, tabA]) (hT := ⟨v0, rfl, rfl⟩)
  · have hE : mayEntsM r.ents = true := by simp [mayM, hp, h0, (by decide : (0 : Int) ∈ codeE)] at hm; exact hm.1
    have hlen : r.ents.length ≤ 64 := by simp [mayEntsM] at hE; exact hE.1
    have hall : ∀ e ∈ r.ents, mayEnt e = true := by simp only [mayEntsM, Bool.and_eq_true, List.all_eq_true] at hE; exact hE.2
    have hel : ∀ e ∈ r.ents, e.1.length ≤ 32 := fun e he => by
      have := hall e he
      simp only [mayEnt, Bool.and_eq_true] at this
      exact nameOk_len this.1
    refine c_buf true v0 (k := ?_)
    rintro q0 c0 rfl hc0 hm0
    repeat (first | refine o_v (k := ?_) | refine c_seq ?_ | refine c_region ?_ | refine o_nil ?_ | refine e_then_normal ?_ | refine o_store (k := ?_) | refine c_true (h1 := ?_) | refine c_false (h1 := ?_) | refine c_ret ?_ | refine c_skip ?_ | refine e_then_ret ?_ | refine c_block ?_ | refine c_exit ?_ | refine e_then_exit ?_ | refine e_block_exit ?_ | refine e_block_normal ?_ | refine e_block_ret ?_ | refine o_box (k := fun _ => ?_) | refine o_alloc (k := fun _ => ?_) | refine e_norm ?_ | refine o_ung (k := ?_) | refine o_k (k := ?_) | refine s_v (k := ?_) | refine s_w (k := ?_) | refine s_k (k := ?_) | refine s_nil ?_ | refine e_block_exit_ne rfl ?_)
    refine o_call (u32_ok true q0 S c0 r.ents.length (by omega) hc0 (by omega)) (k := ?_)
    rintro v _ rfl
    dsimp only [List.cons_append, List.nil_append]
    repeat (first | refine o_v (k := ?_) | refine c_seq ?_ | refine c_region ?_ | refine o_nil ?_ | refine e_then_normal ?_ | refine o_store (k := ?_) | refine c_true (h1 := ?_) | refine c_false (h1 := ?_) | refine c_ret ?_ | refine c_skip ?_ | refine e_then_ret ?_ | refine c_block ?_ | refine c_exit ?_ | refine e_then_exit ?_ | refine e_block_exit ?_ | refine e_block_normal ?_ | refine e_block_ret ?_ | refine o_box (k := fun _ => ?_) | refine o_alloc (k := fun _ => ?_) | refine e_norm ?_ | refine o_ung (k := ?_) | refine o_k (k := ?_) | refine s_v (k := ?_) | refine s_w (k := ?_) | refine s_k (k := ?_) | refine s_nil ?_ | refine e_block_exit_ne rfl ?_)
    refine c_loop (α := Value × Nat) (fun x => [(64, .int .i64 x.2), (6, x.1), (63, .int .i64 r.ents.length), (62, .slice q2 r.ents.length c2), (5, .int .i64 0), (3, .pointer (some ⟨rb, 0, none⟩))]) (fun x => [bufA x.1 (S ++ w32 r.ents.length ++ entsB (r.ents.take x.2)), cellsA o2 q2 (entsC r.ents), blk rb 80 (resC r q1 c1 q2 c2) (0, 0), tabA]) (fun x => x.2 ≤ r.ents.length) (fun x => r.ents.length - x.2) (v, 0) (by simp) ⟨rfl, rfl, rfl, rfl, rfl, rfl, trivial⟩ (fun w hw => by
      have := to_keep [bufA v (S ++ w32 r.ents.length), cellsA o2 q2 (entsC r.ents), blk rb 80 (resC r q1 c1 q2 c2) (0, 0), tabA] hw
      simpa [entsB] using this) ?_
    rintro ⟨v, k⟩ hk
    (try dsimp only at hk ⊢)
    have hbl := entsB_len (r.ents.take k) (fun e he => hel e (List.mem_of_mem_take he))
    have hbk : (r.ents.take k).length ≤ 64 := by rw [List.length_take]; omega
    have hpl : (S ++ w32 r.ents.length ++ entsB (r.ents.take k)).length ≤ 4000 := by rw [List.length_append, List.length_append, hsl, w32_length]; omega
    repeat (first | refine o_v (k := ?_) | refine c_seq ?_ | refine c_region ?_ | refine o_nil ?_ | refine e_then_normal ?_ | refine o_store (k := ?_) | refine c_true (h1 := ?_) | refine c_false (h1 := ?_) | refine c_ret ?_ | refine c_skip ?_ | refine e_then_ret ?_ | refine c_block ?_ | refine c_exit ?_ | refine e_then_exit ?_ | refine e_block_exit ?_ | refine e_block_normal ?_ | refine e_block_ret ?_ | refine o_box (k := fun _ => ?_) | refine o_alloc (k := fun _ => ?_) | refine e_norm ?_ | refine o_ung (k := ?_) | refine o_k (k := ?_) | refine s_v (k := ?_) | refine s_w (k := ?_) | refine s_k (k := ?_) | refine s_nil ?_ | refine e_block_exit_ne rfl ?_)
    refine c_if (h1 := fun h => ?_) (h2 := fun h => ?_)
    · have hlt : k < r.ents.length := by simpa using h
      have hget : r.ents[k]? = some r.ents[k] := List.getElem?_eq_getElem hlt
      have hmk := hall _ (List.getElem_mem hlt)
      have hnl := hel _ (List.getElem_mem hlt)
      have hbt := entsB_take r.ents k hlt
      obtain ⟨⟨nm, ei, eg⟩, hek⟩ : ∃ e, r.ents[k] = e := ⟨_, rfl⟩
      rw [hek] at hget hmk hnl hbt
      simp only [mayEnt, Bool.and_eq_true] at hmk
      obtain ⟨hm1, hm2, hm3⟩ := hmk
      obtain ⟨ei, rfl, hei⟩ := word_nat hm2
      obtain ⟨eg, rfl, heg⟩ := word_nat hm3
      dsimp only at hnl
      refine c_at o2 q2 (entsC r.ents) (entsC_ne (l := r.ents) (by intro e; simp [e] at hlt)) (k := ?_)
      rintro b1 p1 rfl
      repeat (first | refine o_v (k := ?_) | refine c_seq ?_ | refine c_region ?_ | refine o_nil ?_ | refine e_then_normal ?_ | refine o_store (k := ?_) | refine c_true (h1 := ?_) | refine c_false (h1 := ?_) | refine c_ret ?_ | refine c_skip ?_ | refine e_then_ret ?_ | refine c_block ?_ | refine c_exit ?_ | refine e_then_exit ?_ | refine e_block_exit ?_ | refine e_block_normal ?_ | refine e_block_ret ?_ | refine o_box (k := fun _ => ?_) | refine o_alloc (k := fun _ => ?_) | refine e_norm ?_ | refine o_ung (k := ?_) | refine o_k (k := ?_) | refine s_v (k := ?_) | refine s_w (k := ?_) | refine s_k (k := ?_) | refine s_nil ?_ | refine e_block_exit_ne rfl ?_)
      refine o_y (y_loadA rfl (CellsIn.row (rows := r.ents.map entC) (us := entC (nm, ↑ei, ↑eg)) (by repeat (first | exact InA.here | apply InA.there)) (entC_len r.ents) (by rw [List.getElem?_map, hget]; rfl) rfl) rfl) rfl ?_
      repeat (first | refine o_v (k := ?_) | refine c_seq ?_ | refine c_region ?_ | refine o_nil ?_ | refine e_then_normal ?_ | refine o_store (k := ?_) | refine c_true (h1 := ?_) | refine c_false (h1 := ?_) | refine c_ret ?_ | refine c_skip ?_ | refine e_then_ret ?_ | refine c_block ?_ | refine c_exit ?_ | refine e_then_exit ?_ | refine e_block_exit ?_ | refine e_block_normal ?_ | refine e_block_ret ?_ | refine o_box (k := fun _ => ?_) | refine o_alloc (k := fun _ => ?_) | refine e_norm ?_ | refine o_ung (k := ?_) | refine o_k (k := ?_) | refine s_v (k := ?_) | refine s_w (k := ?_) | refine s_k (k := ?_) | refine s_nil ?_ | refine e_block_exit_ne rfl ?_)
      refine o_s2b (l := nm) (k := fun vs => ?_)
      refine o_buf true vs (k := ?_)
      rintro q5 c5 rfl hc5 hm5
      refine o_buf true v (k := ?_)
      rintro q6 c6 rfl hc6 hm6
      refine o_call (text_ok true true q6 q5 (S ++ w32 r.ents.length ++ entsB (r.ents.take k)) nm c6 c5 (by omega) hc6 (by omega)) (k := ?_)
      rintro v _ rfl
      dsimp only [List.cons_append, List.nil_append]
      refine o_buf true v (k := ?_)
      rintro q7 c7 rfl hc7 hm7
      have htl := textB_length nm
      have hpn := padN_lt nm.length
      repeat (first | refine o_v (k := ?_) | refine c_seq ?_ | refine c_region ?_ | refine o_nil ?_ | refine e_then_normal ?_ | refine o_store (k := ?_) | refine c_true (h1 := ?_) | refine c_false (h1 := ?_) | refine c_ret ?_ | refine c_skip ?_ | refine e_then_ret ?_ | refine c_block ?_ | refine c_exit ?_ | refine e_then_exit ?_ | refine e_block_exit ?_ | refine e_block_normal ?_ | refine e_block_ret ?_ | refine o_box (k := fun _ => ?_) | refine o_alloc (k := fun _ => ?_) | refine e_norm ?_ | refine o_ung (k := ?_) | refine o_k (k := ?_) | refine s_v (k := ?_) | refine s_w (k := ?_) | refine s_k (k := ?_) | refine s_nil ?_ | refine e_block_exit_ne rfl ?_)
      refine o_call (layHandle_ok true q7 (S ++ w32 r.ents.length ++ entsB (r.ents.take k) ++ textB nm) c7 ei eg (by rw [List.length_append, htl]; omega) hc7 hei heg) (k := ?_)
      rintro v _ rfl
      dsimp only [List.cons_append, List.nil_append]
      repeat (first | refine o_v (k := ?_) | refine c_seq ?_ | refine c_region ?_ | refine o_nil ?_ | refine e_then_normal ?_ | refine o_store (k := ?_) | refine c_true (h1 := ?_) | refine c_false (h1 := ?_) | refine c_ret ?_ | refine c_skip ?_ | refine e_then_ret ?_ | refine c_block ?_ | refine c_exit ?_ | refine e_then_exit ?_ | refine e_block_exit ?_ | refine e_block_normal ?_ | refine e_block_ret ?_ | refine o_box (k := fun _ => ?_) | refine o_alloc (k := fun _ => ?_) | refine e_norm ?_ | refine o_ung (k := ?_) | refine o_k (k := ?_) | refine s_v (k := ?_) | refine s_w (k := ?_) | refine s_k (k := ?_) | refine s_nil ?_ | refine e_block_exit_ne rfl ?_)
      refine e_loop (v, k + 1) ?_ ?_ ?_ ?_
      · show k + 1 ≤ _; omega
      · show _ - (k + 1) < _ - k; omega
      · exact ⟨rfl, rfl, rfl, rfl, rfl, rfl, trivial⟩
      · intro w hw
        have hfin : S ++ w32 r.ents.length ++ entsB (r.ents.take (k + 1)) = S ++ w32 r.ents.length ++ entsB (r.ents.take k) ++ textB nm ++ w32 ei ++ w32 eg := by rw [hbt, entB]; simp
        simp only [hfin]
        exact to_keep _ hw
    · have hkl : k = r.ents.length := by simp at h; omega
      subst hkl
      rw [List.take_length] at hpl ⊢
      repeat (first | refine o_v (k := ?_) | refine c_seq ?_ | refine c_region ?_ | refine o_nil ?_ | refine e_then_normal ?_ | refine o_store (k := ?_) | refine c_true (h1 := ?_) | refine c_false (h1 := ?_) | refine c_ret ?_ | refine c_skip ?_ | refine e_then_ret ?_ | refine c_block ?_ | refine c_exit ?_ | refine e_then_exit ?_ | refine e_block_exit ?_ | refine e_block_normal ?_ | refine e_block_ret ?_ | refine o_box (k := fun _ => ?_) | refine o_alloc (k := fun _ => ?_) | refine e_norm ?_ | refine o_ung (k := ?_) | refine o_k (k := ?_) | refine s_v (k := ?_) | refine s_w (k := ?_) | refine s_k (k := ?_) | refine s_nil ?_ | refine e_block_exit_ne rfl ?_)
      refine o_buf true v (k := ?_)
      rintro q7 c7 rfl hc7 hm7
      repeat (first | refine o_v (k := ?_) | refine c_seq ?_ | refine c_region ?_ | refine o_nil ?_ | refine e_then_normal ?_ | refine o_store (k := ?_) | refine c_true (h1 := ?_) | refine c_false (h1 := ?_) | refine c_ret ?_ | refine c_skip ?_ | refine e_then_ret ?_ | refine c_block ?_ | refine c_exit ?_ | refine e_then_exit ?_ | refine e_block_exit ?_ | refine e_block_normal ?_ | refine e_block_ret ?_ | refine o_box (k := fun _ => ?_) | refine o_alloc (k := fun _ => ?_) | refine e_norm ?_ | refine o_ung (k := ?_) | refine o_k (k := ?_) | refine s_v (k := ?_) | refine s_w (k := ?_) | refine s_k (k := ?_) | refine s_nil ?_ | refine e_block_exit_ne rfl ?_)
      refine o_call (bool_ok true q7 _ c7 r.eof (by omega) hc7) (k := ?_)
      rintro v _ rfl
      dsimp only [List.cons_append, List.nil_append]
      repeat (first | refine o_v (k := ?_) | refine c_seq ?_ | refine c_region ?_ | refine o_nil ?_ | refine e_then_normal ?_ | refine o_store (k := ?_) | refine c_true (h1 := ?_) | refine c_false (h1 := ?_) | refine c_ret ?_ | refine c_skip ?_ | refine e_then_ret ?_ | refine c_block ?_ | refine c_exit ?_ | refine e_then_exit ?_ | refine e_block_exit ?_ | refine e_block_normal ?_ | refine e_block_ret ?_ | refine o_box (k := fun _ => ?_) | refine o_alloc (k := fun _ => ?_) | refine e_norm ?_ | refine o_ung (k := ?_) | refine o_k (k := ?_) | refine s_v (k := ?_) | refine s_w (k := ?_) | refine s_k (k := ?_) | refine s_nil ?_ | refine e_block_exit_ne rfl ?_)
      have hB : ansB 16 r = S ++ w32 r.ents.length ++ entsB r.ents ++ w32 r.eof.toNat := by simp [ansB, h0, ← hS]
      rw [hB]
      exact e_2 (h1 := rs_tmp rfl) (h2 := rs_tmp rfl) (H' := [bufA v (S ++ w32 r.ents.length ++ entsB r.ents ++ w32 r.eof.toNat), tabA]) (hT := ⟨v, rfl, rfl⟩)
end Go.Proofs.YtlkgdidmhmaneaaGreatDoor
