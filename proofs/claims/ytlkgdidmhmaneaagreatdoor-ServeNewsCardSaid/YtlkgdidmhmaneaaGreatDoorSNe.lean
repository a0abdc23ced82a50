/- A part of the proof: walks and laws that the last part joins. -/
import Derived.Test.YtlkgdidmhmaneaaGreatDoorSNd
/- rows of entries; bytes.Equal, slices.Equal, answers.Same: what they leave. -/
namespace Go.Proofs.YtlkgdidmhmaneaaGreatDoor
open Go Go.RowKit
attribute [local irreducible] Yl OG CG EG SG AG  CellIn CellsIn BlkIn InA TakeA SplitA SubA Ct ResOk Good Held blk cellsA exA
def entC (e : Ent) : List Value := [str e.1, .int .i64 e.2.1, .int .i64 e.2.2]
def entsC (l : List Ent) : List Value := (l.map entC).flatten
theorem entC_len (l : List Ent) : ∀ r ∈ l.map entC, r.length = 3 := by
  intro r hr
  obtain ⟨e, _, rfl⟩ := List.mem_map.1 hr
  rfl
@[simp] theorem entsC_length (l : List Ent) : (entsC l).length = l.length * 3 := by
  induction l with
  | nil => rfl
  | cons e l ih => simp only [entsC, List.map_cons, List.flatten_cons, List.length_append, List.length_cons] at ih ⊢; rw [ih]; simp [entC]; omega
theorem entsC_ne {l : List Ent} (h : l ≠ []) : entsC l ≠ [] := by cases l <;> simp_all [entsC, entC]

set_option maxRecDepth 20000 in
set_option maxHeartbeats 4000000 in
theorem bytesEq_ok (o1 o2 : Bool) (q1 q2 : Option Addr) (l1 l2 : List UInt8) (c1 c2 : Nat) : Ct Tryz.prog 145 [.slice q1 l1.length c1, .slice q2 l2.length c2] [bytesA o1 q1 l1, bytesA o2 q2 l2] (Ret fun u H => u = .bool (decide (l1 = l2)) ∧ H = [bytesA o1 q1 l1, bytesA o2 q2 l2]) := by
  refine fn_enter Tryz.func145 rfl Tryz.ntmps145 rfl fun _ _ _ => ?_
  repeat (first | refine o_v (k := ?_) | refine c_seq ?_ | refine c_region ?_ | refine o_nil ?_ | refine e_then_normal ?_ | refine o_store (k := ?_) | refine c_true (h1 := ?_) | refine c_false (h1 := ?_) | refine c_ret ?_ | refine c_skip ?_ | refine e_then_ret ?_ | refine c_block ?_ | refine c_exit ?_ | refine e_then_exit ?_ | refine e_block_exit ?_ | refine e_block_normal ?_ | refine e_block_ret ?_ | refine o_box (k := fun _ => ?_) | refine o_alloc (k := fun _ => ?_) | refine e_norm ?_ | refine o_ung (k := ?_) | refine o_k (k := ?_) | refine s_v (k := ?_) | refine s_w (k := ?_) | refine s_k (k := ?_) | refine s_nil ?_ | refine e_block_exit_ne rfl ?_)
  refine o_y (y_b2s (own := o1) rfl (by repeat (first | exact InA.here | apply InA.there))) rfl ?_
  repeat (first | refine o_v (k := ?_) | refine c_seq ?_ | refine c_region ?_ | refine o_nil ?_ | refine e_then_normal ?_ | refine o_store (k := ?_) | refine c_true (h1 := ?_) | refine c_false (h1 := ?_) | refine c_ret ?_ | refine c_skip ?_ | refine e_then_ret ?_ | refine c_block ?_ | refine c_exit ?_ | refine e_then_exit ?_ | refine e_block_exit ?_ | refine e_block_normal ?_ | refine e_block_ret ?_ | refine o_box (k := fun _ => ?_) | refine o_alloc (k := fun _ => ?_) | refine e_norm ?_ | refine o_ung (k := ?_) | refine o_k (k := ?_) | refine s_v (k := ?_) | refine s_w (k := ?_) | refine s_k (k := ?_) | refine s_nil ?_ | refine e_block_exit_ne rfl ?_)
  refine o_y (y_b2s (own := o2) rfl (by repeat (first | exact InA.here | apply InA.there))) rfl ?_
  repeat (first | refine o_v (k := ?_) | refine c_seq ?_ | refine c_region ?_ | refine o_nil ?_ | refine e_then_normal ?_ | refine o_store (k := ?_) | refine c_true (h1 := ?_) | refine c_false (h1 := ?_) | refine c_ret ?_ | refine c_skip ?_ | refine e_then_ret ?_ | refine c_block ?_ | refine c_exit ?_ | refine e_then_exit ?_ | refine e_block_exit ?_ | refine e_block_normal ?_ | refine e_block_ret ?_ | refine o_box (k := fun _ => ?_) | refine o_alloc (k := fun _ => ?_) | refine e_norm ?_ | refine o_ung (k := ?_) | refine o_k (k := ?_) | refine s_v (k := ?_) | refine s_w (k := ?_) | refine s_k (k := ?_) | refine s_nil ?_ | refine e_block_exit_ne rfl ?_)
  exact e_1 (h1 := rs_tmp rfl) (H' := [bytesA o1 q1 l1, bytesA o2 q2 l2]) (hT := ⟨rfl, rfl⟩)

set_option maxRecDepth 20000 in
set_option maxHeartbeats 4000000 in
theorem entsEq_ok (o1 o2 : Bool) (q1 q2 : Option Addr) (l1 l2 : List Ent) (c1 c2 : Nat) (h1 : l1.length ≤ 1000000) (h2 : l2.length ≤ 1000000) : Ct Tryz.prog 146 [.slice q1 l1.length c1, .slice q2 l2.length c2] [cellsA o1 q1 (entsC l1), cellsA o2 q2 (entsC l2)] (Ret fun u H => u = .bool (decide (l1 = l2)) ∧ H = [cellsA o1 q1 (entsC l1), cellsA o2 q2 (entsC l2)]) := by
  refine fn_enter Tryz.func146 rfl Tryz.ntmps146 rfl fun _ _ _ => ?_
  repeat (first | refine o_v (k := ?_) | refine c_seq ?_ | refine c_region ?_ | refine o_nil ?_ | refine e_then_normal ?_ | refine o_store (k := ?_) | refine c_true (h1 := ?_) | refine c_false (h1 := ?_) | refine c_ret ?_ | refine c_skip ?_ | refine e_then_ret ?_ | refine c_block ?_ | refine c_exit ?_ | refine e_then_exit ?_ | refine e_block_exit ?_ | refine e_block_normal ?_ | refine e_block_ret ?_ | refine o_box (k := fun _ => ?_) | refine o_alloc (k := fun _ => ?_) | refine e_norm ?_ | refine o_ung (k := ?_) | refine o_k (k := ?_) | refine s_v (k := ?_) | refine s_w (k := ?_) | refine s_k (k := ?_) | refine s_nil ?_ | refine e_block_exit_ne rfl ?_)
  refine c_if (h1 := fun h => ?_) (h2 := fun h => ?_)
  · repeat (first | refine o_v (k := ?_) | refine c_seq ?_ | refine c_region ?_ | refine o_nil ?_ | refine e_then_normal ?_ | refine o_store (k := ?_) | refine c_true (h1 := ?_) | refine c_false (h1 := ?_) | refine c_ret ?_ | refine c_skip ?_ | refine e_then_ret ?_ | refine c_block ?_ | refine c_exit ?_ | refine e_then_exit ?_ | refine e_block_exit ?_ | refine e_block_normal ?_ | refine e_block_ret ?_ | refine o_box (k := fun _ => ?_) | refine o_alloc (k := fun _ => ?_) | refine e_norm ?_ | refine o_ung (k := ?_) | refine o_k (k := ?_) | refine s_v (k := ?_) | refine s_w (k := ?_) | refine s_k (k := ?_) | refine s_nil ?_ | refine e_block_exit_ne rfl ?_)
    have hne : l1 ≠ l2 := fun e => by subst e; simp at h
    exact e_1 (h1 := rs_tmp rfl) (H' := [cellsA o1 q1 (entsC l1), cellsA o2 q2 (entsC l2)]) (hT := ⟨by simp [hne], rfl⟩)
  have hlen : l1.length = l2.length := by simp at h; omega
  repeat (first | refine o_v (k := ?_) | refine c_seq ?_ | refine c_region ?_ | refine o_nil ?_ | refine e_then_normal ?_ | refine o_store (k := ?_) | refine c_true (h1 := ?_) | refine c_false (h1 := ?_) | refine c_ret ?_ | refine c_skip ?_ | refine e_then_ret ?_ | refine c_block ?_ | refine c_exit ?_ | refine e_then_exit ?_ | refine e_block_exit ?_ | refine e_block_normal ?_ | refine e_block_ret ?_ | refine o_box (k := fun _ => ?_) | refine o_alloc (k := fun _ => ?_) | refine e_norm ?_ | refine o_ung (k := ?_) | refine o_k (k := ?_) | refine s_v (k := ?_) | refine s_w (k := ?_) | refine s_k (k := ?_) | refine s_nil ?_ | refine e_block_exit_ne rfl ?_)
  refine c_loop (α := Nat) (fun k => [(13, .int .i64 k), (12, .int .i64 l1.length), (0, .slice q1 l1.length c1), (1, .slice q2 l2.length c2)]) (fun _ => [cellsA o1 q1 (entsC l1), cellsA o2 q2 (entsC l2)]) (fun k => k ≤ l1.length ∧ l1.take k = l2.take k) (fun k => l1.length - k) 0 ⟨by omega, by simp⟩ ⟨rfl, rfl, rfl, rfl, trivial⟩ (fun _ h => h) ?_
  rintro k ⟨hk, hz⟩
  (try dsimp only at hk ⊢)
  repeat (first | refine o_v (k := ?_) | refine c_seq ?_ | refine c_region ?_ | refine o_nil ?_ | refine e_then_normal ?_ | refine o_store (k := ?_) | refine c_true (h1 := ?_) | refine c_false (h1 := ?_) | refine c_ret ?_ | refine c_skip ?_ | refine e_then_ret ?_ | refine c_block ?_ | refine c_exit ?_ | refine e_then_exit ?_ | refine e_block_exit ?_ | refine e_block_normal ?_ | refine e_block_ret ?_ | refine o_box (k := fun _ => ?_) | refine o_alloc (k := fun _ => ?_) | refine e_norm ?_ | refine o_ung (k := ?_) | refine o_k (k := ?_) | refine s_v (k := ?_) | refine s_w (k := ?_) | refine s_k (k := ?_) | refine s_nil ?_ | refine e_block_exit_ne rfl ?_)
  refine c_if (h1 := fun h => ?_) (h2 := fun h => ?_)
  · have hlt : k < l1.length := by simpa using h
    have hlt2 : k < l2.length := by omega
    have g1 : (l1.map entC)[k]? = some (entC l1[k]) := by simp [hlt]
    have g2 : (l2.map entC)[k]? = some (entC l2[k]) := by simp [hlt2]
    refine c_at o1 q1 (entsC l1) (entsC_ne (by intro e; simp [e] at hlt)) (k := ?_)
    rintro b1 p1 rfl
    refine c_at o2 q2 (entsC l2) (entsC_ne (by intro e; simp [e] at hlt2)) (k := ?_)
    rintro b2 p2 rfl
    repeat (first | refine o_v (k := ?_) | refine c_seq ?_ | refine c_region ?_ | refine o_nil ?_ | refine e_then_normal ?_ | refine o_store (k := ?_) | refine c_true (h1 := ?_) | refine c_false (h1 := ?_) | refine c_ret ?_ | refine c_skip ?_ | refine e_then_ret ?_ | refine c_block ?_ | refine c_exit ?_ | refine e_then_exit ?_ | refine e_block_exit ?_ | refine e_block_normal ?_ | refine e_block_ret ?_ | refine o_box (k := fun _ => ?_) | refine o_alloc (k := fun _ => ?_) | refine e_norm ?_ | refine o_ung (k := ?_) | refine o_k (k := ?_) | refine s_v (k := ?_) | refine s_w (k := ?_) | refine s_k (k := ?_) | refine s_nil ?_ | refine e_block_exit_ne rfl ?_)
    refine c_still (P := Tryz.prog) 8 (by kernel_rfl) ?_
    repeat (first | refine o_v (k := ?_) | refine c_seq ?_ | refine c_region ?_ | refine o_nil ?_ | refine e_then_normal ?_ | refine o_store (k := ?_) | refine c_true (h1 := ?_) | refine c_false (h1 := ?_) | refine c_ret ?_ | refine c_skip ?_ | refine e_then_ret ?_ | refine c_block ?_ | refine c_exit ?_ | refine e_then_exit ?_ | refine e_block_exit ?_ | refine e_block_normal ?_ | refine e_block_ret ?_ | refine o_box (k := fun _ => ?_) | refine o_alloc (k := fun _ => ?_) | refine e_norm ?_ | refine o_ung (k := ?_) | refine o_k (k := ?_) | refine s_v (k := ?_) | refine s_w (k := ?_) | refine s_k (k := ?_) | refine s_nil ?_ | refine e_block_exit_ne rfl ?_)
    refine s_y (y_loadA rfl (CellsIn.row (rows := l1.map entC) (by repeat (first | exact InA.here | apply InA.there)) (entC_len l1) g1 rfl) rfl) rfl ?_
    repeat (first | refine o_v (k := ?_) | refine c_seq ?_ | refine c_region ?_ | refine o_nil ?_ | refine e_then_normal ?_ | refine o_store (k := ?_) | refine c_true (h1 := ?_) | refine c_false (h1 := ?_) | refine c_ret ?_ | refine c_skip ?_ | refine e_then_ret ?_ | refine c_block ?_ | refine c_exit ?_ | refine e_then_exit ?_ | refine e_block_exit ?_ | refine e_block_normal ?_ | refine e_block_ret ?_ | refine o_box (k := fun _ => ?_) | refine o_alloc (k := fun _ => ?_) | refine e_norm ?_ | refine o_ung (k := ?_) | refine o_k (k := ?_) | refine s_v (k := ?_) | refine s_w (k := ?_) | refine s_k (k := ?_) | refine s_nil ?_ | refine e_block_exit_ne rfl ?_)
    refine s_y (y_loadA rfl (CellsIn.row (rows := l2.map entC) (by repeat (first | exact InA.here | apply InA.there)) (entC_len l2) g2 rfl) rfl) rfl ?_
    repeat (first | refine o_v (k := ?_) | refine c_seq ?_ | refine c_region ?_ | refine o_nil ?_ | refine e_then_normal ?_ | refine o_store (k := ?_) | refine c_true (h1 := ?_) | refine c_false (h1 := ?_) | refine c_ret ?_ | refine c_skip ?_ | refine e_then_ret ?_ | refine c_block ?_ | refine c_exit ?_ | refine e_then_exit ?_ | refine e_block_exit ?_ | refine e_block_normal ?_ | refine e_block_ret ?_ | refine o_box (k := fun _ => ?_) | refine o_alloc (k := fun _ => ?_) | refine e_norm ?_ | refine o_ung (k := ?_) | refine o_k (k := ?_) | refine s_v (k := ?_) | refine s_w (k := ?_) | refine s_k (k := ?_) | refine s_nil ?_ | refine e_block_exit_ne rfl ?_)
    refine o_y (y_neE rfl rfl) rfl ?_
    repeat (first | refine o_v (k := ?_) | refine c_seq ?_ | refine c_region ?_ | refine o_nil ?_ | refine e_then_normal ?_ | refine o_store (k := ?_) | refine c_true (h1 := ?_) | refine c_false (h1 := ?_) | refine c_ret ?_ | refine c_skip ?_ | refine e_then_ret ?_ | refine c_block ?_ | refine c_exit ?_ | refine e_then_exit ?_ | refine e_block_exit ?_ | refine e_block_normal ?_ | refine e_block_ret ?_ | refine o_box (k := fun _ => ?_) | refine o_alloc (k := fun _ => ?_) | refine e_norm ?_ | refine o_ung (k := ?_) | refine o_k (k := ?_) | refine s_v (k := ?_) | refine s_w (k := ?_) | refine s_k (k := ?_) | refine s_nil ?_ | refine e_block_exit_ne rfl ?_)
    refine c_if (h1 := fun hc => ?_) (h2 := fun hc => ?_)
    · repeat (first | refine o_v (k := ?_) | refine c_seq ?_ | refine c_region ?_ | refine o_nil ?_ | refine e_then_normal ?_ | refine o_store (k := ?_) | refine c_true (h1 := ?_) | refine c_false (h1 := ?_) | refine c_ret ?_ | refine c_skip ?_ | refine e_then_ret ?_ | refine c_block ?_ | refine c_exit ?_ | refine e_then_exit ?_ | refine e_block_exit ?_ | refine e_block_normal ?_ | refine e_block_ret ?_ | refine o_box (k := fun _ => ?_) | refine o_alloc (k := fun _ => ?_) | refine e_norm ?_ | refine o_ung (k := ?_) | refine o_k (k := ?_) | refine s_v (k := ?_) | refine s_w (k := ?_) | refine s_k (k := ?_) | refine s_nil ?_ | refine e_block_exit_ne rfl ?_)
      have hne : l1 ≠ l2 := fun e => by subst e; simp at hc
      exact e_1 (h1 := rs_tmp rfl) (H' := [cellsA o1 (some ⟨b1, p1, none⟩) (entsC l1), cellsA o2 (some ⟨b2, p2, none⟩) (entsC l2)]) (hT := ⟨by simp [hne], rfl⟩)
    · have he : l1[k] = l2[k] := by
        simp at hc
        exact Prod.ext hc.1 (Prod.ext hc.2.1 hc.2.2)
      repeat (first | refine o_v (k := ?_) | refine c_seq ?_ | refine c_region ?_ | refine o_nil ?_ | refine e_then_normal ?_ | refine o_store (k := ?_) | refine c_true (h1 := ?_) | refine c_false (h1 := ?_) | refine c_ret ?_ | refine c_skip ?_ | refine e_then_ret ?_ | refine c_block ?_ | refine c_exit ?_ | refine e_then_exit ?_ | refine e_block_exit ?_ | refine e_block_normal ?_ | refine e_block_ret ?_ | refine o_box (k := fun _ => ?_) | refine o_alloc (k := fun _ => ?_) | refine e_norm ?_ | refine o_ung (k := ?_) | refine o_k (k := ?_) | refine s_v (k := ?_) | refine s_w (k := ?_) | refine s_k (k := ?_) | refine s_nil ?_ | refine e_block_exit_ne rfl ?_)
      refine e_loop (k + 1) ?_ ?_ ?_ ?_
      · exact ⟨hlt, by rw [List.take_succ_eq_append_getElem hlt, List.take_succ_eq_append_getElem hlt2, hz, he]⟩
      · show _ - (k + 1) < _ - k; omega
      · exact ⟨rfl, rfl, rfl, rfl, trivial⟩
      · exact fun _ h => h
  · have hkl : k = l1.length := by simp at h; omega
    subst hkl
    have he : l1 = l2 := by
      rw [List.take_length, hlen, List.take_length] at hz
      exact hz
    repeat (first | refine o_v (k := ?_) | refine c_seq ?_ | refine c_region ?_ | refine o_nil ?_ | refine e_then_normal ?_ | refine o_store (k := ?_) | refine c_true (h1 := ?_) | refine c_false (h1 := ?_) | refine c_ret ?_ | refine c_skip ?_ | refine e_then_ret ?_ | refine c_block ?_ | refine c_exit ?_ | refine e_then_exit ?_ | refine e_block_exit ?_ | refine e_block_normal ?_ | refine e_block_ret ?_ | refine o_box (k := fun _ => ?_) | refine o_alloc (k := fun _ => ?_) | refine e_norm ?_ | refine o_ung (k := ?_) | refine o_k (k := ?_) | refine s_v (k := ?_) | refine s_w (k := ?_) | refine s_k (k := ?_) | refine s_nil ?_ | refine e_block_exit_ne rfl ?_)
    exact e_1 (h1 := rs_tmp rfl) (H' := [cellsA o1 q1 (entsC l1), cellsA o2 q2 (entsC l2)]) (hT := ⟨by simp [he], rfl⟩)
end Go.Proofs.YtlkgdidmhmaneaaGreatDoor
/- answers, part 2. -/
namespace Go.Proofs.YtlkgdidmhmaneaaGreatDoor
open Go Go.RowKit
attribute [local irreducible] Yl OG CG EG SG AG  CellIn CellsIn BlkIn InA TakeA SplitA SubA Ct ResOk Good Held blk cellsA exA
def resC (r : MRes) (q : Option Addr) (c : Nat) (q2 : Option Addr) (c2 : Nat) : List Value := [.int .i64 r.errno, .int .i64 r.ino, .int .i64 r.gen, .int .i64 r.kind, .int .i64 r.mode, .int .i64 r.size, .slice q r.data.length c, .int .i64 r.count, .bool r.eof, .slice q2 r.ents.length c2]
def attrC (r : MRes) : List Value := [.int .i64 r.ino, .int .i64 r.gen, .int .i64 r.kind, .int .i64 r.mode, .int .i64 r.size]
def sameRes (a b : MRes) : Bool := decide (a = b)

theorem res_ext (x y : MRes) : x = y ↔ x.errno = y.errno ∧ (x.ino = y.ino ∧ x.gen = y.gen ∧ x.kind = y.kind ∧ x.mode = y.mode ∧ x.size = y.size) ∧ x.data = y.data ∧ x.count = y.count ∧ x.eof = y.eof ∧ x.ents = y.ents := by
  cases x; cases y
  simp only [MRes.mk.injEq]
  constructor
  · rintro ⟨h1, h2, h3, h4, h5, h6, h7, h8, h9, h10⟩; exact ⟨h1, ⟨h2, h3, h4, h5, h6⟩, h7, h8, h9, h10⟩
  · rintro ⟨h1, ⟨h2, h3, h4, h5, h6⟩, h7, h8, h9, h10⟩; exact ⟨h1, h2, h3, h4, h5, h6, h7, h8, h9, h10⟩

set_option maxRecDepth 20000 in
set_option maxHeartbeats 4000000 in
theorem same_ok (x y : MRes) (p1 p2 p3 p4 : Bool) (q1 q2 q3 q4 : Option Addr) (c1 c2 c3 c4 : Nat) (h1 : x.ents.length ≤ 1000000) (h2 : y.ents.length ≤ 1000000) : Ct Tryz.prog 114 [.agg (resC x q1 c1 q2 c2).toArray, .agg (resC y q3 c3 q4 c4).toArray] [bytesA p1 q1 x.data, cellsA p2 q2 (entsC x.ents), bytesA p3 q3 y.data, cellsA p4 q4 (entsC y.ents)] (Ret fun u H => u = .bool (decide (x = y)) ∧ H = [bytesA p1 q1 x.data, cellsA p2 q2 (entsC x.ents), bytesA p3 q3 y.data, cellsA p4 q4 (entsC y.ents)]) := by
  have hx := res_ext x y
  refine fn_enter Tryz.func114 rfl Tryz.ntmps114 rfl fun _ _ _ => ?_
  repeat (first | refine o_v (k := ?_) | refine c_seq ?_ | refine c_region ?_ | refine o_nil ?_ | refine e_then_normal ?_ | refine o_store (k := ?_) | refine c_true (h1 := ?_) | refine c_false (h1 := ?_) | refine c_ret ?_ | refine c_skip ?_ | refine e_then_ret ?_ | refine c_block ?_ | refine c_exit ?_ | refine e_then_exit ?_ | refine e_block_exit ?_ | refine e_block_normal ?_ | refine e_block_ret ?_ | refine o_box (k := fun _ => ?_) | refine o_alloc (k := fun _ => ?_) | refine e_norm ?_ | refine o_ung (k := ?_) | refine o_k (k := ?_) | refine s_v (k := ?_) | refine s_w (k := ?_) | refine s_k (k := ?_) | refine s_nil ?_ | refine e_block_exit_ne rfl ?_)
  refine o_bool 10 rfl (fun g1 => ?_) (fun g1 => ?_)
  · repeat (first | refine o_v (k := ?_) | refine c_seq ?_ | refine c_region ?_ | refine o_nil ?_ | refine e_then_normal ?_ | refine o_store (k := ?_) | refine c_true (h1 := ?_) | refine c_false (h1 := ?_) | refine c_ret ?_ | refine c_skip ?_ | refine e_then_ret ?_ | refine c_block ?_ | refine c_exit ?_ | refine e_then_exit ?_ | refine e_block_exit ?_ | refine e_block_normal ?_ | refine e_block_ret ?_ | refine o_box (k := fun _ => ?_) | refine o_alloc (k := fun _ => ?_) | refine e_norm ?_ | refine o_ung (k := ?_) | refine o_k (k := ?_) | refine s_v (k := ?_) | refine s_w (k := ?_) | refine s_k (k := ?_) | refine s_nil ?_ | refine e_block_exit_ne rfl ?_)
    refine o_y (y_eqA rfl rfl) rfl ?_
    repeat (first | refine o_v (k := ?_) | refine c_seq ?_ | refine c_region ?_ | refine o_nil ?_ | refine e_then_normal ?_ | refine o_store (k := ?_) | refine c_true (h1 := ?_) | refine c_false (h1 := ?_) | refine c_ret ?_ | refine c_skip ?_ | refine e_then_ret ?_ | refine c_block ?_ | refine c_exit ?_ | refine e_then_exit ?_ | refine e_block_exit ?_ | refine e_block_normal ?_ | refine e_block_ret ?_ | refine o_box (k := fun _ => ?_) | refine o_alloc (k := fun _ => ?_) | refine e_norm ?_ | refine o_ung (k := ?_) | refine o_k (k := ?_) | refine s_v (k := ?_) | refine s_w (k := ?_) | refine s_k (k := ?_) | refine s_nil ?_ | refine e_block_exit_ne rfl ?_)
    refine o_bool 17 rfl (fun g2 => ?_) (fun g2 => ?_)
    · repeat (first | refine o_v (k := ?_) | refine c_seq ?_ | refine c_region ?_ | refine o_nil ?_ | refine e_then_normal ?_ | refine o_store (k := ?_) | refine c_true (h1 := ?_) | refine c_false (h1 := ?_) | refine c_ret ?_ | refine c_skip ?_ | refine e_then_ret ?_ | refine c_block ?_ | refine c_exit ?_ | refine e_then_exit ?_ | refine e_block_exit ?_ | refine e_block_normal ?_ | refine e_block_ret ?_ | refine o_box (k := fun _ => ?_) | refine o_alloc (k := fun _ => ?_) | refine e_norm ?_ | refine o_ung (k := ?_) | refine o_k (k := ?_) | refine s_v (k := ?_) | refine s_w (k := ?_) | refine s_k (k := ?_) | refine s_nil ?_ | refine e_block_exit_ne rfl ?_)
      refine o_call (bytesEq_ok p1 p3 q1 q3 x.data y.data c1 c3) (k := ?_)
      rintro _ _ ⟨rfl, rfl⟩
      dsimp only [List.cons_append, List.nil_append]
      repeat (first | refine o_v (k := ?_) | refine c_seq ?_ | refine c_region ?_ | refine o_nil ?_ | refine e_then_normal ?_ | refine o_store (k := ?_) | refine c_true (h1 := ?_) | refine c_false (h1 := ?_) | refine c_ret ?_ | refine c_skip ?_ | refine e_then_ret ?_ | refine c_block ?_ | refine c_exit ?_ | refine e_then_exit ?_ | refine e_block_exit ?_ | refine e_block_normal ?_ | refine e_block_ret ?_ | refine o_box (k := fun _ => ?_) | refine o_alloc (k := fun _ => ?_) | refine e_norm ?_ | refine o_ung (k := ?_) | refine o_k (k := ?_) | refine s_v (k := ?_) | refine s_w (k := ?_) | refine s_k (k := ?_) | refine s_nil ?_ | refine e_block_exit_ne rfl ?_)
      refine o_bool 24 rfl (fun g3 => ?_) (fun g3 => ?_)
      · repeat (first | refine o_v (k := ?_) | refine c_seq ?_ | refine c_region ?_ | refine o_nil ?_ | refine e_then_normal ?_ | refine o_store (k := ?_) | refine c_true (h1 := ?_) | refine c_false (h1 := ?_) | refine c_ret ?_ | refine c_skip ?_ | refine e_then_ret ?_ | refine c_block ?_ | refine c_exit ?_ | refine e_then_exit ?_ | refine e_block_exit ?_ | refine e_block_normal ?_ | refine e_block_ret ?_ | refine o_box (k := fun _ => ?_) | refine o_alloc (k := fun _ => ?_) | refine e_norm ?_ | refine o_ung (k := ?_) | refine o_k (k := ?_) | refine s_v (k := ?_) | refine s_w (k := ?_) | refine s_k (k := ?_) | refine s_nil ?_ | refine e_block_exit_ne rfl ?_)
        refine o_bool 31 rfl (fun g4 => ?_) (fun g4 => ?_)
        · repeat (first | refine o_v (k := ?_) | refine c_seq ?_ | refine c_region ?_ | refine o_nil ?_ | refine e_then_normal ?_ | refine o_store (k := ?_) | refine c_true (h1 := ?_) | refine c_false (h1 := ?_) | refine c_ret ?_ | refine c_skip ?_ | refine e_then_ret ?_ | refine c_block ?_ | refine c_exit ?_ | refine e_then_exit ?_ | refine e_block_exit ?_ | refine e_block_normal ?_ | refine e_block_ret ?_ | refine o_box (k := fun _ => ?_) | refine o_alloc (k := fun _ => ?_) | refine e_norm ?_ | refine o_ung (k := ?_) | refine o_k (k := ?_) | refine s_v (k := ?_) | refine s_w (k := ?_) | refine s_k (k := ?_) | refine s_nil ?_ | refine e_block_exit_ne rfl ?_)
          refine o_y (y_eqlb rfl rfl) rfl ?_
          repeat (first | refine o_v (k := ?_) | refine c_seq ?_ | refine c_region ?_ | refine o_nil ?_ | refine e_then_normal ?_ | refine o_store (k := ?_) | refine c_true (h1 := ?_) | refine c_false (h1 := ?_) | refine c_ret ?_ | refine c_skip ?_ | refine e_then_ret ?_ | refine c_block ?_ | refine c_exit ?_ | refine e_then_exit ?_ | refine e_block_exit ?_ | refine e_block_normal ?_ | refine e_block_ret ?_ | refine o_box (k := fun _ => ?_) | refine o_alloc (k := fun _ => ?_) | refine e_norm ?_ | refine o_ung (k := ?_) | refine o_k (k := ?_) | refine s_v (k := ?_) | refine s_w (k := ?_) | refine s_k (k := ?_) | refine s_nil ?_ | refine e_block_exit_ne rfl ?_)
          refine o_bool 38 rfl (fun g5 => ?_) (fun g5 => ?_)
          · repeat (first | refine o_v (k := ?_) | refine c_seq ?_ | refine c_region ?_ | refine o_nil ?_ | refine e_then_normal ?_ | refine o_store (k := ?_) | refine c_true (h1 := ?_) | refine c_false (h1 := ?_) | refine c_ret ?_ | refine c_skip ?_ | refine e_then_ret ?_ | refine c_block ?_ | refine c_exit ?_ | refine e_then_exit ?_ | refine e_block_exit ?_ | refine e_block_normal ?_ | refine e_block_ret ?_ | refine o_box (k := fun _ => ?_) | refine o_alloc (k := fun _ => ?_) | refine e_norm ?_ | refine o_ung (k := ?_) | refine o_k (k := ?_) | refine s_v (k := ?_) | refine s_w (k := ?_) | refine s_k (k := ?_) | refine s_nil ?_ | refine e_block_exit_ne rfl ?_)
            refine o_call (entsEq_ok p2 p4 q2 q4 x.ents y.ents c2 c4 h1 h2) (k := ?_)
            rintro _ _ ⟨rfl, rfl⟩
            dsimp only [List.cons_append, List.nil_append]
            repeat (first | refine o_v (k := ?_) | refine c_seq ?_ | refine c_region ?_ | refine o_nil ?_ | refine e_then_normal ?_ | refine o_store (k := ?_) | refine c_true (h1 := ?_) | refine c_false (h1 := ?_) | refine c_ret ?_ | refine c_skip ?_ | refine e_then_ret ?_ | refine c_block ?_ | refine c_exit ?_ | refine e_then_exit ?_ | refine e_block_exit ?_ | refine e_block_normal ?_ | refine e_block_ret ?_ | refine o_box (k := fun _ => ?_) | refine o_alloc (k := fun _ => ?_) | refine e_norm ?_ | refine o_ung (k := ?_) | refine o_k (k := ?_) | refine s_v (k := ?_) | refine s_w (k := ?_) | refine s_k (k := ?_) | refine s_nil ?_ | refine e_block_exit_ne rfl ?_)
            refine e_1 (h1 := rs_tmp rfl) (H' := [bytesA p1 q1 x.data, cellsA p2 q2 (entsC x.ents), bytesA p3 q3 y.data, cellsA p4 q4 (entsC y.ents)]) (hT := ⟨?_, rfl⟩)
            have : (x = y) ↔ x.ents = y.ents := hx.trans ⟨fun h => h.2.2.2.2.2, fun h => ⟨of_decide_eq_true g1, of_decide_eq_true g2, of_decide_eq_true g3, of_decide_eq_true g4, of_decide_eq_true g5, h⟩⟩
            rw [decide_eq_decide.2 this]
          · repeat (first | refine o_v (k := ?_) | refine c_seq ?_ | refine c_region ?_ | refine o_nil ?_ | refine e_then_normal ?_ | refine o_store (k := ?_) | refine c_true (h1 := ?_) | refine c_false (h1 := ?_) | refine c_ret ?_ | refine c_skip ?_ | refine e_then_ret ?_ | refine c_block ?_ | refine c_exit ?_ | refine e_then_exit ?_ | refine e_block_exit ?_ | refine e_block_normal ?_ | refine e_block_ret ?_ | refine o_box (k := fun _ => ?_) | refine o_alloc (k := fun _ => ?_) | refine e_norm ?_ | refine o_ung (k := ?_) | refine o_k (k := ?_) | refine s_v (k := ?_) | refine s_w (k := ?_) | refine s_k (k := ?_) | refine s_nil ?_ | refine e_block_exit_ne rfl ?_)
            refine e_1 (h1 := rs_tmp rfl) (H' := [bytesA p1 q1 x.data, cellsA p2 q2 (entsC x.ents), bytesA p3 q3 y.data, cellsA p4 q4 (entsC y.ents)]) (hT := ⟨?_, rfl⟩)
            rw [decide_eq_false (fun h => of_decide_eq_false g5 (hx.1 h).2.2.2.2.1)]
        · repeat (first | refine o_v (k := ?_) | refine c_seq ?_ | refine c_region ?_ | refine o_nil ?_ | refine e_then_normal ?_ | refine o_store (k := ?_) | refine c_true (h1 := ?_) | refine c_false (h1 := ?_) | refine c_ret ?_ | refine c_skip ?_ | refine e_then_ret ?_ | refine c_block ?_ | refine c_exit ?_ | refine e_then_exit ?_ | refine e_block_exit ?_ | refine e_block_normal ?_ | refine e_block_ret ?_ | refine o_box (k := fun _ => ?_) | refine o_alloc (k := fun _ => ?_) | refine e_norm ?_ | refine o_ung (k := ?_) | refine o_k (k := ?_) | refine s_v (k := ?_) | refine s_w (k := ?_) | refine s_k (k := ?_) | refine s_nil ?_ | refine e_block_exit_ne rfl ?_)
          refine e_1 (h1 := rs_tmp rfl) (H' := [bytesA p1 q1 x.data, cellsA p2 q2 (entsC x.ents), bytesA p3 q3 y.data, cellsA p4 q4 (entsC y.ents)]) (hT := ⟨?_, rfl⟩)
          rw [decide_eq_false (fun h => of_decide_eq_false g4 (hx.1 h).2.2.2.1)]
      · repeat (first | refine o_v (k := ?_) | refine c_seq ?_ | refine c_region ?_ | refine o_nil ?_ | refine e_then_normal ?_ | refine o_store (k := ?_) | refine c_true (h1 := ?_) | refine c_false (h1 := ?_) | refine c_ret ?_ | refine c_skip ?_ | refine e_then_ret ?_ | refine c_block ?_ | refine c_exit ?_ | refine e_then_exit ?_ | refine e_block_exit ?_ | refine e_block_normal ?_ | refine e_block_ret ?_ | refine o_box (k := fun _ => ?_) | refine o_alloc (k := fun _ => ?_) | refine e_norm ?_ | refine o_ung (k := ?_) | refine o_k (k := ?_) | refine s_v (k := ?_) | refine s_w (k := ?_) | refine s_k (k := ?_) | refine s_nil ?_ | refine e_block_exit_ne rfl ?_)
        refine e_1 (h1 := rs_tmp rfl) (H' := [bytesA p1 q1 x.data, cellsA p2 q2 (entsC x.ents), bytesA p3 q3 y.data, cellsA p4 q4 (entsC y.ents)]) (hT := ⟨?_, rfl⟩)
        rw [decide_eq_false (fun h => of_decide_eq_false g3 (hx.1 h).2.2.1)]
    · repeat (first | refine o_v (k := ?_) | refine c_seq ?_ | refine c_region ?_ | refine o_nil ?_ | refine e_then_normal ?_ | refine o_store (k := ?_) | refine c_true (h1 := ?_) | refine c_false (h1 := ?_) | refine c_ret ?_ | refine c_skip ?_ | refine e_then_ret ?_ | refine c_block ?_ | refine c_exit ?_ | refine e_then_exit ?_ | refine e_block_exit ?_ | refine e_block_normal ?_ | refine e_block_ret ?_ | refine o_box (k := fun _ => ?_) | refine o_alloc (k := fun _ => ?_) | refine e_norm ?_ | refine o_ung (k := ?_) | refine o_k (k := ?_) | refine s_v (k := ?_) | refine s_w (k := ?_) | refine s_k (k := ?_) | refine s_nil ?_ | refine e_block_exit_ne rfl ?_)
      refine e_1 (h1 := rs_tmp rfl) (H' := [bytesA p1 q1 x.data, cellsA p2 q2 (entsC x.ents), bytesA p3 q3 y.data, cellsA p4 q4 (entsC y.ents)]) (hT := ⟨?_, rfl⟩)
      rw [decide_eq_false (fun h => of_decide_eq_false g2 (hx.1 h).2.1)]
  · repeat (first | refine o_v (k := ?_) | refine c_seq ?_ | refine c_region ?_ | refine o_nil ?_ | refine e_then_normal ?_ | refine o_store (k := ?_) | refine c_true (h1 := ?_) | refine c_false (h1 := ?_) | refine c_ret ?_ | refine c_skip ?_ | refine e_then_ret ?_ | refine c_block ?_ | refine c_exit ?_ | refine e_then_exit ?_ | refine e_block_exit ?_ | refine e_block_normal ?_ | refine e_block_ret ?_ | refine o_box (k := fun _ => ?_) | refine o_alloc (k := fun _ => ?_) | refine e_norm ?_ | refine o_ung (k := ?_) | refine o_k (k := ?_) | refine s_v (k := ?_) | refine s_w (k := ?_) | refine s_k (k := ?_) | refine s_nil ?_ | refine e_block_exit_ne rfl ?_)
    refine e_1 (h1 := rs_tmp rfl) (H' := [bytesA p1 q1 x.data, cellsA p2 q2 (entsC x.ents), bytesA p3 q3 y.data, cellsA p4 q4 (entsC y.ents)]) (hT := ⟨?_, rfl⟩)
    rw [decide_eq_false (fun h => of_decide_eq_false g1 (hx.1 h).1)]
end Go.Proofs.YtlkgdidmhmaneaaGreatDoor
/- answers, part 3: a guard on what was not carried out. -/
namespace Go.Proofs.YtlkgdidmhmaneaaGreatDoor
open Go Go.RowKit
theorem o_u {P : Program} {Q : Exit → Act → World → Prop} {G : Ctx} {F : Fr} {H : List Ast} {ops : Array Oper} {rest : List Oper} {d : Nat} {op : Op} {ty : TypeId} {pos : String} {aft : Array Edge} {j dj : Nat} {b : Bool} {oj : Oper} (hj : ops[j]? = some oj := by rfl) (hdj : oj.dst = some dj := by rfl) (hv : look F dj = some undef := by rfl) (hd : Nat.ble (d + 1) G.n = true := by rfl) (k : OG P ops Q G rest ((d, undef) :: F) H) :
    OG P ops Q G (⟨some d, op, ty, pos, aft, some (j, b)⟩ :: rest) F H := by
  intro a w ha hw
  refine wpList_skip ?_ (k _ _ (ha.put hd undef) hw)
  simp only [Region.wanted, yielded, hj, Option.bind_some, hdj, ha.slot dj _ hv]
  cases b <;> rfl
section
variable {P : Program} {Q : Exit → Act → World → Prop} {G : Ctx} {F : Fr} {H : List Ast} {ops : Array Oper} {d : Nat} {op : Op} {ty : TypeId} {pos : String} {aft : Array Edge}
/-- a guarded read that is wanted, taken first -/
theorem a_w (Hf : List Ast) {Hr : List Ast} {fuel : Nat} {listed : Array Bool} (i : Nat) {j dj : Nat} {b : Bool} {oj : Oper} {v : Value} (hi : ops[i]? = some ⟨some d, op, ty, pos, aft, some (j, b)⟩ := by rfl) (hj : ops[j]? = some oj := by rfl) (hdj : oj.dst = some dj := by rfl) (hv : look F dj = some (.bool b) := by rfl)
    (hs : SplitA H Hf Hr := by (repeat (apply SplitA.cons; (repeat (first | exact TakeA.keepI | exact TakeA.here | apply TakeA.there)))); exact SplitA.nil) (hsel : Region.noSelect ops = true := by kernel_rfl) (hf : Region.free .any ops listed i = true := by kernel_rfl) (hr : (Region.ready .any ops listed).contains i = true := by kernel_rfl)
    (hQ : ∀ c a w, Q (.panic c) (a.put (some d) v) w → Q (.panic c) a w := by intro c a w h; exact h) (hy : Yl P G.n F Hf op v := by exact ylA) (hd : Nat.ble (d + 1) G.n = true := by rfl) (k : AG P ops Q G Hf fuel (listed.setIfInBounds i true) ((d, v) :: F) H) : AG P ops Q G Hf (fuel + 1) listed F H := by
  intro a w ha hw
  have hh := (hw.drop hs).held
  refine ⟨hh, wpAnyH_take hi hsel hf hr hQ (.inl ⟨wanted_of rfl hj hdj hv ha, fun w' hw' => hy a w' _ _ _ _ _ ha hw'⟩) hh ?_⟩
  exact (k _ _ (ha.put hd v) hw).2
/-- a guarded operation that is not wanted -/
theorem a_k (Hf : List Ast) {Hr : List Ast} {fuel : Nat} {listed : Array Bool} (i : Nat) {j dj : Nat} {b b' : Bool} {oj : Oper} (hi : ops[i]? = some ⟨some d, op, ty, pos, aft, some (j, b')⟩ := by rfl) (hj : ops[j]? = some oj := by rfl) (hdj : oj.dst = some dj := by rfl) (hv : look F dj = some (.bool b) := by rfl) (hne : b' = !b := by rfl)
    (hs : SplitA H Hf Hr := by (repeat (apply SplitA.cons; (repeat (first | exact TakeA.keepI | exact TakeA.here | apply TakeA.there)))); exact SplitA.nil) (hsel : Region.noSelect ops = true := by kernel_rfl) (hf : Region.free .any ops listed i = true := by kernel_rfl) (hr : (Region.ready .any ops listed).contains i = true := by kernel_rfl)
    (hQ : ∀ c a w, Q (.panic c) (a.put (some d) undef) w → Q (.panic c) a w := by intro c a w h; exact h) (hd : Nat.ble (d + 1) G.n = true := by rfl) (k : AG P ops Q G Hf fuel (listed.setIfInBounds i true) ((d, undef) :: F) H) : AG P ops Q G Hf (fuel + 1) listed F H := by
  intro a w ha hw
  have hh := (hw.drop hs).held
  have hnw : Region.wanted (⟨some d, op, ty, pos, aft, some (j, b')⟩ : Oper) (yielded ops a.tmps) = false := by
    subst hne
    simp only [Region.wanted, yielded, hj, Option.bind_some, hdj, ha.slot dj _ hv]
    cases b <;> rfl
  refine ⟨hh, wpAnyH_take hi hsel hf hr hQ (.inr ⟨hnw, rfl⟩) hh ?_⟩
  exact (k _ _ (ha.put hd undef) hw).2
theorem a_bool {Hf : List Ast} {fuel : Nat} {listed : Array Bool} (t : Nat) {b : Bool} (hx : look F t = some (.bool b)) (h1 : b = true → AG P ops Q G Hf fuel listed ((t, .bool true) :: F) H) (h2 : b = false → AG P ops Q G Hf fuel listed ((t, .bool false) :: F) H) : AG P ops Q G Hf fuel listed F H := by
  intro a w ha hw
  have key : ∀ u : Bool, b = u → FrOk G.n ((t, .bool u) :: F) a := fun u hu => ⟨ha.size, ha.small, ha.defers.trans (dfs_bool hx).symm, fun s v hv => by
    simp only [look] at hv
    cases hb : Nat.beq t s with
    | true =>
      rw [hb] at hv
      simp only [cond_true, Option.some.injEq] at hv
      have := Nat.eq_of_beq_eq_true hb
      subst this; subst hv; subst hu
      exact .inr (ha.slot _ _ hx)
    | false => rw [hb] at hv; exact ha.slotD _ _ hv⟩
  cases hb : b with
  | true => exact h1 hb a w (key true hb) hw
  | false => exact h2 hb a w (key false hb) hw
end
end Go.Proofs.YtlkgdidmhmaneaaGreatDoor
/- answers, part 4: mayAttr, layAttr, mayEntries. -/
namespace Go.Proofs.YtlkgdidmhmaneaaGreatDoor
open Go Go.RowKit
attribute [local irreducible] Yl OG CG EG SG AG  CellIn CellsIn BlkIn InA TakeA SplitA SubA Ct ResOk Good Held blk cellsA exA
def mayAttrM (i g k m s : Int) : Bool := (wordOk i && wordOk g) && (decide (k = 1) || decide (k = 2)) && decide (0 ≤ m) && decide (m ≤ 511) && decide (0 ≤ s) && decide (s ≤ 65536)

set_option maxRecDepth 20000 in
set_option maxHeartbeats 4000000 in
theorem mayAttr_ok (i g k m s : Int) : Ct Tryz.prog 115 [.agg #[.int .i64 i, .int .i64 g, .int .i64 k, .int .i64 m, .int .i64 s]] [] (Ret fun u H => u = .bool (mayAttrM i g k m s) ∧ H = []) := by
  refine fn_enter Tryz.func115 rfl Tryz.ntmps115 rfl fun _ _ _ => ?_
  repeat (first | refine o_v (k := ?_) | refine c_seq ?_ | refine c_region ?_ | refine o_nil ?_ | refine e_then_normal ?_ | refine o_store (k := ?_) | refine c_true (h1 := ?_) | refine c_false (h1 := ?_) | refine c_ret ?_ | refine c_skip ?_ | refine e_then_ret ?_ | refine c_block ?_ | refine c_exit ?_ | refine e_then_exit ?_ | refine e_block_exit ?_ | refine e_block_normal ?_ | refine e_block_ret ?_ | refine o_box (k := fun _ => ?_) | refine o_alloc (k := fun _ => ?_) | refine e_norm ?_ | refine o_ung (k := ?_) | refine o_k (k := ?_) | refine s_v (k := ?_) | refine s_w (k := ?_) | refine s_k (k := ?_) | refine s_nil ?_ | refine e_block_exit_ne rfl ?_ | (refine o_call (mayHandle_ok _ _) (k := ?_); rintro _ _ ⟨rfl, rfl⟩; dsimp only [List.cons_append, List.nil_append]))
  refine o_bool 6 rfl (fun g1 => ?_) (fun g1 => ?_)
  · repeat (first | refine o_v (k := ?_) | refine c_seq ?_ | refine c_region ?_ | refine o_nil ?_ | refine e_then_normal ?_ | refine o_store (k := ?_) | refine c_true (h1 := ?_) | refine c_false (h1 := ?_) | refine c_ret ?_ | refine c_skip ?_ | refine e_then_ret ?_ | refine c_block ?_ | refine c_exit ?_ | refine e_then_exit ?_ | refine e_block_exit ?_ | refine e_block_normal ?_ | refine e_block_ret ?_ | refine o_box (k := fun _ => ?_) | refine o_alloc (k := fun _ => ?_) | refine e_norm ?_ | refine o_ung (k := ?_) | refine o_k (k := ?_) | refine s_v (k := ?_) | refine s_w (k := ?_) | refine s_k (k := ?_) | refine s_nil ?_ | refine e_block_exit_ne rfl ?_)
    refine o_bool 10 rfl (fun g2 => ?_) (fun g2 => ?_)
    · repeat (first | refine o_v (k := ?_) | refine c_seq ?_ | refine c_region ?_ | refine o_nil ?_ | refine e_then_normal ?_ | refine o_store (k := ?_) | refine c_true (h1 := ?_) | refine c_false (h1 := ?_) | refine c_ret ?_ | refine c_skip ?_ | refine e_then_ret ?_ | refine c_block ?_ | refine c_exit ?_ | refine e_then_exit ?_ | refine e_block_exit ?_ | refine e_block_normal ?_ | refine e_block_ret ?_ | refine o_box (k := fun _ => ?_) | refine o_alloc (k := fun _ => ?_) | refine e_norm ?_ | refine o_ung (k := ?_) | refine o_k (k := ?_) | refine s_v (k := ?_) | refine s_w (k := ?_) | refine s_k (k := ?_) | refine s_nil ?_ | refine e_block_exit_ne rfl ?_)
      refine o_bool 21 rfl (fun g3 => ?_) (fun g3 => ?_)
      · repeat (first | refine o_v (k := ?_) | refine c_seq ?_ | refine c_region ?_ | refine o_nil ?_ | refine e_then_normal ?_ | refine o_store (k := ?_) | refine c_true (h1 := ?_) | refine c_false (h1 := ?_) | refine c_ret ?_ | refine c_skip ?_ | refine e_then_ret ?_ | refine c_block ?_ | refine c_exit ?_ | refine e_then_exit ?_ | refine e_block_exit ?_ | refine e_block_normal ?_ | refine e_block_ret ?_ | refine o_box (k := fun _ => ?_) | refine o_alloc (k := fun _ => ?_) | refine e_norm ?_ | refine o_ung (k := ?_) | refine o_k (k := ?_) | refine s_v (k := ?_) | refine s_w (k := ?_) | refine s_k (k := ?_) | refine s_nil ?_ | refine e_block_exit_ne rfl ?_)
        refine o_bool 26 rfl (fun g4 => ?_) (fun g4 => ?_)
        · repeat (first | refine o_v (k := ?_) | refine c_seq ?_ | refine c_region ?_ | refine o_nil ?_ | refine e_then_normal ?_ | refine o_store (k := ?_) | refine c_true (h1 := ?_) | refine c_false (h1 := ?_) | refine c_ret ?_ | refine c_skip ?_ | refine e_then_ret ?_ | refine c_block ?_ | refine c_exit ?_ | refine e_then_exit ?_ | refine e_block_exit ?_ | refine e_block_normal ?_ | refine e_block_ret ?_ | refine o_box (k := fun _ => ?_) | refine o_alloc (k := fun _ => ?_) | refine e_norm ?_ | refine o_ung (k := ?_) | refine o_k (k := ?_) | refine s_v (k := ?_) | refine s_w (k := ?_) | refine s_k (k := ?_) | refine s_nil ?_ | refine e_block_exit_ne rfl ?_)
          refine o_bool 31 rfl (fun g5 => ?_) (fun g5 => ?_)
          · repeat (first | refine o_v (k := ?_) | refine c_seq ?_ | refine c_region ?_ | refine o_nil ?_ | refine e_then_normal ?_ | refine o_store (k := ?_) | refine c_true (h1 := ?_) | refine c_false (h1 := ?_) | refine c_ret ?_ | refine c_skip ?_ | refine e_then_ret ?_ | refine c_block ?_ | refine c_exit ?_ | refine e_then_exit ?_ | refine e_block_exit ?_ | refine e_block_normal ?_ | refine e_block_ret ?_ | refine o_box (k := fun _ => ?_) | refine o_alloc (k := fun _ => ?_) | refine e_norm ?_ | refine o_ung (k := ?_) | refine o_k (k := ?_) | refine s_v (k := ?_) | refine s_w (k := ?_) | refine s_k (k := ?_) | refine s_nil ?_ | refine e_block_exit_ne rfl ?_)
            exact e_1 (h1 := rs_tmp rfl) (H' := []) (hT := ⟨by simp [mayAttrM, g1, g2, g3, g4, g5], rfl⟩)
          · repeat (first | refine o_v (k := ?_) | refine c_seq ?_ | refine c_region ?_ | refine o_nil ?_ | refine e_then_normal ?_ | refine o_store (k := ?_) | refine c_true (h1 := ?_) | refine c_false (h1 := ?_) | refine c_ret ?_ | refine c_skip ?_ | refine e_then_ret ?_ | refine c_block ?_ | refine c_exit ?_ | refine e_then_exit ?_ | refine e_block_exit ?_ | refine e_block_normal ?_ | refine e_block_ret ?_ | refine o_box (k := fun _ => ?_) | refine o_alloc (k := fun _ => ?_) | refine e_norm ?_ | refine o_ung (k := ?_) | refine o_k (k := ?_) | refine s_v (k := ?_) | refine s_w (k := ?_) | refine s_k (k := ?_) | refine s_nil ?_ | refine e_block_exit_ne rfl ?_)
            exact e_1 (h1 := rs_tmp rfl) (H' := []) (hT := ⟨by simp [mayAttrM, g1, g2, g3, g4, g5], rfl⟩)
        · repeat (first | refine o_v (k := ?_) | refine c_seq ?_ | refine c_region ?_ | refine o_nil ?_ | refine e_then_normal ?_ | refine o_store (k := ?_) | refine c_true (h1 := ?_) | refine c_false (h1 := ?_) | refine c_ret ?_ | refine c_skip ?_ | refine e_then_ret ?_ | refine c_block ?_ | refine c_exit ?_ | refine e_then_exit ?_ | refine e_block_exit ?_ | refine e_block_normal ?_ | refine e_block_ret ?_ | refine o_box (k := fun _ => ?_) | refine o_alloc (k := fun _ => ?_) | refine e_norm ?_ | refine o_ung (k := ?_) | refine o_k (k := ?_) | refine s_v (k := ?_) | refine s_w (k := ?_) | refine s_k (k := ?_) | refine s_nil ?_ | refine e_block_exit_ne rfl ?_)
          exact e_1 (h1 := rs_tmp rfl) (H' := []) (hT := ⟨by simp [mayAttrM, g1, g2, g3, g4], rfl⟩)
      · repeat (first | refine o_v (k := ?_) | refine c_seq ?_ | refine c_region ?_ | refine o_nil ?_ | refine e_then_normal ?_ | refine o_store (k := ?_) | refine c_true (h1 := ?_) | refine c_false (h1 := ?_) | refine c_ret ?_ | refine c_skip ?_ | refine e_then_ret ?_ | refine c_block ?_ | refine c_exit ?_ | refine e_then_exit ?_ | refine e_block_exit ?_ | refine e_block_normal ?_ | refine e_block_ret ?_ | refine o_box (k := fun _ => ?_) | refine o_alloc (k := fun _ => ?_) | refine e_norm ?_ | refine o_ung (k := ?_) | refine o_k (k := ?_) | refine s_v (k := ?_) | refine s_w (k := ?_) | refine s_k (k := ?_) | refine s_nil ?_ | refine e_block_exit_ne rfl ?_)
        exact e_1 (h1 := rs_tmp rfl) (H' := []) (hT := ⟨by simp [mayAttrM, g1, g2, g3], rfl⟩)
    · repeat (first | refine o_v (k := ?_) | refine c_seq ?_ | refine c_region ?_ | refine o_nil ?_ | refine e_then_normal ?_ | refine o_store (k := ?_) | refine c_true (h1 := ?_) | refine c_false (h1 := ?_) | refine c_ret ?_ | refine c_skip ?_ | refine e_then_ret ?_ | refine c_block ?_ | refine c_exit ?_ | refine e_then_exit ?_ | refine e_block_exit ?_ | refine e_block_normal ?_ | refine e_block_ret ?_ | refine o_box (k := fun _ => ?_) | refine o_alloc (k := fun _ => ?_) | refine e_norm ?_ | refine o_ung (k := ?_) | refine o_k (k := ?_) | refine s_v (k := ?_) | refine s_w (k := ?_) | refine s_k (k := ?_) | refine s_nil ?_ | refine e_block_exit_ne rfl ?_)
      refine o_bool 16 rfl (fun g3 => ?_) (fun g3 => ?_)
      · repeat (first | refine o_v (k := ?_) | refine c_seq ?_ | refine c_region ?_ | refine o_nil ?_ | refine e_then_normal ?_ | refine o_store (k := ?_) | refine c_true (h1 := ?_) | refine c_false (h1 := ?_) | refine c_ret ?_ | refine c_skip ?_ | refine e_then_ret ?_ | refine c_block ?_ | refine c_exit ?_ | refine e_then_exit ?_ | refine e_block_exit ?_ | refine e_block_normal ?_ | refine e_block_ret ?_ | refine o_box (k := fun _ => ?_) | refine o_alloc (k := fun _ => ?_) | refine e_norm ?_ | refine o_ung (k := ?_) | refine o_k (k := ?_) | refine s_v (k := ?_) | refine s_w (k := ?_) | refine s_k (k := ?_) | refine s_nil ?_ | refine e_block_exit_ne rfl ?_)
        refine o_bool 21 rfl (fun g4 => ?_) (fun g4 => ?_)
        · repeat (first | refine o_v (k := ?_) | refine c_seq ?_ | refine c_region ?_ | refine o_nil ?_ | refine e_then_normal ?_ | refine o_store (k := ?_) | refine c_true (h1 := ?_) | refine c_false (h1 := ?_) | refine c_ret ?_ | refine c_skip ?_ | refine e_then_ret ?_ | refine c_block ?_ | refine c_exit ?_ | refine e_then_exit ?_ | refine e_block_exit ?_ | refine e_block_normal ?_ | refine e_block_ret ?_ | refine o_box (k := fun _ => ?_) | refine o_alloc (k := fun _ => ?_) | refine e_norm ?_ | refine o_ung (k := ?_) | refine o_k (k := ?_) | refine s_v (k := ?_) | refine s_w (k := ?_) | refine s_k (k := ?_) | refine s_nil ?_ | refine e_block_exit_ne rfl ?_)
          refine o_bool 26 rfl (fun g5 => ?_) (fun g5 => ?_)
          · repeat (first | refine o_v (k := ?_) | refine c_seq ?_ | refine c_region ?_ | refine o_nil ?_ | refine e_then_normal ?_ | refine o_store (k := ?_) | refine c_true (h1 := ?_) | refine c_false (h1 := ?_) | refine c_ret ?_ | refine c_skip ?_ | refine e_then_ret ?_ | refine c_block ?_ | refine c_exit ?_ | refine e_then_exit ?_ | refine e_block_exit ?_ | refine e_block_normal ?_ | refine e_block_ret ?_ | refine o_box (k := fun _ => ?_) | refine o_alloc (k := fun _ => ?_) | refine e_norm ?_ | refine o_ung (k := ?_) | refine o_k (k := ?_) | refine s_v (k := ?_) | refine s_w (k := ?_) | refine s_k (k := ?_) | refine s_nil ?_ | refine e_block_exit_ne rfl ?_)
            refine o_bool 31 rfl (fun g6 => ?_) (fun g6 => ?_)
            · repeat (first | refine o_v (k := ?_) | refine c_seq ?_ | refine c_region ?_ | refine o_nil ?_ | refine e_then_normal ?_ | refine o_store (k := ?_) | refine c_true (h1 := ?_) | refine c_false (h1 := ?_) | refine c_ret ?_ | refine c_skip ?_ | refine e_then_ret ?_ | refine c_block ?_ | refine c_exit ?_ | refine e_then_exit ?_ | refine e_block_exit ?_ | refine e_block_normal ?_ | refine e_block_ret ?_ | refine o_box (k := fun _ => ?_) | refine o_alloc (k := fun _ => ?_) | refine e_norm ?_ | refine o_ung (k := ?_) | refine o_k (k := ?_) | refine s_v (k := ?_) | refine s_w (k := ?_) | refine s_k (k := ?_) | refine s_nil ?_ | refine e_block_exit_ne rfl ?_)
              exact e_1 (h1 := rs_tmp rfl) (H' := []) (hT := ⟨by simp [mayAttrM, g1, g2, g3, g4, g5, g6], rfl⟩)
            · repeat (first | refine o_v (k := ?_) | refine c_seq ?_ | refine c_region ?_ | refine o_nil ?_ | refine e_then_normal ?_ | refine o_store (k := ?_) | refine c_true (h1 := ?_) | refine c_false (h1 := ?_) | refine c_ret ?_ | refine c_skip ?_ | refine e_then_ret ?_ | refine c_block ?_ | refine c_exit ?_ | refine e_then_exit ?_ | refine e_block_exit ?_ | refine e_block_normal ?_ | refine e_block_ret ?_ | refine o_box (k := fun _ => ?_) | refine o_alloc (k := fun _ => ?_) | refine e_norm ?_ | refine o_ung (k := ?_) | refine o_k (k := ?_) | refine s_v (k := ?_) | refine s_w (k := ?_) | refine s_k (k := ?_) | refine s_nil ?_ | refine e_block_exit_ne rfl ?_)
              exact e_1 (h1 := rs_tmp rfl) (H' := []) (hT := ⟨by simp [mayAttrM, g1, g2, g3, g4, g5, g6], rfl⟩)
          · repeat (first | refine o_v (k := ?_) | refine c_seq ?_ | refine c_region ?_ | refine o_nil ?_ | refine e_then_normal ?_ | refine o_store (k := ?_) | refine c_true (h1 := ?_) | refine c_false (h1 := ?_) | refine c_ret ?_ | refine c_skip ?_ | refine e_then_ret ?_ | refine c_block ?_ | refine c_exit ?_ | refine e_then_exit ?_ | refine e_block_exit ?_ | refine e_block_normal ?_ | refine e_block_ret ?_ | refine o_box (k := fun _ => ?_) | refine o_alloc (k := fun _ => ?_) | refine e_norm ?_ | refine o_ung (k := ?_) | refine o_k (k := ?_) | refine s_v (k := ?_) | refine s_w (k := ?_) | refine s_k (k := ?_) | refine s_nil ?_ | refine e_block_exit_ne rfl ?_)
            exact e_1 (h1 := rs_tmp rfl) (H' := []) (hT := ⟨by simp [mayAttrM, g1, g2, g3, g4, g5], rfl⟩)
        · repeat (first | refine o_v (k := ?_) | refine c_seq ?_ | refine c_region ?_ | refine o_nil ?_ | refine e_then_normal ?_ | refine o_store (k := ?_) | refine c_true (h1 := ?_) | refine c_false (h1 := ?_) | refine c_ret ?_ | refine c_skip ?_ | refine e_then_ret ?_ | refine c_block ?_ | refine c_exit ?_ | refine e_then_exit ?_ | refine e_block_exit ?_ | refine e_block_normal ?_ | refine e_block_ret ?_ | refine o_box (k := fun _ => ?_) | refine o_alloc (k := fun _ => ?_) | refine e_norm ?_ | refine o_ung (k := ?_) | refine o_k (k := ?_) | refine s_v (k := ?_) | refine s_w (k := ?_) | refine s_k (k := ?_) | refine s_nil ?_ | refine e_block_exit_ne rfl ?_)
          exact e_1 (h1 := rs_tmp rfl) (H' := []) (hT := ⟨by simp [mayAttrM, g1, g2, g3, g4], rfl⟩)
      · repeat (first | refine o_v (k := ?_) | refine c_seq ?_ | refine c_region ?_ | refine o_nil ?_ | refine e_then_normal ?_ | refine o_store (k := ?_) | refine c_true (h1 := ?_) | refine c_false (h1 := ?_) | refine c_ret ?_ | refine c_skip ?_ | refine e_then_ret ?_ | refine c_block ?_ | refine c_exit ?_ | refine e_then_exit ?_ | refine e_block_exit ?_ | refine e_block_normal ?_ | refine e_block_ret ?_ | refine o_box (k := fun _ => ?_) | refine o_alloc (k := fun _ => ?_) | refine e_norm ?_ | refine o_ung (k := ?_) | refine o_k (k := ?_) | refine s_v (k := ?_) | refine s_w (k := ?_) | refine s_k (k := ?_) | refine s_nil ?_ | refine e_block_exit_ne rfl ?_)
        exact e_1 (h1 := rs_tmp rfl) (H' := []) (hT := ⟨by simp [mayAttrM, g1, g2, g3], rfl⟩)
  · repeat (first | refine o_u (k := ?_) | refine o_k (k := ?_) | refine o_v (k := ?_) | refine o_nil ?_ | refine e_then_normal ?_ | refine c_ret ?_)
    exact e_1 (h1 := rs_tmp rfl) (H' := []) (hT := ⟨by simp [mayAttrM, g1], rfl⟩)

set_option maxRecDepth 20000 in
set_option maxHeartbeats 4000000 in
theorem layAttr_ok (own : Bool) (q : Option Addr) (l : List UInt8) (c i g k m s : Nat) (hl : l.length ≤ 800000) (hc : l.length ≤ c) (hi : i < 4294967296) (hg : g < 4294967296) (hk : k < 4294967296) (hm : m < 4294967296) (hs : s < 4294967296) : Ct Tryz.prog 75 [.slice q l.length c, .agg #[.int .i64 i, .int .i64 g, .int .i64 k, .int .i64 m, .int .i64 s]] [bytesA own q l] (Ret fun u H => H = [bufA u (l ++ w32 i ++ w32 g ++ w32 k ++ w32 m ++ w32 s), bytesA own q l]) := by
  refine fn_enter Tryz.func75 rfl Tryz.ntmps75 rfl fun _ _ _ => ?_
  repeat (first | refine o_v (k := ?_) | refine c_seq ?_ | refine c_region ?_ | refine o_nil ?_ | refine e_then_normal ?_ | refine o_store (k := ?_) | refine c_true (h1 := ?_) | refine c_false (h1 := ?_) | refine c_ret ?_ | refine c_skip ?_ | refine e_then_ret ?_ | refine c_block ?_ | refine c_exit ?_ | refine e_then_exit ?_ | refine e_block_exit ?_ | refine e_block_normal ?_ | refine e_block_ret ?_ | refine o_box (k := fun _ => ?_) | refine o_alloc (k := fun _ => ?_) | refine e_norm ?_ | refine o_ung (k := ?_) | refine o_k (k := ?_) | refine s_v (k := ?_) | refine s_w (k := ?_) | refine s_k (k := ?_) | refine s_nil ?_ | refine e_block_exit_ne rfl ?_)
  refine o_call (layHandle_ok own q l c i g (by omega) hc hi hg) (k := ?_)
  rintro v _ rfl
  dsimp only [List.cons_append, List.nil_append]
  refine o_buf true v (k := ?_)
  rintro q1 c1 rfl hc1 hm1
  repeat (first | refine o_v (k := ?_) | refine c_seq ?_ | refine c_region ?_ | refine o_nil ?_ | refine e_then_normal ?_ | refine o_store (k := ?_) | refine c_true (h1 := ?_) | refine c_false (h1 := ?_) | refine c_ret ?_ | refine c_skip ?_ | refine e_then_ret ?_ | refine c_block ?_ | refine c_exit ?_ | refine e_then_exit ?_ | refine e_block_exit ?_ | refine e_block_normal ?_ | refine e_block_ret ?_ | refine o_box (k := fun _ => ?_) | refine o_alloc (k := fun _ => ?_) | refine e_norm ?_ | refine o_ung (k := ?_) | refine o_k (k := ?_) | refine s_v (k := ?_) | refine s_w (k := ?_) | refine s_k (k := ?_) | refine s_nil ?_ | refine e_block_exit_ne rfl ?_)
  refine o_call (u32_ok true q1 _ c1 k (by simp; omega) hc1 hk) (k := ?_)
  rintro v _ rfl
  dsimp only [List.cons_append, List.nil_append]
  refine o_buf true v (k := ?_)
  rintro q2 c2 rfl hc2 hm2
  repeat (first | refine o_v (k := ?_) | refine c_seq ?_ | refine c_region ?_ | refine o_nil ?_ | refine e_then_normal ?_ | refine o_store (k := ?_) | refine c_true (h1 := ?_) | refine c_false (h1 := ?_) | refine c_ret ?_ | refine c_skip ?_ | refine e_then_ret ?_ | refine c_block ?_ | refine c_exit ?_ | refine e_then_exit ?_ | refine e_block_exit ?_ | refine e_block_normal ?_ | refine e_block_ret ?_ | refine o_box (k := fun _ => ?_) | refine o_alloc (k := fun _ => ?_) | refine e_norm ?_ | refine o_ung (k := ?_) | refine o_k (k := ?_) | refine s_v (k := ?_) | refine s_w (k := ?_) | refine s_k (k := ?_) | refine s_nil ?_ | refine e_block_exit_ne rfl ?_)
  refine o_call (u32_ok true q2 _ c2 m (by simp; omega) hc2 hm) (k := ?_)
  rintro v _ rfl
  dsimp only [List.cons_append, List.nil_append]
  refine o_buf true v (k := ?_)
  rintro q3 c3 rfl hc3 hm3
  repeat (first | refine o_v (k := ?_) | refine c_seq ?_ | refine c_region ?_ | refine o_nil ?_ | refine e_then_normal ?_ | refine o_store (k := ?_) | refine c_true (h1 := ?_) | refine c_false (h1 := ?_) | refine c_ret ?_ | refine c_skip ?_ | refine e_then_ret ?_ | refine c_block ?_ | refine c_exit ?_ | refine e_then_exit ?_ | refine e_block_exit ?_ | refine e_block_normal ?_ | refine e_block_ret ?_ | refine o_box (k := fun _ => ?_) | refine o_alloc (k := fun _ => ?_) | refine e_norm ?_ | refine o_ung (k := ?_) | refine o_k (k := ?_) | refine s_v (k := ?_) | refine s_w (k := ?_) | refine s_k (k := ?_) | refine s_nil ?_ | refine e_block_exit_ne rfl ?_)
  refine o_call (u32_ok true q3 _ c3 s (by simp; omega) hc3 hs) (k := ?_)
  rintro v _ rfl
  dsimp only [List.cons_append, List.nil_append]
  repeat (first | refine o_v (k := ?_) | refine c_seq ?_ | refine c_region ?_ | refine o_nil ?_ | refine e_then_normal ?_ | refine o_store (k := ?_) | refine c_true (h1 := ?_) | refine c_false (h1 := ?_) | refine c_ret ?_ | refine c_skip ?_ | refine e_then_ret ?_ | refine c_block ?_ | refine c_exit ?_ | refine e_then_exit ?_ | refine e_block_exit ?_ | refine e_block_normal ?_ | refine e_block_ret ?_ | refine o_box (k := fun _ => ?_) | refine o_alloc (k := fun _ => ?_) | refine e_norm ?_ | refine o_ung (k := ?_) | refine o_k (k := ?_) | refine s_v (k := ?_) | refine s_w (k := ?_) | refine s_k (k := ?_) | refine s_nil ?_ | refine e_block_exit_ne rfl ?_)
  exact e_1 (h1 := rs_tmp rfl) (H' := [bufA v (l ++ w32 i ++ w32 g ++ w32 k ++ w32 m ++ w32 s), bytesA own q l]) (hT := rfl)
end Go.Proofs.YtlkgdidmhmaneaaGreatDoor
/- answers, part 5: mayEntries. -/
namespace Go.Proofs.YtlkgdidmhmaneaaGreatDoor
open Go Go.RowKit
attribute [local irreducible] Yl OG CG EG SG AG  CellIn CellsIn BlkIn InA TakeA SplitA SubA Ct ResOk Good Held blk cellsA exA
def mayEnt (e : Ent) : Bool := nameOk e.1 && (wordOk e.2.1 && wordOk e.2.2)
def mayEntsM (l : List Ent) : Bool := decide (l.length ≤ 64) && l.all mayEnt

set_option maxRecDepth 20000 in
set_option maxHeartbeats 4000000 in
theorem mayEnts_ok (own : Bool) (q : Option Addr) (l : List Ent) (c : Nat) (hl : l.length ≤ 1000000) (hn : ∀ e ∈ l, e.1.length ≤ 1000000) : Ct Tryz.prog 117 [.slice q l.length c] [cellsA own q (entsC l)] (Ret fun u H => u = .bool (mayEntsM l) ∧ H = [cellsA own q (entsC l)]) := by
  refine fn_enter Tryz.func117 rfl Tryz.ntmps117 rfl fun _ _ _ => ?_
  repeat (first | refine o_v (k := ?_) | refine c_seq ?_ | refine c_region ?_ | refine o_nil ?_ | refine e_then_normal ?_ | refine o_store (k := ?_) | refine c_true (h1 := ?_) | refine c_false (h1 := ?_) | refine c_ret ?_ | refine c_skip ?_ | refine e_then_ret ?_ | refine c_block ?_ | refine c_exit ?_ | refine e_then_exit ?_ | refine e_block_exit ?_ | refine e_block_normal ?_ | refine e_block_ret ?_ | refine o_box (k := fun _ => ?_) | refine o_alloc (k := fun _ => ?_) | refine e_norm ?_ | refine o_ung (k := ?_) | refine o_k (k := ?_) | refine s_v (k := ?_) | refine s_w (k := ?_) | refine s_k (k := ?_) | refine s_nil ?_ | refine e_block_exit_ne rfl ?_)
  refine c_if (h1 := fun h => ?_) (h2 := fun h => ?_)
  · repeat (first | refine o_v (k := ?_) | refine c_seq ?_ | refine c_region ?_ | refine o_nil ?_ | refine e_then_normal ?_ | refine o_store (k := ?_) | refine c_true (h1 := ?_) | refine c_false (h1 := ?_) | refine c_ret ?_ | refine c_skip ?_ | refine e_then_ret ?_ | refine c_block ?_ | refine c_exit ?_ | refine e_then_exit ?_ | refine e_block_exit ?_ | refine e_block_normal ?_ | refine e_block_ret ?_ | refine o_box (k := fun _ => ?_) | refine o_alloc (k := fun _ => ?_) | refine e_norm ?_ | refine o_ung (k := ?_) | refine o_k (k := ?_) | refine s_v (k := ?_) | refine s_w (k := ?_) | refine s_k (k := ?_) | refine s_nil ?_ | refine e_block_exit_ne rfl ?_)
    have : ¬ l.length ≤ 64 := by simp at h; omega
    exact e_1 (h1 := rs_tmp rfl) (H' := [cellsA own q (entsC l)]) (hT := ⟨by simp [mayEntsM, this], rfl⟩)
  have h64 : l.length ≤ 64 := by simp at h; omega
  repeat (first | refine o_v (k := ?_) | refine c_seq ?_ | refine c_region ?_ | refine o_nil ?_ | refine e_then_normal ?_ | refine o_store (k := ?_) | refine c_true (h1 := ?_) | refine c_false (h1 := ?_) | refine c_ret ?_ | refine c_skip ?_ | refine e_then_ret ?_ | refine c_block ?_ | refine c_exit ?_ | refine e_then_exit ?_ | refine e_block_exit ?_ | refine e_block_normal ?_ | refine e_block_ret ?_ | refine o_box (k := fun _ => ?_) | refine o_alloc (k := fun _ => ?_) | refine e_norm ?_ | refine o_ung (k := ?_) | refine o_k (k := ?_) | refine s_v (k := ?_) | refine s_w (k := ?_) | refine s_k (k := ?_) | refine s_nil ?_ | refine e_block_exit_ne rfl ?_)
  refine c_loop (α := Nat) (fun k => [(10, .int .i64 k), (9, .int .i64 l.length), (8, .slice q l.length c)]) (fun _ => [cellsA own q (entsC l)]) (fun k => k ≤ l.length ∧ (l.take k).all mayEnt = true) (fun k => l.length - k) 0 ⟨by omega, by simp⟩ ⟨rfl, rfl, rfl, trivial⟩ (fun _ h => h) ?_
  rintro k ⟨hk, hz⟩
  (try dsimp only at hk ⊢)
  repeat (first | refine o_v (k := ?_) | refine c_seq ?_ | refine c_region ?_ | refine o_nil ?_ | refine e_then_normal ?_ | refine o_store (k := ?_) | refine c_true (h1 := ?_) | refine c_false (h1 := ?_) | refine c_ret ?_ | refine c_skip ?_ | refine e_then_ret ?_ | refine c_block ?_ | refine c_exit ?_ | refine e_then_exit ?_ | refine e_block_exit ?_ | refine e_block_normal ?_ | refine e_block_ret ?_ | refine o_box (k := fun _ => ?_) | refine o_alloc (k := fun _ => ?_) | refine e_norm ?_ | refine o_ung (k := ?_) | refine o_k (k := ?_) | refine s_v (k := ?_) | refine s_w (k := ?_) | refine s_k (k := ?_) | refine s_nil ?_ | refine e_block_exit_ne rfl ?_)
  refine c_if (h1 := fun h => ?_) (h2 := fun h => ?_)
  · have hlt : k < l.length := by simpa using h
    have g1 : (l.map entC)[k]? = some (entC l[k]) := by simp [hlt]
    have hm : l[k] ∈ l := List.getElem_mem hlt
    have hbad : mayEnt l[k] = false → mayEntsM l = false := fun hb => by
      have : l.all mayEnt = false := by rw [List.all_eq_false]; exact ⟨l[k], hm, by simp [hb]⟩
      simp [mayEntsM, this]
    have hgood : mayEnt l[k] = true → (l.take (k + 1)).all mayEnt = true := fun hb => by
      rw [List.take_succ_eq_append_getElem hlt, List.all_append, hz]; simp [hb]
    have hnk := hn l[k] hm
    generalize l[k] = e at g1 hbad hgood hnk
    refine c_at own q (entsC l) (entsC_ne (by intro e; simp [e] at hlt)) (k := ?_)
    rintro b1 p1 rfl
    repeat (first | refine o_v (k := ?_) | refine c_seq ?_ | refine c_region ?_ | refine o_nil ?_ | refine e_then_normal ?_ | refine o_store (k := ?_) | refine c_true (h1 := ?_) | refine c_false (h1 := ?_) | refine c_ret ?_ | refine c_skip ?_ | refine e_then_ret ?_ | refine c_block ?_ | refine c_exit ?_ | refine e_then_exit ?_ | refine e_block_exit ?_ | refine e_block_normal ?_ | refine e_block_ret ?_ | refine o_box (k := fun _ => ?_) | refine o_alloc (k := fun _ => ?_) | refine e_norm ?_ | refine o_ung (k := ?_) | refine o_k (k := ?_) | refine s_v (k := ?_) | refine s_w (k := ?_) | refine s_k (k := ?_) | refine s_nil ?_ | refine e_block_exit_ne rfl ?_)
    refine o_y (y_loadA rfl (CellsIn.row (rows := l.map entC) (by repeat (first | exact InA.here | apply InA.there)) (entC_len l) g1 rfl) rfl) rfl ?_
    repeat (first | refine o_v (k := ?_) | refine c_seq ?_ | refine c_region ?_ | refine o_nil ?_ | refine e_then_normal ?_ | refine o_store (k := ?_) | refine c_true (h1 := ?_) | refine c_false (h1 := ?_) | refine c_ret ?_ | refine c_skip ?_ | refine e_then_ret ?_ | refine c_block ?_ | refine c_exit ?_ | refine e_then_exit ?_ | refine e_block_exit ?_ | refine e_block_normal ?_ | refine e_block_ret ?_ | refine o_box (k := fun _ => ?_) | refine o_alloc (k := fun _ => ?_) | refine e_norm ?_ | refine o_ung (k := ?_) | refine o_k (k := ?_) | refine s_v (k := ?_) | refine s_w (k := ?_) | refine s_k (k := ?_) | refine s_nil ?_ | refine e_block_exit_ne rfl ?_ | (refine o_call (name_ok e.1 hnk) (k := ?_); rintro _ _ ⟨rfl, rfl⟩; dsimp only [List.cons_append, List.nil_append]))
    refine o_bool 18 rfl (fun g2 => ?_) (fun g2 => ?_)
    · repeat (first | refine o_v (k := ?_) | refine c_seq ?_ | refine c_region ?_ | refine o_nil ?_ | refine e_then_normal ?_ | refine o_store (k := ?_) | refine c_true (h1 := ?_) | refine c_false (h1 := ?_) | refine c_ret ?_ | refine c_skip ?_ | refine e_then_ret ?_ | refine c_block ?_ | refine c_exit ?_ | refine e_then_exit ?_ | refine e_block_exit ?_ | refine e_block_normal ?_ | refine e_block_ret ?_ | refine o_box (k := fun _ => ?_) | refine o_alloc (k := fun _ => ?_) | refine e_norm ?_ | refine o_ung (k := ?_) | refine o_k (k := ?_) | refine s_v (k := ?_) | refine s_w (k := ?_) | refine s_k (k := ?_) | refine s_nil ?_ | refine e_block_exit_ne rfl ?_)
      have hno := hbad (by simp at g2; simp [mayEnt, g2])
      exact e_1 (h1 := rs_tmp rfl) (H' := [cellsA own (some ⟨b1, p1, none⟩) (entsC l)]) (hT := ⟨by rw [hno], rfl⟩)
    · repeat (first | refine o_v (k := ?_) | refine c_seq ?_ | refine c_region ?_ | refine o_nil ?_ | refine e_then_normal ?_ | refine o_store (k := ?_) | refine c_true (h1 := ?_) | refine c_false (h1 := ?_) | refine c_ret ?_ | refine c_skip ?_ | refine e_then_ret ?_ | refine c_block ?_ | refine c_exit ?_ | refine e_then_exit ?_ | refine e_block_exit ?_ | refine e_block_normal ?_ | refine e_block_ret ?_ | refine o_box (k := fun _ => ?_) | refine o_alloc (k := fun _ => ?_) | refine e_norm ?_ | refine o_ung (k := ?_) | refine o_k (k := ?_) | refine s_v (k := ?_) | refine s_w (k := ?_) | refine s_k (k := ?_) | refine s_nil ?_ | refine e_block_exit_ne rfl ?_ | (refine o_call (mayHandle_ok _ _) (k := ?_); rintro _ _ ⟨rfl, rfl⟩; dsimp only [List.cons_append, List.nil_append]))
      refine c_if (h1 := fun g3 => ?_) (h2 := fun g3 => ?_)
      · repeat (first | refine o_v (k := ?_) | refine c_seq ?_ | refine c_region ?_ | refine o_nil ?_ | refine e_then_normal ?_ | refine o_store (k := ?_) | refine c_true (h1 := ?_) | refine c_false (h1 := ?_) | refine c_ret ?_ | refine c_skip ?_ | refine e_then_ret ?_ | refine c_block ?_ | refine c_exit ?_ | refine e_then_exit ?_ | refine e_block_exit ?_ | refine e_block_normal ?_ | refine e_block_ret ?_ | refine o_box (k := fun _ => ?_) | refine o_alloc (k := fun _ => ?_) | refine e_norm ?_ | refine o_ung (k := ?_) | refine o_k (k := ?_) | refine s_v (k := ?_) | refine s_w (k := ?_) | refine s_k (k := ?_) | refine s_nil ?_ | refine e_block_exit_ne rfl ?_)
        have hno := hbad (by simp at g3; rcases g3 with g3 | g3 <;> simp [mayEnt, g3])
        exact e_1 (h1 := rs_tmp rfl) (H' := [cellsA own (some ⟨b1, p1, none⟩) (entsC l)]) (hT := ⟨by rw [hno], rfl⟩)
      · repeat (first | refine o_v (k := ?_) | refine c_seq ?_ | refine c_region ?_ | refine o_nil ?_ | refine e_then_normal ?_ | refine o_store (k := ?_) | refine c_true (h1 := ?_) | refine c_false (h1 := ?_) | refine c_ret ?_ | refine c_skip ?_ | refine e_then_ret ?_ | refine c_block ?_ | refine c_exit ?_ | refine e_then_exit ?_ | refine e_block_exit ?_ | refine e_block_normal ?_ | refine e_block_ret ?_ | refine o_box (k := fun _ => ?_) | refine o_alloc (k := fun _ => ?_) | refine e_norm ?_ | refine o_ung (k := ?_) | refine o_k (k := ?_) | refine s_v (k := ?_) | refine s_w (k := ?_) | refine s_k (k := ?_) | refine s_nil ?_ | refine e_block_exit_ne rfl ?_)
        have hyes := hgood (by simp at g2 g3; simp [mayEnt, g2, g3])
        refine e_loop (k + 1) ?_ ?_ ?_ ?_
        · exact ⟨hlt, hyes⟩
        · show _ - (k + 1) < _ - k; omega
        · exact ⟨rfl, rfl, rfl, trivial⟩
        · exact fun w hw => to_keep _ hw
  · have hkl : k = l.length := by simp at h; omega
    subst hkl
    rw [List.take_length] at hz
    repeat (first | refine o_v (k := ?_) | refine c_seq ?_ | refine c_region ?_ | refine o_nil ?_ | refine e_then_normal ?_ | refine o_store (k := ?_) | refine c_true (h1 := ?_) | refine c_false (h1 := ?_) | refine c_ret ?_ | refine c_skip ?_ | refine e_then_ret ?_ | refine c_block ?_ | refine c_exit ?_ | refine e_then_exit ?_ | refine e_block_exit ?_ | refine e_block_normal ?_ | refine e_block_ret ?_ | refine o_box (k := fun _ => ?_) | refine o_alloc (k := fun _ => ?_) | refine e_norm ?_ | refine o_ung (k := ?_) | refine o_k (k := ?_) | refine s_v (k := ?_) | refine s_w (k := ?_) | refine s_k (k := ?_) | refine s_nil ?_ | refine e_block_exit_ne rfl ?_)
    exact e_1 (h1 := rs_tmp rfl) (H' := [cellsA own q (entsC l)]) (hT := ⟨by simp [mayEntsM, h64, hz], rfl⟩)
end Go.Proofs.YtlkgdidmhmaneaaGreatDoor
/- The engine, part 13: rows in a block of the call's own; lists of owned things as one. -/
namespace Go.Proofs.YtlkgdidmhmaneaaGreatDoor
open Go Go.RowKit
theorem CellsIn.blkrow {H : List Ast} {b o' sz i : Nat} {t : TypeId} {fz : Nat × Nat} {rows : List (List Value)} {us : List Value} (h : BlkIn H b t rows.flatten fz) (hl : ∀ r ∈ rows, r.length = sz) (hi : rows[i]? = some us) (ho : o' = i * sz) : CellsIn H ⟨b, o', none⟩ us := fun w hw j v hj => by
  subst ho
  rw [Addr.add_lit, cell_of_row w b (i * sz + j) _ t fz (h w hw)]
  simpa using flat_get hl hi j v hj
theorem CellIn.blkrow {H : List Ast} {b o' sz i j : Nat} {t : TypeId} {fz : Nat × Nat} {rows : List (List Value)} {us : List Value} {v : Value} (h : BlkIn H b t rows.flatten fz) (hl : ∀ r ∈ rows, r.length = sz) (hi : rows[i]? = some us) (hj : us[j]? = some v) (ho : o' = i * sz + j) : CellIn H ⟨b, o', none⟩ v := fun w hw => by
  subst ho
  have := CellsIn.blkrow h hl hi rfl w hw j v hj
  rwa [Addr.add_lit] at this
theorem flat_set {sz : Nat} : ∀ {rows : List (List Value)} {i j : Nat} {us : List Value} (v : Value), (∀ r ∈ rows, r.length = sz) → rows[i]? = some us → j < us.length → rows.flatten.set (i * sz + j) v = (rows.set i (us.set j v)).flatten
  | [], i, _, us, _, _, h, _ => by simp at h
  | r :: rows, 0, j, us, v, hl, h, hj => by
    simp only [List.getElem?_cons_zero, Option.some.injEq] at h
    subst h
    simp only [Nat.zero_mul, Nat.zero_add, List.flatten_cons, List.set_cons_zero]
    rw [List.set_append_left _ _ hj]
  | r :: rows, i + 1, j, us, v, hl, h, hj => by
    simp only [List.getElem?_cons_succ] at h
    have hr := hl r (by simp)
    simp only [List.flatten_cons, List.set_cons_succ]
    rw [List.set_append_right _ _ (by rw [hr, Nat.add_mul]; omega), hr, show (i + 1) * sz + j - sz = i * sz + j from by rw [Nat.add_mul]; omega, flat_set v (fun r hr => hl r (by simp [hr])) h hj]
theorem flat_len {sz : Nat} : ∀ {rows : List (List Value)}, (∀ r ∈ rows, r.length = sz) → rows.flatten.length = rows.length * sz
  | [], _ => by simp
  | r :: rows, hl => by
    rw [List.flatten_cons, List.length_append, hl r (by simp), flat_len (fun r hr => hl r (by simp [hr])), List.length_cons, Nat.add_mul]; omega
theorem flat_lt {sz i : Nat} {rows : List (List Value)} {us : List Value} (hl : ∀ r ∈ rows, r.length = sz) (hi : rows[i]? = some us) : i * sz + sz ≤ rows.flatten.length := by
  rw [flat_len hl]
  have : i < rows.length := (List.getElem?_eq_some_iff.1 hi).1
  rw [show i * sz + sz = (i + 1) * sz from by rw [Nat.add_mul]; omega]
  exact Nat.mul_le_mul_right _ (by omega)
section
variable {P : Program} {Q : Exit → Act → World → Prop} {G : Ctx} {F : Fr} {H H1 : List Ast} {ops : Array Oper} {rest : List Oper} {c : Code} {ex : Exit}
variable {d : Nat} {ty : TypeId} {pos : String} {aft : Array Edge}
/-- a store into one cell of a row -/
theorem o_storeRow (i j : Nat) {t t' : TypeId} {x y : Operand} {b o sz : Nat} {v : Value} {rows : List (List Value)} {us : List Value} {fz : Nat × Nat} [hs : PSize P t 1] (hx : ev F x = some (.pointer (some ⟨b, o, none⟩)) := by rfl) (hy : ev F y = some v := by rfl)
    (ht : TakeA H (blk b t' rows.flatten fz) H1 := by repeat (first | exact TakeA.here | apply TakeA.there)) (hu : copyL (cellsL v) = some [v] := by rfl) (h1 : allOne [v] = true := by rfl) (hfz : fzOk fz rows.flatten.length) (hl : ∀ r ∈ rows, r.length = sz) (hi : rows[i]? = some us) (hj : j < us.length) (ho : o = i * sz + j)
    (k : OG P ops Q G rest F (blk b t' (rows.set i (us.set j v)).flatten fz :: H1)) : OG P ops Q G (⟨none, .store t x y, ty, pos, aft, none⟩ :: rest) F H := by
  have hlt := flat_lt hl hi
  have hus := hl us (List.mem_of_getElem? hi)
  refine o_storeAt (hx := hx) (hy := hy) (ht := ht) (hu := hu) (hl := rfl) (h1 := h1) (hfz := hfz) (hm := by simp only [List.length_cons, List.length_nil]; omega) (k := ?_)
  have e : rows.flatten.take o ++ [v] ++ rows.flatten.drop (o + [v].length) = (rows.set i (us.set j v)).flatten := by
    rw [← flat_set v hl hi hj, ← ho, List.set_eq_take_append_cons_drop, if_pos (by omega)]
    simp
  rw [e]
  exact k

/-! ### owned things as one -/
theorem TakeA.mid {A : Ast} {ys : List Ast} : ∀ {xs : List Ast}, TakeA (xs ++ A :: ys) A (xs ++ ys)
  | [] => TakeA.here
  | _ :: _ => TakeA.there TakeA.mid
theorem SepL.mid {A : Ast} {ys : List Ast} : ∀ {xs : List Ast} {M T : Nat → Prop} {w : World}, SepL (A :: (xs ++ ys)) M T w → SepL (xs ++ A :: ys) M T w
  | [], _, _, _, h => h
  | x :: xs, M, T, w, h => SepL.cons_imp (fun _ _ _ h => SepL.mid h) (TakeA.there (A := x) (B := A) (H := x :: (xs ++ ys)) TakeA.here M T w h)
abbrev allA (L : List Ast) : Ast := exA (α := Unit) (fun _ => True) (fun _ => L)
theorem allOwn_iff {L : List Ast} : allOwn L ↔ ∀ A ∈ L, A.own = true := by
  induction L with
  | nil => simp [allOwn]
  | cons A L ih => simp [allOwn, ih]
theorem Good.focus {w : World} {L : List Ast} (xs ys : List Ast) (A : Ast) (he : L = xs ++ A :: ys) (ho : ∀ B ∈ L, B.own = true) (h : Good G (allA L :: H) w) : Good G (A :: allA (xs ++ ys) :: H) w := by
  subst he
  obtain ⟨_, _, M, T, h1, h2⟩ := Good.unfold (fun _ => allOwn_iff.2 ho) h
  have h3 : SepL ((A :: (xs ++ ys)) ++ H) M T w := by
    have : TakeA ((xs ++ A :: ys) ++ H) A ((xs ++ ys) ++ H) := by simpa using TakeA.mid (A := A) (xs := xs) (ys := ys ++ H)
    exact this M T w h1
  have ho' : ∀ B ∈ xs ++ ys, B.own = true := fun B hB => ho B (by rcases List.mem_append.1 hB with h | h <;> simp [h])
  have h4 : Good G (A :: ((xs ++ ys) ++ H)) w := ⟨M, T, h3, h2⟩
  obtain ⟨M, T, h1, h2⟩ := h4
  refine ⟨M, T, ?_, h2⟩
  refine SepL.cons_imp (fun M T w hs => ?_) h1
  obtain ⟨S, g1, g2, g3⟩ := SepL.append_split hs
  exact (SepL.cons_own rfl).2 ⟨S, g1, ⟨(), trivial, SepL.noT (allOwn_iff.2 ho') g2⟩, g3⟩
theorem Good.unfocus {w : World} {L : List Ast} (xs ys : List Ast) (A : Ast) (he : L = xs ++ A :: ys) (ho : ∀ B ∈ L, B.own = true) (h : Good G (A :: allA (xs ++ ys) :: H) w) : Good G (allA L :: H) w := by
  subst he
  have ho' : ∀ B ∈ xs ++ ys, B.own = true := fun B hB => ho B (by rcases List.mem_append.1 hB with h | h <;> simp [h])
  refine Good.fold (fun _ => allOwn_iff.2 ho) () trivial ?_
  obtain ⟨M, T, h1, h2⟩ := h
  refine ⟨M, T, ?_, h2⟩
  have h3 : SepL (A :: ((xs ++ ys) ++ H)) M T w := by
    refine SepL.cons_imp (fun M T w hs => ?_) h1
    obtain ⟨S, g1, ⟨_, _, g2⟩, g3⟩ := (SepL.cons_own rfl).1 hs
    exact SepL.append_join g1 (SepL.noT (allOwn_iff.2 ho') g2) g3
  have := SepL.mid (A := A) (xs := xs) (ys := ys ++ H) (by simpa using h3)
  simpa using this
theorem o_focus {L : List Ast} (xs ys : List Ast) (A : Ast) (he : L = xs ++ A :: ys) (ho : ∀ B ∈ L, B.own = true) (ht : TakeA H (allA L) H1 := by repeat (first | exact TakeA.here | apply TakeA.there)) (k : OG P ops Q G rest F (A :: allA (xs ++ ys) :: H1)) : OG P ops Q G rest F H := o_conv (fun _ hw => (hw.take ht).focus xs ys A he ho) k
theorem c_focus {L : List Ast} (xs ys : List Ast) (A : Ast) (he : L = xs ++ A :: ys) (ho : ∀ B ∈ L, B.own = true) (ht : TakeA H (allA L) H1 := by repeat (first | exact TakeA.here | apply TakeA.there)) (k : CG P c Q G F (A :: allA (xs ++ ys) :: H1)) : CG P c Q G F H := c_conv (fun _ hw => (hw.take ht).focus xs ys A he ho) k
theorem e_focus {L : List Ast} (xs ys : List Ast) (A : Ast) (he : L = xs ++ A :: ys) (ho : ∀ B ∈ L, B.own = true) (ht : TakeA H (allA L) H1 := by repeat (first | exact TakeA.here | apply TakeA.there)) (k : EG Q ex G F (A :: allA (xs ++ ys) :: H1)) : EG Q ex G F H := e_conv (fun _ hw => (hw.take ht).focus xs ys A he ho) k
theorem o_unfocus {L : List Ast} (xs ys : List Ast) (A : Ast) (he : L = xs ++ A :: ys) (ho : ∀ B ∈ L, B.own = true) (ht : SplitA H [A, allA (xs ++ ys)] H1 := by (repeat (apply SplitA.cons; (repeat (first | exact TakeA.keepI | exact TakeA.here | apply TakeA.there)))); exact SplitA.nil) (k : OG P ops Q G rest F (allA L :: H1)) : OG P ops Q G rest F H := o_conv (fun _ hw => (hw.split ht).unfocus xs ys A he ho) k
theorem c_unfocus {L : List Ast} (xs ys : List Ast) (A : Ast) (he : L = xs ++ A :: ys) (ho : ∀ B ∈ L, B.own = true) (ht : SplitA H [A, allA (xs ++ ys)] H1 := by (repeat (apply SplitA.cons; (repeat (first | exact TakeA.keepI | exact TakeA.here | apply TakeA.there)))); exact SplitA.nil) (k : CG P c Q G F (allA L :: H1)) : CG P c Q G F H := c_conv (fun _ hw => (hw.split ht).unfocus xs ys A he ho) k
theorem e_unfocus {L : List Ast} (xs ys : List Ast) (A : Ast) (he : L = xs ++ A :: ys) (ho : ∀ B ∈ L, B.own = true) (ht : SplitA H [A, allA (xs ++ ys)] H1 := by (repeat (apply SplitA.cons; (repeat (first | exact TakeA.keepI | exact TakeA.here | apply TakeA.there)))); exact SplitA.nil) (k : EG Q ex G F (allA L :: H1)) : EG Q ex G F H := e_conv (fun _ hw => (hw.split ht).unfocus xs ys A he ho) k
/-- what follows of something that is turned no more, beside it -/
theorem Good.also {w : World} {A B : Ast} (ha : A.own = false) (hb : B.own = false) (hi : ∀ S w, A.holds S w → B.holds S w) (ht : TakeA H A H1) (h : Good G H w) : Good G (B :: H) w := by
  obtain ⟨M, T, h1, h2⟩ := h
  exact ⟨M, T, (SepL.cons_imm hb).2 ⟨hi _ _ ((SepL.cons_imm ha).1 (ht _ _ _ h1)).1, h1⟩, h2⟩
theorem o_also (A B : Ast) (hi : ∀ S w, A.holds S w → B.holds S w) (ha : A.own = false := by simp) (hb : B.own = false := by simp) (ht : TakeA H A H1 := by repeat (first | exact TakeA.here | apply TakeA.there)) (k : OG P ops Q G rest F (B :: H)) : OG P ops Q G rest F H := o_conv (fun _ hw => hw.also ha hb hi ht) k
theorem c_also (A B : Ast) (hi : ∀ S w, A.holds S w → B.holds S w) (ha : A.own = false := by simp) (hb : B.own = false := by simp) (ht : TakeA H A H1 := by repeat (first | exact TakeA.here | apply TakeA.there)) (k : CG P c Q G F (B :: H)) : CG P c Q G F H := c_conv (fun _ hw => hw.also ha hb hi ht) k
theorem e_also (A B : Ast) (hi : ∀ S w, A.holds S w → B.holds S w) (ha : A.own = false := by simp) (hb : B.own = false := by simp) (ht : TakeA H A H1 := by repeat (first | exact TakeA.here | apply TakeA.there)) (k : EG Q ex G F (B :: H)) : EG Q ex G F H := e_conv (fun _ hw => hw.also ha hb hi ht) k
end
end Go.Proofs.YtlkgdidmhmaneaaGreatDoor
/- inode: what its functions leave. -/
namespace Go.Proofs.YtlkgdidmhmaneaaGreatDoor
open Go Go.RowKit
attribute [local irreducible] Yl OG CG EG SG AG  CellIn CellsIn BlkIn InA TakeA SplitA SubA Ct ResOk Good Held blk cellsA exA
/-- a place: is there something, how often, the node's block -/
abbrev Pl := Bool × Int × Option Nat
abbrev ptrV (x : Option Nat) : Value := .pointer (x.map fun b => ⟨b, 0, none⟩)
def plRow (x : Pl) : List Value := [.bool x.1, .int .i64 x.2.1, ptrV x.2.2]
def plC (l : List Pl) : List Value := (l.map plRow).flatten
theorem plRow_len (l : List Pl) : ∀ r ∈ l.map plRow, r.length = 3 := by
  intro r hr
  obtain ⟨x, _, rfl⟩ := List.mem_map.1 hr
  rfl
theorem plC_zero (n : Nat) : repL [.bool false, .int .i64 0, .pointer none] n = plC (List.replicate n (false, 0, none)) := by
  induction n with
  | zero => rfl
  | succ n ih => rw [repL, ih, List.replicate_succ]; rfl
abbrev fnH : FuncId := 90
/-- a table -/
def tableA (tb n : Nat) (l : List Pl) : Ast := exA (α := Nat × Nat) (fun _ => l.length = n ∧ n ≤ 64) fun x => [blk tb 172 [.slice (some ⟨x.2, 0, none⟩) n n, .func (.func fnH) #[] #[.pointer (some ⟨x.1, 0, none⟩)]] (0, 0), blk x.1 87 [.pointer (some ⟨tb, 0, none⟩)] (0, 0), blk x.2 174 (plC l) (0, 0)]
@[simp] theorem tableA_own (tb n : Nat) (l : List Pl) : (tableA tb n l).own = true := by unfold tableA; exact exA_own _ _
/-- where a handle's thing is -/
def idxT (l : List Pl) (h : Hd) : Option Nat :=
  if 1 ≤ h.1 then
    match l[(h.1 - 1).toNat]? with
    | some (true, g, _) => if g = h.2 then some (h.1 - 1).toNat else none
    | _ => none
  else none

set_option maxRecDepth 20000 in
set_option maxHeartbeats 4000000 in
theorem tabNew_ok (n : Int) : Ct Tryz.prog 54 [.int .i64 n] [] (Ret fun u H => if 1 ≤ n ∧ n ≤ 64 then ∃ tb, u = .tuple #[.pointer (some ⟨tb, 0, none⟩), .int .i64 0] ∧ H = [tableA tb n.toNat (List.replicate n.toNat (false, 0, none))] else u = .tuple #[.pointer none, .int .i64 1] ∧ H = []) := by
  refine fn_enter Tryz.func54 rfl Tryz.ntmps54 rfl fun _ _ _ => ?_
  repeat (first | refine o_v (k := ?_) | refine c_seq ?_ | refine c_region ?_ | refine o_nil ?_ | refine e_then_normal ?_ | refine o_store (k := ?_) | refine c_true (h1 := ?_) | refine c_false (h1 := ?_) | refine c_ret ?_ | refine c_skip ?_ | refine e_then_ret ?_ | refine c_block ?_ | refine c_exit ?_ | refine e_then_exit ?_ | refine e_block_exit ?_ | refine e_block_normal ?_ | refine e_block_ret ?_ | refine o_box (k := fun _ => ?_) | refine o_alloc (k := fun _ => ?_) | refine e_norm ?_ | refine o_ung (k := ?_) | refine o_k (k := ?_) | refine s_v (k := ?_) | refine s_w (k := ?_) | refine s_k (k := ?_) | refine s_nil ?_ | refine e_block_exit_ne rfl ?_)
  refine o_bool 7 rfl (fun h1 => ?_) (fun h1 => ?_)
  · repeat (first | refine o_v (k := ?_) | refine c_seq ?_ | refine c_region ?_ | refine o_nil ?_ | refine e_then_normal ?_ | refine o_store (k := ?_) | refine c_true (h1 := ?_) | refine c_false (h1 := ?_) | refine c_ret ?_ | refine c_skip ?_ | refine e_then_ret ?_ | refine c_block ?_ | refine c_exit ?_ | refine e_then_exit ?_ | refine e_block_exit ?_ | refine e_block_normal ?_ | refine e_block_ret ?_ | refine o_box (k := fun _ => ?_) | refine o_alloc (k := fun _ => ?_) | refine e_norm ?_ | refine o_ung (k := ?_) | refine o_k (k := ?_) | refine s_v (k := ?_) | refine s_w (k := ?_) | refine s_k (k := ?_) | refine s_nil ?_ | refine e_block_exit_ne rfl ?_)
    have : ¬ (1 ≤ n ∧ n ≤ 64) := by simp at h1; omega
    exact e_2 (h1 := rs_tmp rfl) (h2 := rs_tmp rfl) (H' := []) (hT := by rw [if_neg this]; exact ⟨rfl, rfl⟩)
  repeat (first | refine o_v (k := ?_) | refine c_seq ?_ | refine c_region ?_ | refine o_nil ?_ | refine e_then_normal ?_ | refine o_store (k := ?_) | refine c_true (h1 := ?_) | refine c_false (h1 := ?_) | refine c_ret ?_ | refine c_skip ?_ | refine e_then_ret ?_ | refine c_block ?_ | refine c_exit ?_ | refine e_then_exit ?_ | refine e_block_exit ?_ | refine e_block_normal ?_ | refine e_block_ret ?_ | refine o_box (k := fun _ => ?_) | refine o_alloc (k := fun _ => ?_) | refine e_norm ?_ | refine o_ung (k := ?_) | refine o_k (k := ?_) | refine s_v (k := ?_) | refine s_w (k := ?_) | refine s_k (k := ?_) | refine s_nil ?_ | refine e_block_exit_ne rfl ?_)
  refine c_if (h1 := fun h2 => ?_) (h2 := fun h2 => ?_)
  · repeat (first | refine o_v (k := ?_) | refine c_seq ?_ | refine c_region ?_ | refine o_nil ?_ | refine e_then_normal ?_ | refine o_store (k := ?_) | refine c_true (h1 := ?_) | refine c_false (h1 := ?_) | refine c_ret ?_ | refine c_skip ?_ | refine e_then_ret ?_ | refine c_block ?_ | refine c_exit ?_ | refine e_then_exit ?_ | refine e_block_exit ?_ | refine e_block_normal ?_ | refine e_block_ret ?_ | refine o_box (k := fun _ => ?_) | refine o_alloc (k := fun _ => ?_) | refine e_norm ?_ | refine o_ung (k := ?_) | refine o_k (k := ?_) | refine s_v (k := ?_) | refine s_w (k := ?_) | refine s_k (k := ?_) | refine s_nil ?_ | refine e_block_exit_ne rfl ?_)
    have : ¬ (1 ≤ n ∧ n ≤ 64) := by simp at h2; omega
    exact e_2 (h1 := rs_tmp rfl) (h2 := rs_tmp rfl) (H' := []) (hT := by rw [if_neg this]; exact ⟨rfl, rfl⟩)
  have hn : 1 ≤ n ∧ n ≤ 64 := by simp at h1 h2; omega
  repeat (first | refine o_v (k := ?_) | refine c_seq ?_ | refine c_region ?_ | refine o_nil ?_ | refine e_then_normal ?_ | refine o_store (k := ?_) | refine c_true (h1 := ?_) | refine c_false (h1 := ?_) | refine c_ret ?_ | refine c_skip ?_ | refine e_then_ret ?_ | refine c_block ?_ | refine c_exit ?_ | refine e_then_exit ?_ | refine e_block_exit ?_ | refine e_block_normal ?_ | refine e_block_ret ?_ | refine o_box (k := fun _ => ?_) | refine o_alloc (k := fun _ => ?_) | refine e_norm ?_ | refine o_ung (k := ?_) | refine o_k (k := ?_) | refine s_v (k := ?_) | refine s_w (k := ?_) | refine s_k (k := ?_) | refine s_nil ?_ | refine e_block_exit_ne rfl ?_)
  refine o_make (h := by omega) (k := fun pb => ?_)
  repeat (first | refine o_v (k := ?_) | refine c_seq ?_ | refine c_region ?_ | refine o_nil ?_ | refine e_then_normal ?_ | refine o_store (k := ?_) | refine c_true (h1 := ?_) | refine c_false (h1 := ?_) | refine c_ret ?_ | refine c_skip ?_ | refine e_then_ret ?_ | refine c_block ?_ | refine c_exit ?_ | refine e_then_exit ?_ | refine e_block_exit ?_ | refine e_block_normal ?_ | refine e_block_ret ?_ | refine o_box (k := fun _ => ?_) | refine o_alloc (k := fun _ => ?_) | refine e_norm ?_ | refine o_ung (k := ?_) | refine o_k (k := ?_) | refine s_v (k := ?_) | refine s_w (k := ?_) | refine s_k (k := ?_) | refine s_nil ?_ | refine e_block_exit_ne rfl ?_)
  rename_i tb cb
  rw [plC_zero]
  refine e_fold (tableA tb n.toNat (List.replicate n.toNat (false, 0, none))) (cb, pb) (hx := by exact ⟨by simp, by omega⟩) (k := ?_)
  exact e_2 (h1 := rs_tmp rfl) (h2 := rs_tmp rfl) (H' := [tableA tb n.toNat (List.replicate n.toNat (false, 0, none))]) (hT := by rw [if_pos hn]; exact ⟨tb, rfl, rfl⟩)

set_option maxRecDepth 20000 in
set_option maxHeartbeats 4000000 in
theorem tabHandle_ok (tb cb pb n i : Nat) (f : Value) (l : List Pl) (x : Pl) (hi : l[i]? = some x) (hn : l.length = n) (hs : n ≤ 64) : Ct Tryz.prog 90 [.int .i64 i, .pointer (some ⟨cb, 0, none⟩)] [blk tb 172 [.slice (some ⟨pb, 0, none⟩) n n, f] (0, 0), blk cb 87 [.pointer (some ⟨tb, 0, none⟩)] (0, 0), blk pb 174 (plC l) (0, 0)] (Ret fun u H => u = .agg #[.int .i64 (i + 1), .int .i64 x.2.1] ∧ H = [blk tb 172 [.slice (some ⟨pb, 0, none⟩) n n, f] (0, 0), blk cb 87 [.pointer (some ⟨tb, 0, none⟩)] (0, 0), blk pb 174 (plC l) (0, 0)]) := by
  refine fn_enter Tryz.func90 rfl Tryz.ntmps90 rfl fun _ _ _ => ?_
  have hlt : i < l.length := (List.getElem?_eq_some_iff.1 hi).1
  repeat (first | refine o_v (k := ?_) | refine c_seq ?_ | refine c_region ?_ | refine o_nil ?_ | refine e_then_normal ?_ | refine o_store (k := ?_) | refine c_true (h1 := ?_) | refine c_false (h1 := ?_) | refine c_ret ?_ | refine c_skip ?_ | refine e_then_ret ?_ | refine c_block ?_ | refine c_exit ?_ | refine e_then_exit ?_ | refine e_block_exit ?_ | refine e_block_normal ?_ | refine e_block_ret ?_ | refine o_box (k := fun _ => ?_) | refine o_alloc (k := fun _ => ?_) | refine e_norm ?_ | refine o_ung (k := ?_) | refine o_k (k := ?_) | refine s_v (k := ?_) | refine s_w (k := ?_) | refine s_k (k := ?_) | refine s_nil ?_ | refine e_block_exit_ne rfl ?_)
  refine o_y (y_load rfl (CellIn.blkrow (rows := l.map plRow) (sz := 3) (i := i) (j := 1) (by repeat (first | exact BlkIn.here | apply BlkIn.there)) (plRow_len l) (by rw [List.getElem?_map, hi]; rfl) rfl rfl)) rfl ?_
  repeat (first | refine o_v (k := ?_) | refine c_seq ?_ | refine c_region ?_ | refine o_nil ?_ | refine e_then_normal ?_ | refine o_store (k := ?_) | refine c_true (h1 := ?_) | refine c_false (h1 := ?_) | refine c_ret ?_ | refine c_skip ?_ | refine e_then_ret ?_ | refine c_block ?_ | refine c_exit ?_ | refine e_then_exit ?_ | refine e_block_exit ?_ | refine e_block_normal ?_ | refine e_block_ret ?_ | refine o_box (k := fun _ => ?_) | refine o_alloc (k := fun _ => ?_) | refine e_norm ?_ | refine o_ung (k := ?_) | refine o_k (k := ?_) | refine s_v (k := ?_) | refine s_w (k := ?_) | refine s_k (k := ?_) | refine s_nil ?_ | refine e_block_exit_ne rfl ?_)
  exact e_1 (h1 := rs_blk) (H' := [blk tb 172 [.slice (some ⟨pb, 0, none⟩) n n, f] (0, 0), blk cb 87 [.pointer (some ⟨tb, 0, none⟩)] (0, 0), blk pb 174 (plC l) (0, 0)]) (hT := ⟨rfl, rfl⟩)

set_option maxRecDepth 20000 in
set_option maxHeartbeats 4000000 in
theorem tabFind_ok (tb pb n : Nat) (f : Value) (l : List Pl) (h : Hd) (hn : l.length = n) (hs : n ≤ 64) : Ct Tryz.prog 202 [.pointer (some ⟨tb, 0, none⟩), .agg #[.int .i64 h.1, .int .i64 h.2]] [blk tb 172 [.slice (some ⟨pb, 0, none⟩) n n, f] (0, 0), blk pb 174 (plC l) (0, 0)] (Ret fun u H => u = .pointer ((idxT l h).map fun i => ⟨pb, i * 3, none⟩) ∧ H = [blk tb 172 [.slice (some ⟨pb, 0, none⟩) n n, f] (0, 0), blk pb 174 (plC l) (0, 0)]) := by
  refine fn_enter Tryz.func202 rfl Tryz.ntmps202 rfl fun _ _ _ => ?_
  obtain ⟨ino, gen⟩ := h
  repeat (first | refine o_v (k := ?_) | refine c_seq ?_ | refine c_region ?_ | refine o_nil ?_ | refine e_then_normal ?_ | refine o_store (k := ?_) | refine c_true (h1 := ?_) | refine c_false (h1 := ?_) | refine c_ret ?_ | refine c_skip ?_ | refine e_then_ret ?_ | refine c_block ?_ | refine c_exit ?_ | refine e_then_exit ?_ | refine e_block_exit ?_ | refine e_block_normal ?_ | refine e_block_ret ?_ | refine o_box (k := fun _ => ?_) | refine o_alloc (k := fun _ => ?_) | refine e_norm ?_ | refine o_ung (k := ?_) | refine o_k (k := ?_) | refine s_v (k := ?_) | refine s_w (k := ?_) | refine s_k (k := ?_) | refine s_nil ?_ | refine e_block_exit_ne rfl ?_)
  refine c_still 12 (by kernel_rfl) ?_
  repeat (first | refine o_v (k := ?_) | refine c_seq ?_ | refine c_region ?_ | refine o_nil ?_ | refine e_then_normal ?_ | refine o_store (k := ?_) | refine c_true (h1 := ?_) | refine c_false (h1 := ?_) | refine c_ret ?_ | refine c_skip ?_ | refine e_then_ret ?_ | refine c_block ?_ | refine c_exit ?_ | refine e_then_exit ?_ | refine e_block_exit ?_ | refine e_block_normal ?_ | refine e_block_ret ?_ | refine o_box (k := fun _ => ?_) | refine o_alloc (k := fun _ => ?_) | refine e_norm ?_ | refine o_ung (k := ?_) | refine o_k (k := ?_) | refine s_v (k := ?_) | refine s_w (k := ?_) | refine s_k (k := ?_) | refine s_nil ?_ | refine e_block_exit_ne rfl ?_)
  refine s_bool 9 rfl (fun h1 => ?_) (fun h1 => ?_)
  · repeat (first | refine o_v (k := ?_) | refine c_seq ?_ | refine c_region ?_ | refine o_nil ?_ | refine e_then_normal ?_ | refine o_store (k := ?_) | refine c_true (h1 := ?_) | refine c_false (h1 := ?_) | refine c_ret ?_ | refine c_skip ?_ | refine e_then_ret ?_ | refine c_block ?_ | refine c_exit ?_ | refine e_then_exit ?_ | refine e_block_exit ?_ | refine e_block_normal ?_ | refine e_block_ret ?_ | refine o_box (k := fun _ => ?_) | refine o_alloc (k := fun _ => ?_) | refine e_norm ?_ | refine o_ung (k := ?_) | refine o_k (k := ?_) | refine s_v (k := ?_) | refine s_w (k := ?_) | refine s_k (k := ?_) | refine s_nil ?_ | refine e_block_exit_ne rfl ?_)
    have hN : idxT l (ino, gen) = none := by simp at h1; simp only [idxT]; rw [if_neg (by omega)]
    rw [hN]
    exact e_1 (h1 := rs_tmp rfl) (hT := ⟨rfl, rfl⟩)
  repeat (first | refine o_v (k := ?_) | refine c_seq ?_ | refine c_region ?_ | refine o_nil ?_ | refine e_then_normal ?_ | refine o_store (k := ?_) | refine c_true (h1 := ?_) | refine c_false (h1 := ?_) | refine c_ret ?_ | refine c_skip ?_ | refine e_then_ret ?_ | refine c_block ?_ | refine c_exit ?_ | refine e_then_exit ?_ | refine e_block_exit ?_ | refine e_block_normal ?_ | refine e_block_ret ?_ | refine o_box (k := fun _ => ?_) | refine o_alloc (k := fun _ => ?_) | refine e_norm ?_ | refine o_ung (k := ?_) | refine o_k (k := ?_) | refine s_v (k := ?_) | refine s_w (k := ?_) | refine s_k (k := ?_) | refine s_nil ?_ | refine e_block_exit_ne rfl ?_)
  refine c_if (h1 := fun h2 => ?_) (h2 := fun h2 => ?_)
  · repeat (first | refine o_v (k := ?_) | refine c_seq ?_ | refine c_region ?_ | refine o_nil ?_ | refine e_then_normal ?_ | refine o_store (k := ?_) | refine c_true (h1 := ?_) | refine c_false (h1 := ?_) | refine c_ret ?_ | refine c_skip ?_ | refine e_then_ret ?_ | refine c_block ?_ | refine c_exit ?_ | refine e_then_exit ?_ | refine e_block_exit ?_ | refine e_block_normal ?_ | refine e_block_ret ?_ | refine o_box (k := fun _ => ?_) | refine o_alloc (k := fun _ => ?_) | refine e_norm ?_ | refine o_ung (k := ?_) | refine o_k (k := ?_) | refine s_v (k := ?_) | refine s_w (k := ?_) | refine s_k (k := ?_) | refine s_nil ?_ | refine e_block_exit_ne rfl ?_)
    have hN : idxT l (ino, gen) = none := by
      simp at h1 h2; simp only [idxT]; rw [if_pos (by omega), List.getElem?_eq_none (by omega)]
    rw [hN]
    exact e_1 (h1 := rs_tmp rfl) (hT := ⟨rfl, rfl⟩)
  have hin : 1 ≤ ino ∧ ino ≤ n := by simp at h1 h2; omega
  obtain ⟨⟨is, g, x⟩, hx⟩ : ∃ x, l[(ino - 1).toNat]? = some x := ⟨l[(ino - 1).toNat]'(by omega), List.getElem?_eq_getElem _⟩
  have hx' : (l.map plRow)[(ino - 1).toNat]? = some (plRow (is, g, x)) := by rw [List.getElem?_map, hx]; rfl
  repeat (first | refine o_v (k := ?_) | refine c_seq ?_ | refine c_region ?_ | refine o_nil ?_ | refine e_then_normal ?_ | refine o_store (k := ?_) | refine c_true (h1 := ?_) | refine c_false (h1 := ?_) | refine c_ret ?_ | refine c_skip ?_ | refine e_then_ret ?_ | refine c_block ?_ | refine c_exit ?_ | refine e_then_exit ?_ | refine e_block_exit ?_ | refine e_block_normal ?_ | refine e_block_ret ?_ | refine o_box (k := fun _ => ?_) | refine o_alloc (k := fun _ => ?_) | refine e_norm ?_ | refine o_ung (k := ?_) | refine o_k (k := ?_) | refine s_v (k := ?_) | refine s_w (k := ?_) | refine s_k (k := ?_) | refine s_nil ?_ | refine e_block_exit_ne rfl ?_)
  refine c_still 8 (by kernel_rfl) ?_
  repeat (first | refine o_v (k := ?_) | refine c_seq ?_ | refine c_region ?_ | refine o_nil ?_ | refine e_then_normal ?_ | refine o_store (k := ?_) | refine c_true (h1 := ?_) | refine c_false (h1 := ?_) | refine c_ret ?_ | refine c_skip ?_ | refine e_then_ret ?_ | refine c_block ?_ | refine c_exit ?_ | refine e_then_exit ?_ | refine e_block_exit ?_ | refine e_block_normal ?_ | refine e_block_ret ?_ | refine o_box (k := fun _ => ?_) | refine o_alloc (k := fun _ => ?_) | refine e_norm ?_ | refine o_ung (k := ?_) | refine o_k (k := ?_) | refine s_v (k := ?_) | refine s_w (k := ?_) | refine s_k (k := ?_) | refine s_nil ?_ | refine e_block_exit_ne rfl ?_)
  refine c_still 13 (by kernel_rfl) ?_
  repeat (first | refine o_v (k := ?_) | refine c_seq ?_ | refine c_region ?_ | refine o_nil ?_ | refine e_then_normal ?_ | refine o_store (k := ?_) | refine c_true (h1 := ?_) | refine c_false (h1 := ?_) | refine c_ret ?_ | refine c_skip ?_ | refine e_then_ret ?_ | refine c_block ?_ | refine c_exit ?_ | refine e_then_exit ?_ | refine e_block_exit ?_ | refine e_block_normal ?_ | refine e_block_ret ?_ | refine o_box (k := fun _ => ?_) | refine o_alloc (k := fun _ => ?_) | refine e_norm ?_ | refine o_ung (k := ?_) | refine o_k (k := ?_) | refine s_v (k := ?_) | refine s_w (k := ?_) | refine s_k (k := ?_) | refine s_nil ?_ | refine e_block_exit_ne rfl ?_)
  refine s_y (y_load rfl (CellIn.blkrow (rows := l.map plRow) (sz := 3) (i := (ino - 1).toNat) (j := 0) (by repeat (first | exact BlkIn.here | apply BlkIn.there)) (plRow_len l) hx' rfl rfl)) rfl ?_
  repeat (first | refine o_v (k := ?_) | refine c_seq ?_ | refine c_region ?_ | refine o_nil ?_ | refine e_then_normal ?_ | refine o_store (k := ?_) | refine c_true (h1 := ?_) | refine c_false (h1 := ?_) | refine c_ret ?_ | refine c_skip ?_ | refine e_then_ret ?_ | refine c_block ?_ | refine c_exit ?_ | refine e_then_exit ?_ | refine e_block_exit ?_ | refine e_block_normal ?_ | refine e_block_ret ?_ | refine o_box (k := fun _ => ?_) | refine o_alloc (k := fun _ => ?_) | refine e_norm ?_ | refine o_ung (k := ?_) | refine o_k (k := ?_) | refine s_v (k := ?_) | refine s_w (k := ?_) | refine s_k (k := ?_) | refine s_nil ?_ | refine e_block_exit_ne rfl ?_)
  cases is with
  | false =>
    repeat (first | refine o_v (k := ?_) | refine c_seq ?_ | refine c_region ?_ | refine o_nil ?_ | refine e_then_normal ?_ | refine o_store (k := ?_) | refine c_true (h1 := ?_) | refine c_false (h1 := ?_) | refine c_ret ?_ | refine c_skip ?_ | refine e_then_ret ?_ | refine c_block ?_ | refine c_exit ?_ | refine e_then_exit ?_ | refine e_block_exit ?_ | refine e_block_normal ?_ | refine e_block_ret ?_ | refine o_box (k := fun _ => ?_) | refine o_alloc (k := fun _ => ?_) | refine e_norm ?_ | refine o_ung (k := ?_) | refine o_k (k := ?_) | refine s_v (k := ?_) | refine s_w (k := ?_) | refine s_k (k := ?_) | refine s_nil ?_ | refine e_block_exit_ne rfl ?_)
    have hN : idxT l (ino, gen) = none := by simp only [idxT]; rw [if_pos (by omega), hx]
    rw [hN]
    exact e_1 (h1 := rs_tmp rfl) (hT := ⟨rfl, rfl⟩)
  | true =>
    repeat (first | refine o_v (k := ?_) | refine c_seq ?_ | refine c_region ?_ | refine o_nil ?_ | refine e_then_normal ?_ | refine o_store (k := ?_) | refine c_true (h1 := ?_) | refine c_false (h1 := ?_) | refine c_ret ?_ | refine c_skip ?_ | refine e_then_ret ?_ | refine c_block ?_ | refine c_exit ?_ | refine e_then_exit ?_ | refine e_block_exit ?_ | refine e_block_normal ?_ | refine e_block_ret ?_ | refine o_box (k := fun _ => ?_) | refine o_alloc (k := fun _ => ?_) | refine e_norm ?_ | refine o_ung (k := ?_) | refine o_k (k := ?_) | refine s_v (k := ?_) | refine s_w (k := ?_) | refine s_k (k := ?_) | refine s_nil ?_ | refine e_block_exit_ne rfl ?_)
    refine s_w (hy := y_load rfl (CellIn.blkrow (rows := l.map plRow) (sz := 3) (i := (ino - 1).toNat) (j := 1) (by repeat (first | exact BlkIn.here | apply BlkIn.there)) (plRow_len l) hx' rfl rfl)) (k := ?_)
    repeat (first | refine o_v (k := ?_) | refine c_seq ?_ | refine c_region ?_ | refine o_nil ?_ | refine e_then_normal ?_ | refine o_store (k := ?_) | refine c_true (h1 := ?_) | refine c_false (h1 := ?_) | refine c_ret ?_ | refine c_skip ?_ | refine e_then_ret ?_ | refine c_block ?_ | refine c_exit ?_ | refine e_then_exit ?_ | refine e_block_exit ?_ | refine e_block_normal ?_ | refine e_block_ret ?_ | refine o_box (k := fun _ => ?_) | refine o_alloc (k := fun _ => ?_) | refine e_norm ?_ | refine o_ung (k := ?_) | refine o_k (k := ?_) | refine s_v (k := ?_) | refine s_w (k := ?_) | refine s_k (k := ?_) | refine s_nil ?_ | refine e_block_exit_ne rfl ?_)
    refine c_if (h1 := fun h3 => ?_) (h2 := fun h3 => ?_)
    · repeat (first | refine o_v (k := ?_) | refine c_seq ?_ | refine c_region ?_ | refine o_nil ?_ | refine e_then_normal ?_ | refine o_store (k := ?_) | refine c_true (h1 := ?_) | refine c_false (h1 := ?_) | refine c_ret ?_ | refine c_skip ?_ | refine e_then_ret ?_ | refine c_block ?_ | refine c_exit ?_ | refine e_then_exit ?_ | refine e_block_exit ?_ | refine e_block_normal ?_ | refine e_block_ret ?_ | refine o_box (k := fun _ => ?_) | refine o_alloc (k := fun _ => ?_) | refine e_norm ?_ | refine o_ung (k := ?_) | refine o_k (k := ?_) | refine s_v (k := ?_) | refine s_w (k := ?_) | refine s_k (k := ?_) | refine s_nil ?_ | refine e_block_exit_ne rfl ?_)
      have hN : idxT l (ino, gen) = none := by simp at h3; simp only [idxT]; rw [if_pos (by omega), hx]; simp [h3]
      rw [hN]
      exact e_1 (h1 := rs_tmp rfl) (hT := ⟨rfl, rfl⟩)
    · repeat (first | refine o_v (k := ?_) | refine c_seq ?_ | refine c_region ?_ | refine o_nil ?_ | refine e_then_normal ?_ | refine o_store (k := ?_) | refine c_true (h1 := ?_) | refine c_false (h1 := ?_) | refine c_ret ?_ | refine c_skip ?_ | refine e_then_ret ?_ | refine c_block ?_ | refine c_exit ?_ | refine e_then_exit ?_ | refine e_block_exit ?_ | refine e_block_normal ?_ | refine e_block_ret ?_ | refine o_box (k := fun _ => ?_) | refine o_alloc (k := fun _ => ?_) | refine e_norm ?_ | refine o_ung (k := ?_) | refine o_k (k := ?_) | refine s_v (k := ?_) | refine s_w (k := ?_) | refine s_k (k := ?_) | refine s_nil ?_ | refine e_block_exit_ne rfl ?_)
      have hN : idxT l (ino, gen) = some (ino - 1).toNat := by simp at h3; simp only [idxT]; rw [if_pos (by omega), hx]; simp [h3]
      rw [hN]
      exact e_1 (h1 := rs_tmp rfl) (hT := ⟨rfl, rfl⟩)
end Go.Proofs.YtlkgdidmhmaneaaGreatDoor
/- inode, on. -/
namespace Go.Proofs.YtlkgdidmhmaneaaGreatDoor
open Go Go.RowKit
attribute [local irreducible] Yl OG CG EG SG AG  CellIn CellsIn BlkIn InA TakeA SplitA SubA Ct ResOk Good Held blk cellsA exA
def getT (l : List Pl) (h : Hd) : Option (Option Nat) := (idxT l h).bind fun i => (l[i]?).map (·.2.2)
theorem idxT_lt {l : List Pl} {h : Hd} {i : Nat} (hi : idxT l h = some i) : ∃ x, l[i]? = some (true, h.2, x) ∧ h.1 = i + 1 := by
  simp only [idxT] at hi
  split at hi
  · rename_i h1
    split at hi
    · rename_i g x hx
      split at hi
      · rename_i hg
        cases hi
        exact ⟨x, by rw [hx, hg], by omega⟩
      · cases hi
    · cases hi
  · cases hi
theorem plC_set {l : List Pl} {i : Nat} (y : Pl) : ((l.map plRow).set i (plRow y)).flatten = plC (l.set i y) := by rw [plC, List.map_set]

set_option maxRecDepth 20000 in
set_option maxHeartbeats 4000000 in
theorem tabGet_ok (tb n : Nat) (l : List Pl) (h : Hd) : Ct Tryz.prog 178 [.pointer (some ⟨tb, 0, none⟩), .agg #[.int .i64 h.1, .int .i64 h.2]] [tableA tb n l] (Ret fun u H => u = .tuple #[ptrV ((getT l h).getD none), .int .i64 (if (getT l h).isSome then 0 else 8)] ∧ H = [tableA tb n l]) := by
  refine fn_enter Tryz.func178 rfl Tryz.ntmps178 rfl fun _ _ _ => ?_
  refine c_unf (tableA tb n l) (k := ?_)
  rintro ⟨cb, pb⟩ ⟨hn, hs⟩
  dsimp only [List.cons_append, List.nil_append] at hn hs ⊢
  repeat (first | refine o_v (k := ?_) | refine c_seq ?_ | refine c_region ?_ | refine o_nil ?_ | refine e_then_normal ?_ | refine o_store (k := ?_) | refine c_true (h1 := ?_) | refine c_false (h1 := ?_) | refine c_ret ?_ | refine c_skip ?_ | refine e_then_ret ?_ | refine c_block ?_ | refine c_exit ?_ | refine e_then_exit ?_ | refine e_block_exit ?_ | refine e_block_normal ?_ | refine e_block_ret ?_ | refine o_box (k := fun _ => ?_) | refine o_alloc (k := fun _ => ?_) | refine e_norm ?_ | refine o_ung (k := ?_) | refine o_k (k := ?_) | refine s_v (k := ?_) | refine s_w (k := ?_) | refine s_k (k := ?_) | refine s_nil ?_ | refine e_block_exit_ne rfl ?_)
  refine o_call (tabFind_ok tb pb n _ l h hn hs) (k := ?_)
  rintro _ _ ⟨rfl, rfl⟩
  dsimp only [List.cons_append, List.nil_append]
  repeat (first | refine o_v (k := ?_) | refine c_seq ?_ | refine c_region ?_ | refine o_nil ?_ | refine e_then_normal ?_ | refine o_store (k := ?_) | refine c_true (h1 := ?_) | refine c_false (h1 := ?_) | refine c_ret ?_ | refine c_skip ?_ | refine e_then_ret ?_ | refine c_block ?_ | refine c_exit ?_ | refine e_then_exit ?_ | refine e_block_exit ?_ | refine e_block_normal ?_ | refine e_block_ret ?_ | refine o_box (k := fun _ => ?_) | refine o_alloc (k := fun _ => ?_) | refine e_norm ?_ | refine o_ung (k := ?_) | refine o_k (k := ?_) | refine s_v (k := ?_) | refine s_w (k := ?_) | refine s_k (k := ?_) | refine s_nil ?_ | refine e_block_exit_ne rfl ?_)
  cases hi : idxT l h with
  | none =>
    repeat (first | refine o_v (k := ?_) | refine c_seq ?_ | refine c_region ?_ | refine o_nil ?_ | refine e_then_normal ?_ | refine o_store (k := ?_) | refine c_true (h1 := ?_) | refine c_false (h1 := ?_) | refine c_ret ?_ | refine c_skip ?_ | refine e_then_ret ?_ | refine c_block ?_ | refine c_exit ?_ | refine e_then_exit ?_ | refine e_block_exit ?_ | refine e_block_normal ?_ | refine e_block_ret ?_ | refine o_box (k := fun _ => ?_) | refine o_alloc (k := fun _ => ?_) | refine e_norm ?_ | refine o_ung (k := ?_) | refine o_k (k := ?_) | refine s_v (k := ?_) | refine s_w (k := ?_) | refine s_k (k := ?_) | refine s_nil ?_ | refine e_block_exit_ne rfl ?_)
    have hN : getT l h = none := by simp [getT, hi]
    rw [hN]
    refine e_fold (tableA tb n l) (cb, pb) (hx := by exact ⟨hn, hs⟩) (k := ?_)
    exact e_2 (h1 := rs_tmp rfl) (h2 := rs_tmp rfl) (H' := [tableA tb n l]) (hT := ⟨rfl, rfl⟩)
  | some i =>
    obtain ⟨x, hx, -⟩ := idxT_lt hi
    repeat (first | refine o_v (k := ?_) | refine c_seq ?_ | refine c_region ?_ | refine o_nil ?_ | refine e_then_normal ?_ | refine o_store (k := ?_) | refine c_true (h1 := ?_) | refine c_false (h1 := ?_) | refine c_ret ?_ | refine c_skip ?_ | refine e_then_ret ?_ | refine c_block ?_ | refine c_exit ?_ | refine e_then_exit ?_ | refine e_block_exit ?_ | refine e_block_normal ?_ | refine e_block_ret ?_ | refine o_box (k := fun _ => ?_) | refine o_alloc (k := fun _ => ?_) | refine e_norm ?_ | refine o_ung (k := ?_) | refine o_k (k := ?_) | refine s_v (k := ?_) | refine s_w (k := ?_) | refine s_k (k := ?_) | refine s_nil ?_ | refine e_block_exit_ne rfl ?_)
    refine o_y (y_load rfl (CellIn.blkrow (rows := l.map plRow) (sz := 3) (i := i) (j := 2) (by repeat (first | exact BlkIn.here | apply BlkIn.there)) (plRow_len l) (by rw [List.getElem?_map, hx]; rfl) rfl rfl)) rfl ?_
    repeat (first | refine o_v (k := ?_) | refine c_seq ?_ | refine c_region ?_ | refine o_nil ?_ | refine e_then_normal ?_ | refine o_store (k := ?_) | refine c_true (h1 := ?_) | refine c_false (h1 := ?_) | refine c_ret ?_ | refine c_skip ?_ | refine e_then_ret ?_ | refine c_block ?_ | refine c_exit ?_ | refine e_then_exit ?_ | refine e_block_exit ?_ | refine e_block_normal ?_ | refine e_block_ret ?_ | refine o_box (k := fun _ => ?_) | refine o_alloc (k := fun _ => ?_) | refine e_norm ?_ | refine o_ung (k := ?_) | refine o_k (k := ?_) | refine s_v (k := ?_) | refine s_w (k := ?_) | refine s_k (k := ?_) | refine s_nil ?_ | refine e_block_exit_ne rfl ?_)
    have hN : getT l h = some x := by simp [getT, hi, hx]
    rw [hN]
    refine e_fold (tableA tb n l) (cb, pb) (hx := by exact ⟨hn, hs⟩) (k := ?_)
    exact e_2 (h1 := rs_tmp rfl) (h2 := rs_tmp rfl) (H' := [tableA tb n l]) (hT := ⟨rfl, rfl⟩)

set_option maxRecDepth 20000 in
set_option maxHeartbeats 4000000 in
theorem tabRemove_ok (tb n : Nat) (l : List Pl) (h : Hd) : Ct Tryz.prog 207 [.pointer (some ⟨tb, 0, none⟩), .agg #[.int .i64 h.1, .int .i64 h.2]] [tableA tb n l] (Ret fun u H => match idxT l h with
    | none => u = .int .i64 8 ∧ H = [tableA tb n l]
    | some i => u = .int .i64 0 ∧ H = [tableA tb n (l.set i (false, h.2, none))]) := by
  refine fn_enter Tryz.func207 rfl Tryz.ntmps207 rfl fun _ _ _ => ?_
  refine c_unf (tableA tb n l) (k := ?_)
  rintro ⟨cb, pb⟩ ⟨hn, hs⟩
  dsimp only [List.cons_append, List.nil_append] at hn hs ⊢
  repeat (first | refine o_v (k := ?_) | refine c_seq ?_ | refine c_region ?_ | refine o_nil ?_ | refine e_then_normal ?_ | refine o_store (k := ?_) | refine c_true (h1 := ?_) | refine c_false (h1 := ?_) | refine c_ret ?_ | refine c_skip ?_ | refine e_then_ret ?_ | refine c_block ?_ | refine c_exit ?_ | refine e_then_exit ?_ | refine e_block_exit ?_ | refine e_block_normal ?_ | refine e_block_ret ?_ | refine o_box (k := fun _ => ?_) | refine o_alloc (k := fun _ => ?_) | refine e_norm ?_ | refine o_ung (k := ?_) | refine o_k (k := ?_) | refine s_v (k := ?_) | refine s_w (k := ?_) | refine s_k (k := ?_) | refine s_nil ?_ | refine e_block_exit_ne rfl ?_)
  refine o_call (tabFind_ok tb pb n _ l h hn hs) (k := ?_)
  rintro _ _ ⟨rfl, rfl⟩
  dsimp only [List.cons_append, List.nil_append]
  repeat (first | refine o_v (k := ?_) | refine c_seq ?_ | refine c_region ?_ | refine o_nil ?_ | refine e_then_normal ?_ | refine o_store (k := ?_) | refine c_true (h1 := ?_) | refine c_false (h1 := ?_) | refine c_ret ?_ | refine c_skip ?_ | refine e_then_ret ?_ | refine c_block ?_ | refine c_exit ?_ | refine e_then_exit ?_ | refine e_block_exit ?_ | refine e_block_normal ?_ | refine e_block_ret ?_ | refine o_box (k := fun _ => ?_) | refine o_alloc (k := fun _ => ?_) | refine e_norm ?_ | refine o_ung (k := ?_) | refine o_k (k := ?_) | refine s_v (k := ?_) | refine s_w (k := ?_) | refine s_k (k := ?_) | refine s_nil ?_ | refine e_block_exit_ne rfl ?_)
  cases hi : idxT l h with
  | none =>
    repeat (first | refine o_v (k := ?_) | refine c_seq ?_ | refine c_region ?_ | refine o_nil ?_ | refine e_then_normal ?_ | refine o_store (k := ?_) | refine c_true (h1 := ?_) | refine c_false (h1 := ?_) | refine c_ret ?_ | refine c_skip ?_ | refine e_then_ret ?_ | refine c_block ?_ | refine c_exit ?_ | refine e_then_exit ?_ | refine e_block_exit ?_ | refine e_block_normal ?_ | refine e_block_ret ?_ | refine o_box (k := fun _ => ?_) | refine o_alloc (k := fun _ => ?_) | refine e_norm ?_ | refine o_ung (k := ?_) | refine o_k (k := ?_) | refine s_v (k := ?_) | refine s_w (k := ?_) | refine s_k (k := ?_) | refine s_nil ?_ | refine e_block_exit_ne rfl ?_)
    refine e_fold (tableA tb n l) (cb, pb) (hx := by exact ⟨hn, hs⟩) (k := ?_)
    exact e_1 (h1 := rs_tmp rfl) (H' := [tableA tb n l]) (hT := ⟨rfl, rfl⟩)
  | some i =>
    obtain ⟨x, hx, -⟩ := idxT_lt hi
    have hilt : i < l.length := (List.getElem?_eq_some_iff.1 hx).1
    repeat (first | refine o_v (k := ?_) | refine c_seq ?_ | refine c_region ?_ | refine o_nil ?_ | refine e_then_normal ?_ | refine o_store (k := ?_) | refine c_true (h1 := ?_) | refine c_false (h1 := ?_) | refine c_ret ?_ | refine c_skip ?_ | refine e_then_ret ?_ | refine c_block ?_ | refine c_exit ?_ | refine e_then_exit ?_ | refine e_block_exit ?_ | refine e_block_normal ?_ | refine e_block_ret ?_ | refine o_box (k := fun _ => ?_) | refine o_alloc (k := fun _ => ?_) | refine e_norm ?_ | refine o_ung (k := ?_) | refine o_k (k := ?_) | refine s_v (k := ?_) | refine s_w (k := ?_) | refine s_k (k := ?_) | refine s_nil ?_ | refine e_block_exit_ne rfl ?_)
    refine o_storeRow i 0 (rows := l.map plRow) (us := plRow (true, h.2, x)) (hfz := .inl rfl) (hl := plRow_len l) (hi := by rw [List.getElem?_map, hx]; rfl) (hj := by simp [plRow]) (ho := rfl) (k := ?_)
    rw [show (plRow (true, h.2, x)).set 0 (.bool false) = plRow (false, h.2, x) from rfl]
    rw [← List.map_set]
    repeat (first | refine o_v (k := ?_) | refine c_seq ?_ | refine c_region ?_ | refine o_nil ?_ | refine e_then_normal ?_ | refine o_store (k := ?_) | refine c_true (h1 := ?_) | refine c_false (h1 := ?_) | refine c_ret ?_ | refine c_skip ?_ | refine e_then_ret ?_ | refine c_block ?_ | refine c_exit ?_ | refine e_then_exit ?_ | refine e_block_exit ?_ | refine e_block_normal ?_ | refine e_block_ret ?_ | refine o_box (k := fun _ => ?_) | refine o_alloc (k := fun _ => ?_) | refine e_norm ?_ | refine o_ung (k := ?_) | refine o_k (k := ?_) | refine s_v (k := ?_) | refine s_w (k := ?_) | refine s_k (k := ?_) | refine s_nil ?_ | refine e_block_exit_ne rfl ?_)
    refine o_storeRow i 2 (rows := (l.set i (false, h.2, x)).map plRow) (us := plRow (false, h.2, x)) (hfz := .inl rfl) (hl := plRow_len _) (hi := by rw [List.getElem?_map, List.getElem?_set_self hilt]; rfl) (hj := by simp [plRow]) (ho := rfl) (k := ?_)
    rw [show (plRow (false, h.2, x)).set 2 (.pointer none) = plRow (false, h.2, none) from rfl, ← List.map_set, List.set_set]
    repeat (first | refine o_v (k := ?_) | refine c_seq ?_ | refine c_region ?_ | refine o_nil ?_ | refine e_then_normal ?_ | refine o_store (k := ?_) | refine c_true (h1 := ?_) | refine c_false (h1 := ?_) | refine c_ret ?_ | refine c_skip ?_ | refine e_then_ret ?_ | refine c_block ?_ | refine c_exit ?_ | refine e_then_exit ?_ | refine e_block_exit ?_ | refine e_block_normal ?_ | refine e_block_ret ?_ | refine o_box (k := fun _ => ?_) | refine o_alloc (k := fun _ => ?_) | refine e_norm ?_ | refine o_ung (k := ?_) | refine o_k (k := ?_) | refine s_v (k := ?_) | refine s_w (k := ?_) | refine s_k (k := ?_) | refine s_nil ?_ | refine e_block_exit_ne rfl ?_)
    refine e_fold (tableA tb n (l.set i (false, h.2, none))) (cb, pb) (hx := by exact ⟨by simpa using hn, hs⟩) (k := ?_)
    exact e_1 (h1 := rs_tmp rfl) (H' := [tableA tb n (l.set i (false, h.2, none))]) (hT := ⟨rfl, rfl⟩)

set_option maxRecDepth 20000 in
set_option maxHeartbeats 4000000 in
theorem tabLen_ok (tb n : Nat) (l : List Pl) : Ct Tryz.prog 53 [.pointer (some ⟨tb, 0, none⟩)] [tableA tb n l] (Ret fun u H => u = .int .i64 (l.countP (·.1)) ∧ H = [tableA tb n l]) := by
  refine fn_enter Tryz.func53 rfl Tryz.ntmps53 rfl fun _ _ _ => ?_
  refine c_unf (tableA tb n l) (k := ?_)
  rintro ⟨cb, pb⟩ ⟨hn, hs⟩
  dsimp only [List.cons_append, List.nil_append] at hn hs ⊢
  repeat (first | refine o_v (k := ?_) | refine c_seq ?_ | refine c_region ?_ | refine o_nil ?_ | refine e_then_normal ?_ | refine o_store (k := ?_) | refine c_true (h1 := ?_) | refine c_false (h1 := ?_) | refine c_ret ?_ | refine c_skip ?_ | refine e_then_ret ?_ | refine c_block ?_ | refine c_exit ?_ | refine e_then_exit ?_ | refine e_block_exit ?_ | refine e_block_normal ?_ | refine e_block_ret ?_ | refine o_box (k := fun _ => ?_) | refine o_alloc (k := fun _ => ?_) | refine e_norm ?_ | refine o_ung (k := ?_) | refine o_k (k := ?_) | refine s_v (k := ?_) | refine s_w (k := ?_) | refine s_k (k := ?_) | refine s_nil ?_ | refine e_block_exit_ne rfl ?_)
  refine c_loop (α := Nat) (fun k => [(10, .int .i64 k), (3, .int .i64 ((l.take k).countP (·.1))), (0, .pointer (some ⟨tb, 0, none⟩)), (9, .int .i64 n)]) (fun _ => [blk tb 172 [.slice (some ⟨pb, 0, none⟩) n n, .func (.func fnH) #[] #[.pointer (some ⟨cb, 0, none⟩)]] (0, 0), blk cb 87 [.pointer (some ⟨tb, 0, none⟩)] (0, 0), blk pb 174 (plC l) (0, 0)]) (fun k => k ≤ n) (fun k => n - k) 0 (by omega) ⟨rfl, rfl, rfl, rfl, trivial⟩ (fun _ h => h) ?_
  intro k hk
  (try dsimp only at hk ⊢)
  have hc := List.countP_le_length (p := fun x : Pl => x.1) (l := l.take k)
  rw [List.length_take] at hc
  repeat (first | refine o_v (k := ?_) | refine c_seq ?_ | refine c_region ?_ | refine o_nil ?_ | refine e_then_normal ?_ | refine o_store (k := ?_) | refine c_true (h1 := ?_) | refine c_false (h1 := ?_) | refine c_ret ?_ | refine c_skip ?_ | refine e_then_ret ?_ | refine c_block ?_ | refine c_exit ?_ | refine e_then_exit ?_ | refine e_block_exit ?_ | refine e_block_normal ?_ | refine e_block_ret ?_ | refine o_box (k := fun _ => ?_) | refine o_alloc (k := fun _ => ?_) | refine e_norm ?_ | refine o_ung (k := ?_) | refine o_k (k := ?_) | refine s_v (k := ?_) | refine s_w (k := ?_) | refine s_k (k := ?_) | refine s_nil ?_ | refine e_block_exit_ne rfl ?_)
  refine c_if (h1 := fun h => ?_) (h2 := fun h => ?_)
  · have hlt : k < l.length := by simp at h; omega
    obtain ⟨⟨is, g, x⟩, hx⟩ : ∃ x, l[k]? = some x := ⟨l[k], List.getElem?_eq_getElem _⟩
    have htk : (l.take (k + 1)).countP (·.1) = (l.take k).countP (·.1) + is.toNat := by
      rw [List.take_succ_eq_append_getElem hlt, List.countP_append]
      rw [List.getElem?_eq_getElem hlt] at hx
      simp only [Option.some.injEq] at hx
      rw [hx]
      cases is <;> simp
    repeat (first | refine o_v (k := ?_) | refine c_seq ?_ | refine c_region ?_ | refine o_nil ?_ | refine e_then_normal ?_ | refine o_store (k := ?_) | refine c_true (h1 := ?_) | refine c_false (h1 := ?_) | refine c_ret ?_ | refine c_skip ?_ | refine e_then_ret ?_ | refine c_block ?_ | refine c_exit ?_ | refine e_then_exit ?_ | refine e_block_exit ?_ | refine e_block_normal ?_ | refine e_block_ret ?_ | refine o_box (k := fun _ => ?_) | refine o_alloc (k := fun _ => ?_) | refine e_norm ?_ | refine o_ung (k := ?_) | refine o_k (k := ?_) | refine s_v (k := ?_) | refine s_w (k := ?_) | refine s_k (k := ?_) | refine s_nil ?_ | refine e_block_exit_ne rfl ?_)
    refine o_y (y_load rfl (CellIn.blkrow (rows := l.map plRow) (sz := 3) (i := k) (j := 0) (by repeat (first | exact BlkIn.here | apply BlkIn.there)) (plRow_len l) (by rw [List.getElem?_map, hx]; rfl) rfl rfl)) rfl ?_
    repeat (first | refine o_v (k := ?_) | refine c_seq ?_ | refine c_region ?_ | refine o_nil ?_ | refine e_then_normal ?_ | refine o_store (k := ?_) | refine c_true (h1 := ?_) | refine c_false (h1 := ?_) | refine c_ret ?_ | refine c_skip ?_ | refine e_then_ret ?_ | refine c_block ?_ | refine c_exit ?_ | refine e_then_exit ?_ | refine e_block_exit ?_ | refine e_block_normal ?_ | refine e_block_ret ?_ | refine o_box (k := fun _ => ?_) | refine o_alloc (k := fun _ => ?_) | refine e_norm ?_ | refine o_ung (k := ?_) | refine o_k (k := ?_) | refine s_v (k := ?_) | refine s_w (k := ?_) | refine s_k (k := ?_) | refine s_nil ?_ | refine e_block_exit_ne rfl ?_)
    cases is with
    | true =>
      repeat (first | refine o_v (k := ?_) | refine c_seq ?_ | refine c_region ?_ | refine o_nil ?_ | refine e_then_normal ?_ | refine o_store (k := ?_) | refine c_true (h1 := ?_) | refine c_false (h1 := ?_) | refine c_ret ?_ | refine c_skip ?_ | refine e_then_ret ?_ | refine c_block ?_ | refine c_exit ?_ | refine e_then_exit ?_ | refine e_block_exit ?_ | refine e_block_normal ?_ | refine e_block_ret ?_ | refine o_box (k := fun _ => ?_) | refine o_alloc (k := fun _ => ?_) | refine e_norm ?_ | refine o_ung (k := ?_) | refine o_k (k := ?_) | refine s_v (k := ?_) | refine s_w (k := ?_) | refine s_k (k := ?_) | refine s_nil ?_ | refine e_block_exit_ne rfl ?_)
      refine e_loop (k + 1) ?_ ?_ ?_ ?_
      · show k + 1 ≤ n; omega
      · show _ - (k + 1) < _ - k; omega
      · rw [htk]; exact ⟨rfl, rfl, rfl, rfl, trivial⟩
      · exact fun _ h => h
    | false =>
      repeat (first | refine o_v (k := ?_) | refine c_seq ?_ | refine c_region ?_ | refine o_nil ?_ | refine e_then_normal ?_ | refine o_store (k := ?_) | refine c_true (h1 := ?_) | refine c_false (h1 := ?_) | refine c_ret ?_ | refine c_skip ?_ | refine e_then_ret ?_ | refine c_block ?_ | refine c_exit ?_ | refine e_then_exit ?_ | refine e_block_exit ?_ | refine e_block_normal ?_ | refine e_block_ret ?_ | refine o_box (k := fun _ => ?_) | refine o_alloc (k := fun _ => ?_) | refine e_norm ?_ | refine o_ung (k := ?_) | refine o_k (k := ?_) | refine s_v (k := ?_) | refine s_w (k := ?_) | refine s_k (k := ?_) | refine s_nil ?_ | refine e_block_exit_ne rfl ?_)
      refine e_loop (k + 1) ?_ ?_ ?_ ?_
      · show k + 1 ≤ n; omega
      · show _ - (k + 1) < _ - k; omega
      · rw [htk]; exact ⟨rfl, rfl, rfl, rfl, trivial⟩
      · exact fun _ h => h
  · have hkn : k = l.length := by simp at h; omega
    subst hkn
    rw [List.take_length]
    repeat (first | refine o_v (k := ?_) | refine c_seq ?_ | refine c_region ?_ | refine o_nil ?_ | refine e_then_normal ?_ | refine o_store (k := ?_) | refine c_true (h1 := ?_) | refine c_false (h1 := ?_) | refine c_ret ?_ | refine c_skip ?_ | refine e_then_ret ?_ | refine c_block ?_ | refine c_exit ?_ | refine e_then_exit ?_ | refine e_block_exit ?_ | refine e_block_normal ?_ | refine e_block_ret ?_ | refine o_box (k := fun _ => ?_) | refine o_alloc (k := fun _ => ?_) | refine e_norm ?_ | refine o_ung (k := ?_) | refine o_k (k := ?_) | refine s_v (k := ?_) | refine s_w (k := ?_) | refine s_k (k := ?_) | refine s_nil ?_ | refine e_block_exit_ne rfl ?_)
    refine e_fold (tableA tb n l) (cb, pb) (hx := by exact ⟨hn, hs⟩) (k := ?_)
    exact e_1 (h1 := rs_tmp rfl) (H' := [tableA tb n l]) (hT := ⟨rfl, rfl⟩)

def freeT (l : List Pl) : Option Nat := l.findIdx? fun x => !x.1
set_option maxRecDepth 20000 in
set_option maxHeartbeats 4000000 in
theorem tabAdd_ok (tb n : Nat) (l : List Pl) (x : Nat) (hg : ∀ x ∈ l, 0 ≤ x.2.1 ∧ x.2.1 ≤ 1000000) : Ct Tryz.prog 56 [.pointer (some ⟨tb, 0, none⟩), .pointer (some ⟨x, 0, none⟩)] [tableA tb n l] (Ret fun u H => match freeT l with
    | none => u = .tuple #[.agg #[.int .i64 0, .int .i64 0], .int .i64 14] ∧ H = [tableA tb n l]
    | some i => u = .tuple #[.agg #[.int .i64 (i + 1), .int .i64 (((l[i]?).map (·.2.1)).getD 0 + 1)], .int .i64 0] ∧ H = [tableA tb n (l.set i (true, ((l[i]?).map (·.2.1)).getD 0 + 1, some x))]) := by
  refine fn_enter Tryz.func56 rfl Tryz.ntmps56 rfl fun _ _ _ => ?_
  refine c_unf (tableA tb n l) (k := ?_)
  rintro ⟨cb, pb⟩ ⟨hn, hs⟩
  dsimp only [List.cons_append, List.nil_append] at hn hs ⊢
  repeat (first | refine o_v (k := ?_) | refine c_seq ?_ | refine c_region ?_ | refine o_nil ?_ | refine e_then_normal ?_ | refine o_store (k := ?_) | refine c_true (h1 := ?_) | refine c_false (h1 := ?_) | refine c_ret ?_ | refine c_skip ?_ | refine e_then_ret ?_ | refine c_block ?_ | refine c_exit ?_ | refine e_then_exit ?_ | refine e_block_exit ?_ | refine e_block_normal ?_ | refine e_block_ret ?_ | refine o_box (k := fun _ => ?_) | refine o_alloc (k := fun _ => ?_) | refine e_norm ?_ | refine o_ung (k := ?_) | refine o_k (k := ?_) | refine s_v (k := ?_) | refine s_w (k := ?_) | refine s_k (k := ?_) | refine s_nil ?_ | refine e_block_exit_ne rfl ?_)
  rename_i rb
  refine c_loop (α := Nat) (fun k => [(13, .int .i64 k), (12, .int .i64 n), (0, .pointer (some ⟨tb, 0, none⟩)), (1, .pointer (some ⟨x, 0, none⟩)), (4, .pointer (some ⟨rb, 0, none⟩))]) (fun _ => [blk rb 41 [.int .i64 0, .int .i64 0] (0, 0), blk tb 172 [.slice (some ⟨pb, 0, none⟩) n n, .func (.func fnH) #[] #[.pointer (some ⟨cb, 0, none⟩)]] (0, 0), blk cb 87 [.pointer (some ⟨tb, 0, none⟩)] (0, 0), blk pb 174 (plC l) (0, 0)]) (fun k => k ≤ n ∧ ∀ j, j < k → (l[j]?).map (·.1) = some true) (fun k => n - k) 0 ⟨by omega, by omega⟩ ⟨rfl, rfl, rfl, rfl, rfl, trivial⟩ (fun _ h => h) ?_
  rintro k ⟨hk, hz⟩
  (try dsimp only at hk ⊢)
  repeat (first | refine o_v (k := ?_) | refine c_seq ?_ | refine c_region ?_ | refine o_nil ?_ | refine e_then_normal ?_ | refine o_store (k := ?_) | refine c_true (h1 := ?_) | refine c_false (h1 := ?_) | refine c_ret ?_ | refine c_skip ?_ | refine e_then_ret ?_ | refine c_block ?_ | refine c_exit ?_ | refine e_then_exit ?_ | refine e_block_exit ?_ | refine e_block_normal ?_ | refine e_block_ret ?_ | refine o_box (k := fun _ => ?_) | refine o_alloc (k := fun _ => ?_) | refine e_norm ?_ | refine o_ung (k := ?_) | refine o_k (k := ?_) | refine s_v (k := ?_) | refine s_w (k := ?_) | refine s_k (k := ?_) | refine s_nil ?_ | refine e_block_exit_ne rfl ?_)
  refine c_if (h1 := fun h => ?_) (h2 := fun h => ?_)
  · have hlt : k < l.length := by simp at h; omega
    obtain ⟨⟨is, g, y⟩, hx⟩ : ∃ x, l[k]? = some x := ⟨l[k], List.getElem?_eq_getElem _⟩
    have hgk := hg _ (List.mem_of_getElem? hx)
    dsimp only at hgk
    repeat (first | refine o_v (k := ?_) | refine c_seq ?_ | refine c_region ?_ | refine o_nil ?_ | refine e_then_normal ?_ | refine o_store (k := ?_) | refine c_true (h1 := ?_) | refine c_false (h1 := ?_) | refine c_ret ?_ | refine c_skip ?_ | refine e_then_ret ?_ | refine c_block ?_ | refine c_exit ?_ | refine e_then_exit ?_ | refine e_block_exit ?_ | refine e_block_normal ?_ | refine e_block_ret ?_ | refine o_box (k := fun _ => ?_) | refine o_alloc (k := fun _ => ?_) | refine e_norm ?_ | refine o_ung (k := ?_) | refine o_k (k := ?_) | refine s_v (k := ?_) | refine s_w (k := ?_) | refine s_k (k := ?_) | refine s_nil ?_ | refine e_block_exit_ne rfl ?_)
    refine o_y (y_load rfl (CellIn.blkrow (rows := l.map plRow) (sz := 3) (i := k) (j := 0) (by repeat (first | exact BlkIn.here | apply BlkIn.there)) (plRow_len l) (by rw [List.getElem?_map, hx]; rfl) rfl rfl)) rfl ?_
    repeat (first | refine o_v (k := ?_) | refine c_seq ?_ | refine c_region ?_ | refine o_nil ?_ | refine e_then_normal ?_ | refine o_store (k := ?_) | refine c_true (h1 := ?_) | refine c_false (h1 := ?_) | refine c_ret ?_ | refine c_skip ?_ | refine e_then_ret ?_ | refine c_block ?_ | refine c_exit ?_ | refine e_then_exit ?_ | refine e_block_exit ?_ | refine e_block_normal ?_ | refine e_block_ret ?_ | refine o_box (k := fun _ => ?_) | refine o_alloc (k := fun _ => ?_) | refine e_norm ?_ | refine o_ung (k := ?_) | refine o_k (k := ?_) | refine s_v (k := ?_) | refine s_w (k := ?_) | refine s_k (k := ?_) | refine s_nil ?_ | refine e_block_exit_ne rfl ?_)
    cases is with
    | true =>
      repeat (first | refine o_v (k := ?_) | refine c_seq ?_ | refine c_region ?_ | refine o_nil ?_ | refine e_then_normal ?_ | refine o_store (k := ?_) | refine c_true (h1 := ?_) | refine c_false (h1 := ?_) | refine c_ret ?_ | refine c_skip ?_ | refine e_then_ret ?_ | refine c_block ?_ | refine c_exit ?_ | refine e_then_exit ?_ | refine e_block_exit ?_ | refine e_block_normal ?_ | refine e_block_ret ?_ | refine o_box (k := fun _ => ?_) | refine o_alloc (k := fun _ => ?_) | refine e_norm ?_ | refine o_ung (k := ?_) | refine o_k (k := ?_) | refine s_v (k := ?_) | refine s_w (k := ?_) | refine s_k (k := ?_) | refine s_nil ?_ | refine e_block_exit_ne rfl ?_)
      refine e_loop (k + 1) ?_ ?_ ?_ ?_
      · refine ⟨by omega, fun j hj => ?_⟩
        by_cases hjk : j = k
        · subst hjk; rw [hx]; rfl
        · exact hz j (by omega)
      · show _ - (k + 1) < _ - k; omega
      · exact ⟨rfl, rfl, rfl, rfl, rfl, trivial⟩
      · exact fun _ h => h
    | false =>
      have hF : freeT l = some k := by
        rw [freeT, List.findIdx?_eq_some_iff_getElem]
        refine ⟨hlt, ?_, fun j hj => ?_⟩
        · rw [List.getElem?_eq_getElem hlt] at hx
          simp only [Option.some.injEq] at hx
          rw [hx]; rfl
        · have := hz j hj
          rw [List.getElem?_eq_getElem (by omega)] at this
          simp only [Option.map_some, Option.some.injEq] at this
          simp [this]
      rw [hF]
      repeat (first | refine o_v (k := ?_) | refine c_seq ?_ | refine c_region ?_ | refine o_nil ?_ | refine e_then_normal ?_ | refine o_store (k := ?_) | refine c_true (h1 := ?_) | refine c_false (h1 := ?_) | refine c_ret ?_ | refine c_skip ?_ | refine e_then_ret ?_ | refine c_block ?_ | refine c_exit ?_ | refine e_then_exit ?_ | refine e_block_exit ?_ | refine e_block_normal ?_ | refine e_block_ret ?_ | refine o_box (k := fun _ => ?_) | refine o_alloc (k := fun _ => ?_) | refine e_norm ?_ | refine o_ung (k := ?_) | refine o_k (k := ?_) | refine s_v (k := ?_) | refine s_w (k := ?_) | refine s_k (k := ?_) | refine s_nil ?_ | refine e_block_exit_ne rfl ?_)
      refine o_storeRow k 0 (rows := l.map plRow) (us := plRow (false, g, y)) (hfz := .inl rfl) (hl := plRow_len l) (hi := by rw [List.getElem?_map, hx]; rfl) (hj := by simp [plRow]) (ho := rfl) (k := ?_)
      rw [show (plRow (false, g, y)).set 0 (.bool true) = plRow (true, g, y) from rfl, ← List.map_set]
      repeat (first | refine o_v (k := ?_) | refine c_seq ?_ | refine c_region ?_ | refine o_nil ?_ | refine e_then_normal ?_ | refine o_store (k := ?_) | refine c_true (h1 := ?_) | refine c_false (h1 := ?_) | refine c_ret ?_ | refine c_skip ?_ | refine e_then_ret ?_ | refine c_block ?_ | refine c_exit ?_ | refine e_then_exit ?_ | refine e_block_exit ?_ | refine e_block_normal ?_ | refine e_block_ret ?_ | refine o_box (k := fun _ => ?_) | refine o_alloc (k := fun _ => ?_) | refine e_norm ?_ | refine o_ung (k := ?_) | refine o_k (k := ?_) | refine s_v (k := ?_) | refine s_w (k := ?_) | refine s_k (k := ?_) | refine s_nil ?_ | refine e_block_exit_ne rfl ?_)
      refine o_storeRow k 2 (rows := (l.set k (true, g, y)).map plRow) (us := plRow (true, g, y)) (hfz := .inl rfl) (hl := plRow_len _) (hi := by rw [List.getElem?_map, List.getElem?_set_self hlt]; rfl) (hj := by simp [plRow]) (ho := rfl) (k := ?_)
      rw [show (plRow (true, g, y)).set 2 (.pointer (some ⟨x, 0, none⟩)) = plRow (true, g, some x) from rfl, ← List.map_set, List.set_set]
      repeat (first | refine o_v (k := ?_) | refine c_seq ?_ | refine c_region ?_ | refine o_nil ?_ | refine e_then_normal ?_ | refine o_store (k := ?_) | refine c_true (h1 := ?_) | refine c_false (h1 := ?_) | refine c_ret ?_ | refine c_skip ?_ | refine e_then_ret ?_ | refine c_block ?_ | refine c_exit ?_ | refine e_then_exit ?_ | refine e_block_exit ?_ | refine e_block_normal ?_ | refine e_block_ret ?_ | refine o_box (k := fun _ => ?_) | refine o_alloc (k := fun _ => ?_) | refine e_norm ?_ | refine o_ung (k := ?_) | refine o_k (k := ?_) | refine s_v (k := ?_) | refine s_w (k := ?_) | refine s_k (k := ?_) | refine s_nil ?_ | refine e_block_exit_ne rfl ?_)
      refine o_y (v := .int .i64 g) (y_load rfl (CellIn.blkrow (rows := (l.set k (true, g, some x)).map plRow) (sz := 3) (i := k) (j := 1) (by repeat (first | exact BlkIn.here | apply BlkIn.there)) (plRow_len _) (by rw [List.getElem?_map, List.getElem?_set_self hlt]; rfl) rfl rfl)) rfl ?_
      repeat (first | refine o_v (k := ?_) | refine c_seq ?_ | refine c_region ?_ | refine o_nil ?_ | refine e_then_normal ?_ | refine o_store (k := ?_) | refine c_true (h1 := ?_) | refine c_false (h1 := ?_) | refine c_ret ?_ | refine c_skip ?_ | refine e_then_ret ?_ | refine c_block ?_ | refine c_exit ?_ | refine e_then_exit ?_ | refine e_block_exit ?_ | refine e_block_normal ?_ | refine e_block_ret ?_ | refine o_box (k := fun _ => ?_) | refine o_alloc (k := fun _ => ?_) | refine e_norm ?_ | refine o_ung (k := ?_) | refine o_k (k := ?_) | refine s_v (k := ?_) | refine s_w (k := ?_) | refine s_k (k := ?_) | refine s_nil ?_ | refine e_block_exit_ne rfl ?_)
      refine o_storeRow k 1 (rows := (l.set k (true, g, some x)).map plRow) (us := plRow (true, g, some x)) (hfz := .inl rfl) (hl := plRow_len _) (hi := by rw [List.getElem?_map, List.getElem?_set_self hlt]; rfl) (hj := by simp [plRow]) (ho := rfl) (k := ?_)
      rw [show (plRow (true, g, some x)).set 1 (.int .i64 (g + 1)) = plRow (true, g + 1, some x) from rfl, ← List.map_set, List.set_set]
      repeat (first | refine o_v (k := ?_) | refine c_seq ?_ | refine c_region ?_ | refine o_nil ?_ | refine e_then_normal ?_ | refine o_store (k := ?_) | refine c_true (h1 := ?_) | refine c_false (h1 := ?_) | refine c_ret ?_ | refine c_skip ?_ | refine e_then_ret ?_ | refine c_block ?_ | refine c_exit ?_ | refine e_then_exit ?_ | refine e_block_exit ?_ | refine e_block_normal ?_ | refine e_block_ret ?_ | refine o_box (k := fun _ => ?_) | refine o_alloc (k := fun _ => ?_) | refine e_norm ?_ | refine o_ung (k := ?_) | refine o_k (k := ?_) | refine s_v (k := ?_) | refine s_w (k := ?_) | refine s_k (k := ?_) | refine s_nil ?_ | refine e_block_exit_ne rfl ?_)
      refine o_callv (first := []) (vs := [.int .i64 k]) (cap := [.pointer (some ⟨cb, 0, none⟩)]) rfl rfl (tabHandle_ok tb cb pb n k _ (l.set k (true, g + 1, some x)) (true, g + 1, some x) (by rw [List.getElem?_set_self hlt]) (by simpa using hn) hs) (by (repeat (apply SplitA.cons; (repeat (first | exact TakeA.keepI | exact TakeA.here | apply TakeA.there)))); exact SplitA.nil) (k := ?_)
      rintro _ _ ⟨rfl, rfl⟩
      dsimp only [List.cons_append, List.nil_append]
      repeat (first | refine o_v (k := ?_) | refine c_seq ?_ | refine c_region ?_ | refine o_nil ?_ | refine e_then_normal ?_ | refine o_store (k := ?_) | refine c_true (h1 := ?_) | refine c_false (h1 := ?_) | refine c_ret ?_ | refine c_skip ?_ | refine e_then_ret ?_ | refine c_block ?_ | refine c_exit ?_ | refine e_then_exit ?_ | refine e_block_exit ?_ | refine e_block_normal ?_ | refine e_block_ret ?_ | refine o_box (k := fun _ => ?_) | refine o_alloc (k := fun _ => ?_) | refine e_norm ?_ | refine o_ung (k := ?_) | refine o_k (k := ?_) | refine s_v (k := ?_) | refine s_w (k := ?_) | refine s_k (k := ?_) | refine s_nil ?_ | refine e_block_exit_ne rfl ?_)
      refine e_fold (tableA tb n (l.set k (true, g + 1, some x))) (cb, pb) (hx := by exact ⟨by simpa using hn, hs⟩) (k := ?_)
      exact e_2 (h1 := rs_blk) (h2 := rs_tmp rfl) (H' := [tableA tb n (l.set k (true, g + 1, some x))]) (hT := by rw [hx]; exact ⟨rfl, rfl⟩)
  · have hkn : k = l.length := by simp at h; omega
    have hF : freeT l = none := by
      rw [freeT, List.findIdx?_eq_none_iff]
      intro y hy
      obtain ⟨j, hj⟩ := List.mem_iff_getElem?.1 hy
      have := hz j (by have := (List.getElem?_eq_some_iff.1 hj).1; omega)
      rw [hj] at this
      simp only [Option.map_some, Option.some.injEq] at this
      simp [this]
    rw [hF]
    repeat (first | refine o_v (k := ?_) | refine c_seq ?_ | refine c_region ?_ | refine o_nil ?_ | refine e_then_normal ?_ | refine o_store (k := ?_) | refine c_true (h1 := ?_) | refine c_false (h1 := ?_) | refine c_ret ?_ | refine c_skip ?_ | refine e_then_ret ?_ | refine c_block ?_ | refine c_exit ?_ | refine e_then_exit ?_ | refine e_block_exit ?_ | refine e_block_normal ?_ | refine e_block_ret ?_ | refine o_box (k := fun _ => ?_) | refine o_alloc (k := fun _ => ?_) | refine e_norm ?_ | refine o_ung (k := ?_) | refine o_k (k := ?_) | refine s_v (k := ?_) | refine s_w (k := ?_) | refine s_k (k := ?_) | refine s_nil ?_ | refine e_block_exit_ne rfl ?_)
    refine e_fold (tableA tb n l) (cb, pb) (hx := by exact ⟨hn, hs⟩) (k := ?_)
    exact e_2 (h1 := rs_blk) (h2 := rs_tmp rfl) (H' := [tableA tb n l]) (hT := ⟨rfl, rfl⟩)
end Go.Proofs.YtlkgdidmhmaneaaGreatDoor
