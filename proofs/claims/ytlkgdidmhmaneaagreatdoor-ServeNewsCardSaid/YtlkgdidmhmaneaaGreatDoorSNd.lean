/- A part of the proof: walks and laws that the last part joins. -/
import Derived.Test.YtlkgdidmhmaneaaGreatDoorSNc
import Derived.Scope
import Derived.Test.YtlkgdidmhmaneaaGreatDoorRows
import Derived.ProofKit
import Derived.LaidMore
import Derived.OpenShut
import Derived.Stop.Joined
/- calls: what its functions leave. -/
namespace Go.Proofs.YtlkgdidmhmaneaaGreatDoor
open Go Go.RowKit
attribute [local irreducible] Yl OG CG EG SG AG  CellIn CellsIn BlkIn InA TakeA SplitA SubA Ct ResOk Good Held blk cellsA exA

def argsC (a : MArgs) (q : Option Addr) (c : Nat) : List Value := [.int .i64 a.proc, .int .i64 a.off, .int .i64 a.count, .int .i64 a.size, .int .i64 a.mode, .int .i64 a.ino, .int .i64 a.gen, .int .i64 a.ino2, .int .i64 a.gen2, str a.name, str a.name2, .slice q a.data.length c]
/-- Text's answer is not longer than what was left -/
def rdHandle (e : Int) (l : List UInt8) : Nat × Nat × Int × List UInt8 :=
  let r1 := rdNum e l 4
  let r2 := rdNum r1.2.1 r1.2.2 4
  (r1.1, r2.1, r2.2.1, r2.2.2)
/-- one field: what Read of it answers, the arguments, the reader -/
def readF (f : Nat) (e : Int) (l : List UInt8) (a : MArgs) : Int × MArgs × Int × List UInt8 :=
  match f with
  | 0 => let r := rdHandle e l; (r.2.2.1, { a with ino := r.1, gen := r.2.1 }, r.2.2.1, r.2.2.2)
  | 1 => let r := rdHandle e l; (r.2.2.1, { a with ino2 := r.1, gen2 := r.2.1 }, r.2.2.1, r.2.2.2)
  | 2 => let r := rdText e l 64; (r.2.1, { a with name := r.1 }, r.2.1, r.2.2)
  | 3 => let r := rdText e l 64; (r.2.1, { a with name2 := r.1 }, r.2.1, r.2.2)
  | 4 => let r := rdNum e l 8; if r.1 > 4611686018427387904 then (4, a, r.2.1, r.2.2) else (r.2.1, { a with off := r.1 }, r.2.1, r.2.2)
  | 5 => let r := rdNum e l 4; (r.2.1, { a with count := r.1 }, r.2.1, r.2.2)
  | 6 => let r := rdNum e l 4; (r.2.1, { a with size := r.1 }, r.2.1, r.2.2)
  | 7 => let r := rdNum e l 4; (r.2.1, { a with mode := r.1 }, r.2.1, r.2.2)
  | 8 => let r := rdText e l 2048; (r.2.1, { a with data := r.1 }, r.2.1, r.2.2)
  | _ => (e, a, e, l)
theorem rdNum_len (e : Int) (l : List UInt8) (n : Nat) : (rdNum e l n).2.2.length ≤ l.length := by
  unfold rdNum; split
  · exact Nat.le_refl _
  · split <;> simp
theorem rdText_len (e : Int) (l : List UInt8) (m : Int) : (rdText e l m).2.2.length ≤ l.length ∧ (rdText e l m).1.length ≤ l.length := by
  have := rdNum_len e l 4
  unfold rdText
  dsimp only
  split
  · exact ⟨this, by simp⟩
  · split
    · simp
    · split
      · simp
      · split
        · simp
        · simp only [List.length_drop, List.length_take]; omega

set_option maxRecDepth 20000 in
set_option maxHeartbeats 4000000 in
theorem handle_ok (b : Nat) (e : Int) (l : List UInt8) : Ct Tryz.prog 151 [.pointer (some ⟨b, 0, none⟩)] [rdA b e l]
    (Ret fun u H => u = .agg #[.int .i64 (rdHandle e l).1, .int .i64 (rdHandle e l).2.1] ∧ H = [rdA b (rdHandle e l).2.2.1 (rdHandle e l).2.2.2]) := by
  refine fn_enter Tryz.func151 rfl Tryz.ntmps151 rfl fun _ _ _ => ?_
  have h1 := rdNum_lt e l 4
  have h2 := rdNum_lt (rdNum e l 4).2.1 (rdNum e l 4).2.2 4
  simp only [Nat.reducePow] at h1 h2
  repeat (first | refine o_v (k := ?_) | refine c_seq ?_ | refine c_region ?_ | refine o_nil ?_ | refine e_then_normal ?_ | refine o_store (k := ?_) | refine c_true (h1 := ?_) | refine c_false (h1 := ?_) | refine c_ret ?_ | refine c_skip ?_ | refine e_then_ret ?_ | refine c_block ?_ | refine c_exit ?_ | refine e_then_exit ?_ | refine e_block_exit ?_ | refine e_block_normal ?_ | refine e_block_ret ?_ | refine o_box (k := fun _ => ?_) | refine o_alloc (k := fun _ => ?_) | refine e_norm ?_ | refine o_ung (k := ?_) | refine o_k (k := ?_) | refine s_v (k := ?_) | refine s_w (k := ?_) | refine s_k (k := ?_) | refine s_nil ?_ | refine e_block_exit_ne rfl ?_ | (refine o_call (rdU32_ok _ _ _) (k := ?_); rintro _ _ ⟨rfl, rfl⟩; dsimp only [List.cons_append, List.nil_append]))
  exact e_1 (h1 := rs_blk) (H' := [rdA b (rdHandle e l).2.2.1 (rdHandle e l).2.2.2]) (hT := ⟨rfl, rfl⟩)

set_option maxRecDepth 20000 in
set_option maxHeartbeats 4000000 in
theorem readF_ok (b ab : Nat) (e : Int) (l : List UInt8) (a : MArgs) (q : Option Addr) (c : Nat) (f : Nat) (hf : f ≤ 8) (hl : l.length ≤ 1000000) (hc : a.data.length ≤ c ∧ c ≤ 9223372036854775807) : Ct Tryz.prog 121 [.pointer (some ⟨b, 0, none⟩), .int .i64 f, .pointer (some ⟨ab, 0, none⟩)] [rdA b e l, blk ab 70 (argsC a q c) (0, 0), bytesA true q a.data]
    (Ret fun u H => ∃ er a' e' l' q' c', readF f e l a = (er, a', e', l') ∧ (a'.data.length ≤ c' ∧ c' ≤ 9223372036854775807) ∧ u = .int .i64 er ∧ H = [rdA b e' l', blk ab 70 (argsC a' q' c') (0, 0), bytesA true q' a'.data]) := by
  refine fn_enter Tryz.func121 rfl Tryz.ntmps121 rfl fun _ _ _ => ?_
  have h4 := rdNum_lt e l 4
  have h8 := rdNum_lt e l 8
  simp only [Nat.reducePow] at h4 h8
  obtain rfl | rfl | rfl | rfl | rfl | rfl | rfl | rfl | rfl : f = 0 ∨ f = 1 ∨ f = 2 ∨ f = 3 ∨ f = 4 ∨ f = 5 ∨ f = 6 ∨ f = 7 ∨ f = 8 := by omega
  · repeat (first | refine o_v (k := ?_) | refine c_seq ?_ | refine c_region ?_ | refine o_nil ?_ | refine e_then_normal ?_ | refine o_store (k := ?_) | refine c_true (h1 := ?_) | refine c_false (h1 := ?_) | refine c_ret ?_ | refine c_skip ?_ | refine e_then_ret ?_ | refine c_block ?_ | refine c_exit ?_ | refine e_then_exit ?_ | refine e_block_exit ?_ | refine e_block_normal ?_ | refine e_block_ret ?_ | refine o_box (k := fun _ => ?_) | refine o_alloc (k := fun _ => ?_) | refine e_norm ?_ | refine o_ung (k := ?_) | refine o_k (k := ?_) | refine s_v (k := ?_) | refine s_w (k := ?_) | refine s_k (k := ?_) | refine s_nil ?_ | refine e_block_exit_ne rfl ?_ | (refine o_call (handle_ok _ _ _) (k := ?_); rintro _ _ ⟨rfl, rfl⟩; dsimp only [List.cons_append, List.nil_append]) | (refine o_call (errno_ok _ _ _) (k := ?_); rintro _ _ ⟨rfl, rfl⟩; dsimp only [List.cons_append, List.nil_append]))
    exact e_1 (h1 := rs_tmp rfl) (hT := ⟨_, _, _, _, q, c, rfl, hc, rfl, rfl⟩)
  · repeat (first | refine o_v (k := ?_) | refine c_seq ?_ | refine c_region ?_ | refine o_nil ?_ | refine e_then_normal ?_ | refine o_store (k := ?_) | refine c_true (h1 := ?_) | refine c_false (h1 := ?_) | refine c_ret ?_ | refine c_skip ?_ | refine e_then_ret ?_ | refine c_block ?_ | refine c_exit ?_ | refine e_then_exit ?_ | refine e_block_exit ?_ | refine e_block_normal ?_ | refine e_block_ret ?_ | refine o_box (k := fun _ => ?_) | refine o_alloc (k := fun _ => ?_) | refine e_norm ?_ | refine o_ung (k := ?_) | refine o_k (k := ?_) | refine s_v (k := ?_) | refine s_w (k := ?_) | refine s_k (k := ?_) | refine s_nil ?_ | refine e_block_exit_ne rfl ?_ | (refine o_call (handle_ok _ _ _) (k := ?_); rintro _ _ ⟨rfl, rfl⟩; dsimp only [List.cons_append, List.nil_append]) | (refine o_call (errno_ok _ _ _) (k := ?_); rintro _ _ ⟨rfl, rfl⟩; dsimp only [List.cons_append, List.nil_append]))
    exact e_1 (h1 := rs_tmp rfl) (hT := ⟨_, _, _, _, q, c, rfl, hc, rfl, rfl⟩)
  · repeat (first | refine o_v (k := ?_) | refine c_seq ?_ | refine c_region ?_ | refine o_nil ?_ | refine e_then_normal ?_ | refine o_store (k := ?_) | refine c_true (h1 := ?_) | refine c_false (h1 := ?_) | refine c_ret ?_ | refine c_skip ?_ | refine e_then_ret ?_ | refine c_block ?_ | refine c_exit ?_ | refine e_then_exit ?_ | refine e_block_exit ?_ | refine e_block_normal ?_ | refine e_block_ret ?_ | refine o_box (k := fun _ => ?_) | refine o_alloc (k := fun _ => ?_) | refine e_norm ?_ | refine o_ung (k := ?_) | refine o_k (k := ?_) | refine s_v (k := ?_) | refine s_w (k := ?_) | refine s_k (k := ?_) | refine s_nil ?_ | refine e_block_exit_ne rfl ?_ | (refine o_call (rdText_ok _ e 64 l hl (by omega)) (k := ?_); rintro v _ rfl; dsimp only [List.cons_append, List.nil_append]))
    refine o_buf true v (k := ?_)
    rintro q1 c1 rfl hc1 hm1
    refine o_y (y_b2s rfl InA.here) rfl ?_
    repeat (first | refine o_v (k := ?_) | refine c_seq ?_ | refine c_region ?_ | refine o_nil ?_ | refine e_then_normal ?_ | refine o_store (k := ?_) | refine c_true (h1 := ?_) | refine c_false (h1 := ?_) | refine c_ret ?_ | refine c_skip ?_ | refine e_then_ret ?_ | refine c_block ?_ | refine c_exit ?_ | refine e_then_exit ?_ | refine e_block_exit ?_ | refine e_block_normal ?_ | refine e_block_ret ?_ | refine o_box (k := fun _ => ?_) | refine o_alloc (k := fun _ => ?_) | refine e_norm ?_ | refine o_ung (k := ?_) | refine o_k (k := ?_) | refine s_v (k := ?_) | refine s_w (k := ?_) | refine s_k (k := ?_) | refine s_nil ?_ | refine e_block_exit_ne rfl ?_ | (refine o_call (errno_ok _ _ _) (k := ?_); rintro _ _ ⟨rfl, rfl⟩; dsimp only [List.cons_append, List.nil_append]))
    exact e_1 (h1 := rs_tmp rfl) (hT := ⟨_, _, _, _, q, c, rfl, hc, rfl, rfl⟩)
  · repeat (first | refine o_v (k := ?_) | refine c_seq ?_ | refine c_region ?_ | refine o_nil ?_ | refine e_then_normal ?_ | refine o_store (k := ?_) | refine c_true (h1 := ?_) | refine c_false (h1 := ?_) | refine c_ret ?_ | refine c_skip ?_ | refine e_then_ret ?_ | refine c_block ?_ | refine c_exit ?_ | refine e_then_exit ?_ | refine e_block_exit ?_ | refine e_block_normal ?_ | refine e_block_ret ?_ | refine o_box (k := fun _ => ?_) | refine o_alloc (k := fun _ => ?_) | refine e_norm ?_ | refine o_ung (k := ?_) | refine o_k (k := ?_) | refine s_v (k := ?_) | refine s_w (k := ?_) | refine s_k (k := ?_) | refine s_nil ?_ | refine e_block_exit_ne rfl ?_ | (refine o_call (rdText_ok _ e 64 l hl (by omega)) (k := ?_); rintro v _ rfl; dsimp only [List.cons_append, List.nil_append]))
    refine o_buf true v (k := ?_)
    rintro q1 c1 rfl hc1 hm1
    refine o_y (y_b2s rfl InA.here) rfl ?_
    repeat (first | refine o_v (k := ?_) | refine c_seq ?_ | refine c_region ?_ | refine o_nil ?_ | refine e_then_normal ?_ | refine o_store (k := ?_) | refine c_true (h1 := ?_) | refine c_false (h1 := ?_) | refine c_ret ?_ | refine c_skip ?_ | refine e_then_ret ?_ | refine c_block ?_ | refine c_exit ?_ | refine e_then_exit ?_ | refine e_block_exit ?_ | refine e_block_normal ?_ | refine e_block_ret ?_ | refine o_box (k := fun _ => ?_) | refine o_alloc (k := fun _ => ?_) | refine e_norm ?_ | refine o_ung (k := ?_) | refine o_k (k := ?_) | refine s_v (k := ?_) | refine s_w (k := ?_) | refine s_k (k := ?_) | refine s_nil ?_ | refine e_block_exit_ne rfl ?_ | (refine o_call (errno_ok _ _ _) (k := ?_); rintro _ _ ⟨rfl, rfl⟩; dsimp only [List.cons_append, List.nil_append]))
    exact e_1 (h1 := rs_tmp rfl) (hT := ⟨_, _, _, _, q, c, rfl, hc, rfl, rfl⟩)
  · repeat (first | refine o_v (k := ?_) | refine c_seq ?_ | refine c_region ?_ | refine o_nil ?_ | refine e_then_normal ?_ | refine o_store (k := ?_) | refine c_true (h1 := ?_) | refine c_false (h1 := ?_) | refine c_ret ?_ | refine c_skip ?_ | refine e_then_ret ?_ | refine c_block ?_ | refine c_exit ?_ | refine e_then_exit ?_ | refine e_block_exit ?_ | refine e_block_normal ?_ | refine e_block_ret ?_ | refine o_box (k := fun _ => ?_) | refine o_alloc (k := fun _ => ?_) | refine e_norm ?_ | refine o_ung (k := ?_) | refine o_k (k := ?_) | refine s_v (k := ?_) | refine s_w (k := ?_) | refine s_k (k := ?_) | refine s_nil ?_ | refine e_block_exit_ne rfl ?_ | (refine o_call (rdU64_ok _ _ _) (k := ?_); rintro _ _ ⟨rfl, rfl⟩; dsimp only [List.cons_append, List.nil_append]))
    refine c_if (h1 := fun h => ?_) (h2 := fun h => ?_)
    · repeat (first | refine o_v (k := ?_) | refine c_seq ?_ | refine c_region ?_ | refine o_nil ?_ | refine e_then_normal ?_ | refine o_store (k := ?_) | refine c_true (h1 := ?_) | refine c_false (h1 := ?_) | refine c_ret ?_ | refine c_skip ?_ | refine e_then_ret ?_ | refine c_block ?_ | refine c_exit ?_ | refine e_then_exit ?_ | refine e_block_exit ?_ | refine e_block_normal ?_ | refine e_block_ret ?_ | refine o_box (k := fun _ => ?_) | refine o_alloc (k := fun _ => ?_) | refine e_norm ?_ | refine o_ung (k := ?_) | refine o_k (k := ?_) | refine s_v (k := ?_) | refine s_w (k := ?_) | refine s_k (k := ?_) | refine s_nil ?_ | refine e_block_exit_ne rfl ?_)
      have hgt : (rdNum e l 8).1 > 4611686018427387904 := by simp at h; omega
      exact e_1 (h1 := rs_tmp rfl) (hT := ⟨_, _, _, _, q, c, if_pos hgt, hc, rfl, rfl⟩)
    · have hgt : ¬ (rdNum e l 8).1 > 4611686018427387904 := by simp at h; omega
      repeat (first | refine o_v (k := ?_) | refine c_seq ?_ | refine c_region ?_ | refine o_nil ?_ | refine e_then_normal ?_ | refine o_store (k := ?_) | refine c_true (h1 := ?_) | refine c_false (h1 := ?_) | refine c_ret ?_ | refine c_skip ?_ | refine e_then_ret ?_ | refine c_block ?_ | refine c_exit ?_ | refine e_then_exit ?_ | refine e_block_exit ?_ | refine e_block_normal ?_ | refine e_block_ret ?_ | refine o_box (k := fun _ => ?_) | refine o_alloc (k := fun _ => ?_) | refine e_norm ?_ | refine o_ung (k := ?_) | refine o_k (k := ?_) | refine s_v (k := ?_) | refine s_w (k := ?_) | refine s_k (k := ?_) | refine s_nil ?_ | refine e_block_exit_ne rfl ?_ | (refine o_call (errno_ok _ _ _) (k := ?_); rintro _ _ ⟨rfl, rfl⟩; dsimp only [List.cons_append, List.nil_append]))
      exact e_1 (h1 := rs_tmp rfl) (hT := ⟨_, _, _, _, q, c, if_neg hgt, hc, rfl, rfl⟩)
  · repeat (first | refine o_v (k := ?_) | refine c_seq ?_ | refine c_region ?_ | refine o_nil ?_ | refine e_then_normal ?_ | refine o_store (k := ?_) | refine c_true (h1 := ?_) | refine c_false (h1 := ?_) | refine c_ret ?_ | refine c_skip ?_ | refine e_then_ret ?_ | refine c_block ?_ | refine c_exit ?_ | refine e_then_exit ?_ | refine e_block_exit ?_ | refine e_block_normal ?_ | refine e_block_ret ?_ | refine o_box (k := fun _ => ?_) | refine o_alloc (k := fun _ => ?_) | refine e_norm ?_ | refine o_ung (k := ?_) | refine o_k (k := ?_) | refine s_v (k := ?_) | refine s_w (k := ?_) | refine s_k (k := ?_) | refine s_nil ?_ | refine e_block_exit_ne rfl ?_ | (refine o_call (rdU32_ok _ _ _) (k := ?_); rintro _ _ ⟨rfl, rfl⟩; dsimp only [List.cons_append, List.nil_append]) | (refine o_call (errno_ok _ _ _) (k := ?_); rintro _ _ ⟨rfl, rfl⟩; dsimp only [List.cons_append, List.nil_append]))
    exact e_1 (h1 := rs_tmp rfl) (hT := ⟨_, _, _, _, q, c, rfl, hc, rfl, rfl⟩)
  · repeat (first | refine o_v (k := ?_) | refine c_seq ?_ | refine c_region ?_ | refine o_nil ?_ | refine e_then_normal ?_ | refine o_store (k := ?_) | refine c_true (h1 := ?_) | refine c_false (h1 := ?_) | refine c_ret ?_ | refine c_skip ?_ | refine e_then_ret ?_ | refine c_block ?_ | refine c_exit ?_ | refine e_then_exit ?_ | refine e_block_exit ?_ | refine e_block_normal ?_ | refine e_block_ret ?_ | refine o_box (k := fun _ => ?_) | refine o_alloc (k := fun _ => ?_) | refine e_norm ?_ | refine o_ung (k := ?_) | refine o_k (k := ?_) | refine s_v (k := ?_) | refine s_w (k := ?_) | refine s_k (k := ?_) | refine s_nil ?_ | refine e_block_exit_ne rfl ?_ | (refine o_call (rdU32_ok _ _ _) (k := ?_); rintro _ _ ⟨rfl, rfl⟩; dsimp only [List.cons_append, List.nil_append]) | (refine o_call (errno_ok _ _ _) (k := ?_); rintro _ _ ⟨rfl, rfl⟩; dsimp only [List.cons_append, List.nil_append]))
    exact e_1 (h1 := rs_tmp rfl) (hT := ⟨_, _, _, _, q, c, rfl, hc, rfl, rfl⟩)
  · repeat (first | refine o_v (k := ?_) | refine c_seq ?_ | refine c_region ?_ | refine o_nil ?_ | refine e_then_normal ?_ | refine o_store (k := ?_) | refine c_true (h1 := ?_) | refine c_false (h1 := ?_) | refine c_ret ?_ | refine c_skip ?_ | refine e_then_ret ?_ | refine c_block ?_ | refine c_exit ?_ | refine e_then_exit ?_ | refine e_block_exit ?_ | refine e_block_normal ?_ | refine e_block_ret ?_ | refine o_box (k := fun _ => ?_) | refine o_alloc (k := fun _ => ?_) | refine e_norm ?_ | refine o_ung (k := ?_) | refine o_k (k := ?_) | refine s_v (k := ?_) | refine s_w (k := ?_) | refine s_k (k := ?_) | refine s_nil ?_ | refine e_block_exit_ne rfl ?_ | (refine o_call (rdU32_ok _ _ _) (k := ?_); rintro _ _ ⟨rfl, rfl⟩; dsimp only [List.cons_append, List.nil_append]) | (refine o_call (errno_ok _ _ _) (k := ?_); rintro _ _ ⟨rfl, rfl⟩; dsimp only [List.cons_append, List.nil_append]))
    exact e_1 (h1 := rs_tmp rfl) (hT := ⟨_, _, _, _, q, c, rfl, hc, rfl, rfl⟩)
  · have hx := rdText_ok b e 2048 l hl (by omega)
    obtain ⟨t, e', l', hr⟩ : ∃ t e' l', rdText e l 2048 = (t, e', l') := ⟨_, _, _, rfl⟩
    rw [hr] at hx
    dsimp only at hx
    repeat (first | refine o_v (k := ?_) | refine c_seq ?_ | refine c_region ?_ | refine o_nil ?_ | refine e_then_normal ?_ | refine o_store (k := ?_) | refine c_true (h1 := ?_) | refine c_false (h1 := ?_) | refine c_ret ?_ | refine c_skip ?_ | refine e_then_ret ?_ | refine c_block ?_ | refine c_exit ?_ | refine e_then_exit ?_ | refine e_block_exit ?_ | refine e_block_normal ?_ | refine e_block_ret ?_ | refine o_box (k := fun _ => ?_) | refine o_alloc (k := fun _ => ?_) | refine e_norm ?_ | refine o_ung (k := ?_) | refine o_k (k := ?_) | refine s_v (k := ?_) | refine s_w (k := ?_) | refine s_k (k := ?_) | refine s_nil ?_ | refine e_block_exit_ne rfl ?_ | (refine o_call (hx) (k := ?_); rintro v _ rfl; dsimp only [List.cons_append, List.nil_append]))
    refine o_buf true v (k := ?_)
    rintro q1 c1 rfl hc1 hm1
    repeat (first | refine o_v (k := ?_) | refine c_seq ?_ | refine c_region ?_ | refine o_nil ?_ | refine e_then_normal ?_ | refine o_store (k := ?_) | refine c_true (h1 := ?_) | refine c_false (h1 := ?_) | refine c_ret ?_ | refine c_skip ?_ | refine e_then_ret ?_ | refine c_block ?_ | refine c_exit ?_ | refine e_then_exit ?_ | refine e_block_exit ?_ | refine e_block_normal ?_ | refine e_block_ret ?_ | refine o_box (k := fun _ => ?_) | refine o_alloc (k := fun _ => ?_) | refine e_norm ?_ | refine o_ung (k := ?_) | refine o_k (k := ?_) | refine s_v (k := ?_) | refine s_w (k := ?_) | refine s_k (k := ?_) | refine s_nil ?_ | refine e_block_exit_ne rfl ?_ | (refine o_call (errno_ok _ _ _) (k := ?_); rintro _ _ ⟨rfl, rfl⟩; dsimp only [List.cons_append, List.nil_append]))
    exact e_1 (h1 := rs_tmp rfl) (hT := ⟨e', { a with data := t }, e', l', q1, c1, by simp [readF, hr], ⟨hc1, hm1⟩, rfl, rfl⟩)

/-- the fields of a procedure -/
def fieldsOf (p : Int) : List Nat :=
  if p = 1 then [0] else if p = 2 then [0, 6] else if p = 3 ∨ p = 12 ∨ p = 13 then [0, 2] else if p = 6 ∨ p = 16 then [0, 4, 5] else if p = 7 then [0, 4, 8] else if p = 8 ∨ p = 9 then [0, 2, 7] else if p = 14 then [0, 2, 1, 3] else []
theorem fieldsOf_all (p : Int) : (fieldsOf p).all (fun f => Nat.ble f 8) = true := by unfold fieldsOf; (repeat' split) <;> rfl
theorem fieldsOf_le (p : Int) (f : Nat) (h : f ∈ fieldsOf p) : f ≤ 8 := Nat.le_of_ble_eq_true (List.all_eq_true.1 (fieldsOf_all p) f h)
theorem fieldsOf_len (p : Int) : (fieldsOf p).length ≤ 4 := by unfold fieldsOf; (repeat' split) <;> simp

set_option maxRecDepth 20000 in
set_option maxHeartbeats 4000000 in
theorem fields_ok (p : Int) : Ct Tryz.prog 120 [.int .i64 p] [] (Ret fun u H => ∃ q c, (fieldsOf p).length ≤ c ∧ u = .slice q (fieldsOf p).length c ∧ H = [cellsA true q (nums .i64 (natI (fieldsOf p)))]) := by
  refine fn_enter Tryz.func120 rfl Tryz.ntmps120 rfl fun _ _ _ => ?_
  repeat (first | refine o_v (k := ?_) | refine c_seq ?_ | refine c_region ?_ | refine o_nil ?_ | refine e_then_normal ?_ | refine o_store (k := ?_) | refine c_true (h1 := ?_) | refine c_false (h1 := ?_) | refine c_ret ?_ | refine c_skip ?_ | refine e_then_ret ?_ | refine c_block ?_ | refine c_exit ?_ | refine e_then_exit ?_ | refine e_block_exit ?_ | refine e_block_normal ?_ | refine e_block_ret ?_ | refine o_box (k := fun _ => ?_) | refine o_alloc (k := fun _ => ?_) | refine e_norm ?_ | refine o_ung (k := ?_) | refine o_k (k := ?_) | refine s_v (k := ?_) | refine s_w (k := ?_) | refine s_k (k := ?_) | refine s_nil ?_ | refine e_block_exit_ne rfl ?_)
  refine c_if (h1 := fun h => ?_) (h2 := fun h1 => ?_)
  · obtain rfl := of_decide_eq_true h
    repeat (first | refine o_v (k := ?_) | refine c_seq ?_ | refine c_region ?_ | refine o_nil ?_ | refine e_then_normal ?_ | refine o_store (k := ?_) | refine c_true (h1 := ?_) | refine c_false (h1 := ?_) | refine c_ret ?_ | refine c_skip ?_ | refine e_then_ret ?_ | refine c_block ?_ | refine c_exit ?_ | refine e_then_exit ?_ | refine e_block_exit ?_ | refine e_block_normal ?_ | refine e_block_ret ?_ | refine o_box (k := fun _ => ?_) | refine o_alloc (k := fun _ => ?_) | refine e_norm ?_ | refine o_ung (k := ?_) | refine o_k (k := ?_) | refine s_v (k := ?_) | refine s_w (k := ?_) | refine s_k (k := ?_) | refine s_nil ?_ | refine e_block_exit_ne rfl ?_)
    refine o_lit (k := fun b => ?_)
    repeat (first | refine o_v (k := ?_) | refine c_seq ?_ | refine c_region ?_ | refine o_nil ?_ | refine e_then_normal ?_ | refine o_store (k := ?_) | refine c_true (h1 := ?_) | refine c_false (h1 := ?_) | refine c_ret ?_ | refine c_skip ?_ | refine e_then_ret ?_ | refine c_block ?_ | refine c_exit ?_ | refine e_then_exit ?_ | refine e_block_exit ?_ | refine e_block_normal ?_ | refine e_block_ret ?_ | refine o_box (k := fun _ => ?_) | refine o_alloc (k := fun _ => ?_) | refine e_norm ?_ | refine o_ung (k := ?_) | refine o_k (k := ?_) | refine s_v (k := ?_) | refine s_w (k := ?_) | refine s_k (k := ?_) | refine s_nil ?_ | refine e_block_exit_ne rfl ?_)
    refine e_conv (fun w hw => Good.blkCells hw) ?_
    exact e_1 (h1 := rs_tmp rfl) (hT := ⟨_, _, Nat.le_refl _, rfl, rfl⟩)
  simp only [decide_eq_false_iff_not] at h1
  repeat (first | refine o_v (k := ?_) | refine c_seq ?_ | refine c_region ?_ | refine o_nil ?_ | refine e_then_normal ?_ | refine o_store (k := ?_) | refine c_true (h1 := ?_) | refine c_false (h1 := ?_) | refine c_ret ?_ | refine c_skip ?_ | refine e_then_ret ?_ | refine c_block ?_ | refine c_exit ?_ | refine e_then_exit ?_ | refine e_block_exit ?_ | refine e_block_normal ?_ | refine e_block_ret ?_ | refine o_box (k := fun _ => ?_) | refine o_alloc (k := fun _ => ?_) | refine e_norm ?_ | refine o_ung (k := ?_) | refine o_k (k := ?_) | refine s_v (k := ?_) | refine s_w (k := ?_) | refine s_k (k := ?_) | refine s_nil ?_ | refine e_block_exit_ne rfl ?_)
  (try (refine c_if (h1 := fun h => ?_) (h2 := fun _ => ?_); exact absurd (of_decide_eq_true h) h1))
  repeat (first | refine o_v (k := ?_) | refine c_seq ?_ | refine c_region ?_ | refine o_nil ?_ | refine e_then_normal ?_ | refine o_store (k := ?_) | refine c_true (h1 := ?_) | refine c_false (h1 := ?_) | refine c_ret ?_ | refine c_skip ?_ | refine e_then_ret ?_ | refine c_block ?_ | refine c_exit ?_ | refine e_then_exit ?_ | refine e_block_exit ?_ | refine e_block_normal ?_ | refine e_block_ret ?_ | refine o_box (k := fun _ => ?_) | refine o_alloc (k := fun _ => ?_) | refine e_norm ?_ | refine o_ung (k := ?_) | refine o_k (k := ?_) | refine s_v (k := ?_) | refine s_w (k := ?_) | refine s_k (k := ?_) | refine s_nil ?_ | refine e_block_exit_ne rfl ?_)
  refine c_if (h1 := fun h => ?_) (h2 := fun h2 => ?_)
  · obtain rfl := of_decide_eq_true h
    repeat (first | refine o_v (k := ?_) | refine c_seq ?_ | refine c_region ?_ | refine o_nil ?_ | refine e_then_normal ?_ | refine o_store (k := ?_) | refine c_true (h1 := ?_) | refine c_false (h1 := ?_) | refine c_ret ?_ | refine c_skip ?_ | refine e_then_ret ?_ | refine c_block ?_ | refine c_exit ?_ | refine e_then_exit ?_ | refine e_block_exit ?_ | refine e_block_normal ?_ | refine e_block_ret ?_ | refine o_box (k := fun _ => ?_) | refine o_alloc (k := fun _ => ?_) | refine e_norm ?_ | refine o_ung (k := ?_) | refine o_k (k := ?_) | refine s_v (k := ?_) | refine s_w (k := ?_) | refine s_k (k := ?_) | refine s_nil ?_ | refine e_block_exit_ne rfl ?_)
    refine o_lit (k := fun b => ?_)
    repeat (first | refine o_v (k := ?_) | refine c_seq ?_ | refine c_region ?_ | refine o_nil ?_ | refine e_then_normal ?_ | refine o_store (k := ?_) | refine c_true (h1 := ?_) | refine c_false (h1 := ?_) | refine c_ret ?_ | refine c_skip ?_ | refine e_then_ret ?_ | refine c_block ?_ | refine c_exit ?_ | refine e_then_exit ?_ | refine e_block_exit ?_ | refine e_block_normal ?_ | refine e_block_ret ?_ | refine o_box (k := fun _ => ?_) | refine o_alloc (k := fun _ => ?_) | refine e_norm ?_ | refine o_ung (k := ?_) | refine o_k (k := ?_) | refine s_v (k := ?_) | refine s_w (k := ?_) | refine s_k (k := ?_) | refine s_nil ?_ | refine e_block_exit_ne rfl ?_)
    refine e_conv (fun w hw => Good.blkCells hw) ?_
    exact e_1 (h1 := rs_tmp rfl) (hT := ⟨_, _, Nat.le_refl _, rfl, rfl⟩)
  simp only [decide_eq_false_iff_not] at h2
  repeat (first | refine o_v (k := ?_) | refine c_seq ?_ | refine c_region ?_ | refine o_nil ?_ | refine e_then_normal ?_ | refine o_store (k := ?_) | refine c_true (h1 := ?_) | refine c_false (h1 := ?_) | refine c_ret ?_ | refine c_skip ?_ | refine e_then_ret ?_ | refine c_block ?_ | refine c_exit ?_ | refine e_then_exit ?_ | refine e_block_exit ?_ | refine e_block_normal ?_ | refine e_block_ret ?_ | refine o_box (k := fun _ => ?_) | refine o_alloc (k := fun _ => ?_) | refine e_norm ?_ | refine o_ung (k := ?_) | refine o_k (k := ?_) | refine s_v (k := ?_) | refine s_w (k := ?_) | refine s_k (k := ?_) | refine s_nil ?_ | refine e_block_exit_ne rfl ?_)
  (try (refine c_if (h1 := fun h => ?_) (h2 := fun _ => ?_); exact absurd (of_decide_eq_true h) h2))
  repeat (first | refine o_v (k := ?_) | refine c_seq ?_ | refine c_region ?_ | refine o_nil ?_ | refine e_then_normal ?_ | refine o_store (k := ?_) | refine c_true (h1 := ?_) | refine c_false (h1 := ?_) | refine c_ret ?_ | refine c_skip ?_ | refine e_then_ret ?_ | refine c_block ?_ | refine c_exit ?_ | refine e_then_exit ?_ | refine e_block_exit ?_ | refine e_block_normal ?_ | refine e_block_ret ?_ | refine o_box (k := fun _ => ?_) | refine o_alloc (k := fun _ => ?_) | refine e_norm ?_ | refine o_ung (k := ?_) | refine o_k (k := ?_) | refine s_v (k := ?_) | refine s_w (k := ?_) | refine s_k (k := ?_) | refine s_nil ?_ | refine e_block_exit_ne rfl ?_)
  refine c_if (h1 := fun h => ?_) (h2 := fun h3 => ?_)
  · obtain rfl := of_decide_eq_true h
    repeat (first | refine o_v (k := ?_) | refine c_seq ?_ | refine c_region ?_ | refine o_nil ?_ | refine e_then_normal ?_ | refine o_store (k := ?_) | refine c_true (h1 := ?_) | refine c_false (h1 := ?_) | refine c_ret ?_ | refine c_skip ?_ | refine e_then_ret ?_ | refine c_block ?_ | refine c_exit ?_ | refine e_then_exit ?_ | refine e_block_exit ?_ | refine e_block_normal ?_ | refine e_block_ret ?_ | refine o_box (k := fun _ => ?_) | refine o_alloc (k := fun _ => ?_) | refine e_norm ?_ | refine o_ung (k := ?_) | refine o_k (k := ?_) | refine s_v (k := ?_) | refine s_w (k := ?_) | refine s_k (k := ?_) | refine s_nil ?_ | refine e_block_exit_ne rfl ?_)
    refine o_lit (k := fun b => ?_)
    repeat (first | refine o_v (k := ?_) | refine c_seq ?_ | refine c_region ?_ | refine o_nil ?_ | refine e_then_normal ?_ | refine o_store (k := ?_) | refine c_true (h1 := ?_) | refine c_false (h1 := ?_) | refine c_ret ?_ | refine c_skip ?_ | refine e_then_ret ?_ | refine c_block ?_ | refine c_exit ?_ | refine e_then_exit ?_ | refine e_block_exit ?_ | refine e_block_normal ?_ | refine e_block_ret ?_ | refine o_box (k := fun _ => ?_) | refine o_alloc (k := fun _ => ?_) | refine e_norm ?_ | refine o_ung (k := ?_) | refine o_k (k := ?_) | refine s_v (k := ?_) | refine s_w (k := ?_) | refine s_k (k := ?_) | refine s_nil ?_ | refine e_block_exit_ne rfl ?_)
    refine e_conv (fun w hw => Good.blkCells hw) ?_
    exact e_1 (h1 := rs_tmp rfl) (hT := ⟨_, _, Nat.le_refl _, rfl, rfl⟩)
  simp only [decide_eq_false_iff_not] at h3
  repeat (first | refine o_v (k := ?_) | refine c_seq ?_ | refine c_region ?_ | refine o_nil ?_ | refine e_then_normal ?_ | refine o_store (k := ?_) | refine c_true (h1 := ?_) | refine c_false (h1 := ?_) | refine c_ret ?_ | refine c_skip ?_ | refine e_then_ret ?_ | refine c_block ?_ | refine c_exit ?_ | refine e_then_exit ?_ | refine e_block_exit ?_ | refine e_block_normal ?_ | refine e_block_ret ?_ | refine o_box (k := fun _ => ?_) | refine o_alloc (k := fun _ => ?_) | refine e_norm ?_ | refine o_ung (k := ?_) | refine o_k (k := ?_) | refine s_v (k := ?_) | refine s_w (k := ?_) | refine s_k (k := ?_) | refine s_nil ?_ | refine e_block_exit_ne rfl ?_)
  (try (refine c_if (h1 := fun h => ?_) (h2 := fun _ => ?_); exact absurd (of_decide_eq_true h) h3))
  repeat (first | refine o_v (k := ?_) | refine c_seq ?_ | refine c_region ?_ | refine o_nil ?_ | refine e_then_normal ?_ | refine o_store (k := ?_) | refine c_true (h1 := ?_) | refine c_false (h1 := ?_) | refine c_ret ?_ | refine c_skip ?_ | refine e_then_ret ?_ | refine c_block ?_ | refine c_exit ?_ | refine e_then_exit ?_ | refine e_block_exit ?_ | refine e_block_normal ?_ | refine e_block_ret ?_ | refine o_box (k := fun _ => ?_) | refine o_alloc (k := fun _ => ?_) | refine e_norm ?_ | refine o_ung (k := ?_) | refine o_k (k := ?_) | refine s_v (k := ?_) | refine s_w (k := ?_) | refine s_k (k := ?_) | refine s_nil ?_ | refine e_block_exit_ne rfl ?_)
  refine c_if (h1 := fun h => ?_) (h2 := fun h12 => ?_)
  · obtain rfl := of_decide_eq_true h
    repeat (first | refine o_v (k := ?_) | refine c_seq ?_ | refine c_region ?_ | refine o_nil ?_ | refine e_then_normal ?_ | refine o_store (k := ?_) | refine c_true (h1 := ?_) | refine c_false (h1 := ?_) | refine c_ret ?_ | refine c_skip ?_ | refine e_then_ret ?_ | refine c_block ?_ | refine c_exit ?_ | refine e_then_exit ?_ | refine e_block_exit ?_ | refine e_block_normal ?_ | refine e_block_ret ?_ | refine o_box (k := fun _ => ?_) | refine o_alloc (k := fun _ => ?_) | refine e_norm ?_ | refine o_ung (k := ?_) | refine o_k (k := ?_) | refine s_v (k := ?_) | refine s_w (k := ?_) | refine s_k (k := ?_) | refine s_nil ?_ | refine e_block_exit_ne rfl ?_)
    refine o_lit (k := fun b => ?_)
    repeat (first | refine o_v (k := ?_) | refine c_seq ?_ | refine c_region ?_ | refine o_nil ?_ | refine e_then_normal ?_ | refine o_store (k := ?_) | refine c_true (h1 := ?_) | refine c_false (h1 := ?_) | refine c_ret ?_ | refine c_skip ?_ | refine e_then_ret ?_ | refine c_block ?_ | refine c_exit ?_ | refine e_then_exit ?_ | refine e_block_exit ?_ | refine e_block_normal ?_ | refine e_block_ret ?_ | refine o_box (k := fun _ => ?_) | refine o_alloc (k := fun _ => ?_) | refine e_norm ?_ | refine o_ung (k := ?_) | refine o_k (k := ?_) | refine s_v (k := ?_) | refine s_w (k := ?_) | refine s_k (k := ?_) | refine s_nil ?_ | refine e_block_exit_ne rfl ?_)
    refine e_conv (fun w hw => Good.blkCells hw) ?_
    exact e_1 (h1 := rs_tmp rfl) (hT := ⟨_, _, Nat.le_refl _, rfl, rfl⟩)
  simp only [decide_eq_false_iff_not] at h12
  repeat (first | refine o_v (k := ?_) | refine c_seq ?_ | refine c_region ?_ | refine o_nil ?_ | refine e_then_normal ?_ | refine o_store (k := ?_) | refine c_true (h1 := ?_) | refine c_false (h1 := ?_) | refine c_ret ?_ | refine c_skip ?_ | refine e_then_ret ?_ | refine c_block ?_ | refine c_exit ?_ | refine e_then_exit ?_ | refine e_block_exit ?_ | refine e_block_normal ?_ | refine e_block_ret ?_ | refine o_box (k := fun _ => ?_) | refine o_alloc (k := fun _ => ?_) | refine e_norm ?_ | refine o_ung (k := ?_) | refine o_k (k := ?_) | refine s_v (k := ?_) | refine s_w (k := ?_) | refine s_k (k := ?_) | refine s_nil ?_ | refine e_block_exit_ne rfl ?_)
  (try (refine c_if (h1 := fun h => ?_) (h2 := fun _ => ?_); exact absurd (of_decide_eq_true h) h12))
  repeat (first | refine o_v (k := ?_) | refine c_seq ?_ | refine c_region ?_ | refine o_nil ?_ | refine e_then_normal ?_ | refine o_store (k := ?_) | refine c_true (h1 := ?_) | refine c_false (h1 := ?_) | refine c_ret ?_ | refine c_skip ?_ | refine e_then_ret ?_ | refine c_block ?_ | refine c_exit ?_ | refine e_then_exit ?_ | refine e_block_exit ?_ | refine e_block_normal ?_ | refine e_block_ret ?_ | refine o_box (k := fun _ => ?_) | refine o_alloc (k := fun _ => ?_) | refine e_norm ?_ | refine o_ung (k := ?_) | refine o_k (k := ?_) | refine s_v (k := ?_) | refine s_w (k := ?_) | refine s_k (k := ?_) | refine s_nil ?_ | refine e_block_exit_ne rfl ?_)
  refine c_if (h1 := fun h => ?_) (h2 := fun h13 => ?_)
  · obtain rfl := of_decide_eq_true h
    repeat (first | refine o_v (k := ?_) | refine c_seq ?_ | refine c_region ?_ | refine o_nil ?_ | refine e_then_normal ?_ | refine o_store (k := ?_) | refine c_true (h1 := ?_) | refine c_false (h1 := ?_) | refine c_ret ?_ | refine c_skip ?_ | refine e_then_ret ?_ | refine c_block ?_ | refine c_exit ?_ | refine e_then_exit ?_ | refine e_block_exit ?_ | refine e_block_normal ?_ | refine e_block_ret ?_ | refine o_box (k := fun _ => ?_) | refine o_alloc (k := fun _ => ?_) | refine e_norm ?_ | refine o_ung (k := ?_) | refine o_k (k := ?_) | refine s_v (k := ?_) | refine s_w (k := ?_) | refine s_k (k := ?_) | refine s_nil ?_ | refine e_block_exit_ne rfl ?_)
    refine o_lit (k := fun b => ?_)
    repeat (first | refine o_v (k := ?_) | refine c_seq ?_ | refine c_region ?_ | refine o_nil ?_ | refine e_then_normal ?_ | refine o_store (k := ?_) | refine c_true (h1 := ?_) | refine c_false (h1 := ?_) | refine c_ret ?_ | refine c_skip ?_ | refine e_then_ret ?_ | refine c_block ?_ | refine c_exit ?_ | refine e_then_exit ?_ | refine e_block_exit ?_ | refine e_block_normal ?_ | refine e_block_ret ?_ | refine o_box (k := fun _ => ?_) | refine o_alloc (k := fun _ => ?_) | refine e_norm ?_ | refine o_ung (k := ?_) | refine o_k (k := ?_) | refine s_v (k := ?_) | refine s_w (k := ?_) | refine s_k (k := ?_) | refine s_nil ?_ | refine e_block_exit_ne rfl ?_)
    refine e_conv (fun w hw => Good.blkCells hw) ?_
    exact e_1 (h1 := rs_tmp rfl) (hT := ⟨_, _, Nat.le_refl _, rfl, rfl⟩)
  simp only [decide_eq_false_iff_not] at h13
  repeat (first | refine o_v (k := ?_) | refine c_seq ?_ | refine c_region ?_ | refine o_nil ?_ | refine e_then_normal ?_ | refine o_store (k := ?_) | refine c_true (h1 := ?_) | refine c_false (h1 := ?_) | refine c_ret ?_ | refine c_skip ?_ | refine e_then_ret ?_ | refine c_block ?_ | refine c_exit ?_ | refine e_then_exit ?_ | refine e_block_exit ?_ | refine e_block_normal ?_ | refine e_block_ret ?_ | refine o_box (k := fun _ => ?_) | refine o_alloc (k := fun _ => ?_) | refine e_norm ?_ | refine o_ung (k := ?_) | refine o_k (k := ?_) | refine s_v (k := ?_) | refine s_w (k := ?_) | refine s_k (k := ?_) | refine s_nil ?_ | refine e_block_exit_ne rfl ?_)
  (try (refine c_if (h1 := fun h => ?_) (h2 := fun _ => ?_); exact absurd (of_decide_eq_true h) h13))
  repeat (first | refine o_v (k := ?_) | refine c_seq ?_ | refine c_region ?_ | refine o_nil ?_ | refine e_then_normal ?_ | refine o_store (k := ?_) | refine c_true (h1 := ?_) | refine c_false (h1 := ?_) | refine c_ret ?_ | refine c_skip ?_ | refine e_then_ret ?_ | refine c_block ?_ | refine c_exit ?_ | refine e_then_exit ?_ | refine e_block_exit ?_ | refine e_block_normal ?_ | refine e_block_ret ?_ | refine o_box (k := fun _ => ?_) | refine o_alloc (k := fun _ => ?_) | refine e_norm ?_ | refine o_ung (k := ?_) | refine o_k (k := ?_) | refine s_v (k := ?_) | refine s_w (k := ?_) | refine s_k (k := ?_) | refine s_nil ?_ | refine e_block_exit_ne rfl ?_)
  refine c_if (h1 := fun h => ?_) (h2 := fun h6 => ?_)
  · obtain rfl := of_decide_eq_true h
    repeat (first | refine o_v (k := ?_) | refine c_seq ?_ | refine c_region ?_ | refine o_nil ?_ | refine e_then_normal ?_ | refine o_store (k := ?_) | refine c_true (h1 := ?_) | refine c_false (h1 := ?_) | refine c_ret ?_ | refine c_skip ?_ | refine e_then_ret ?_ | refine c_block ?_ | refine c_exit ?_ | refine e_then_exit ?_ | refine e_block_exit ?_ | refine e_block_normal ?_ | refine e_block_ret ?_ | refine o_box (k := fun _ => ?_) | refine o_alloc (k := fun _ => ?_) | refine e_norm ?_ | refine o_ung (k := ?_) | refine o_k (k := ?_) | refine s_v (k := ?_) | refine s_w (k := ?_) | refine s_k (k := ?_) | refine s_nil ?_ | refine e_block_exit_ne rfl ?_)
    refine o_lit (k := fun b => ?_)
    repeat (first | refine o_v (k := ?_) | refine c_seq ?_ | refine c_region ?_ | refine o_nil ?_ | refine e_then_normal ?_ | refine o_store (k := ?_) | refine c_true (h1 := ?_) | refine c_false (h1 := ?_) | refine c_ret ?_ | refine c_skip ?_ | refine e_then_ret ?_ | refine c_block ?_ | refine c_exit ?_ | refine e_then_exit ?_ | refine e_block_exit ?_ | refine e_block_normal ?_ | refine e_block_ret ?_ | refine o_box (k := fun _ => ?_) | refine o_alloc (k := fun _ => ?_) | refine e_norm ?_ | refine o_ung (k := ?_) | refine o_k (k := ?_) | refine s_v (k := ?_) | refine s_w (k := ?_) | refine s_k (k := ?_) | refine s_nil ?_ | refine e_block_exit_ne rfl ?_)
    refine e_conv (fun w hw => Good.blkCells hw) ?_
    exact e_1 (h1 := rs_tmp rfl) (hT := ⟨_, _, Nat.le_refl _, rfl, rfl⟩)
  simp only [decide_eq_false_iff_not] at h6
  repeat (first | refine o_v (k := ?_) | refine c_seq ?_ | refine c_region ?_ | refine o_nil ?_ | refine e_then_normal ?_ | refine o_store (k := ?_) | refine c_true (h1 := ?_) | refine c_false (h1 := ?_) | refine c_ret ?_ | refine c_skip ?_ | refine e_then_ret ?_ | refine c_block ?_ | refine c_exit ?_ | refine e_then_exit ?_ | refine e_block_exit ?_ | refine e_block_normal ?_ | refine e_block_ret ?_ | refine o_box (k := fun _ => ?_) | refine o_alloc (k := fun _ => ?_) | refine e_norm ?_ | refine o_ung (k := ?_) | refine o_k (k := ?_) | refine s_v (k := ?_) | refine s_w (k := ?_) | refine s_k (k := ?_) | refine s_nil ?_ | refine e_block_exit_ne rfl ?_)
  (try (refine c_if (h1 := fun h => ?_) (h2 := fun _ => ?_); exact absurd (of_decide_eq_true h) h6))
  repeat (first | refine o_v (k := ?_) | refine c_seq ?_ | refine c_region ?_ | refine o_nil ?_ | refine e_then_normal ?_ | refine o_store (k := ?_) | refine c_true (h1 := ?_) | refine c_false (h1 := ?_) | refine c_ret ?_ | refine c_skip ?_ | refine e_then_ret ?_ | refine c_block ?_ | refine c_exit ?_ | refine e_then_exit ?_ | refine e_block_exit ?_ | refine e_block_normal ?_ | refine e_block_ret ?_ | refine o_box (k := fun _ => ?_) | refine o_alloc (k := fun _ => ?_) | refine e_norm ?_ | refine o_ung (k := ?_) | refine o_k (k := ?_) | refine s_v (k := ?_) | refine s_w (k := ?_) | refine s_k (k := ?_) | refine s_nil ?_ | refine e_block_exit_ne rfl ?_)
  refine c_if (h1 := fun h => ?_) (h2 := fun h16 => ?_)
  · obtain rfl := of_decide_eq_true h
    repeat (first | refine o_v (k := ?_) | refine c_seq ?_ | refine c_region ?_ | refine o_nil ?_ | refine e_then_normal ?_ | refine o_store (k := ?_) | refine c_true (h1 := ?_) | refine c_false (h1 := ?_) | refine c_ret ?_ | refine c_skip ?_ | refine e_then_ret ?_ | refine c_block ?_ | refine c_exit ?_ | refine e_then_exit ?_ | refine e_block_exit ?_ | refine e_block_normal ?_ | refine e_block_ret ?_ | refine o_box (k := fun _ => ?_) | refine o_alloc (k := fun _ => ?_) | refine e_norm ?_ | refine o_ung (k := ?_) | refine o_k (k := ?_) | refine s_v (k := ?_) | refine s_w (k := ?_) | refine s_k (k := ?_) | refine s_nil ?_ | refine e_block_exit_ne rfl ?_)
    refine o_lit (k := fun b => ?_)
    repeat (first | refine o_v (k := ?_) | refine c_seq ?_ | refine c_region ?_ | refine o_nil ?_ | refine e_then_normal ?_ | refine o_store (k := ?_) | refine c_true (h1 := ?_) | refine c_false (h1 := ?_) | refine c_ret ?_ | refine c_skip ?_ | refine e_then_ret ?_ | refine c_block ?_ | refine c_exit ?_ | refine e_then_exit ?_ | refine e_block_exit ?_ | refine e_block_normal ?_ | refine e_block_ret ?_ | refine o_box (k := fun _ => ?_) | refine o_alloc (k := fun _ => ?_) | refine e_norm ?_ | refine o_ung (k := ?_) | refine o_k (k := ?_) | refine s_v (k := ?_) | refine s_w (k := ?_) | refine s_k (k := ?_) | refine s_nil ?_ | refine e_block_exit_ne rfl ?_)
    refine e_conv (fun w hw => Good.blkCells hw) ?_
    exact e_1 (h1 := rs_tmp rfl) (hT := ⟨_, _, Nat.le_refl _, rfl, rfl⟩)
  simp only [decide_eq_false_iff_not] at h16
  repeat (first | refine o_v (k := ?_) | refine c_seq ?_ | refine c_region ?_ | refine o_nil ?_ | refine e_then_normal ?_ | refine o_store (k := ?_) | refine c_true (h1 := ?_) | refine c_false (h1 := ?_) | refine c_ret ?_ | refine c_skip ?_ | refine e_then_ret ?_ | refine c_block ?_ | refine c_exit ?_ | refine e_then_exit ?_ | refine e_block_exit ?_ | refine e_block_normal ?_ | refine e_block_ret ?_ | refine o_box (k := fun _ => ?_) | refine o_alloc (k := fun _ => ?_) | refine e_norm ?_ | refine o_ung (k := ?_) | refine o_k (k := ?_) | refine s_v (k := ?_) | refine s_w (k := ?_) | refine s_k (k := ?_) | refine s_nil ?_ | refine e_block_exit_ne rfl ?_)
  (try (refine c_if (h1 := fun h => ?_) (h2 := fun _ => ?_); exact absurd (of_decide_eq_true h) h16))
  repeat (first | refine o_v (k := ?_) | refine c_seq ?_ | refine c_region ?_ | refine o_nil ?_ | refine e_then_normal ?_ | refine o_store (k := ?_) | refine c_true (h1 := ?_) | refine c_false (h1 := ?_) | refine c_ret ?_ | refine c_skip ?_ | refine e_then_ret ?_ | refine c_block ?_ | refine c_exit ?_ | refine e_then_exit ?_ | refine e_block_exit ?_ | refine e_block_normal ?_ | refine e_block_ret ?_ | refine o_box (k := fun _ => ?_) | refine o_alloc (k := fun _ => ?_) | refine e_norm ?_ | refine o_ung (k := ?_) | refine o_k (k := ?_) | refine s_v (k := ?_) | refine s_w (k := ?_) | refine s_k (k := ?_) | refine s_nil ?_ | refine e_block_exit_ne rfl ?_)
  refine c_if (h1 := fun h => ?_) (h2 := fun h7 => ?_)
  · obtain rfl := of_decide_eq_true h
    repeat (first | refine o_v (k := ?_) | refine c_seq ?_ | refine c_region ?_ | refine o_nil ?_ | refine e_then_normal ?_ | refine o_store (k := ?_) | refine c_true (h1 := ?_) | refine c_false (h1 := ?_) | refine c_ret ?_ | refine c_skip ?_ | refine e_then_ret ?_ | refine c_block ?_ | refine c_exit ?_ | refine e_then_exit ?_ | refine e_block_exit ?_ | refine e_block_normal ?_ | refine e_block_ret ?_ | refine o_box (k := fun _ => ?_) | refine o_alloc (k := fun _ => ?_) | refine e_norm ?_ | refine o_ung (k := ?_) | refine o_k (k := ?_) | refine s_v (k := ?_) | refine s_w (k := ?_) | refine s_k (k := ?_) | refine s_nil ?_ | refine e_block_exit_ne rfl ?_)
    refine o_lit (k := fun b => ?_)
    repeat (first | refine o_v (k := ?_) | refine c_seq ?_ | refine c_region ?_ | refine o_nil ?_ | refine e_then_normal ?_ | refine o_store (k := ?_) | refine c_true (h1 := ?_) | refine c_false (h1 := ?_) | refine c_ret ?_ | refine c_skip ?_ | refine e_then_ret ?_ | refine c_block ?_ | refine c_exit ?_ | refine e_then_exit ?_ | refine e_block_exit ?_ | refine e_block_normal ?_ | refine e_block_ret ?_ | refine o_box (k := fun _ => ?_) | refine o_alloc (k := fun _ => ?_) | refine e_norm ?_ | refine o_ung (k := ?_) | refine o_k (k := ?_) | refine s_v (k := ?_) | refine s_w (k := ?_) | refine s_k (k := ?_) | refine s_nil ?_ | refine e_block_exit_ne rfl ?_)
    refine e_conv (fun w hw => Good.blkCells hw) ?_
    exact e_1 (h1 := rs_tmp rfl) (hT := ⟨_, _, Nat.le_refl _, rfl, rfl⟩)
  simp only [decide_eq_false_iff_not] at h7
  repeat (first | refine o_v (k := ?_) | refine c_seq ?_ | refine c_region ?_ | refine o_nil ?_ | refine e_then_normal ?_ | refine o_store (k := ?_) | refine c_true (h1 := ?_) | refine c_false (h1 := ?_) | refine c_ret ?_ | refine c_skip ?_ | refine e_then_ret ?_ | refine c_block ?_ | refine c_exit ?_ | refine e_then_exit ?_ | refine e_block_exit ?_ | refine e_block_normal ?_ | refine e_block_ret ?_ | refine o_box (k := fun _ => ?_) | refine o_alloc (k := fun _ => ?_) | refine e_norm ?_ | refine o_ung (k := ?_) | refine o_k (k := ?_) | refine s_v (k := ?_) | refine s_w (k := ?_) | refine s_k (k := ?_) | refine s_nil ?_ | refine e_block_exit_ne rfl ?_)
  (try (refine c_if (h1 := fun h => ?_) (h2 := fun _ => ?_); exact absurd (of_decide_eq_true h) h7))
  repeat (first | refine o_v (k := ?_) | refine c_seq ?_ | refine c_region ?_ | refine o_nil ?_ | refine e_then_normal ?_ | refine o_store (k := ?_) | refine c_true (h1 := ?_) | refine c_false (h1 := ?_) | refine c_ret ?_ | refine c_skip ?_ | refine e_then_ret ?_ | refine c_block ?_ | refine c_exit ?_ | refine e_then_exit ?_ | refine e_block_exit ?_ | refine e_block_normal ?_ | refine e_block_ret ?_ | refine o_box (k := fun _ => ?_) | refine o_alloc (k := fun _ => ?_) | refine e_norm ?_ | refine o_ung (k := ?_) | refine o_k (k := ?_) | refine s_v (k := ?_) | refine s_w (k := ?_) | refine s_k (k := ?_) | refine s_nil ?_ | refine e_block_exit_ne rfl ?_)
  refine c_if (h1 := fun h => ?_) (h2 := fun h8 => ?_)
  · obtain rfl := of_decide_eq_true h
    repeat (first | refine o_v (k := ?_) | refine c_seq ?_ | refine c_region ?_ | refine o_nil ?_ | refine e_then_normal ?_ | refine o_store (k := ?_) | refine c_true (h1 := ?_) | refine c_false (h1 := ?_) | refine c_ret ?_ | refine c_skip ?_ | refine e_then_ret ?_ | refine c_block ?_ | refine c_exit ?_ | refine e_then_exit ?_ | refine e_block_exit ?_ | refine e_block_normal ?_ | refine e_block_ret ?_ | refine o_box (k := fun _ => ?_) | refine o_alloc (k := fun _ => ?_) | refine e_norm ?_ | refine o_ung (k := ?_) | refine o_k (k := ?_) | refine s_v (k := ?_) | refine s_w (k := ?_) | refine s_k (k := ?_) | refine s_nil ?_ | refine e_block_exit_ne rfl ?_)
    refine o_lit (k := fun b => ?_)
    repeat (first | refine o_v (k := ?_) | refine c_seq ?_ | refine c_region ?_ | refine o_nil ?_ | refine e_then_normal ?_ | refine o_store (k := ?_) | refine c_true (h1 := ?_) | refine c_false (h1 := ?_) | refine c_ret ?_ | refine c_skip ?_ | refine e_then_ret ?_ | refine c_block ?_ | refine c_exit ?_ | refine e_then_exit ?_ | refine e_block_exit ?_ | refine e_block_normal ?_ | refine e_block_ret ?_ | refine o_box (k := fun _ => ?_) | refine o_alloc (k := fun _ => ?_) | refine e_norm ?_ | refine o_ung (k := ?_) | refine o_k (k := ?_) | refine s_v (k := ?_) | refine s_w (k := ?_) | refine s_k (k := ?_) | refine s_nil ?_ | refine e_block_exit_ne rfl ?_)
    refine e_conv (fun w hw => Good.blkCells hw) ?_
    exact e_1 (h1 := rs_tmp rfl) (hT := ⟨_, _, Nat.le_refl _, rfl, rfl⟩)
  simp only [decide_eq_false_iff_not] at h8
  repeat (first | refine o_v (k := ?_) | refine c_seq ?_ | refine c_region ?_ | refine o_nil ?_ | refine e_then_normal ?_ | refine o_store (k := ?_) | refine c_true (h1 := ?_) | refine c_false (h1 := ?_) | refine c_ret ?_ | refine c_skip ?_ | refine e_then_ret ?_ | refine c_block ?_ | refine c_exit ?_ | refine e_then_exit ?_ | refine e_block_exit ?_ | refine e_block_normal ?_ | refine e_block_ret ?_ | refine o_box (k := fun _ => ?_) | refine o_alloc (k := fun _ => ?_) | refine e_norm ?_ | refine o_ung (k := ?_) | refine o_k (k := ?_) | refine s_v (k := ?_) | refine s_w (k := ?_) | refine s_k (k := ?_) | refine s_nil ?_ | refine e_block_exit_ne rfl ?_)
  (try (refine c_if (h1 := fun h => ?_) (h2 := fun _ => ?_); exact absurd (of_decide_eq_true h) h8))
  repeat (first | refine o_v (k := ?_) | refine c_seq ?_ | refine c_region ?_ | refine o_nil ?_ | refine e_then_normal ?_ | refine o_store (k := ?_) | refine c_true (h1 := ?_) | refine c_false (h1 := ?_) | refine c_ret ?_ | refine c_skip ?_ | refine e_then_ret ?_ | refine c_block ?_ | refine c_exit ?_ | refine e_then_exit ?_ | refine e_block_exit ?_ | refine e_block_normal ?_ | refine e_block_ret ?_ | refine o_box (k := fun _ => ?_) | refine o_alloc (k := fun _ => ?_) | refine e_norm ?_ | refine o_ung (k := ?_) | refine o_k (k := ?_) | refine s_v (k := ?_) | refine s_w (k := ?_) | refine s_k (k := ?_) | refine s_nil ?_ | refine e_block_exit_ne rfl ?_)
  refine c_if (h1 := fun h => ?_) (h2 := fun h9 => ?_)
  · obtain rfl := of_decide_eq_true h
    repeat (first | refine o_v (k := ?_) | refine c_seq ?_ | refine c_region ?_ | refine o_nil ?_ | refine e_then_normal ?_ | refine o_store (k := ?_) | refine c_true (h1 := ?_) | refine c_false (h1 := ?_) | refine c_ret ?_ | refine c_skip ?_ | refine e_then_ret ?_ | refine c_block ?_ | refine c_exit ?_ | refine e_then_exit ?_ | refine e_block_exit ?_ | refine e_block_normal ?_ | refine e_block_ret ?_ | refine o_box (k := fun _ => ?_) | refine o_alloc (k := fun _ => ?_) | refine e_norm ?_ | refine o_ung (k := ?_) | refine o_k (k := ?_) | refine s_v (k := ?_) | refine s_w (k := ?_) | refine s_k (k := ?_) | refine s_nil ?_ | refine e_block_exit_ne rfl ?_)
    refine o_lit (k := fun b => ?_)
    repeat (first | refine o_v (k := ?_) | refine c_seq ?_ | refine c_region ?_ | refine o_nil ?_ | refine e_then_normal ?_ | refine o_store (k := ?_) | refine c_true (h1 := ?_) | refine c_false (h1 := ?_) | refine c_ret ?_ | refine c_skip ?_ | refine e_then_ret ?_ | refine c_block ?_ | refine c_exit ?_ | refine e_then_exit ?_ | refine e_block_exit ?_ | refine e_block_normal ?_ | refine e_block_ret ?_ | refine o_box (k := fun _ => ?_) | refine o_alloc (k := fun _ => ?_) | refine e_norm ?_ | refine o_ung (k := ?_) | refine o_k (k := ?_) | refine s_v (k := ?_) | refine s_w (k := ?_) | refine s_k (k := ?_) | refine s_nil ?_ | refine e_block_exit_ne rfl ?_)
    refine e_conv (fun w hw => Good.blkCells hw) ?_
    exact e_1 (h1 := rs_tmp rfl) (hT := ⟨_, _, Nat.le_refl _, rfl, rfl⟩)
  simp only [decide_eq_false_iff_not] at h9
  repeat (first | refine o_v (k := ?_) | refine c_seq ?_ | refine c_region ?_ | refine o_nil ?_ | refine e_then_normal ?_ | refine o_store (k := ?_) | refine c_true (h1 := ?_) | refine c_false (h1 := ?_) | refine c_ret ?_ | refine c_skip ?_ | refine e_then_ret ?_ | refine c_block ?_ | refine c_exit ?_ | refine e_then_exit ?_ | refine e_block_exit ?_ | refine e_block_normal ?_ | refine e_block_ret ?_ | refine o_box (k := fun _ => ?_) | refine o_alloc (k := fun _ => ?_) | refine e_norm ?_ | refine o_ung (k := ?_) | refine o_k (k := ?_) | refine s_v (k := ?_) | refine s_w (k := ?_) | refine s_k (k := ?_) | refine s_nil ?_ | refine e_block_exit_ne rfl ?_)
  (try (refine c_if (h1 := fun h => ?_) (h2 := fun _ => ?_); exact absurd (of_decide_eq_true h) h9))
  repeat (first | refine o_v (k := ?_) | refine c_seq ?_ | refine c_region ?_ | refine o_nil ?_ | refine e_then_normal ?_ | refine o_store (k := ?_) | refine c_true (h1 := ?_) | refine c_false (h1 := ?_) | refine c_ret ?_ | refine c_skip ?_ | refine e_then_ret ?_ | refine c_block ?_ | refine c_exit ?_ | refine e_then_exit ?_ | refine e_block_exit ?_ | refine e_block_normal ?_ | refine e_block_ret ?_ | refine o_box (k := fun _ => ?_) | refine o_alloc (k := fun _ => ?_) | refine e_norm ?_ | refine o_ung (k := ?_) | refine o_k (k := ?_) | refine s_v (k := ?_) | refine s_w (k := ?_) | refine s_k (k := ?_) | refine s_nil ?_ | refine e_block_exit_ne rfl ?_)
  refine c_if (h1 := fun h => ?_) (h2 := fun h14 => ?_)
  · obtain rfl := of_decide_eq_true h
    repeat (first | refine o_v (k := ?_) | refine c_seq ?_ | refine c_region ?_ | refine o_nil ?_ | refine e_then_normal ?_ | refine o_store (k := ?_) | refine c_true (h1 := ?_) | refine c_false (h1 := ?_) | refine c_ret ?_ | refine c_skip ?_ | refine e_then_ret ?_ | refine c_block ?_ | refine c_exit ?_ | refine e_then_exit ?_ | refine e_block_exit ?_ | refine e_block_normal ?_ | refine e_block_ret ?_ | refine o_box (k := fun _ => ?_) | refine o_alloc (k := fun _ => ?_) | refine e_norm ?_ | refine o_ung (k := ?_) | refine o_k (k := ?_) | refine s_v (k := ?_) | refine s_w (k := ?_) | refine s_k (k := ?_) | refine s_nil ?_ | refine e_block_exit_ne rfl ?_)
    refine o_lit (k := fun b => ?_)
    repeat (first | refine o_v (k := ?_) | refine c_seq ?_ | refine c_region ?_ | refine o_nil ?_ | refine e_then_normal ?_ | refine o_store (k := ?_) | refine c_true (h1 := ?_) | refine c_false (h1 := ?_) | refine c_ret ?_ | refine c_skip ?_ | refine e_then_ret ?_ | refine c_block ?_ | refine c_exit ?_ | refine e_then_exit ?_ | refine e_block_exit ?_ | refine e_block_normal ?_ | refine e_block_ret ?_ | refine o_box (k := fun _ => ?_) | refine o_alloc (k := fun _ => ?_) | refine e_norm ?_ | refine o_ung (k := ?_) | refine o_k (k := ?_) | refine s_v (k := ?_) | refine s_w (k := ?_) | refine s_k (k := ?_) | refine s_nil ?_ | refine e_block_exit_ne rfl ?_)
    refine e_conv (fun w hw => Good.blkCells hw) ?_
    exact e_1 (h1 := rs_tmp rfl) (hT := ⟨_, _, Nat.le_refl _, rfl, rfl⟩)
  simp only [decide_eq_false_iff_not] at h14
  repeat (first | refine o_v (k := ?_) | refine c_seq ?_ | refine c_region ?_ | refine o_nil ?_ | refine e_then_normal ?_ | refine o_store (k := ?_) | refine c_true (h1 := ?_) | refine c_false (h1 := ?_) | refine c_ret ?_ | refine c_skip ?_ | refine e_then_ret ?_ | refine c_block ?_ | refine c_exit ?_ | refine e_then_exit ?_ | refine e_block_exit ?_ | refine e_block_normal ?_ | refine e_block_ret ?_ | refine o_box (k := fun _ => ?_) | refine o_alloc (k := fun _ => ?_) | refine e_norm ?_ | refine o_ung (k := ?_) | refine o_k (k := ?_) | refine s_v (k := ?_) | refine s_w (k := ?_) | refine s_k (k := ?_) | refine s_nil ?_ | refine e_block_exit_ne rfl ?_)
  (try (refine c_if (h1 := fun h => ?_) (h2 := fun _ => ?_); exact absurd (of_decide_eq_true h) h14))
  repeat (first | refine o_v (k := ?_) | refine c_seq ?_ | refine c_region ?_ | refine o_nil ?_ | refine e_then_normal ?_ | refine o_store (k := ?_) | refine c_true (h1 := ?_) | refine c_false (h1 := ?_) | refine c_ret ?_ | refine c_skip ?_ | refine e_then_ret ?_ | refine c_block ?_ | refine c_exit ?_ | refine e_then_exit ?_ | refine e_block_exit ?_ | refine e_block_normal ?_ | refine e_block_ret ?_ | refine o_box (k := fun _ => ?_) | refine o_alloc (k := fun _ => ?_) | refine e_norm ?_ | refine o_ung (k := ?_) | refine o_k (k := ?_) | refine s_v (k := ?_) | refine s_w (k := ?_) | refine s_k (k := ?_) | refine s_nil ?_ | refine e_block_exit_ne rfl ?_)
  have hn : fieldsOf p = [] := by simp [fieldsOf, *]
  rw [hn]
  refine e_add0 (cellsA true none (nums .i64 (natI []))) (fun w => cellsA_nil _ w) (k := ?_)
  exact e_1 (h1 := rs_tmp rfl) (hT := ⟨none, 0, Nat.le_refl _, rfl, rfl⟩)

/-- all fields in their row: the error, the arguments, what is left -/
def readAll : List Nat → Int → List UInt8 → MArgs → Int × MArgs × Int × List UInt8
  | [], e, l, a => (0, a, e, l)
  | f :: fs, e, l, a => let r := readF f e l a; if r.1 ≠ 0 then r else readAll fs r.2.2.1 r.2.2.2 r.2.1
def callsRead (p : Int) (l : List UInt8) : MArgs × Int :=
  if fieldsOf p = [] then (args0 0, 2)
  else let r := readAll (fieldsOf p) 0 l (args0 p)
    if r.1 ≠ 0 then (args0 0, r.1)
    else if r.2.2.1 = 0 ∧ r.2.2.2 ≠ [] then (args0 0, 2)
    else if r.2.2.1 ≠ 0 then (args0 0, r.2.2.1)
    else (r.2.1, 0)
theorem readF_len (f : Nat) (e : Int) (l : List UInt8) (a : MArgs) : (readF f e l a).2.2.2.length ≤ l.length := by
  have h1 := rdNum_len e l 4
  have h2 := rdNum_len e l 8
  have h3 := (rdText_len e l 64).1
  have h4 := (rdText_len e l 2048).1
  have h5 := rdNum_len (rdNum e l 4).2.1 (rdNum e l 4).2.2 4
  unfold readF
  split <;> dsimp only [rdHandle] <;> (first | omega | (split <;> (dsimp only; omega)))

end Go.Proofs.YtlkgdidmhmaneaaGreatDoor
/- calls.Read: what it leaves. -/
namespace Go.Proofs.YtlkgdidmhmaneaaGreatDoor
open Go Go.RowKit
attribute [local irreducible] Yl OG CG EG SG AG  CellIn CellsIn BlkIn InA TakeA SplitA SubA Ct ResOk Good Held blk cellsA exA

set_option maxRecDepth 20000 in
set_option maxHeartbeats 4000000 in
theorem callsRead_ok (own : Bool) (p : Int) (q : Option Addr) (l : List UInt8) (c : Nat) (hl : l.length ≤ 1000000) : Ct Tryz.prog 79 [.int .i64 p, .slice q l.length c] [bytesA own q l]
    (Ret fun u H => ∃ q' c', ((callsRead p l).1.data.length ≤ c' ∧ c' ≤ 9223372036854775807) ∧ u = .tuple #[.agg (argsC (callsRead p l).1 q' c').toArray, .int .i64 (callsRead p l).2] ∧ H = [bytesA true q' (callsRead p l).1.data, bytesA own q l]) := by
  refine fn_enter Tryz.func79 rfl Tryz.ntmps79 rfl fun _ _ _ => ?_
  repeat (first | refine o_v (k := ?_) | refine c_seq ?_ | refine c_region ?_ | refine o_nil ?_ | refine e_then_normal ?_ | refine o_store (k := ?_) | refine c_true (h1 := ?_) | refine c_false (h1 := ?_) | refine c_ret ?_ | refine c_skip ?_ | refine e_then_ret ?_ | refine c_block ?_ | refine c_exit ?_ | refine e_then_exit ?_ | refine e_block_exit ?_ | refine e_block_normal ?_ | refine e_block_ret ?_ | refine o_box (k := fun _ => ?_) | refine o_alloc (k := fun _ => ?_) | refine e_norm ?_ | refine o_ung (k := ?_) | refine o_k (k := ?_) | refine s_v (k := ?_) | refine s_w (k := ?_) | refine s_k (k := ?_) | refine s_nil ?_ | refine e_block_exit_ne rfl ?_)
  rename_i rb
  refine o_call (fields_ok p) (k := ?_)
  rintro _ _ ⟨fq, fc, hfc, rfl, rfl⟩
  dsimp only [List.cons_append, List.nil_append]
  repeat (first | refine o_v (k := ?_) | refine c_seq ?_ | refine c_region ?_ | refine o_nil ?_ | refine e_then_normal ?_ | refine o_store (k := ?_) | refine c_true (h1 := ?_) | refine c_false (h1 := ?_) | refine c_ret ?_ | refine c_skip ?_ | refine e_then_ret ?_ | refine c_block ?_ | refine c_exit ?_ | refine e_then_exit ?_ | refine e_block_exit ?_ | refine e_block_normal ?_ | refine e_block_ret ?_ | refine o_box (k := fun _ => ?_) | refine o_alloc (k := fun _ => ?_) | refine e_norm ?_ | refine o_ung (k := ?_) | refine o_k (k := ?_) | refine s_v (k := ?_) | refine s_w (k := ?_) | refine s_k (k := ?_) | refine s_nil ?_ | refine e_block_exit_ne rfl ?_)
  have hfl := fieldsOf_len p
  have hlen0 : (fieldsOf p = []) ↔ (fieldsOf p).length = 0 := List.length_eq_zero_iff.symm
  refine c_if (h1 := fun h => ?_) (h2 := fun h => ?_)
  · have hnil : fieldsOf p = [] := by simpa using h
    repeat (first | refine o_v (k := ?_) | refine c_seq ?_ | refine c_region ?_ | refine o_nil ?_ | refine e_then_normal ?_ | refine o_store (k := ?_) | refine c_true (h1 := ?_) | refine c_false (h1 := ?_) | refine c_ret ?_ | refine c_skip ?_ | refine e_then_ret ?_ | refine c_block ?_ | refine c_exit ?_ | refine e_then_exit ?_ | refine e_block_exit ?_ | refine e_block_normal ?_ | refine e_block_ret ?_ | refine o_box (k := fun _ => ?_) | refine o_alloc (k := fun _ => ?_) | refine e_norm ?_ | refine o_ung (k := ?_) | refine o_k (k := ?_) | refine s_v (k := ?_) | refine s_w (k := ?_) | refine s_k (k := ?_) | refine s_nil ?_ | refine e_block_exit_ne rfl ?_)
    have hC : callsRead p l = (args0 0, 2) := by simp [callsRead, hnil]
    rw [hC]
    refine e_add0 (bytesA true none []) (fun w => cellsA_nil _ w) (k := ?_)
    exact e_2 (h1 := rs_blk) (h2 := rs_tmp rfl) (hT := ⟨none, 0, ⟨by simp [args0], by omega⟩, rfl, rfl⟩)
  have hne : fieldsOf p ≠ [] := by simpa using h
  repeat (first | refine o_v (k := ?_) | refine c_seq ?_ | refine c_region ?_ | refine o_nil ?_ | refine e_then_normal ?_ | refine o_store (k := ?_) | refine c_true (h1 := ?_) | refine c_false (h1 := ?_) | refine c_ret ?_ | refine c_skip ?_ | refine e_then_ret ?_ | refine c_block ?_ | refine c_exit ?_ | refine e_then_exit ?_ | refine e_block_exit ?_ | refine e_block_normal ?_ | refine e_block_ret ?_ | refine o_box (k := fun _ => ?_) | refine o_alloc (k := fun _ => ?_) | refine e_norm ?_ | refine o_ung (k := ?_) | refine o_k (k := ?_) | refine s_v (k := ?_) | refine s_w (k := ?_) | refine s_k (k := ?_) | refine s_nil ?_ | refine e_block_exit_ne rfl ?_)
  refine o_call (rdNew_ok own q l c hl) (k := ?_)
  rintro _ _ ⟨b, rfl, rfl⟩
  dsimp only [List.cons_append, List.nil_append]
  repeat (first | refine o_v (k := ?_) | refine c_seq ?_ | refine c_region ?_ | refine o_nil ?_ | refine e_then_normal ?_ | refine o_store (k := ?_) | refine c_true (h1 := ?_) | refine c_false (h1 := ?_) | refine c_ret ?_ | refine c_skip ?_ | refine e_then_ret ?_ | refine c_block ?_ | refine c_exit ?_ | refine e_then_exit ?_ | refine e_block_exit ?_ | refine e_block_normal ?_ | refine e_block_ret ?_ | refine o_box (k := fun _ => ?_) | refine o_alloc (k := fun _ => ?_) | refine e_norm ?_ | refine o_ung (k := ?_) | refine o_k (k := ?_) | refine s_v (k := ?_) | refine s_w (k := ?_) | refine s_k (k := ?_) | refine s_nil ?_ | refine e_block_exit_ne rfl ?_)
  rename_i ab
  refine c_conv (fun w hw => hw.add0 (A := bytesA true none []) (by simp) (cellsA_nil _ w)) ?_
  refine c_loop (α := Nat × MArgs × Int × List UInt8 × Option Addr × Nat) (fun x => [(25, .int .i64 x.1), (24, .int .i64 (fieldsOf p).length), (23, .slice fq (fieldsOf p).length fc), (8, .pointer (some ⟨b, 0, none⟩)), (7, .pointer (some ⟨ab, 0, none⟩)), (4, .pointer (some ⟨rb, 0, none⟩))])
    (fun x => [rdA b x.2.2.1 x.2.2.2.1, blk ab 70 (argsC x.2.1 x.2.2.2.2.1 x.2.2.2.2.2) (0, 0), bytesA true x.2.2.2.2.1 x.2.1.data, cellsA true fq (nums .i64 (natI (fieldsOf p))), blk rb 70 (argsC (args0 0) none 0) (0, 0), bytesA own q l])
    (fun x => x.1 ≤ (fieldsOf p).length ∧ x.2.2.2.1.length ≤ 1000000 ∧ (x.2.1.data.length ≤ x.2.2.2.2.2 ∧ x.2.2.2.2.2 ≤ 9223372036854775807) ∧ readAll (fieldsOf p) 0 l (args0 p) = readAll ((fieldsOf p).drop x.1) x.2.2.1 x.2.2.2.1 x.2.1) (fun x => (fieldsOf p).length - x.1) (0, args0 p, 0, l, none, 0) ⟨by simp, hl, by simp [args0], by simp⟩ ⟨rfl, rfl, rfl, rfl, rfl, rfl, trivial⟩ (fun w hw => to_keep _ hw) ?_
  rintro ⟨k, a, e, l', aq, ac⟩ ⟨hk, hl', hac, hR⟩
  (try dsimp only at hk hl' hac hR ⊢)
  repeat (first | refine o_v (k := ?_) | refine c_seq ?_ | refine c_region ?_ | refine o_nil ?_ | refine e_then_normal ?_ | refine o_store (k := ?_) | refine c_true (h1 := ?_) | refine c_false (h1 := ?_) | refine c_ret ?_ | refine c_skip ?_ | refine e_then_ret ?_ | refine c_block ?_ | refine c_exit ?_ | refine e_then_exit ?_ | refine e_block_exit ?_ | refine e_block_normal ?_ | refine e_block_ret ?_ | refine o_box (k := fun _ => ?_) | refine o_alloc (k := fun _ => ?_) | refine e_norm ?_ | refine o_ung (k := ?_) | refine o_k (k := ?_) | refine s_v (k := ?_) | refine s_w (k := ?_) | refine s_k (k := ?_) | refine s_nil ?_ | refine e_block_exit_ne rfl ?_)
  refine c_if (h1 := fun hlt => ?_) (h2 := fun hlt => ?_)
  · have hlt' : k < (fieldsOf p).length := by simpa using hlt
    have hget : (natI (fieldsOf p))[k]? = some ((fieldsOf p)[k] : Int) := by simp [natI, hlt']
    have hf8 := fieldsOf_le p _ (List.getElem_mem hlt')
    repeat (first | refine o_v (k := ?_) | refine c_seq ?_ | refine c_region ?_ | refine o_nil ?_ | refine e_then_normal ?_ | refine o_store (k := ?_) | refine c_true (h1 := ?_) | refine c_false (h1 := ?_) | refine c_ret ?_ | refine c_skip ?_ | refine e_then_ret ?_ | refine c_block ?_ | refine c_exit ?_ | refine e_then_exit ?_ | refine e_block_exit ?_ | refine e_block_normal ?_ | refine e_block_ret ?_ | refine o_box (k := fun _ => ?_) | refine o_alloc (k := fun _ => ?_) | refine e_norm ?_ | refine o_ung (k := ?_) | refine o_k (k := ?_) | refine s_v (k := ?_) | refine s_w (k := ?_) | refine s_k (k := ?_) | refine s_nil ?_ | refine e_block_exit_ne rfl ?_)
    refine o_at true fq (nums .i64 (natI (fieldsOf p))) (nums_ne (by simp [natI, hne])) (k := ?_)
    rintro pb po rfl
    repeat (first | refine o_v (k := ?_) | refine c_seq ?_ | refine c_region ?_ | refine o_nil ?_ | refine e_then_normal ?_ | refine o_store (k := ?_) | refine c_true (h1 := ?_) | refine c_false (h1 := ?_) | refine c_ret ?_ | refine c_skip ?_ | refine e_then_ret ?_ | refine c_block ?_ | refine c_exit ?_ | refine e_then_exit ?_ | refine e_block_exit ?_ | refine e_block_normal ?_ | refine e_block_ret ?_ | refine o_box (k := fun _ => ?_) | refine o_alloc (k := fun _ => ?_) | refine e_norm ?_ | refine o_ung (k := ?_) | refine o_k (k := ?_) | refine s_v (k := ?_) | refine s_w (k := ?_) | refine s_k (k := ?_) | refine s_nil ?_ | refine e_block_exit_ne rfl ?_)
    refine o_y (y_load rfl (CellIn.cells (by repeat (first | exact InA.here | apply InA.there)) (nums_get hget) (by omega))) rfl ?_
    repeat (first | refine o_v (k := ?_) | refine c_seq ?_ | refine c_region ?_ | refine o_nil ?_ | refine e_then_normal ?_ | refine o_store (k := ?_) | refine c_true (h1 := ?_) | refine c_false (h1 := ?_) | refine c_ret ?_ | refine c_skip ?_ | refine e_then_ret ?_ | refine c_block ?_ | refine c_exit ?_ | refine e_then_exit ?_ | refine e_block_exit ?_ | refine e_block_normal ?_ | refine e_block_ret ?_ | refine o_box (k := fun _ => ?_) | refine o_alloc (k := fun _ => ?_) | refine e_norm ?_ | refine o_ung (k := ?_) | refine o_k (k := ?_) | refine s_v (k := ?_) | refine s_w (k := ?_) | refine s_k (k := ?_) | refine s_nil ?_ | refine e_block_exit_ne rfl ?_)
    refine o_call (readF_ok b ab e l' a aq ac (fieldsOf p)[k] hf8 hl' hac) (k := ?_)
    rintro _ _ ⟨er, a2, e2, l2, q2, c2, hF, hac2, rfl, rfl⟩
    dsimp only [List.cons_append, List.nil_append]
    have hl2 := readF_len (fieldsOf p)[k] e l' a
    rw [hF] at hl2
    have hstep : readAll ((fieldsOf p).drop k) e l' a = if er ≠ 0 then (er, a2, e2, l2) else readAll ((fieldsOf p).drop (k + 1)) e2 l2 a2 := by
      rw [List.drop_eq_getElem_cons hlt', readAll, hF]
    repeat (first | refine o_v (k := ?_) | refine c_seq ?_ | refine c_region ?_ | refine o_nil ?_ | refine e_then_normal ?_ | refine o_store (k := ?_) | refine c_true (h1 := ?_) | refine c_false (h1 := ?_) | refine c_ret ?_ | refine c_skip ?_ | refine e_then_ret ?_ | refine c_block ?_ | refine c_exit ?_ | refine e_then_exit ?_ | refine e_block_exit ?_ | refine e_block_normal ?_ | refine e_block_ret ?_ | refine o_box (k := fun _ => ?_) | refine o_alloc (k := fun _ => ?_) | refine e_norm ?_ | refine o_ung (k := ?_) | refine o_k (k := ?_) | refine s_v (k := ?_) | refine s_w (k := ?_) | refine s_k (k := ?_) | refine s_nil ?_ | refine e_block_exit_ne rfl ?_)
    refine c_if (h1 := fun he => ?_) (h2 := fun he => ?_)
    · have he' : er ≠ 0 := by simpa using he
      repeat (first | refine o_v (k := ?_) | refine c_seq ?_ | refine c_region ?_ | refine o_nil ?_ | refine e_then_normal ?_ | refine o_store (k := ?_) | refine c_true (h1 := ?_) | refine c_false (h1 := ?_) | refine c_ret ?_ | refine c_skip ?_ | refine e_then_ret ?_ | refine c_block ?_ | refine c_exit ?_ | refine e_then_exit ?_ | refine e_block_exit ?_ | refine e_block_normal ?_ | refine e_block_ret ?_ | refine o_box (k := fun _ => ?_) | refine o_alloc (k := fun _ => ?_) | refine e_norm ?_ | refine o_ung (k := ?_) | refine o_k (k := ?_) | refine s_v (k := ?_) | refine s_w (k := ?_) | refine s_k (k := ?_) | refine s_nil ?_ | refine e_block_exit_ne rfl ?_)
      have hC : callsRead p l = (args0 0, er) := by simp [callsRead, hne, hR, hstep, he']
      rw [hC]
      refine e_add0 (bytesA true none []) (fun w => cellsA_nil _ w) (k := ?_)
      exact e_2 (h1 := rs_blk) (h2 := rs_tmp rfl) (hT := ⟨none, 0, ⟨by simp [args0], by omega⟩, rfl, rfl⟩)
    · have he' : er = 0 := by simpa using he
      repeat (first | refine o_v (k := ?_) | refine c_seq ?_ | refine c_region ?_ | refine o_nil ?_ | refine e_then_normal ?_ | refine o_store (k := ?_) | refine c_true (h1 := ?_) | refine c_false (h1 := ?_) | refine c_ret ?_ | refine c_skip ?_ | refine e_then_ret ?_ | refine c_block ?_ | refine c_exit ?_ | refine e_then_exit ?_ | refine e_block_exit ?_ | refine e_block_normal ?_ | refine e_block_ret ?_ | refine o_box (k := fun _ => ?_) | refine o_alloc (k := fun _ => ?_) | refine e_norm ?_ | refine o_ung (k := ?_) | refine o_k (k := ?_) | refine s_v (k := ?_) | refine s_w (k := ?_) | refine s_k (k := ?_) | refine s_nil ?_ | refine e_block_exit_ne rfl ?_)
      refine e_loop (k + 1, a2, e2, l2, q2, c2) ?_ ?_ ?_ ?_
      · exact ⟨hlt', by dsimp only at hl2 ⊢; omega, hac2, by rw [hR, hstep]; simp [he']⟩
      · show _ - (k + 1) < _ - k; omega
      · exact ⟨rfl, rfl, rfl, rfl, rfl, rfl, trivial⟩
      · exact fun w hw => to_keep _ hw
  · have hkn : k = (fieldsOf p).length := by simp at hlt; omega
    subst hkn
    have hA : readAll (fieldsOf p) 0 l (args0 p) = (0, a, e, l') := by rw [hR]; simp [readAll]
    repeat (first | refine o_v (k := ?_) | refine c_seq ?_ | refine c_region ?_ | refine o_nil ?_ | refine e_then_normal ?_ | refine o_store (k := ?_) | refine c_true (h1 := ?_) | refine c_false (h1 := ?_) | refine c_ret ?_ | refine c_skip ?_ | refine e_then_ret ?_ | refine c_block ?_ | refine c_exit ?_ | refine e_then_exit ?_ | refine e_block_exit ?_ | refine e_block_normal ?_ | refine e_block_ret ?_ | refine o_box (k := fun _ => ?_) | refine o_alloc (k := fun _ => ?_) | refine e_norm ?_ | refine o_ung (k := ?_) | refine o_k (k := ?_) | refine s_v (k := ?_) | refine s_w (k := ?_) | refine s_k (k := ?_) | refine s_nil ?_ | refine e_block_exit_ne rfl ?_ | (refine o_call (rdEnd_ok _ _ _) (k := ?_); rintro _ _ ⟨rfl, rfl⟩; dsimp only [List.cons_append, List.nil_append]))
    refine c_if (h1 := fun he => ?_) (h2 := fun he => ?_)
    · repeat (first | refine o_v (k := ?_) | refine c_seq ?_ | refine c_region ?_ | refine o_nil ?_ | refine e_then_normal ?_ | refine o_store (k := ?_) | refine c_true (h1 := ?_) | refine c_false (h1 := ?_) | refine c_ret ?_ | refine c_skip ?_ | refine e_then_ret ?_ | refine c_block ?_ | refine c_exit ?_ | refine e_then_exit ?_ | refine e_block_exit ?_ | refine e_block_normal ?_ | refine e_block_ret ?_ | refine o_box (k := fun _ => ?_) | refine o_alloc (k := fun _ => ?_) | refine e_norm ?_ | refine o_ung (k := ?_) | refine o_k (k := ?_) | refine s_v (k := ?_) | refine s_w (k := ?_) | refine s_k (k := ?_) | refine s_nil ?_ | refine e_block_exit_ne rfl ?_)
      have hC : callsRead p l = (args0 0, if e = 0 ∧ l' ≠ [] then 2 else e) := by
        simp only [callsRead, hne, hA, if_false, ne_eq, not_true]
        by_cases h1 : e = 0 ∧ ¬ l' = []
        · simp [h1]
        · simp [h1] at he ⊢
          simp [he]
      rw [hC]
      refine e_add0 (bytesA true none []) (fun w => cellsA_nil _ w) (k := ?_)
      exact e_2 (h1 := rs_blk) (h2 := rs_tmp rfl) (hT := ⟨none, 0, ⟨by simp [args0], by omega⟩, rfl, rfl⟩)
    · repeat (first | refine o_v (k := ?_) | refine c_seq ?_ | refine c_region ?_ | refine o_nil ?_ | refine e_then_normal ?_ | refine o_store (k := ?_) | refine c_true (h1 := ?_) | refine c_false (h1 := ?_) | refine c_ret ?_ | refine c_skip ?_ | refine e_then_ret ?_ | refine c_block ?_ | refine c_exit ?_ | refine e_then_exit ?_ | refine e_block_exit ?_ | refine e_block_normal ?_ | refine e_block_ret ?_ | refine o_box (k := fun _ => ?_) | refine o_alloc (k := fun _ => ?_) | refine e_norm ?_ | refine o_ung (k := ?_) | refine o_k (k := ?_) | refine s_v (k := ?_) | refine s_w (k := ?_) | refine s_k (k := ?_) | refine s_nil ?_ | refine e_block_exit_ne rfl ?_)
      have hC : callsRead p l = (a, 0) := by
        simp only [callsRead, hne, hA, if_false, ne_eq, not_true]
        by_cases h1 : e = 0 ∧ ¬ l' = []
        · simp [h1] at he
        · simp [h1] at he
          simp [he] at h1 ⊢
          simp [h1]
      rw [hC]
      exact e_2 (h1 := rs_blk) (h2 := rs_tmp rfl) (hT := ⟨aq, ac, hac, rfl, rfl⟩)
end Go.Proofs.YtlkgdidmhmaneaaGreatDoor
/- The engine, part 12: scopes; fields and elements of values; cells that are read whole. -/
namespace Go.Proofs.YtlkgdidmhmaneaaGreatDoor
open Go Go.RowKit
section
variable {P : Program} {Q : Exit → Act → World → Prop} {G : Ctx} {F : Fr} {H : List Ast} {ops : Array Oper} {rest : List Oper} {c : Code}
theorem c_scope (h : CG P c (Exit.noGoto Q) G F H) : CG P (.scope c) Q G F H := fun a w ha hw => wp_scope_straight (h a w ha hw)
theorem e_ng_normal (h : EG Q .normal G F H) : EG (Exit.noGoto Q) .normal G F H := h
theorem e_ng_ret (h : EG Q .ret G F H) : EG (Exit.noGoto Q) .ret G F H := h
theorem e_ng_exit {k : Nat} (h : EG Q (.exit k) G F H) : EG (Exit.noGoto Q) (.exit k) G F H := h
variable {n : Nat}
theorem part_of {t : TypeId} {m : Nat} {cs us : List Value} {o : Nat} {w : World} [hg : PAgg P t true] [hs : PSize P t m] (h1 : us.length = m) (h2 : ∀ j, j < m → us[j]? = cs[o + j]?) : (part t cs.toArray o).run P w = .ok (.agg us.toArray) w := by
  have : List.take m (List.drop o cs) = us := by
    apply List.ext_getElem?
    intro i
    rw [List.getElem?_take]
    split
    · rename_i hi
      rw [List.getElem?_drop, h2 i hi]
    · rw [List.getElem?_eq_none (by omega)]
  simp [part, hg.h, hs.h, this]
/-- an element of an array of structs that is a value -/
theorem y_idxarr {t e : TypeId} {len sz : Nat} {k : IntKind} {i : Int} {x y : Operand} {rows : List (List Value)} {us : List Value} [hu : PUnd P t (.array len e)] [hs : PSize P e sz] [hg : PAgg P e true] (hx : ev F x = some (.agg rows.flatten.toArray)) (hy : ev F y = some (.int k i)) (h : 0 ≤ i ∧ i < len) (hl : ∀ r ∈ rows, r.length = sz) (hr : rows[i.toNat]? = some us) : Yl P n F H (.index t x y) (.agg us.toArray) := fun a w _ _ _ _ _ ha _ => by
  have hus : us.length = sz := hl us (List.mem_of_getElem? hr)
  have hp := part_of (P := P) (t := e) (m := sz) (cs := rows.flatten) (o := i.toNat * sz) (w := w) hus (fun j hj => by
    have hget : us[j]? = some us[j] := List.getElem?_eq_getElem (by omega)
    rw [hget]; exact (flat_get hl hr j _ hget).symm)
  have hx' := ha.ev hx
  simp only [execOp, hx', ha.ev hy]
  simp [Instr.index, asIntOf, hu.h, hs.h, h.1, h.2] at hp ⊢
  simp [hp]
/-- all cells of a place that is turned no more -/
theorem y_loadC {t : TypeId} {x : Operand} {b o m : Nat} {own : Bool} {us : List Value} [hg : PAgg P t true] [hs : PSize P t m] (hx : ev F x = some (.pointer (some ⟨b, o, none⟩))) (hi : InA H (cellsA own (some ⟨b, o, none⟩) us)) (hl : us.length = m) : Yl P n F H (.load t x) (.agg us.toArray) := y_loadA hx (fun w hw j v hj => by
  have := CellIn.cells (o' := o + j) hi hj rfl w hw
  rw [Addr.add_lit]; exact this) hl
theorem y_fieldv1 {t u : TypeId} {fs : Array Field} {f o : Nat} {x : Operand} {cs : List Value} {v : Value} (hu : ∀ w, (underlying t).run P w = .ok (.struct fs) w) (hf : (fs[f]?).map (fun f => (f.type, f.offset)) = some (u, o)) [hg : PAgg P u false] (hx : ev F x = some (.agg cs.toArray)) (hv : cs[o]? = some v) : Yl P n F H (.field t x f) v := fun a w _ _ _ _ _ ha _ => by
  cases hff : fs[f]? with
  | none => rw [hff] at hf; cases hf
  | some g =>
    rw [hff] at hf
    simp only [Option.map_some, Option.some.injEq, Prod.mk.injEq] at hf
    obtain ⟨h1, h2⟩ := hf
    simp [execOp, ha.ev hx, Instr.field, hu, hff, asAgg, part, h1, h2, hg.h, hv]
end
end Go.Proofs.YtlkgdidmhmaneaaGreatDoor
/- name.Name: what it leaves. -/
namespace Go.Proofs.YtlkgdidmhmaneaaGreatDoor
open Go Go.RowKit
attribute [local irreducible] Yl OG CG EG SG AG  CellIn CellsIn BlkIn InA TakeA SplitA SubA Ct ResOk Good Held blk cellsA exA

set_option maxRecDepth 20000 in
set_option maxHeartbeats 4000000 in
theorem name_ok (l : List UInt8) (hl : l.length ≤ 1000000) : Ct Tryz.prog 148 [str l] [] (Ret fun u H => u = .bool (nameOk l) ∧ H = []) := by
  refine fn_enter Tryz.func148 rfl Tryz.ntmps148 rfl fun _ _ _ => ?_
  refine c_seq ?_
  refine c_region ?_
  refine o_v (k := ?_)
  refine o_nil ?_
  refine e_then_normal ?_
  refine c_scope ?_
  refine c_seq ?_
  refine c_mid (α := Unit) (fun _ => [(3, .bool (nameHead l)), (0, str l)]) (fun _ => []) (fun _ => True) ?_ ?_
  · refine c_region ?_
    repeat (first | refine o_v (k := ?_) | refine c_seq ?_ | refine c_region ?_ | refine o_nil ?_ | refine e_then_normal ?_ | refine o_store (k := ?_) | refine c_true (h1 := ?_) | refine c_false (h1 := ?_) | refine c_ret ?_ | refine c_skip ?_ | refine e_then_ret ?_ | refine c_block ?_ | refine c_exit ?_ | refine e_then_exit ?_ | refine e_block_exit ?_ | refine e_block_normal ?_ | refine e_block_ret ?_ | refine o_box (k := fun _ => ?_) | refine o_alloc (k := fun _ => ?_) | refine e_norm ?_ | refine o_ung (k := ?_) | refine o_k (k := ?_) | refine s_v (k := ?_) | refine s_w (k := ?_) | refine s_k (k := ?_) | refine s_nil ?_ | refine e_block_exit_ne rfl ?_ | refine c_scope ?_ | refine e_ng_normal ?_ | refine e_ng_ret ?_ | refine e_ng_exit ?_ | refine c_label ?_)
    refine o_bool 8 rfl (fun h1 => ?_) (fun h1 => ?_)
    · repeat (first | refine o_v (k := ?_) | refine c_seq ?_ | refine c_region ?_ | refine o_nil ?_ | refine e_then_normal ?_ | refine o_store (k := ?_) | refine c_true (h1 := ?_) | refine c_false (h1 := ?_) | refine c_ret ?_ | refine c_skip ?_ | refine e_then_ret ?_ | refine c_block ?_ | refine c_exit ?_ | refine e_then_exit ?_ | refine e_block_exit ?_ | refine e_block_normal ?_ | refine e_block_ret ?_ | refine o_box (k := fun _ => ?_) | refine o_alloc (k := fun _ => ?_) | refine e_norm ?_ | refine o_ung (k := ?_) | refine o_k (k := ?_) | refine s_v (k := ?_) | refine s_w (k := ?_) | refine s_k (k := ?_) | refine s_nil ?_ | refine e_block_exit_ne rfl ?_ | refine c_scope ?_ | refine e_ng_normal ?_ | refine e_ng_ret ?_ | refine e_ng_exit ?_ | refine c_label ?_)
      refine o_bool 13 rfl (fun h2 => ?_) (fun h2 => ?_)
      · repeat (first | refine o_v (k := ?_) | refine c_seq ?_ | refine c_region ?_ | refine o_nil ?_ | refine e_then_normal ?_ | refine o_store (k := ?_) | refine c_true (h1 := ?_) | refine c_false (h1 := ?_) | refine c_ret ?_ | refine c_skip ?_ | refine e_then_ret ?_ | refine c_block ?_ | refine c_exit ?_ | refine e_then_exit ?_ | refine e_block_exit ?_ | refine e_block_normal ?_ | refine e_block_ret ?_ | refine o_box (k := fun _ => ?_) | refine o_alloc (k := fun _ => ?_) | refine e_norm ?_ | refine o_ung (k := ?_) | refine o_k (k := ?_) | refine s_v (k := ?_) | refine s_w (k := ?_) | refine s_k (k := ?_) | refine s_nil ?_ | refine e_block_exit_ne rfl ?_ | refine c_scope ?_ | refine e_ng_normal ?_ | refine e_ng_ret ?_ | refine e_ng_exit ?_ | refine c_label ?_)
        refine o_bool 17 rfl (fun h3 => ?_) (fun h3 => ?_)
        · repeat (first | refine o_v (k := ?_) | refine c_seq ?_ | refine c_region ?_ | refine o_nil ?_ | refine e_then_normal ?_ | refine o_store (k := ?_) | refine c_true (h1 := ?_) | refine c_false (h1 := ?_) | refine c_ret ?_ | refine c_skip ?_ | refine e_then_ret ?_ | refine c_block ?_ | refine c_exit ?_ | refine e_then_exit ?_ | refine e_block_exit ?_ | refine e_block_normal ?_ | refine e_block_ret ?_ | refine o_box (k := fun _ => ?_) | refine o_alloc (k := fun _ => ?_) | refine e_norm ?_ | refine o_ung (k := ?_) | refine o_k (k := ?_) | refine s_v (k := ?_) | refine s_w (k := ?_) | refine s_k (k := ?_) | refine s_nil ?_ | refine e_block_exit_ne rfl ?_ | refine c_scope ?_ | refine e_ng_normal ?_ | refine e_ng_ret ?_ | refine e_ng_exit ?_ | refine c_label ?_)
          refine e_mid () trivial ⟨?_, rfl, trivial⟩ (fun w hw => hw)
          have he : nameHead l = !decide (l = [46, 46]) := by simp at h1 h2 h3; simp [nameHead, h3]; intro _; omega
          rw [he]
          exact rfl
        · repeat (first | refine o_v (k := ?_) | refine c_seq ?_ | refine c_region ?_ | refine o_nil ?_ | refine e_then_normal ?_ | refine o_store (k := ?_) | refine c_true (h1 := ?_) | refine c_false (h1 := ?_) | refine c_ret ?_ | refine c_skip ?_ | refine e_then_ret ?_ | refine c_block ?_ | refine c_exit ?_ | refine e_then_exit ?_ | refine e_block_exit ?_ | refine e_block_normal ?_ | refine e_block_ret ?_ | refine o_box (k := fun _ => ?_) | refine o_alloc (k := fun _ => ?_) | refine e_norm ?_ | refine o_ung (k := ?_) | refine o_k (k := ?_) | refine s_v (k := ?_) | refine s_w (k := ?_) | refine s_k (k := ?_) | refine s_nil ?_ | refine e_block_exit_ne rfl ?_ | refine c_scope ?_ | refine e_ng_normal ?_ | refine e_ng_ret ?_ | refine e_ng_exit ?_ | refine c_label ?_)
          refine e_mid () trivial ⟨?_, rfl, trivial⟩ (fun w hw => hw)
          have he : nameHead l = false := by simp at h3; simp [nameHead, h3]
          rw [he]
          exact rfl
      · repeat (first | refine o_v (k := ?_) | refine c_seq ?_ | refine c_region ?_ | refine o_nil ?_ | refine e_then_normal ?_ | refine o_store (k := ?_) | refine c_true (h1 := ?_) | refine c_false (h1 := ?_) | refine c_ret ?_ | refine c_skip ?_ | refine e_then_ret ?_ | refine c_block ?_ | refine c_exit ?_ | refine e_then_exit ?_ | refine e_block_exit ?_ | refine e_block_normal ?_ | refine e_block_ret ?_ | refine o_box (k := fun _ => ?_) | refine o_alloc (k := fun _ => ?_) | refine e_norm ?_ | refine o_ung (k := ?_) | refine o_k (k := ?_) | refine s_v (k := ?_) | refine s_w (k := ?_) | refine s_k (k := ?_) | refine s_nil ?_ | refine e_block_exit_ne rfl ?_ | refine c_scope ?_ | refine e_ng_normal ?_ | refine e_ng_ret ?_ | refine e_ng_exit ?_ | refine c_label ?_)
        refine e_mid () trivial ⟨?_, rfl, trivial⟩ (fun w hw => hw)
        have he : nameHead l = false := by
          simp only [decide_eq_false_iff_not] at h2
          have : ¬ l.length ≤ 32 := by omega
          simp [nameHead, this]
        rw [he]
        exact rfl
    · repeat (first | refine o_v (k := ?_) | refine c_seq ?_ | refine c_region ?_ | refine o_nil ?_ | refine e_then_normal ?_ | refine o_store (k := ?_) | refine c_true (h1 := ?_) | refine c_false (h1 := ?_) | refine c_ret ?_ | refine c_skip ?_ | refine e_then_ret ?_ | refine c_block ?_ | refine c_exit ?_ | refine e_then_exit ?_ | refine e_block_exit ?_ | refine e_block_normal ?_ | refine e_block_ret ?_ | refine o_box (k := fun _ => ?_) | refine o_alloc (k := fun _ => ?_) | refine e_norm ?_ | refine o_ung (k := ?_) | refine o_k (k := ?_) | refine s_v (k := ?_) | refine s_w (k := ?_) | refine s_k (k := ?_) | refine s_nil ?_ | refine e_block_exit_ne rfl ?_ | refine c_scope ?_ | refine e_ng_normal ?_ | refine e_ng_ret ?_ | refine e_ng_exit ?_ | refine c_label ?_)
      refine e_mid () trivial ⟨?_, rfl, trivial⟩ (fun w hw => hw)
      have he : nameHead l = false := by
        simp only [decide_eq_false_iff_not] at h1
        have : ¬ 1 ≤ l.length := by omega
        simp only [nameHead, this]; simp
      rw [he]
      exact rfl
  rintro - -
  repeat (first | refine o_v (k := ?_) | refine c_seq ?_ | refine c_region ?_ | refine o_nil ?_ | refine e_then_normal ?_ | refine o_store (k := ?_) | refine c_true (h1 := ?_) | refine c_false (h1 := ?_) | refine c_ret ?_ | refine c_skip ?_ | refine e_then_ret ?_ | refine c_block ?_ | refine c_exit ?_ | refine e_then_exit ?_ | refine e_block_exit ?_ | refine e_block_normal ?_ | refine e_block_ret ?_ | refine o_box (k := fun _ => ?_) | refine o_alloc (k := fun _ => ?_) | refine e_norm ?_ | refine o_ung (k := ?_) | refine o_k (k := ?_) | refine s_v (k := ?_) | refine s_w (k := ?_) | refine s_k (k := ?_) | refine s_nil ?_ | refine e_block_exit_ne rfl ?_ | refine c_scope ?_ | refine e_ng_normal ?_ | refine e_ng_ret ?_ | refine e_ng_exit ?_ | refine c_label ?_)
  refine c_loop (α := Nat) (fun k => [(23, .int .i64 k), (22, .int .i64 l.length), (3, .bool (nameHead l)), (0, str l)]) (fun _ => []) (fun k => k ≤ l.length ∧ (l.take k).all nameByte = true) (fun k => l.length - k) 0 ⟨by omega, by simp⟩ ⟨rfl, rfl, rfl, rfl, trivial⟩ (fun _ h => h) ?_
  rintro k ⟨hk, hz⟩
  (try dsimp only at hk ⊢)
  repeat (first | refine o_v (k := ?_) | refine c_seq ?_ | refine c_region ?_ | refine o_nil ?_ | refine e_then_normal ?_ | refine o_store (k := ?_) | refine c_true (h1 := ?_) | refine c_false (h1 := ?_) | refine c_ret ?_ | refine c_skip ?_ | refine e_then_ret ?_ | refine c_block ?_ | refine c_exit ?_ | refine e_then_exit ?_ | refine e_block_exit ?_ | refine e_block_normal ?_ | refine e_block_ret ?_ | refine o_box (k := fun _ => ?_) | refine o_alloc (k := fun _ => ?_) | refine e_norm ?_ | refine o_ung (k := ?_) | refine o_k (k := ?_) | refine s_v (k := ?_) | refine s_w (k := ?_) | refine s_k (k := ?_) | refine s_nil ?_ | refine e_block_exit_ne rfl ?_ | refine c_scope ?_ | refine e_ng_normal ?_ | refine e_ng_ret ?_ | refine e_ng_exit ?_ | refine c_label ?_)
  refine c_if (h1 := fun h => ?_) (h2 := fun h => ?_)
  · have hlt : k < l.length := by simpa using h
    have hget : l[k]? = some l[k] := List.getElem?_eq_getElem hlt
    have hbad : nameByte l[k] = false → nameOk l = false := fun hb => by
      have : l.all nameByte = false := by
        rw [List.all_eq_false]; exact ⟨l[k], List.getElem_mem hlt, by simp [hb]⟩
      simp [nameOk, this]
    have hn0 : ((l[k].toNat : Int) = 0) ↔ l[k] = 0 := ⟨fun h => UInt8.toNat_inj.1 (by simpa using h), fun h => by rw [h]; rfl⟩
    have hn47 : ((l[k].toNat : Int) = 47) ↔ l[k] = 47 := ⟨fun h => UInt8.toNat_inj.1 (Eq.trans (by omega : l[k].toNat = 47) rfl), fun h => by rw [h]; rfl⟩
    repeat (first | refine o_v (k := ?_) | refine c_seq ?_ | refine c_region ?_ | refine o_nil ?_ | refine e_then_normal ?_ | refine o_store (k := ?_) | refine c_true (h1 := ?_) | refine c_false (h1 := ?_) | refine c_ret ?_ | refine c_skip ?_ | refine e_then_ret ?_ | refine c_block ?_ | refine c_exit ?_ | refine e_then_exit ?_ | refine e_block_exit ?_ | refine e_block_normal ?_ | refine e_block_ret ?_ | refine o_box (k := fun _ => ?_) | refine o_alloc (k := fun _ => ?_) | refine e_norm ?_ | refine o_ung (k := ?_) | refine o_k (k := ?_) | refine s_v (k := ?_) | refine s_w (k := ?_) | refine s_k (k := ?_) | refine s_nil ?_ | refine e_block_exit_ne rfl ?_ | refine c_scope ?_ | refine e_ng_normal ?_ | refine e_ng_ret ?_ | refine e_ng_exit ?_ | refine c_label ?_)
    refine o_y (y_sidx (i := (k : Int)) (c := l[k]) rfl rfl (by omega) (by rw [Int.toNat_natCast]; exact hget)) rfl ?_
    repeat (first | refine o_v (k := ?_) | refine c_seq ?_ | refine c_region ?_ | refine o_nil ?_ | refine e_then_normal ?_ | refine o_store (k := ?_) | refine c_true (h1 := ?_) | refine c_false (h1 := ?_) | refine c_ret ?_ | refine c_skip ?_ | refine e_then_ret ?_ | refine c_block ?_ | refine c_exit ?_ | refine e_then_exit ?_ | refine e_block_exit ?_ | refine e_block_normal ?_ | refine e_block_ret ?_ | refine o_box (k := fun _ => ?_) | refine o_alloc (k := fun _ => ?_) | refine e_norm ?_ | refine o_ung (k := ?_) | refine o_k (k := ?_) | refine s_v (k := ?_) | refine s_w (k := ?_) | refine s_k (k := ?_) | refine s_nil ?_ | refine e_block_exit_ne rfl ?_ | refine c_scope ?_ | refine e_ng_normal ?_ | refine e_ng_ret ?_ | refine e_ng_exit ?_ | refine c_label ?_)
    refine c_if (h1 := fun h0 => ?_) (h2 := fun h0 => ?_)
    · have hb : nameByte l[k] = false := by simp [nameByte, hn0.1 (by simpa using h0)]
      have hno := hbad hb
      simp only [h0]
      repeat (first | refine o_v (k := ?_) | refine c_seq ?_ | refine c_region ?_ | refine o_nil ?_ | refine e_then_normal ?_ | refine o_store (k := ?_) | refine c_true (h1 := ?_) | refine c_false (h1 := ?_) | refine c_ret ?_ | refine c_skip ?_ | refine e_then_ret ?_ | refine c_block ?_ | refine c_exit ?_ | refine e_then_exit ?_ | refine e_block_exit ?_ | refine e_block_normal ?_ | refine e_block_ret ?_ | refine o_box (k := fun _ => ?_) | refine o_alloc (k := fun _ => ?_) | refine e_norm ?_ | refine o_ung (k := ?_) | refine o_k (k := ?_) | refine s_v (k := ?_) | refine s_w (k := ?_) | refine s_k (k := ?_) | refine s_nil ?_ | refine e_block_exit_ne rfl ?_ | refine c_scope ?_ | refine e_ng_normal ?_ | refine e_ng_ret ?_ | refine e_ng_exit ?_ | refine c_label ?_)
      exact e_1 (h1 := rs_tmp rfl) (H' := []) (hT := ⟨by rw [hno], rfl⟩)
    · repeat (first | refine o_v (k := ?_) | refine c_seq ?_ | refine c_region ?_ | refine o_nil ?_ | refine e_then_normal ?_ | refine o_store (k := ?_) | refine c_true (h1 := ?_) | refine c_false (h1 := ?_) | refine c_ret ?_ | refine c_skip ?_ | refine e_then_ret ?_ | refine c_block ?_ | refine c_exit ?_ | refine e_then_exit ?_ | refine e_block_exit ?_ | refine e_block_normal ?_ | refine e_block_ret ?_ | refine o_box (k := fun _ => ?_) | refine o_alloc (k := fun _ => ?_) | refine e_norm ?_ | refine o_ung (k := ?_) | refine o_k (k := ?_) | refine s_v (k := ?_) | refine s_w (k := ?_) | refine s_k (k := ?_) | refine s_nil ?_ | refine e_block_exit_ne rfl ?_ | refine c_scope ?_ | refine e_ng_normal ?_ | refine e_ng_ret ?_ | refine e_ng_exit ?_ | refine c_label ?_)
      refine c_if (h1 := fun h4 => ?_) (h2 := fun h4 => ?_)
      · have hb : nameByte l[k] = false := by simp [nameByte, hn47.1 (by simpa using h4)]
        have hno := hbad hb
        repeat (first | refine o_v (k := ?_) | refine c_seq ?_ | refine c_region ?_ | refine o_nil ?_ | refine e_then_normal ?_ | refine o_store (k := ?_) | refine c_true (h1 := ?_) | refine c_false (h1 := ?_) | refine c_ret ?_ | refine c_skip ?_ | refine e_then_ret ?_ | refine c_block ?_ | refine c_exit ?_ | refine e_then_exit ?_ | refine e_block_exit ?_ | refine e_block_normal ?_ | refine e_block_ret ?_ | refine o_box (k := fun _ => ?_) | refine o_alloc (k := fun _ => ?_) | refine e_norm ?_ | refine o_ung (k := ?_) | refine o_k (k := ?_) | refine s_v (k := ?_) | refine s_w (k := ?_) | refine s_k (k := ?_) | refine s_nil ?_ | refine e_block_exit_ne rfl ?_ | refine c_scope ?_ | refine e_ng_normal ?_ | refine e_ng_ret ?_ | refine e_ng_exit ?_ | refine c_label ?_)
        exact e_1 (h1 := rs_tmp rfl) (H' := []) (hT := ⟨by rw [hno], rfl⟩)
      · repeat (first | refine o_v (k := ?_) | refine c_seq ?_ | refine c_region ?_ | refine o_nil ?_ | refine e_then_normal ?_ | refine o_store (k := ?_) | refine c_true (h1 := ?_) | refine c_false (h1 := ?_) | refine c_ret ?_ | refine c_skip ?_ | refine e_then_ret ?_ | refine c_block ?_ | refine c_exit ?_ | refine e_then_exit ?_ | refine e_block_exit ?_ | refine e_block_normal ?_ | refine e_block_ret ?_ | refine o_box (k := fun _ => ?_) | refine o_alloc (k := fun _ => ?_) | refine e_norm ?_ | refine o_ung (k := ?_) | refine o_k (k := ?_) | refine s_v (k := ?_) | refine s_w (k := ?_) | refine s_k (k := ?_) | refine s_nil ?_ | refine e_block_exit_ne rfl ?_ | refine c_scope ?_ | refine e_ng_normal ?_ | refine e_ng_ret ?_ | refine e_ng_exit ?_ | refine c_label ?_)
        refine e_loop (k + 1) ?_ ?_ ?_ ?_
        · refine ⟨hlt, ?_⟩
          have e0 : l[k] ≠ 0 := fun e => by simp [hn0.2 e] at h0
          have e4 : l[k] ≠ 47 := fun e => by simp [hn47.2 e] at h4
          rw [List.take_succ_eq_append_getElem hlt, List.all_append, hz]
          simp [nameByte, e0, e4]
        · show _ - (k + 1) < _ - k; omega
        · exact ⟨rfl, rfl, rfl, rfl, trivial⟩
        · exact fun _ h => h
  · have hkl : k = l.length := by simp at h; omega
    subst hkl
    rw [List.take_length] at hz
    repeat (first | refine o_v (k := ?_) | refine c_seq ?_ | refine c_region ?_ | refine o_nil ?_ | refine e_then_normal ?_ | refine o_store (k := ?_) | refine c_true (h1 := ?_) | refine c_false (h1 := ?_) | refine c_ret ?_ | refine c_skip ?_ | refine e_then_ret ?_ | refine c_block ?_ | refine c_exit ?_ | refine e_then_exit ?_ | refine e_block_exit ?_ | refine e_block_normal ?_ | refine e_block_ret ?_ | refine o_box (k := fun _ => ?_) | refine o_alloc (k := fun _ => ?_) | refine e_norm ?_ | refine o_ung (k := ?_) | refine o_k (k := ?_) | refine s_v (k := ?_) | refine s_w (k := ?_) | refine s_k (k := ?_) | refine s_nil ?_ | refine e_block_exit_ne rfl ?_ | refine c_scope ?_ | refine e_ng_normal ?_ | refine e_ng_ret ?_ | refine e_ng_exit ?_ | refine c_label ?_)
    exact e_1 (h1 := rs_tmp rfl) (H' := []) (hT := ⟨by simp [nameOk, hz], rfl⟩)
end Go.Proofs.YtlkgdidmhmaneaaGreatDoor
/- codes: what its functions leave. -/
namespace Go.Proofs.YtlkgdidmhmaneaaGreatDoor
open Go Go.RowKit
attribute [local irreducible] Yl OG CG EG SG AG  CellIn CellsIn BlkIn InA TakeA SplitA SubA Ct ResOk Good Held blk cellsA exA
abbrev CRow := Int × Int × Int × List UInt8
def codeT : List CRow := [(0, 0, 0, [111, 107]), (8, 70, 1, [115, 116, 97, 108, 101]), (9, 2, 2, [110, 111, 32, 115, 117, 99, 104, 32, 110, 97, 109, 101]), (10, 17, 3, [110, 97, 109, 101, 32, 101, 120, 105, 115, 116, 115]), (11, 20, 4, [110, 111, 116, 32, 97, 32, 100, 105, 114, 101, 99, 116, 111, 114, 121]), (12, 21, 5, [105, 115, 32, 97, 32, 100, 105, 114, 101, 99, 116, 111, 114, 121]), (13, 66, 6, [110, 111, 116, 32, 101, 109, 112, 116, 121]), (14, 28, 7, [110, 111, 32, 115, 112, 97, 99, 101]), (15, 27, 8, [116, 111, 111, 32, 98, 105, 103]), (16, 63, 9, [98, 97, 100, 32, 110, 97, 109, 101]), (20, 10003, 10, [98, 97, 100, 32, 99, 111, 111, 107, 105, 101]), (17, 10101, 11, [98, 97, 100, 32, 102, 105, 100]), (18, 10102, 12, [102, 105, 100, 32, 105, 110, 32, 117, 115, 101]), (19, 10103, 13, [98, 97, 100, 32, 109, 111, 100, 101]), (22, 10104, 14, [102, 108, 117, 115, 104, 101, 100]), (21, 5, 15, [105, 47, 111, 32, 101, 114, 114, 111, 114]), (7, 10105, 16, [116, 97, 103, 32, 105, 110, 32, 117, 115, 101]), (5, 10106, 17, [116, 111, 111, 32, 109, 97, 110, 121, 32, 114, 101, 113, 117, 101, 115, 116, 115]), (2, 10107, 18, [98, 97, 100, 32, 109, 101, 115, 115, 97, 103, 101])]
def ioRow : CRow := (21, 5, 15, [105, 47, 111, 32, 101, 114, 114, 111, 114])
def crowOf (r : CRow) : List Value := [.int .i64 r.1, .int .u32 r.2.1, .int .i64 r.2.2.1, str r.2.2.2]
def crows : List (List Value) := codeT.map crowOf
/-- the table of codes lies where the program's text lays it -/
abbrev tabA : Ast := cellsA false (some ⟨0, 0, none⟩) crows.flatten
theorem crows_len : ∀ r ∈ crows, r.length = 4 := by
  intro r hr
  simp only [crows, List.mem_map] at hr
  obtain ⟨c, _, rfl⟩ := hr
  rfl
theorem crows_get {k : Nat} (h : k < 19) : ∃ r, codeT[k]? = some r ∧ crows[k]? = some (crowOf r) := by
  have hl : codeT.length = 19 := rfl
  refine ⟨codeT[k], List.getElem?_eq_getElem (by omega), ?_⟩
  rw [crows, List.getElem?_map, List.getElem?_eq_getElem (by omega)]; rfl
def codeFind (e : Int) : CRow := (codeT.find? (fun r => decide (r.1 = e))).getD ioRow
theorem code_io (k : Nat) (r : CRow) (h : codeT[k]? = some r) : r.1 = 21 ↔ k = 15 := by
  have hk : k < 19 := (List.getElem?_eq_some_iff.1 h).1
  have : ∀ k < 19, ((codeT[k]?).map (fun r => decide (r.1 = 21))) = some (decide (k = 15)) := by decide
  have h2 := this k hk
  rw [h] at h2
  simpa using h2
theorem code_io_row (r : CRow) (h : codeT[15]? = some r) : r = ioRow := by
  have : codeT[15]? = some ioRow := by rfl
  rw [this] at h
  exact (Option.some.inj h).symm

set_option maxRecDepth 20000 in
set_option maxHeartbeats 4000000 in
theorem ofis_ok (b : Nat) (e : Int) (r : CRow) : Ct Tryz.prog 150 [.agg (crowOf r).toArray, .pointer (some ⟨b, 0, none⟩)] [blk b 25 [.int .i64 e] (0, 0)] (Ret fun u H => u = .bool (decide (r.1 = e)) ∧ H = [blk b 25 [.int .i64 e] (0, 0)]) := by
  refine fn_enter Tryz.func150 rfl Tryz.ntmps150 rfl fun _ _ _ => ?_
  repeat (first | refine o_v (k := ?_) | refine c_seq ?_ | refine c_region ?_ | refine o_nil ?_ | refine e_then_normal ?_ | refine o_store (k := ?_) | refine c_true (h1 := ?_) | refine c_false (h1 := ?_) | refine c_ret ?_ | refine c_skip ?_ | refine e_then_ret ?_ | refine c_block ?_ | refine c_exit ?_ | refine e_then_exit ?_ | refine e_block_exit ?_ | refine e_block_normal ?_ | refine e_block_ret ?_ | refine o_box (k := fun _ => ?_) | refine o_alloc (k := fun _ => ?_) | refine e_norm ?_ | refine o_ung (k := ?_) | refine o_k (k := ?_) | refine s_v (k := ?_) | refine s_w (k := ?_) | refine s_k (k := ?_) | refine s_nil ?_ | refine e_block_exit_ne rfl ?_)
  exact e_1 (h1 := rs_tmp rfl) (H' := [blk b 25 [.int .i64 e] (0, 0)]) (hT := ⟨rfl, rfl⟩)

set_option maxRecDepth 20000 in
set_option maxHeartbeats 4000000 in
theorem find_ok (b : Nat) (e : Int) : Ct Tryz.prog 149 [.func (.func 150) #[] #[.pointer (some ⟨b, 0, none⟩)]] [tabA, blk b 25 [.int .i64 e] (0, 0)] (Ret fun u H => u = .agg (crowOf (codeFind e)).toArray ∧ H = [tabA]) := by
  refine fn_enter Tryz.func149 rfl Tryz.ntmps149 rfl fun _ _ _ => ?_
  repeat (first | refine o_v (k := ?_) | refine c_seq ?_ | refine c_region ?_ | refine o_nil ?_ | refine e_then_normal ?_ | refine o_store (k := ?_) | refine c_true (h1 := ?_) | refine c_false (h1 := ?_) | refine c_ret ?_ | refine c_skip ?_ | refine e_then_ret ?_ | refine c_block ?_ | refine c_exit ?_ | refine e_then_exit ?_ | refine e_block_exit ?_ | refine e_block_normal ?_ | refine e_block_ret ?_ | refine o_box (k := fun _ => ?_) | refine o_alloc (k := fun _ => ?_) | refine e_norm ?_ | refine o_ung (k := ?_) | refine o_k (k := ?_) | refine s_v (k := ?_) | refine s_w (k := ?_) | refine s_k (k := ?_) | refine s_nil ?_ | refine e_block_exit_ne rfl ?_)
  rename_i rb ob
  refine o_y (y_loadC rfl (us := crows.flatten) (own := false) (by repeat (first | exact InA.here | apply InA.there)) rfl) rfl ?_
  repeat (first | refine o_v (k := ?_) | refine c_seq ?_ | refine c_region ?_ | refine o_nil ?_ | refine e_then_normal ?_ | refine o_store (k := ?_) | refine c_true (h1 := ?_) | refine c_false (h1 := ?_) | refine c_ret ?_ | refine c_skip ?_ | refine e_then_ret ?_ | refine c_block ?_ | refine c_exit ?_ | refine e_then_exit ?_ | refine e_block_exit ?_ | refine e_block_normal ?_ | refine e_block_ret ?_ | refine o_box (k := fun _ => ?_) | refine o_alloc (k := fun _ => ?_) | refine e_norm ?_ | refine o_ung (k := ?_) | refine o_k (k := ?_) | refine s_v (k := ?_) | refine s_w (k := ?_) | refine s_k (k := ?_) | refine s_nil ?_ | refine e_block_exit_ne rfl ?_)
  refine c_loop (α := Nat) (fun k => [(7, .int .i64 k), (6, .agg crows.flatten.toArray), (3, .pointer (some ⟨ob, 0, none⟩)), (2, .pointer (some ⟨rb, 0, none⟩)), (0, .func (.func 150) #[] #[.pointer (some ⟨b, 0, none⟩)])]) (fun k => [blk ob 204 (if k ≤ 15 then [.int .i64 0, .int .u32 0, .int .i64 0, str []] else crowOf ioRow) (0, 0), blk rb 204 [.int .i64 0, .int .u32 0, .int .i64 0, str []] (0, 0), blk b 25 [.int .i64 e] (0, 0), tabA]) (fun k => k ≤ 19 ∧ (codeT.take k).find? (fun r => decide (r.1 = e)) = none) (fun k => 19 - k) 0 ⟨by omega, rfl⟩ ⟨rfl, rfl, rfl, rfl, rfl, trivial⟩ (fun w hw => to_keep _ hw) ?_
  rintro k ⟨hk, hz⟩
  (try dsimp only at hk ⊢)
  repeat (first | refine o_v (k := ?_) | refine c_seq ?_ | refine c_region ?_ | refine o_nil ?_ | refine e_then_normal ?_ | refine o_store (k := ?_) | refine c_true (h1 := ?_) | refine c_false (h1 := ?_) | refine c_ret ?_ | refine c_skip ?_ | refine e_then_ret ?_ | refine c_block ?_ | refine c_exit ?_ | refine e_then_exit ?_ | refine e_block_exit ?_ | refine e_block_normal ?_ | refine e_block_ret ?_ | refine o_box (k := fun _ => ?_) | refine o_alloc (k := fun _ => ?_) | refine e_norm ?_ | refine o_ung (k := ?_) | refine o_k (k := ?_) | refine s_v (k := ?_) | refine s_w (k := ?_) | refine s_k (k := ?_) | refine s_nil ?_ | refine e_block_exit_ne rfl ?_)
  refine c_if (h1 := fun h => ?_) (h2 := fun h => ?_)
  · have hlt : k < 19 := by simp at h; omega
    obtain ⟨r, hr1, hr2⟩ := crows_get hlt
    have hlen : codeT.length = 19 := rfl
    have htk : (codeT.take (k + 1)) = codeT.take k ++ [r] := by
      have hkl : k < codeT.length := by omega
      rw [List.take_succ_eq_append_getElem hkl]
      have := List.getElem?_eq_getElem hkl
      rw [hr1] at this
      cases this; rfl
    repeat (first | refine o_v (k := ?_) | refine c_seq ?_ | refine c_region ?_ | refine o_nil ?_ | refine e_then_normal ?_ | refine o_store (k := ?_) | refine c_true (h1 := ?_) | refine c_false (h1 := ?_) | refine c_ret ?_ | refine c_skip ?_ | refine e_then_ret ?_ | refine c_block ?_ | refine c_exit ?_ | refine e_then_exit ?_ | refine e_block_exit ?_ | refine e_block_normal ?_ | refine e_block_ret ?_ | refine o_box (k := fun _ => ?_) | refine o_alloc (k := fun _ => ?_) | refine e_norm ?_ | refine o_ung (k := ?_) | refine o_k (k := ?_) | refine s_v (k := ?_) | refine s_w (k := ?_) | refine s_k (k := ?_) | refine s_nil ?_ | refine e_block_exit_ne rfl ?_)
    refine o_y (y_idxarr (i := (k : Int)) (rows := crows) (us := crowOf r) rfl rfl (by omega) crows_len (by rw [Int.toNat_natCast]; exact hr2)) rfl ?_
    repeat (first | refine o_v (k := ?_) | refine c_seq ?_ | refine c_region ?_ | refine o_nil ?_ | refine e_then_normal ?_ | refine o_store (k := ?_) | refine c_true (h1 := ?_) | refine c_false (h1 := ?_) | refine c_ret ?_ | refine c_skip ?_ | refine e_then_ret ?_ | refine c_block ?_ | refine c_exit ?_ | refine e_then_exit ?_ | refine e_block_exit ?_ | refine e_block_normal ?_ | refine e_block_ret ?_ | refine o_box (k := fun _ => ?_) | refine o_alloc (k := fun _ => ?_) | refine e_norm ?_ | refine o_ung (k := ?_) | refine o_k (k := ?_) | refine s_v (k := ?_) | refine s_w (k := ?_) | refine s_k (k := ?_) | refine s_nil ?_ | refine e_block_exit_ne rfl ?_)
    rename_i tb
    refine o_callv (first := []) (vs := [.agg (crowOf r).toArray]) (cap := [.pointer (some ⟨b, 0, none⟩)]) rfl rfl (ofis_ok b e r) (by (repeat (apply SplitA.cons; (repeat (first | exact TakeA.keepI | exact TakeA.here | apply TakeA.there)))); exact SplitA.nil) (k := ?_)
    rintro _ _ ⟨rfl, rfl⟩
    dsimp only [List.cons_append, List.nil_append]
    repeat (first | refine o_v (k := ?_) | refine c_seq ?_ | refine c_region ?_ | refine o_nil ?_ | refine e_then_normal ?_ | refine o_store (k := ?_) | refine c_true (h1 := ?_) | refine c_false (h1 := ?_) | refine c_ret ?_ | refine c_skip ?_ | refine e_then_ret ?_ | refine c_block ?_ | refine c_exit ?_ | refine e_then_exit ?_ | refine e_block_exit ?_ | refine e_block_normal ?_ | refine e_block_ret ?_ | refine o_box (k := fun _ => ?_) | refine o_alloc (k := fun _ => ?_) | refine e_norm ?_ | refine o_ung (k := ?_) | refine o_k (k := ?_) | refine s_v (k := ?_) | refine s_w (k := ?_) | refine s_k (k := ?_) | refine s_nil ?_ | refine e_block_exit_ne rfl ?_)
    refine c_if (h1 := fun h1 => ?_) (h2 := fun h1 => ?_)
    · have hF : codeFind e = r := by
        have : codeT.find? (fun r => decide (r.1 = e)) = some r := by
          rw [← List.take_append_drop (k + 1) codeT, htk, List.find?_append, List.find?_append, hz]
          simp only [decide_eq_true_eq] at h1
          simp [h1]
        simp [codeFind, this]
      repeat (first | refine o_v (k := ?_) | refine c_seq ?_ | refine c_region ?_ | refine o_nil ?_ | refine e_then_normal ?_ | refine o_store (k := ?_) | refine c_true (h1 := ?_) | refine c_false (h1 := ?_) | refine c_ret ?_ | refine c_skip ?_ | refine e_then_ret ?_ | refine c_block ?_ | refine c_exit ?_ | refine e_then_exit ?_ | refine e_block_exit ?_ | refine e_block_normal ?_ | refine e_block_ret ?_ | refine o_box (k := fun _ => ?_) | refine o_alloc (k := fun _ => ?_) | refine e_norm ?_ | refine o_ung (k := ?_) | refine o_k (k := ?_) | refine s_v (k := ?_) | refine s_w (k := ?_) | refine s_k (k := ?_) | refine s_nil ?_ | refine e_block_exit_ne rfl ?_)
      exact e_1 (h1 := rs_blk) (H' := [tabA]) (hT := ⟨by rw [hF]; rfl, rfl⟩)
    · have hz' : (codeT.take (k + 1)).find? (fun r => decide (r.1 = e)) = none := by
        rw [htk, List.find?_append, hz]
        simp at h1
        simp [h1]
      have h21 := code_io k r hr1
      repeat (first | refine o_v (k := ?_) | refine c_seq ?_ | refine c_region ?_ | refine o_nil ?_ | refine e_then_normal ?_ | refine o_store (k := ?_) | refine c_true (h1 := ?_) | refine c_false (h1 := ?_) | refine c_ret ?_ | refine c_skip ?_ | refine e_then_ret ?_ | refine c_block ?_ | refine c_exit ?_ | refine e_then_exit ?_ | refine e_block_exit ?_ | refine e_block_normal ?_ | refine e_block_ret ?_ | refine o_box (k := fun _ => ?_) | refine o_alloc (k := fun _ => ?_) | refine e_norm ?_ | refine o_ung (k := ?_) | refine o_k (k := ?_) | refine s_v (k := ?_) | refine s_w (k := ?_) | refine s_k (k := ?_) | refine s_nil ?_ | refine e_block_exit_ne rfl ?_)
      refine c_if (h1 := fun h2 => ?_) (h2 := fun h2 => ?_)
      · have hk15 : k = 15 := h21.1 (by simpa using h2)
        subst hk15
        have hio := code_io_row r hr1
        subst hio
        simp only [Nat.le_refl, if_true]
        repeat (first | refine o_v (k := ?_) | refine c_seq ?_ | refine c_region ?_ | refine o_nil ?_ | refine e_then_normal ?_ | refine o_store (k := ?_) | refine c_true (h1 := ?_) | refine c_false (h1 := ?_) | refine c_ret ?_ | refine c_skip ?_ | refine e_then_ret ?_ | refine c_block ?_ | refine c_exit ?_ | refine e_then_exit ?_ | refine e_block_exit ?_ | refine e_block_normal ?_ | refine e_block_ret ?_ | refine o_box (k := fun _ => ?_) | refine o_alloc (k := fun _ => ?_) | refine e_norm ?_ | refine o_ung (k := ?_) | refine o_k (k := ?_) | refine s_v (k := ?_) | refine s_w (k := ?_) | refine s_k (k := ?_) | refine s_nil ?_ | refine e_block_exit_ne rfl ?_)
        refine e_loop 16 ?_ ?_ ?_ ?_
        · exact ⟨by omega, hz'⟩
        · show 19 - 16 < 19 - 15; omega
        · exact ⟨rfl, rfl, rfl, rfl, rfl, trivial⟩
        · exact fun w hw => to_keep _ hw
      · have hk15 : k ≠ 15 := fun e => by rw [h21.2 e] at h2; simp at h2
        repeat (first | refine o_v (k := ?_) | refine c_seq ?_ | refine c_region ?_ | refine o_nil ?_ | refine e_then_normal ?_ | refine o_store (k := ?_) | refine c_true (h1 := ?_) | refine c_false (h1 := ?_) | refine c_ret ?_ | refine c_skip ?_ | refine e_then_ret ?_ | refine c_block ?_ | refine c_exit ?_ | refine e_then_exit ?_ | refine e_block_exit ?_ | refine e_block_normal ?_ | refine e_block_ret ?_ | refine o_box (k := fun _ => ?_) | refine o_alloc (k := fun _ => ?_) | refine e_norm ?_ | refine o_ung (k := ?_) | refine o_k (k := ?_) | refine s_v (k := ?_) | refine s_w (k := ?_) | refine s_k (k := ?_) | refine s_nil ?_ | refine e_block_exit_ne rfl ?_)
        refine e_loop (k + 1) ?_ ?_ ?_ ?_
        · exact ⟨by omega, hz'⟩
        · show 19 - (k + 1) < 19 - k; omega
        · exact ⟨rfl, rfl, rfl, rfl, rfl, trivial⟩
        · intro w hw
          have : (k + 1 ≤ 15) = (k ≤ 15) := by apply propext; omega
          simp only [this]
          exact to_keep _ hw
  · have hkl : k = 19 := by simp at h; omega
    subst hkl
    have hF : codeFind e = ioRow := by
      have : codeT.take 19 = codeT := rfl
      rw [this] at hz
      simp [codeFind, hz]
    simp only [show ¬ (19 ≤ 15) from by omega, if_false]
    repeat (first | refine o_v (k := ?_) | refine c_seq ?_ | refine c_region ?_ | refine o_nil ?_ | refine e_then_normal ?_ | refine o_store (k := ?_) | refine c_true (h1 := ?_) | refine c_false (h1 := ?_) | refine c_ret ?_ | refine c_skip ?_ | refine e_then_ret ?_ | refine c_block ?_ | refine c_exit ?_ | refine e_then_exit ?_ | refine e_block_exit ?_ | refine e_block_normal ?_ | refine e_block_ret ?_ | refine o_box (k := fun _ => ?_) | refine o_alloc (k := fun _ => ?_) | refine e_norm ?_ | refine o_ung (k := ?_) | refine o_k (k := ?_) | refine s_v (k := ?_) | refine s_w (k := ?_) | refine s_k (k := ?_) | refine s_nil ?_ | refine e_block_exit_ne rfl ?_)
    exact e_1 (h1 := rs_blk) (H' := [tabA]) (hT := ⟨by rw [hF]; rfl, rfl⟩)

set_option maxRecDepth 20000 in
set_option maxHeartbeats 4000000 in
theorem of_ok (e : Int) : Ct Tryz.prog 118 [.int .i64 e] [tabA] (Ret fun u H => u = .agg (crowOf (codeFind e)).toArray ∧ H = [tabA]) := by
  refine fn_enter Tryz.func118 rfl Tryz.ntmps118 rfl fun _ _ _ => ?_
  repeat (first | refine o_v (k := ?_) | refine c_seq ?_ | refine c_region ?_ | refine o_nil ?_ | refine e_then_normal ?_ | refine o_store (k := ?_) | refine c_true (h1 := ?_) | refine c_false (h1 := ?_) | refine c_ret ?_ | refine c_skip ?_ | refine e_then_ret ?_ | refine c_block ?_ | refine c_exit ?_ | refine e_then_exit ?_ | refine e_block_exit ?_ | refine e_block_normal ?_ | refine e_block_ret ?_ | refine o_box (k := fun _ => ?_) | refine o_alloc (k := fun _ => ?_) | refine e_norm ?_ | refine o_ung (k := ?_) | refine o_k (k := ?_) | refine s_v (k := ?_) | refine s_w (k := ?_) | refine s_k (k := ?_) | refine s_nil ?_ | refine e_block_exit_ne rfl ?_)
  rename_i eb rb
  refine o_call (find_ok eb e) (k := ?_)
  rintro _ _ ⟨rfl, rfl⟩
  dsimp only [List.cons_append, List.nil_append]
  repeat (first | refine o_v (k := ?_) | refine c_seq ?_ | refine c_region ?_ | refine o_nil ?_ | refine e_then_normal ?_ | refine o_store (k := ?_) | refine c_true (h1 := ?_) | refine c_false (h1 := ?_) | refine c_ret ?_ | refine c_skip ?_ | refine e_then_ret ?_ | refine c_block ?_ | refine c_exit ?_ | refine e_then_exit ?_ | refine e_block_exit ?_ | refine e_block_normal ?_ | refine e_block_ret ?_ | refine o_box (k := fun _ => ?_) | refine o_alloc (k := fun _ => ?_) | refine e_norm ?_ | refine o_ung (k := ?_) | refine o_k (k := ?_) | refine s_v (k := ?_) | refine s_w (k := ?_) | refine s_k (k := ?_) | refine s_nil ?_ | refine e_block_exit_ne rfl ?_)
  exact e_1 (h1 := rs_blk) (H' := [tabA]) (hT := ⟨rfl, rfl⟩)

def statusOf (e : Int) : Int := (codeFind e).2.1
set_option maxRecDepth 20000 in
set_option maxHeartbeats 4000000 in
theorem status_ok (e : Int) : Ct Tryz.prog 74 [.int .i64 e] [tabA] (Ret fun u H => u = .int .u32 (statusOf e) ∧ H = [tabA]) := by
  refine fn_enter Tryz.func74 rfl Tryz.ntmps74 rfl fun _ _ _ => ?_
  repeat (first | refine o_v (k := ?_) | refine c_seq ?_ | refine c_region ?_ | refine o_nil ?_ | refine e_then_normal ?_ | refine o_store (k := ?_) | refine c_true (h1 := ?_) | refine c_false (h1 := ?_) | refine c_ret ?_ | refine c_skip ?_ | refine e_then_ret ?_ | refine c_block ?_ | refine c_exit ?_ | refine e_then_exit ?_ | refine e_block_exit ?_ | refine e_block_normal ?_ | refine e_block_ret ?_ | refine o_box (k := fun _ => ?_) | refine o_alloc (k := fun _ => ?_) | refine e_norm ?_ | refine o_ung (k := ?_) | refine o_k (k := ?_) | refine s_v (k := ?_) | refine s_w (k := ?_) | refine s_k (k := ?_) | refine s_nil ?_ | refine e_block_exit_ne rfl ?_ | (refine o_call (of_ok e) (k := ?_); rintro _ _ ⟨rfl, rfl⟩; dsimp only [List.cons_append, List.nil_append]))
  refine o_y (y_fieldv1 (u := 32) (o := 1) Tryz.runUnderlying204 rfl rfl rfl) rfl ?_
  repeat (first | refine o_v (k := ?_) | refine c_seq ?_ | refine c_region ?_ | refine o_nil ?_ | refine e_then_normal ?_ | refine o_store (k := ?_) | refine c_true (h1 := ?_) | refine c_false (h1 := ?_) | refine c_ret ?_ | refine c_skip ?_ | refine e_then_ret ?_ | refine c_block ?_ | refine c_exit ?_ | refine e_then_exit ?_ | refine e_block_exit ?_ | refine e_block_normal ?_ | refine e_block_ret ?_ | refine o_box (k := fun _ => ?_) | refine o_alloc (k := fun _ => ?_) | refine e_norm ?_ | refine o_ung (k := ?_) | refine o_k (k := ?_) | refine s_v (k := ?_) | refine s_w (k := ?_) | refine s_k (k := ?_) | refine s_nil ?_ | refine e_block_exit_ne rfl ?_)
  exact e_1 (h1 := rs_tmp rfl) (H' := [tabA]) (hT := ⟨rfl, rfl⟩)

def codeE : List Int := codeT.map (·.1)
set_option maxRecDepth 20000 in
set_option maxHeartbeats 4000000 in
theorem all_ok : Ct Tryz.prog 113 [] [tabA] (Ret fun u H => H = [rowA u 25 1 19 (nums .i64 codeE), tabA]) := by
  refine fn_enter Tryz.func113 rfl Tryz.ntmps113 rfl fun _ _ _ => ?_
  repeat (first | refine o_v (k := ?_) | refine c_seq ?_ | refine c_region ?_ | refine o_nil ?_ | refine e_then_normal ?_ | refine o_store (k := ?_) | refine c_true (h1 := ?_) | refine c_false (h1 := ?_) | refine c_ret ?_ | refine c_skip ?_ | refine e_then_ret ?_ | refine c_block ?_ | refine c_exit ?_ | refine e_then_exit ?_ | refine e_block_exit ?_ | refine e_block_normal ?_ | refine e_block_ret ?_ | refine o_box (k := fun _ => ?_) | refine o_alloc (k := fun _ => ?_) | refine e_norm ?_ | refine o_ung (k := ?_) | refine o_k (k := ?_) | refine s_v (k := ?_) | refine s_w (k := ?_) | refine s_k (k := ?_) | refine s_nil ?_ | refine e_block_exit_ne rfl ?_)
  refine o_y (y_loadC rfl (us := crows.flatten) (own := false) (by repeat (first | exact InA.here | apply InA.there)) rfl) rfl ?_
  repeat (first | refine o_v (k := ?_) | refine c_seq ?_ | refine c_region ?_ | refine o_nil ?_ | refine e_then_normal ?_ | refine o_store (k := ?_) | refine c_true (h1 := ?_) | refine c_false (h1 := ?_) | refine c_ret ?_ | refine c_skip ?_ | refine e_then_ret ?_ | refine c_block ?_ | refine c_exit ?_ | refine e_then_exit ?_ | refine e_block_exit ?_ | refine e_block_normal ?_ | refine e_block_ret ?_ | refine o_box (k := fun _ => ?_) | refine o_alloc (k := fun _ => ?_) | refine e_norm ?_ | refine o_ung (k := ?_) | refine o_k (k := ?_) | refine s_v (k := ?_) | refine s_w (k := ?_) | refine s_k (k := ?_) | refine s_nil ?_ | refine e_block_exit_ne rfl ?_)
  refine c_row0 25 1 ?_
  refine c_loop (α := Value × Nat) (fun x => [(5, .int .i64 x.2), (4, .agg crows.flatten.toArray), (1, x.1)]) (fun x => [rowA x.1 25 1 x.2 (nums .i64 (codeE.take x.2)), tabA]) (fun x => x.2 ≤ 19) (fun x => 19 - x.2) (.slice none 0 0, 0) (by simp) ⟨rfl, rfl, rfl, trivial⟩ (fun w hw => to_keep _ hw) ?_
  rintro ⟨v, k⟩ hk
  (try dsimp only at hk ⊢)
  repeat (first | refine o_v (k := ?_) | refine c_seq ?_ | refine c_region ?_ | refine o_nil ?_ | refine e_then_normal ?_ | refine o_store (k := ?_) | refine c_true (h1 := ?_) | refine c_false (h1 := ?_) | refine c_ret ?_ | refine c_skip ?_ | refine e_then_ret ?_ | refine c_block ?_ | refine c_exit ?_ | refine e_then_exit ?_ | refine e_block_exit ?_ | refine e_block_normal ?_ | refine e_block_ret ?_ | refine o_box (k := fun _ => ?_) | refine o_alloc (k := fun _ => ?_) | refine e_norm ?_ | refine o_ung (k := ?_) | refine o_k (k := ?_) | refine s_v (k := ?_) | refine s_w (k := ?_) | refine s_k (k := ?_) | refine s_nil ?_ | refine e_block_exit_ne rfl ?_)
  refine c_if (h1 := fun h => ?_) (h2 := fun h => ?_)
  · have hlt : k < 19 := by simp at h; omega
    obtain ⟨r, hr1, hr2⟩ := crows_get hlt
    have htk : codeE.take (k + 1) = codeE.take k ++ [r.1] := by
      have hkl : k < codeE.length := hlt
      rw [List.take_succ_eq_append_getElem hkl]
      have h2 : codeE[k]? = some r.1 := by simp [codeE, hr1]
      rw [List.getElem?_eq_getElem hkl] at h2
      simp only [Option.some.injEq] at h2
      rw [h2]
    repeat (first | refine o_v (k := ?_) | refine c_seq ?_ | refine c_region ?_ | refine o_nil ?_ | refine e_then_normal ?_ | refine o_store (k := ?_) | refine c_true (h1 := ?_) | refine c_false (h1 := ?_) | refine c_ret ?_ | refine c_skip ?_ | refine e_then_ret ?_ | refine c_block ?_ | refine c_exit ?_ | refine e_then_exit ?_ | refine e_block_exit ?_ | refine e_block_normal ?_ | refine e_block_ret ?_ | refine o_box (k := fun _ => ?_) | refine o_alloc (k := fun _ => ?_) | refine e_norm ?_ | refine o_ung (k := ?_) | refine o_k (k := ?_) | refine s_v (k := ?_) | refine s_w (k := ?_) | refine s_k (k := ?_) | refine s_nil ?_ | refine e_block_exit_ne rfl ?_)
    refine o_y (y_idxarr (i := (k : Int)) (rows := crows) (us := crowOf r) rfl rfl (by omega) crows_len (by rw [Int.toNat_natCast]; exact hr2)) rfl ?_
    repeat (first | refine o_v (k := ?_) | refine c_seq ?_ | refine c_region ?_ | refine o_nil ?_ | refine e_then_normal ?_ | refine o_store (k := ?_) | refine c_true (h1 := ?_) | refine c_false (h1 := ?_) | refine c_ret ?_ | refine c_skip ?_ | refine e_then_ret ?_ | refine c_block ?_ | refine c_exit ?_ | refine e_then_exit ?_ | refine e_block_exit ?_ | refine e_block_normal ?_ | refine e_block_ret ?_ | refine o_box (k := fun _ => ?_) | refine o_alloc (k := fun _ => ?_) | refine e_norm ?_ | refine o_ung (k := ?_) | refine o_k (k := ?_) | refine s_v (k := ?_) | refine s_w (k := ?_) | refine s_k (k := ?_) | refine s_nil ?_ | refine e_block_exit_ne rfl ?_)
    refine o_lit (k := fun lb => ?_)
    repeat (first | refine o_v (k := ?_) | refine c_seq ?_ | refine c_region ?_ | refine o_nil ?_ | refine e_then_normal ?_ | refine o_store (k := ?_) | refine c_true (h1 := ?_) | refine c_false (h1 := ?_) | refine c_ret ?_ | refine c_skip ?_ | refine e_then_ret ?_ | refine c_block ?_ | refine c_exit ?_ | refine e_then_exit ?_ | refine e_block_exit ?_ | refine e_block_normal ?_ | refine e_block_ret ?_ | refine o_box (k := fun _ => ?_) | refine o_alloc (k := fun _ => ?_) | refine e_norm ?_ | refine o_ung (k := ?_) | refine o_k (k := ?_) | refine s_v (k := ?_) | refine s_w (k := ?_) | refine s_k (k := ?_) | refine s_nil ?_ | refine e_block_exit_ne rfl ?_)
    refine o_append (e := 25) (n := k) (xs := nums .i64 (codeE.take k)) (hsrc := src_cells (p := ⟨lb, 0, none⟩) (m := 1) (news := [.int .i64 r.1]) (CellsIn.blk (m := 1) (by repeat (first | exact BlkIn.here | apply BlkIn.there)) rfl) rfl (by simp [Value.oneCell'])) (hb := by omega) (k := fun v' => ?_)
    repeat (first | refine o_v (k := ?_) | refine c_seq ?_ | refine c_region ?_ | refine o_nil ?_ | refine e_then_normal ?_ | refine o_store (k := ?_) | refine c_true (h1 := ?_) | refine c_false (h1 := ?_) | refine c_ret ?_ | refine c_skip ?_ | refine e_then_ret ?_ | refine c_block ?_ | refine c_exit ?_ | refine e_then_exit ?_ | refine e_block_exit ?_ | refine e_block_normal ?_ | refine e_block_ret ?_ | refine o_box (k := fun _ => ?_) | refine o_alloc (k := fun _ => ?_) | refine e_norm ?_ | refine o_ung (k := ?_) | refine o_k (k := ?_) | refine s_v (k := ?_) | refine s_w (k := ?_) | refine s_k (k := ?_) | refine s_nil ?_ | refine e_block_exit_ne rfl ?_)
    refine e_loop (v', k + 1) ?_ ?_ ?_ ?_
    · show k + 1 ≤ 19; omega
    · show 19 - (k + 1) < 19 - k; omega
    · exact ⟨rfl, rfl, rfl, trivial⟩
    · intro w hw
      have hn : nums .i64 (codeE.take (k + 1)) = nums .i64 (codeE.take k) ++ [.int .i64 r.1] := by rw [htk]; simp [nums]
      simp only [hn]
      exact to_keep _ hw
  · have hkl : k = 19 := by simp at h; omega
    subst hkl
    have hF : codeE.take 19 = codeE := rfl
    rw [hF]
    repeat (first | refine o_v (k := ?_) | refine c_seq ?_ | refine c_region ?_ | refine o_nil ?_ | refine e_then_normal ?_ | refine o_store (k := ?_) | refine c_true (h1 := ?_) | refine c_false (h1 := ?_) | refine c_ret ?_ | refine c_skip ?_ | refine e_then_ret ?_ | refine c_block ?_ | refine c_exit ?_ | refine e_then_exit ?_ | refine e_block_exit ?_ | refine e_block_normal ?_ | refine e_block_ret ?_ | refine o_box (k := fun _ => ?_) | refine o_alloc (k := fun _ => ?_) | refine e_norm ?_ | refine o_ung (k := ?_) | refine o_k (k := ?_) | refine s_v (k := ?_) | refine s_w (k := ?_) | refine s_k (k := ?_) | refine s_nil ?_ | refine e_block_exit_ne rfl ?_)
    exact e_1 (h1 := rs_tmp rfl) (H' := [rowA v 25 1 19 (nums .i64 codeE), tabA]) (hT := rfl)
end Go.Proofs.YtlkgdidmhmaneaaGreatDoor
/- what the rows' condition gives the walks: the laid table, cell by cell; the door's own heap meets it. -/
namespace Go.Proofs.YtlkgdidmhmaneaaGreatDoor
open Go Go.RowKit
def laid1 : List (String × DataW Unit) := [("truchman/codes.table", Rows.laid_truchman_codes_table)]
theorem own : ownKnob Tryz.prog.godebug = none := by kernel_rfl
theorem gTab : Tryz.prog.globalNamed "truchman/codes.table" = some 0 := by kernel_rfl
noncomputable def tabT : TypeId := ((Tryz.prog.globals[(0 : Nat)]?).map (·.type)).getD 0
theorem tTab : (Tryz.prog.globals[(0 : Nat)]?).map (·.type) = some tabT := by kernel_rfl
theorem uTab : Tryz.prog.underlying tabT = some (.array 19 204) := by kernel_rfl
theorem cTab : Tryz.prog.cellsOf tabT = 76 := by kernel_rfl
theorem cRow : Tryz.prog.cellsOf 204 = 4 := by kernel_rfl
noncomputable def rowFs : Array Field := match Tryz.prog.underlying 204 with | some (.struct fs) => fs | _ => #[]
theorem uRow : Tryz.prog.underlying 204 = some (.struct rowFs) := by kernel_rfl
theorem door_met (os : Os) (args : Array Value) : laidMetH Tryz.prog laid1 ((World.doorLaid Tryz.prog 33 os).forCall (fun _ _ => 0) ⟨#[], args, []⟩).memory :=
  laidMet_of_run' 8 (by kernel_rfl) (by kernel_rfl)
def rowD (r : CRow) : DataW Unit := .agg [.lit (.int .i64 r.1), .lit (.int .u32 r.2.1), .lit (.int .i64 r.2.2.1), .lit (.string r.2.2.2)]
theorem laid_rows : Rows.laid_truchman_codes_table = (DataW.agg (codeT.map rowD) : DataW Unit) := by kernel_rfl
noncomputable def rfd (i : Nat) : Field := (rowFs[i]?).getD ⟨"", 0, 0, false, "", "", 0⟩
theorem rf0 : rowFs[0]? = some (rfd 0) := by kernel_rfl
theorem rf1 : rowFs[1]? = some (rfd 1) := by kernel_rfl
theorem rf2 : rowFs[2]? = some (rfd 2) := by kernel_rfl
theorem rf3 : rowFs[3]? = some (rfd 3) := by kernel_rfl
theorem ru0 : Tryz.prog.underlying (rfd 0).type = some (.int .i64) := by kernel_rfl
theorem ru1 : Tryz.prog.underlying (rfd 1).type = some (.int .u32) := by kernel_rfl
theorem ru2 : Tryz.prog.underlying (rfd 2).type = some (.int .i64) := by kernel_rfl
theorem ru3 : Tryz.prog.underlying (rfd 3).type = some .string := by kernel_rfl
theorem ro0 : (rfd 0).offset = 0 ∧ Tryz.prog.cellsOf (rfd 0).type = 1 := ⟨by kernel_rfl, by kernel_rfl⟩
theorem ro1 : (rfd 1).offset = 1 ∧ Tryz.prog.cellsOf (rfd 1).type = 1 := ⟨by kernel_rfl, by kernel_rfl⟩
theorem ro2 : (rfd 2).offset = 2 ∧ Tryz.prog.cellsOf (rfd 2).type = 1 := ⟨by kernel_rfl, by kernel_rfl⟩
theorem ro3 : (rfd 3).offset = 3 ∧ Tryz.prog.cellsOf (rfd 3).type = 1 := ⟨by kernel_rfl, by kernel_rfl⟩
theorem four {α : Type} (l : List α) (h : l.length = 4) : ∃ a b c d, l = [a, b, c, d] := by
  match l, h with
  | [a, b, c, d], _ => exact ⟨a, b, c, d, rfl⟩
theorem row_of_trod {H : Type} {enc : TypeId × Value → H} {W : World} {base : Nat} {sp : Nat → Bool} {held : Bool} {fuel : Nat} {cs : List Value} {r : CRow} {p : List MemPlace}
    (h : DataW.trod enc Tryz.prog W base sp held fuel 204 cs = some (.agg [.lit (.int .i64 r.1), .lit (.int .u32 r.2.1), .lit (.int .i64 r.2.2.1), .lit (.string r.2.2.2)], p)) : cs = crowOf r := by
  obtain ⟨xs, m, rfl, hx, hl, hxl, hf⟩ := DataW.trod_struct uRow h
  rw [cRow] at hl
  obtain ⟨c0, c1, c2, c3, rfl⟩ := four cs hl
  have g0 := hf 0 _ rf0
  have g1 := hf 1 _ rf1
  have g2 := hf 2 _ rf2
  have g3 := hf 3 _ rf3
  rw [ro0.1, ro0.2] at g0
  rw [ro1.1, ro1.2] at g1
  rw [ro2.1, ro2.2] at g2
  rw [ro3.1, ro3.2] at g3
  have hxs : xs.map (·.1) = [.lit (.int .i64 r.1), .lit (.int .u32 r.2.1), .lit (.int .i64 r.2.2.1), .lit (.string r.2.2.2)] := by
    have := congrArg Prod.fst hx
    simpa using this.symm
  obtain ⟨x0, x1, x2, x3, rfl⟩ := four xs (by simpa using congrArg List.length hxs)
  simp only [List.map_cons, List.map_nil, List.cons.injEq, and_true] at hxs
  obtain ⟨e0, e1, e2, e3⟩ := hxs
  obtain ⟨n0, k0, q0, _⟩ := DataW.trod_int ru0 g0
  obtain ⟨n1, k1, q1, _⟩ := DataW.trod_int ru1 g1
  obtain ⟨n2, k2, q2, _⟩ := DataW.trod_int ru2 g2
  obtain ⟨s3, k3, q3, _⟩ := DataW.trod_string ru3 g3
  simp at k0 k1 k2 k3
  subst q0; subst q1; subst q2; subst q3
  simp at e0 e1 e2 e3
  subst k0; subst k1; subst k2; subst k3
  obtain ⟨r0, r1, r2, r3⟩ := r
  simp only at e0 e1 e2 e3
  subst e0; subst e1; subst e2
  simp [crowOf, str, ← e3]
theorem chunks (L : List CRow) : ∀ cs : List Value, cs.length = L.length * 4 → (∀ (i : Nat) r, L[i]? = some r → (cs.drop (i * 4)).take 4 = crowOf r) → cs = (L.map crowOf).flatten := by
  induction L with
  | nil => intro cs hl _; exact List.eq_nil_of_length_eq_zero (by simpa using hl)
  | cons r L ih =>
    intro cs hl h
    have h0 := h 0 r rfl
    have h1 := ih (cs.drop 4) (by simp at hl ⊢; omega) (fun i x hx => by
      have := h (i + 1) x hx
      rw [List.drop_drop]
      rwa [show 4 + i * 4 = (i + 1) * 4 from by omega])
    have : cs = cs.take 4 ++ cs.drop 4 := (List.take_append_drop 4 cs).symm
    rw [this, h1]
    simp at h0
    simp [h0]
theorem tab_of_laid {W : World} (h : laidMetH Tryz.prog laid1 W) (T : Nat → Prop) (hT : T 0) : tabA.holds T W := by
  obtain ⟨ps, ⟨g, t, cs, fuel, p, q, hg, ht, hvar, hd, _, _⟩, _⟩ : laidMet Tryz.prog laid1 W := h
  obtain rfl := Option.some.inj (gTab.symm.trans hg)
  obtain rfl := Option.some.inj (tTab.symm.trans ht)
  have hd' : DataW.trod (fun _ => ()) Tryz.prog W 0 (fun _ => true) false fuel tabT cs.toList = some (.agg (codeT.map rowD), p) := by rw [← laid_rows]; exact hd
  obtain ⟨xs, m, rfl, hx, hl, hxl, hf⟩ := DataW.trod_array uTab hd'
  rw [cTab] at hl
  rw [cRow] at hf
  have hcs : cs.toList = crows.flatten := chunks codeT cs.toList (by rw [hl]; rfl) (fun i r hr => by
    have hi : i < 19 := by
      have := (List.getElem?_eq_some_iff.1 hr).1
      simpa [codeT] using this
    have h1 := hf i hi
    have hxs : xs.map (·.1) = codeT.map rowD := by
      have := congrArg Prod.fst hx
      simpa using this.symm
    have h2 : (xs.map (·.1))[i]? = some (rowD r) := by rw [hxs, List.getElem?_map, hr]; rfl
    rw [List.getElem?_map, Option.map_eq_some_iff] at h2
    obtain ⟨y, hy, hy2⟩ := h2
    rw [hy] at h1
    obtain ⟨y1, y2⟩ := y
    simp only at hy2
    subst hy2
    exact row_of_trod h1)
  intro j v hj
  refine ⟨_, 0, rfl, hT, ?_⟩
  have := World.var?_cell gTab hvar j
  rw [Nat.zero_add]
  rw [this]
  rw [← hcs] at hj
  simpa using hj
end Go.Proofs.YtlkgdidmhmaneaaGreatDoor
/- answers, part 1: what its functions leave. -/
namespace Go.Proofs.YtlkgdidmhmaneaaGreatDoor
open Go Go.RowKit
attribute [local irreducible] Yl OG CG EG SG AG  CellIn CellsIn BlkIn InA TakeA SplitA SubA Ct ResOk Good Held blk cellsA exA
def wordOk (n : Int) : Bool := decide (0 ≤ n) && decide (n ≤ 4294967295)
def procsL : List Int := [1, 2, 3, 6, 7, 8, 9, 12, 13, 14, 16]

set_option maxRecDepth 20000 in
set_option maxHeartbeats 4000000 in
theorem procs_ok : Ct Tryz.prog 39 [] [] (Ret fun u H => ∃ b, u = .slice (some ⟨b, 0, none⟩) 11 11 ∧ H = [cellsA true (some ⟨b, 0, none⟩) (nums .i64 procsL)]) := by
  refine fn_enter Tryz.func39 rfl Tryz.ntmps39 rfl fun _ _ _ => ?_
  repeat (first | refine o_v (k := ?_) | refine c_seq ?_ | refine c_region ?_ | refine o_nil ?_ | refine e_then_normal ?_ | refine o_store (k := ?_) | refine c_true (h1 := ?_) | refine c_false (h1 := ?_) | refine c_ret ?_ | refine c_skip ?_ | refine e_then_ret ?_ | refine c_block ?_ | refine c_exit ?_ | refine e_then_exit ?_ | refine e_block_exit ?_ | refine e_block_normal ?_ | refine e_block_ret ?_ | refine o_box (k := fun _ => ?_) | refine o_alloc (k := fun _ => ?_) | refine e_norm ?_ | refine o_ung (k := ?_) | refine o_k (k := ?_) | refine s_v (k := ?_) | refine s_w (k := ?_) | refine s_k (k := ?_) | refine s_nil ?_ | refine e_block_exit_ne rfl ?_)
  refine o_lit (k := fun b => ?_)
  repeat (first | refine o_v (k := ?_) | refine c_seq ?_ | refine c_region ?_ | refine o_nil ?_ | refine e_then_normal ?_ | refine o_store (k := ?_) | refine c_true (h1 := ?_) | refine c_false (h1 := ?_) | refine c_ret ?_ | refine c_skip ?_ | refine e_then_ret ?_ | refine c_block ?_ | refine c_exit ?_ | refine e_then_exit ?_ | refine e_block_exit ?_ | refine e_block_normal ?_ | refine e_block_ret ?_ | refine o_box (k := fun _ => ?_) | refine o_alloc (k := fun _ => ?_) | refine e_norm ?_ | refine o_ung (k := ?_) | refine o_k (k := ?_) | refine s_v (k := ?_) | refine s_w (k := ?_) | refine s_k (k := ?_) | refine s_nil ?_ | refine e_block_exit_ne rfl ?_)
  refine e_conv (fun w hw => Good.blkCells hw) ?_
  exact e_1 (h1 := rs_tmp rfl) (H' := [cellsA true (some ⟨b, 0, none⟩) (nums .i64 procsL)]) (hT := ⟨b, rfl, rfl⟩)

set_option maxRecDepth 20000 in
set_option maxHeartbeats 4000000 in
theorem known_ok (p : Int) : Ct Tryz.prog 111 [.int .i64 p] [] (Ret fun u H => u = .bool (decide (p ∈ procsL)) ∧ H = []) := by
  refine fn_enter Tryz.func111 rfl Tryz.ntmps111 rfl fun _ _ _ => ?_
  repeat (first | refine o_v (k := ?_) | refine c_seq ?_ | refine c_region ?_ | refine o_nil ?_ | refine e_then_normal ?_ | refine o_store (k := ?_) | refine c_true (h1 := ?_) | refine c_false (h1 := ?_) | refine c_ret ?_ | refine c_skip ?_ | refine e_then_ret ?_ | refine c_block ?_ | refine c_exit ?_ | refine e_then_exit ?_ | refine e_block_exit ?_ | refine e_block_normal ?_ | refine e_block_ret ?_ | refine o_box (k := fun _ => ?_) | refine o_alloc (k := fun _ => ?_) | refine e_norm ?_ | refine o_ung (k := ?_) | refine o_k (k := ?_) | refine s_v (k := ?_) | refine s_w (k := ?_) | refine s_k (k := ?_) | refine s_nil ?_ | refine e_block_exit_ne rfl ?_)
  refine o_call procs_ok (k := ?_)
  rintro _ _ ⟨b, rfl, rfl⟩
  dsimp only [List.cons_append, List.nil_append]
  repeat (first | refine o_v (k := ?_) | refine c_seq ?_ | refine c_region ?_ | refine o_nil ?_ | refine e_then_normal ?_ | refine o_store (k := ?_) | refine c_true (h1 := ?_) | refine c_false (h1 := ?_) | refine c_ret ?_ | refine c_skip ?_ | refine e_then_ret ?_ | refine c_block ?_ | refine c_exit ?_ | refine e_then_exit ?_ | refine e_block_exit ?_ | refine e_block_normal ?_ | refine e_block_ret ?_ | refine o_box (k := fun _ => ?_) | refine o_alloc (k := fun _ => ?_) | refine e_norm ?_ | refine o_ung (k := ?_) | refine o_k (k := ?_) | refine s_v (k := ?_) | refine s_w (k := ?_) | refine s_k (k := ?_) | refine s_nil ?_ | refine e_block_exit_ne rfl ?_)
  refine o_call (containsI_ok true (some ⟨b, 0, none⟩) procsL 11 p (by decide)) (k := ?_)
  rintro _ _ ⟨rfl, rfl⟩
  dsimp only [List.cons_append, List.nil_append]
  repeat (first | refine o_v (k := ?_) | refine c_seq ?_ | refine c_region ?_ | refine o_nil ?_ | refine e_then_normal ?_ | refine o_store (k := ?_) | refine c_true (h1 := ?_) | refine c_false (h1 := ?_) | refine c_ret ?_ | refine c_skip ?_ | refine e_then_ret ?_ | refine c_block ?_ | refine c_exit ?_ | refine e_then_exit ?_ | refine e_block_exit ?_ | refine e_block_normal ?_ | refine e_block_ret ?_ | refine o_box (k := fun _ => ?_) | refine o_alloc (k := fun _ => ?_) | refine e_norm ?_ | refine o_ung (k := ?_) | refine o_k (k := ?_) | refine s_v (k := ?_) | refine s_w (k := ?_) | refine s_k (k := ?_) | refine s_nil ?_ | refine e_block_exit_ne rfl ?_)
  exact e_1 (h1 := rs_tmp rfl) (H' := []) (hT := ⟨rfl, rfl⟩)

set_option maxRecDepth 20000 in
set_option maxHeartbeats 4000000 in
theorem word_ok (n : Int) : Ct Tryz.prog 116 [.int .i64 n] [] (Ret fun u H => u = .bool (wordOk n) ∧ H = []) := by
  refine fn_enter Tryz.func116 rfl Tryz.ntmps116 rfl fun _ _ _ => ?_
  repeat (first | refine o_v (k := ?_) | refine c_seq ?_ | refine c_region ?_ | refine o_nil ?_ | refine e_then_normal ?_ | refine o_store (k := ?_) | refine c_true (h1 := ?_) | refine c_false (h1 := ?_) | refine c_ret ?_ | refine c_skip ?_ | refine e_then_ret ?_ | refine c_block ?_ | refine c_exit ?_ | refine e_then_exit ?_ | refine e_block_exit ?_ | refine e_block_normal ?_ | refine e_block_ret ?_ | refine o_box (k := fun _ => ?_) | refine o_alloc (k := fun _ => ?_) | refine e_norm ?_ | refine o_ung (k := ?_) | refine o_k (k := ?_) | refine s_v (k := ?_) | refine s_w (k := ?_) | refine s_k (k := ?_) | refine s_nil ?_ | refine e_block_exit_ne rfl ?_)
  refine o_bool 5 rfl (fun h1 => ?_) (fun h1 => ?_)
  · repeat (first | refine o_v (k := ?_) | refine c_seq ?_ | refine c_region ?_ | refine o_nil ?_ | refine e_then_normal ?_ | refine o_store (k := ?_) | refine c_true (h1 := ?_) | refine c_false (h1 := ?_) | refine c_ret ?_ | refine c_skip ?_ | refine e_then_ret ?_ | refine c_block ?_ | refine c_exit ?_ | refine e_then_exit ?_ | refine e_block_exit ?_ | refine e_block_normal ?_ | refine e_block_ret ?_ | refine o_box (k := fun _ => ?_) | refine o_alloc (k := fun _ => ?_) | refine e_norm ?_ | refine o_ung (k := ?_) | refine o_k (k := ?_) | refine s_v (k := ?_) | refine s_w (k := ?_) | refine s_k (k := ?_) | refine s_nil ?_ | refine e_block_exit_ne rfl ?_)
    exact e_1 (h1 := rs_tmp rfl) (H' := []) (hT := ⟨by simp [wordOk, h1], rfl⟩)
  · repeat (first | refine o_v (k := ?_) | refine c_seq ?_ | refine c_region ?_ | refine o_nil ?_ | refine e_then_normal ?_ | refine o_store (k := ?_) | refine c_true (h1 := ?_) | refine c_false (h1 := ?_) | refine c_ret ?_ | refine c_skip ?_ | refine e_then_ret ?_ | refine c_block ?_ | refine c_exit ?_ | refine e_then_exit ?_ | refine e_block_exit ?_ | refine e_block_normal ?_ | refine e_block_ret ?_ | refine o_box (k := fun _ => ?_) | refine o_alloc (k := fun _ => ?_) | refine e_norm ?_ | refine o_ung (k := ?_) | refine o_k (k := ?_) | refine s_v (k := ?_) | refine s_w (k := ?_) | refine s_k (k := ?_) | refine s_nil ?_ | refine e_block_exit_ne rfl ?_)
    exact e_1 (h1 := rs_tmp rfl) (H' := []) (hT := ⟨by simp [wordOk, h1], rfl⟩)

set_option maxRecDepth 20000 in
set_option maxHeartbeats 4000000 in
theorem mayHandle_ok (i g : Int) : Ct Tryz.prog 147 [.agg #[.int .i64 i, .int .i64 g]] [] (Ret fun u H => u = .bool (wordOk i && wordOk g) ∧ H = []) := by
  refine fn_enter Tryz.func147 rfl Tryz.ntmps147 rfl fun _ _ _ => ?_
  repeat (first | refine o_v (k := ?_) | refine c_seq ?_ | refine c_region ?_ | refine o_nil ?_ | refine e_then_normal ?_ | refine o_store (k := ?_) | refine c_true (h1 := ?_) | refine c_false (h1 := ?_) | refine c_ret ?_ | refine c_skip ?_ | refine e_then_ret ?_ | refine c_block ?_ | refine c_exit ?_ | refine e_then_exit ?_ | refine e_block_exit ?_ | refine e_block_normal ?_ | refine e_block_ret ?_ | refine o_box (k := fun _ => ?_) | refine o_alloc (k := fun _ => ?_) | refine e_norm ?_ | refine o_ung (k := ?_) | refine o_k (k := ?_) | refine s_v (k := ?_) | refine s_w (k := ?_) | refine s_k (k := ?_) | refine s_nil ?_ | refine e_block_exit_ne rfl ?_ | (refine o_call (word_ok _) (k := ?_); rintro _ _ ⟨rfl, rfl⟩; dsimp only [List.cons_append, List.nil_append]))
  refine o_bool 6 rfl (fun h1 => ?_) (fun h1 => ?_)
  · repeat (first | refine o_v (k := ?_) | refine c_seq ?_ | refine c_region ?_ | refine o_nil ?_ | refine e_then_normal ?_ | refine o_store (k := ?_) | refine c_true (h1 := ?_) | refine c_false (h1 := ?_) | refine c_ret ?_ | refine c_skip ?_ | refine e_then_ret ?_ | refine c_block ?_ | refine c_exit ?_ | refine e_then_exit ?_ | refine e_block_exit ?_ | refine e_block_normal ?_ | refine e_block_ret ?_ | refine o_box (k := fun _ => ?_) | refine o_alloc (k := fun _ => ?_) | refine e_norm ?_ | refine o_ung (k := ?_) | refine o_k (k := ?_) | refine s_v (k := ?_) | refine s_w (k := ?_) | refine s_k (k := ?_) | refine s_nil ?_ | refine e_block_exit_ne rfl ?_ | (refine o_call (word_ok _) (k := ?_); rintro _ _ ⟨rfl, rfl⟩; dsimp only [List.cons_append, List.nil_append]))
    exact e_1 (h1 := rs_tmp rfl) (H' := []) (hT := ⟨by simp [h1], rfl⟩)
  · repeat (first | refine o_v (k := ?_) | refine c_seq ?_ | refine c_region ?_ | refine o_nil ?_ | refine e_then_normal ?_ | refine o_store (k := ?_) | refine c_true (h1 := ?_) | refine c_false (h1 := ?_) | refine c_ret ?_ | refine c_skip ?_ | refine e_then_ret ?_ | refine c_block ?_ | refine c_exit ?_ | refine e_then_exit ?_ | refine e_block_exit ?_ | refine e_block_normal ?_ | refine e_block_ret ?_ | refine o_box (k := fun _ => ?_) | refine o_alloc (k := fun _ => ?_) | refine e_norm ?_ | refine o_ung (k := ?_) | refine o_k (k := ?_) | refine s_v (k := ?_) | refine s_w (k := ?_) | refine s_k (k := ?_) | refine s_nil ?_ | refine e_block_exit_ne rfl ?_)
    exact e_1 (h1 := rs_tmp rfl) (H' := []) (hT := ⟨by simp [h1], rfl⟩)

set_option maxRecDepth 20000 in
set_option maxHeartbeats 4000000 in
theorem layHandle_ok (own : Bool) (q : Option Addr) (l : List UInt8) (c i g : Nat) (hl : l.length ≤ 900000) (hc : l.length ≤ c) (hi : i < 4294967296) (hg : g < 4294967296) : Ct Tryz.prog 78 [.slice q l.length c, .agg #[.int .i64 i, .int .i64 g]] [bytesA own q l] (Ret fun u H => H = [bufA u (l ++ w32 i ++ w32 g), bytesA own q l]) := by
  refine fn_enter Tryz.func78 rfl Tryz.ntmps78 rfl fun _ _ _ => ?_
  repeat (first | refine o_v (k := ?_) | refine c_seq ?_ | refine c_region ?_ | refine o_nil ?_ | refine e_then_normal ?_ | refine o_store (k := ?_) | refine c_true (h1 := ?_) | refine c_false (h1 := ?_) | refine c_ret ?_ | refine c_skip ?_ | refine e_then_ret ?_ | refine c_block ?_ | refine c_exit ?_ | refine e_then_exit ?_ | refine e_block_exit ?_ | refine e_block_normal ?_ | refine e_block_ret ?_ | refine o_box (k := fun _ => ?_) | refine o_alloc (k := fun _ => ?_) | refine e_norm ?_ | refine o_ung (k := ?_) | refine o_k (k := ?_) | refine s_v (k := ?_) | refine s_w (k := ?_) | refine s_k (k := ?_) | refine s_nil ?_ | refine e_block_exit_ne rfl ?_)
  rename_i hb
  refine c_held (Hf := [blk hb 41 [.int .i64 i, .int .i64 g] (0, 0)]) ?_
  refine a_v _ 0 (k := ?_)
  refine a_v _ 1 (k := ?_)
  refine a_v _ 2 (k := ?_)
  refine a_v _ 3 (k := ?_)
  refine a_v _ 5 (k := ?_)
  refine a_v _ 6 (k := ?_)
  refine a_v _ 7 (k := ?_)
  refine a_one 4 (k := ?_)
  refine o_call (u32_ok own q l c i (by omega) hc hi) (k := ?_)
  rintro v _ rfl
  dsimp only [List.cons_append, List.nil_append]
  refine o_buf true v (k := ?_)
  rintro q1 c1 rfl hc1 hm1
  refine o_nil ?_
  refine e_ag ?_
  refine a_one 8 (k := ?_)
  refine o_call (u32_ok true q1 (l ++ w32 i) c1 g (by simp; omega) hc1 hg) (k := ?_)
  rintro v _ rfl
  dsimp only [List.cons_append, List.nil_append]
  refine o_nil ?_
  refine e_ag ?_
  refine a_v _ 9 (k := ?_)
  refine a_end (k := ?_)
  repeat (first | refine o_v (k := ?_) | refine c_seq ?_ | refine c_region ?_ | refine o_nil ?_ | refine e_then_normal ?_ | refine o_store (k := ?_) | refine c_true (h1 := ?_) | refine c_false (h1 := ?_) | refine c_ret ?_ | refine c_skip ?_ | refine e_then_ret ?_ | refine c_block ?_ | refine c_exit ?_ | refine e_then_exit ?_ | refine e_block_exit ?_ | refine e_block_normal ?_ | refine e_block_ret ?_ | refine o_box (k := fun _ => ?_) | refine o_alloc (k := fun _ => ?_) | refine e_norm ?_ | refine o_ung (k := ?_) | refine o_k (k := ?_) | refine s_v (k := ?_) | refine s_w (k := ?_) | refine s_k (k := ?_) | refine s_nil ?_ | refine e_block_exit_ne rfl ?_)
  exact e_1 (h1 := rs_tmp rfl) (H' := [bufA v (l ++ w32 i ++ w32 g), bytesA own q l]) (hT := rfl)
end Go.Proofs.YtlkgdidmhmaneaaGreatDoor
/- equality of structs: handles, attributes, entries. -/
namespace Go.Proofs.YtlkgdidmhmaneaaGreatDoor
open Go Go.RowKit
theorem eqH (w : World) (d : Nat) (i g i' g' : Int) : (Op.equalIn (d + 3) 41 (.agg #[.int .i64 i, .int .i64 g]) (.agg #[.int .i64 i', .int .i64 g'])).run Tryz.prog w = .ok (decide (i = i') && decide (g = g')) w := by
  rw [run_equalIn_agg w (d + 2) 41 _ _ (by kernel_rfl) (by kernel_rfl)]
  have hf : (Tryz.prog.fieldsOf 41).toList = [⟨"Ino", 3, 0, false, "", "", 0⟩, ⟨"Gen", 3, 1, false, "", "", 8⟩] := by kernel_rfl
  rw [hf]
  simp [Op.eqFields, part, (inferInstance : PAgg Tryz.prog 3 false).h, run_equalIn_int (h := Tryz.underlying3)]
  by_cases h : i = i' <;> by_cases h2 : g = g' <;> simp [h, h2]
theorem eqA (w : World) (d : Nat) (i g k m s i' g' k' m' s' : Int) : (Op.equalIn (d + 4) 77 (.agg #[.int .i64 i, .int .i64 g, .int .i64 k, .int .i64 m, .int .i64 s]) (.agg #[.int .i64 i', .int .i64 g', .int .i64 k', .int .i64 m', .int .i64 s'])).run Tryz.prog w = .ok (decide (i = i' ∧ g = g' ∧ k = k' ∧ m = m' ∧ s = s')) w := by
  rw [run_equalIn_agg w (d + 3) 77 _ _ (by kernel_rfl) (by kernel_rfl)]
  have hf : (Tryz.prog.fieldsOf 77).toList = [⟨"Handle", 41, 0, true, "", "", 0⟩, ⟨"Kind", 3, 2, false, "", "", 16⟩, ⟨"Mode", 3, 3, false, "", "", 24⟩, ⟨"Size", 3, 4, false, "", "", 32⟩] := by kernel_rfl
  rw [hf]
  have hp : ∀ a b c d e : Int, (part 41 #[.int .i64 a, .int .i64 b, .int .i64 c, .int .i64 d, .int .i64 e] 0).run Tryz.prog w = .ok (.agg #[.int .i64 a, .int .i64 b]) w := fun a b c d e => part_of (cs := [.int .i64 a, .int .i64 b, .int .i64 c, .int .i64 d, .int .i64 e]) (us := [.int .i64 a, .int .i64 b]) (m := 2) rfl (fun j hj => by
    match j, hj with
    | 0, _ => rfl
    | 1, _ => rfl)
  simp only [Op.eqFields, ne_eq, String.reduceEq, not_false_eq_true, if_true, Sem.run_bind, hp, Result.andThen_ok, eqH]
  by_cases h1 : i = i' <;> by_cases h2 : g = g' <;> by_cases h3 : k = k' <;> by_cases h4 : m = m' <;> by_cases h5 : s = s' <;> simp [h1, h2, h3, h4, h5, part, (inferInstance : PAgg Tryz.prog 3 false).h, run_equalIn_int (h := Tryz.underlying3)]
theorem eqE (w : World) (d : Nat) (n n' : List UInt8) (i g i' g' : Int) : (Op.equalIn (d + 4) 120 (.agg #[str n, .int .i64 i, .int .i64 g]) (.agg #[str n', .int .i64 i', .int .i64 g'])).run Tryz.prog w = .ok (decide (n = n' ∧ i = i' ∧ g = g')) w := by
  rw [run_equalIn_agg w (d + 3) 120 _ _ (by kernel_rfl) (by kernel_rfl)]
  have hf : (Tryz.prog.fieldsOf 120).toList = [⟨"Name", 9, 0, false, "", "", 0⟩, ⟨"Handle", 41, 1, false, "", "", 16⟩] := by kernel_rfl
  rw [hf]
  have hp : ∀ (a : Value) (b c : Int), (part 41 #[a, .int .i64 b, .int .i64 c] 1).run Tryz.prog w = .ok (.agg #[.int .i64 b, .int .i64 c]) w := fun a b c => part_of (cs := [a, .int .i64 b, .int .i64 c]) (us := [.int .i64 b, .int .i64 c]) (m := 2) rfl (fun j hj => by
    match j, hj with
    | 0, _ => rfl
    | 1, _ => rfl)
  have hs : ∀ (a b c : Value), (part 9 #[a, b, c] 0).run Tryz.prog w = .ok a w := fun a b c => by simp [part, (inferInstance : PAgg Tryz.prog 9 false).h]
  have he : ((⟨n.toArray⟩ : ByteArray).toList == (⟨n'.toArray⟩ : ByteArray).toList) = decide (n = n') := by rw [toList_eq_iff]; simp
  simp only [Op.eqFields, ne_eq, String.reduceEq, not_false_eq_true, if_true, Sem.run_bind, hs, Result.andThen_ok, run_equalIn_string (h := Tryz.underlying9), he]
  by_cases h0 : n = n' <;> by_cases h1 : i = i' <;> by_cases h2 : g = g' <;> simp [h0, h1, h2, hp, eqH]
section
variable {n : Nat} {F : Fr} {H : List Ast} {x y : Operand} {ty2 : TypeId}
theorem y_eqH {i g i' g' : Int} (hx : ev F x = some (.agg #[.int .i64 i, .int .i64 g])) (hy : ev F y = some (.agg #[.int .i64 i', .int .i64 g'])) : Yl Tryz.prog n F H (.binOp .eql 41 x y ty2) (.bool (decide (i = i') && decide (g = g'))) := fun a w _ _ _ _ _ ha _ => by
  have hg := run_eqGuard_agg (P := Tryz.prog) w .eql 41 x y #[.int .i64 i, .int .i64 g] #[.int .i64 i', .int .i64 g'] (by kernel_rfl)
  simp only [execOp, ha.ev hx, ha.ev hy, Sem.run_bind, hg, Result.andThen_ok, run_eql_struct, eqH w 9997, Sem.run_map, Sem.run_pure]
theorem y_neH {i g i' g' : Int} (hx : ev F x = some (.agg #[.int .i64 i, .int .i64 g])) (hy : ev F y = some (.agg #[.int .i64 i', .int .i64 g'])) : Yl Tryz.prog n F H (.binOp .neq 41 x y ty2) (.bool (!(decide (i = i') && decide (g = g')))) := fun a w _ _ _ _ _ ha _ => by
  have hg := run_eqGuard_agg (P := Tryz.prog) w .neq 41 x y #[.int .i64 i, .int .i64 g] #[.int .i64 i', .int .i64 g'] (by kernel_rfl)
  simp only [execOp, ha.ev hx, ha.ev hy, Sem.run_bind, hg, Result.andThen_ok, run_neq_struct, eqH w 9997, Sem.run_map, Sem.run_pure]
theorem y_eqA {i g k m s i' g' k' m' s' : Int} (hx : ev F x = some (.agg #[.int .i64 i, .int .i64 g, .int .i64 k, .int .i64 m, .int .i64 s])) (hy : ev F y = some (.agg #[.int .i64 i', .int .i64 g', .int .i64 k', .int .i64 m', .int .i64 s'])) : Yl Tryz.prog n F H (.binOp .eql 77 x y ty2) (.bool (decide (i = i' ∧ g = g' ∧ k = k' ∧ m = m' ∧ s = s'))) := fun a w _ _ _ _ _ ha _ => by
  have hg := run_eqGuard_agg (P := Tryz.prog) w .eql 77 x y #[.int .i64 i, .int .i64 g, .int .i64 k, .int .i64 m, .int .i64 s] #[.int .i64 i', .int .i64 g', .int .i64 k', .int .i64 m', .int .i64 s'] (by kernel_rfl)
  simp only [execOp, ha.ev hx, ha.ev hy, Sem.run_bind, hg, Result.andThen_ok, run_eql_struct, eqA w 9996, Sem.run_map, Sem.run_pure]
theorem y_neE {a b : List UInt8} {i g i' g' : Int} (hx : ev F x = some (.agg #[str a, .int .i64 i, .int .i64 g])) (hy : ev F y = some (.agg #[str b, .int .i64 i', .int .i64 g'])) : Yl Tryz.prog n F H (.binOp .neq 120 x y ty2) (.bool (!decide (a = b ∧ i = i' ∧ g = g'))) := fun ac w _ _ _ _ _ ha _ => by
  have hg := run_eqGuard_agg (P := Tryz.prog) w .neq 120 x y #[str a, .int .i64 i, .int .i64 g] #[str b, .int .i64 i', .int .i64 g'] (by kernel_rfl)
  simp only [execOp, ha.ev hx, ha.ev hy, Sem.run_bind, hg, Result.andThen_ok, run_neq_struct, eqE w 9996, Sem.run_map, Sem.run_pure]
end
section
variable {P : Program} {Q : Exit → Act → World → Prop} {G : Ctx} {F : Fr} {H : List Ast} {ops : Array Oper} {rest : List Oper} {d : Nat} {op : Op} {ty : TypeId} {pos : String} {aft : Array Edge}
theorem y_eqlb {n : Nat} {t ty2 : TypeId} {x y : Operand} {a b : Bool} [h1 : PUnd P t .bool] (hx : ev F x = some (.bool a)) (hy : ev F y = some (.bool b)) : Yl P n F H (.binOp .eql t x y ty2) (.bool (decide (a = b))) := fun ac w _ _ _ _ _ ha _ => by
  have he : (Op.equal t (.bool a) (.bool b)).run P w = .ok (decide (a = b)) w := run_equal (by rw [Op.equalIn]; cases a <;> cases b <;> simp [h1.h])
  cases a <;> cases b <;> simp [execOp, ha.ev hx, ha.ev hy, eqGuard, binOp, he]
end
end Go.Proofs.YtlkgdidmhmaneaaGreatDoor
