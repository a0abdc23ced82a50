/- A part of the proof: walks and laws that the last part joins. -/
import Derived.Test.YtlkgdidmhmaneaaGreatDoorSNg
import Derived.LoopN
/- fsys.Do, of what its procedures do. -/
namespace Go.Proofs.YtlkgdidmhmaneaaGreatDoor
open Go Go.RowKit
theorem and511 (a : Int) : IntKind.i64.wrap (BitVec.ofInt IntKind.i64.bits a &&& BitVec.ofInt IntKind.i64.bits 511).toNat = a % 512 := by
  have h1 : (BitVec.ofInt 64 a &&& BitVec.ofInt 64 511).toNat = (BitVec.ofInt 64 a).toNat % 512 := by
    rw [BitVec.toNat_and]
    have : (BitVec.ofInt 64 511).toNat = 2 ^ 9 - 1 := by decide
    rw [this, Nat.and_two_pow_sub_one_eq_mod]
  have h2 : ((BitVec.ofInt 64 a).toNat : Int) = a % 18446744073709551616 := by
    rw [BitVec.toNat_ofInt]; omega
  show IntKind.i64.wrap ((BitVec.ofInt 64 a &&& BitVec.ofInt 64 511).toNat : Int) = a % 512
  rw [h1]
  have h3 : (((BitVec.ofInt 64 a).toNat % 512 : Nat) : Int) = a % 512 := by omega
  rw [h3]
  exact Go.IntWalk.i64_in _ (by omega)
attribute [local irreducible] Yl OG CG EG SG AG JG CellIn CellsIn BlkIn InA TakeA SplitA SubA Ct ResOk Good Held blk cellsA exA
/-- what a call of a procedure's leaves: its answer, its error, the file system behind it -/
def MSpec (f : FuncId) (fb : Nat) (lay : Lay) (p : PF) (x : MArgs) (q : Option Addr) (c : Nat) (out : PF × MRes) : Prop :=
  Ct Tryz.prog f [.pointer (some ⟨fb, 0, none⟩), .agg (argsC x q c).toArray] [fsA fb lay p, bytesA true q x.data] (Ret fun u H => ∃ lay' q1 c1 q2 c2, ((out.2.data.length ≤ c1 ∧ c1 ≤ 9223372036854775807) ∧ out.2.ents.length ≤ c2 ∧ c2 ≤ 9223372036854775807) ∧ u = .tuple #[.agg (resC { out.2 with errno := 0 } q1 c1 q2 c2).toArray, .int .i64 out.2.errno] ∧ H = [fsA fb lay' out.1, bytesA true q1 out.2.data, cellsA true q2 (entsC out.2.ents)])
def DoSpec (fb : Nat) (lay : Lay) (p : PF) (x : MArgs) (q : Option Addr) (c : Nat) : Prop :=
  Ct Tryz.prog 80 [.pointer (some ⟨fb, 0, none⟩), .agg (argsC x q c).toArray] [fsA fb lay p, bytesA true q x.data] (Ret fun u H => ∃ lay' q1 c1 q2 c2, (((doP p x).2.data.length ≤ c1 ∧ c1 ≤ 9223372036854775807) ∧ (doP p x).2.ents.length ≤ c2 ∧ c2 ≤ 9223372036854775807) ∧ u = .agg (resC (doP p x).2 q1 c1 q2 c2).toArray ∧ H = [fsA fb lay' (doP p x).1, bytesA true q1 (doP p x).2.data, cellsA true q2 (entsC (doP p x).2.ents)])
def procF (n : Int) : Option FuncId := if n = 1 then some 154 else if n = 2 then some 155 else if n = 3 then some 156 else if n = 6 then some 157 else if n = 7 then some 158 else if n = 8 then some 159 else if n = 9 then some 160 else if n = 12 then some 161 else if n = 13 then some 162 else if n = 14 then some 163 else if n = 16 then some 164 else none
theorem procF_find (n : Int) : findM procsM n = (procF n).map fun f => .func (.func f) #[] #[] := by
  unfold procF
  by_cases h1 : n = 1
  · subst h1; rfl
  by_cases h2 : n = 2
  · subst h2; rfl
  by_cases h3 : n = 3
  · subst h3; rfl
  by_cases h6 : n = 6
  · subst h6; rfl
  by_cases h7 : n = 7
  · subst h7; rfl
  by_cases h8 : n = 8
  · subst h8; rfl
  by_cases h9 : n = 9
  · subst h9; rfl
  by_cases h12 : n = 12
  · subst h12; rfl
  by_cases h13 : n = 13
  · subst h13; rfl
  by_cases h14 : n = 14
  · subst h14; rfl
  by_cases h16 : n = 16
  · subst h16; rfl
  have hh : ∀ k : Int, (k = n) ↔ (n = k) := fun k => ⟨fun h => h.symm, fun h => h.symm⟩
  simp [findM, procsM, hh, h1, h2, h3, h6, h7, h8, h9, h12, h13, h14, h16]
theorem procF_enter {n : Int} {f : FuncId} (h : procF n = some f) : PEnter Tryz.prog f := by
  unfold procF at h
  repeat (split at h; (· cases h; infer_instance))
  cases h
theorem procF_none {n : Int} (p : PF) (x : MArgs) (hx : x.proc = n) (h : procF n = none) : doP p x = (p, res0 2) := by
  subst hx
  unfold procF at h
  repeat (split at h; (· cases h))
  simp [doP, argsD, *]

set_option maxRecDepth 20000 in
set_option maxHeartbeats 4000000 in
theorem do_ok (fb : Nat) (lay : Lay) (p : PF) (x : MArgs) (q : Option Addr) (c : Nat) (hM : ∀ f, procF x.proc = some f → MSpec f fb lay p (argsD x) q c (doP p x)) (he : (doP p x).2.errno ≠ 0 → (doP p x).2 = res0 (doP p x).2.errno) : DoSpec fb lay p x q c := by
  unfold DoSpec
  refine fn_enter Tryz.func80 rfl Tryz.ntmps80 rfl fun _ _ _ => ?_
  repeat (first | refine o_v (k := ?_) | refine c_seq ?_ | refine c_region ?_ | refine o_nil ?_ | refine e_then_normal ?_ | refine o_store (k := ?_) | refine c_true (h1 := ?_) | refine c_false (h1 := ?_) | refine c_ret ?_ | refine c_skip ?_ | refine e_then_ret ?_ | refine c_block ?_ | refine c_exit ?_ | refine e_then_exit ?_ | refine e_block_exit ?_ | refine e_block_normal ?_ | refine e_block_ret ?_ | refine o_box (k := fun _ => ?_) | refine o_alloc (k := fun _ => ?_) | refine e_norm ?_ | refine o_ung (k := ?_) | refine o_k (k := ?_) | refine s_v (k := ?_) | refine s_w (k := ?_) | refine s_k (k := ?_) | refine s_nil ?_ | refine e_block_exit_ne rfl ?_)
  rename_i ab rb
  refine c_j [blk ab 70 (argsC x q c) (0, 0)] [1, 2, 5, 6] ?_
  refine j_v 1 (k := ?_); refine j_v 2 (k := ?_)
  refine j_one 0 (nd := true) (k := ?_)
  refine o_call procedures_ok (k := ?_)
  rintro _ _ ⟨r, rfl, rfl⟩
  dsimp only [List.cons_append, List.nil_append]
  refine o_nil ?_
  refine e_jt (k := ?_)
  refine j_one 3 (nd := true) (k := ?_)
  refine o_y (y_lookup (hu := Tryz.underlying213) (hk := Tryz.underlying3) (hz := Tryz.zeroValue211) rfl rfl (by repeat (first | exact InA.here | apply InA.there))) rfl ?_
  rw [procF_find]
  refine o_nil ?_
  refine e_jt (k := ?_)
  cases hf : procF x.proc with
  | none =>
    refine j_one 4 (nd := true) (k := ?_); (repeat (first | refine o_v (k := ?_) | refine c_seq ?_ | refine c_region ?_ | refine o_nil ?_ | refine e_then_normal ?_ | refine o_store (k := ?_) | refine c_true (h1 := ?_) | refine c_false (h1 := ?_) | refine c_ret ?_ | refine c_skip ?_ | refine e_then_ret ?_ | refine c_block ?_ | refine c_exit ?_ | refine e_then_exit ?_ | refine e_block_exit ?_ | refine e_block_normal ?_ | refine e_block_ret ?_ | refine o_box (k := fun _ => ?_) | refine o_alloc (k := fun _ => ?_) | refine e_norm ?_ | refine o_ung (k := ?_) | refine o_k (k := ?_) | refine s_v (k := ?_) | refine s_w (k := ?_) | refine s_k (k := ?_) | refine s_nil ?_ | refine e_block_exit_ne rfl ?_)); refine e_jt (k := ?_)
    refine j_v 5 (k := ?_); refine j_v 6 (k := ?_)
    refine j_one 7 (nd := true) (k := ?_); (repeat (first | refine o_v (k := ?_) | refine c_seq ?_ | refine c_region ?_ | refine o_nil ?_ | refine e_then_normal ?_ | refine o_store (k := ?_) | refine c_true (h1 := ?_) | refine c_false (h1 := ?_) | refine c_ret ?_ | refine c_skip ?_ | refine e_then_ret ?_ | refine c_block ?_ | refine c_exit ?_ | refine e_then_exit ?_ | refine e_block_exit ?_ | refine e_block_normal ?_ | refine e_block_ret ?_ | refine o_box (k := fun _ => ?_) | refine o_alloc (k := fun _ => ?_) | refine e_norm ?_ | refine o_ung (k := ?_) | refine o_k (k := ?_) | refine s_v (k := ?_) | refine s_w (k := ?_) | refine s_k (k := ?_) | refine s_nil ?_ | refine e_block_exit_ne rfl ?_)); refine e_jt (k := ?_); refine j_one 8 (nd := false) (k := ?_); (repeat (first | refine o_v (k := ?_) | refine c_seq ?_ | refine c_region ?_ | refine o_nil ?_ | refine e_then_normal ?_ | refine o_store (k := ?_) | refine c_true (h1 := ?_) | refine c_false (h1 := ?_) | refine c_ret ?_ | refine c_skip ?_ | refine e_then_ret ?_ | refine c_block ?_ | refine c_exit ?_ | refine e_then_exit ?_ | refine e_block_exit ?_ | refine e_block_normal ?_ | refine e_block_ret ?_ | refine o_box (k := fun _ => ?_) | refine o_alloc (k := fun _ => ?_) | refine e_norm ?_ | refine o_ung (k := ?_) | refine o_k (k := ?_) | refine s_v (k := ?_) | refine s_w (k := ?_) | refine s_k (k := ?_) | refine s_nil ?_ | refine e_block_exit_ne rfl ?_)); refine e_jf (k := ?_)
    refine j_end (k := ?_)
    repeat (first | refine o_v (k := ?_) | refine c_seq ?_ | refine c_region ?_ | refine o_nil ?_ | refine e_then_normal ?_ | refine o_store (k := ?_) | refine c_true (h1 := ?_) | refine c_false (h1 := ?_) | refine c_ret ?_ | refine c_skip ?_ | refine e_then_ret ?_ | refine c_block ?_ | refine c_exit ?_ | refine e_then_exit ?_ | refine e_block_exit ?_ | refine e_block_normal ?_ | refine e_block_ret ?_ | refine o_box (k := fun _ => ?_) | refine o_alloc (k := fun _ => ?_) | refine e_norm ?_ | refine o_ung (k := ?_) | refine o_k (k := ?_) | refine s_v (k := ?_) | refine s_w (k := ?_) | refine s_k (k := ?_) | refine s_nil ?_ | refine e_block_exit_ne rfl ?_)
    have hD := procF_none p x rfl hf
    rw [hD]
    refine e_add0 (bytesA true none []) (fun w => cellsA_nil _ w) (k := ?_)
    refine e_add0 (cellsA true none (entsC [])) (fun w => cellsA_nil _ w) (k := ?_)
    exact e_1 (h1 := rs_blk) (H' := [fsA fb lay p, bytesA true none [], cellsA true none (entsC [])]) (hT := ⟨lay, none, 0, none, 0, by simp [res0], rfl, rfl⟩)
  | some f =>
    haveI := procF_enter hf
    refine j_one 4 (nd := true) (k := ?_); (repeat (first | refine o_v (k := ?_) | refine c_seq ?_ | refine c_region ?_ | refine o_nil ?_ | refine e_then_normal ?_ | refine o_store (k := ?_) | refine c_true (h1 := ?_) | refine c_false (h1 := ?_) | refine c_ret ?_ | refine c_skip ?_ | refine e_then_ret ?_ | refine c_block ?_ | refine c_exit ?_ | refine e_then_exit ?_ | refine e_block_exit ?_ | refine e_block_normal ?_ | refine e_block_ret ?_ | refine o_box (k := fun _ => ?_) | refine o_alloc (k := fun _ => ?_) | refine e_norm ?_ | refine o_ung (k := ?_) | refine o_k (k := ?_) | refine s_v (k := ?_) | refine s_w (k := ?_) | refine s_k (k := ?_) | refine s_nil ?_ | refine e_block_exit_ne rfl ?_)); refine e_jt (k := ?_)
    refine j_v 5 (k := ?_); refine j_v 6 (k := ?_)
    refine j_one 7 (nd := true) (k := ?_); (repeat (first | refine o_v (k := ?_) | refine c_seq ?_ | refine c_region ?_ | refine o_nil ?_ | refine e_then_normal ?_ | refine o_store (k := ?_) | refine c_true (h1 := ?_) | refine c_false (h1 := ?_) | refine c_ret ?_ | refine c_skip ?_ | refine e_then_ret ?_ | refine c_block ?_ | refine c_exit ?_ | refine e_then_exit ?_ | refine e_block_exit ?_ | refine e_block_normal ?_ | refine e_block_ret ?_ | refine o_box (k := fun _ => ?_) | refine o_alloc (k := fun _ => ?_) | refine e_norm ?_ | refine o_ung (k := ?_) | refine o_k (k := ?_) | refine s_v (k := ?_) | refine s_w (k := ?_) | refine s_k (k := ?_) | refine s_nil ?_ | refine e_block_exit_ne rfl ?_)); refine e_jt (k := ?_); refine j_one 8 (nd := false) (k := ?_); (repeat (first | refine o_v (k := ?_) | refine c_seq ?_ | refine c_region ?_ | refine o_nil ?_ | refine e_then_normal ?_ | refine o_store (k := ?_) | refine c_true (h1 := ?_) | refine c_false (h1 := ?_) | refine c_ret ?_ | refine c_skip ?_ | refine e_then_ret ?_ | refine c_block ?_ | refine c_exit ?_ | refine e_then_exit ?_ | refine e_block_exit ?_ | refine e_block_normal ?_ | refine e_block_ret ?_ | refine o_box (k := fun _ => ?_) | refine o_alloc (k := fun _ => ?_) | refine e_norm ?_ | refine o_ung (k := ?_) | refine o_k (k := ?_) | refine s_v (k := ?_) | refine s_w (k := ?_) | refine s_k (k := ?_) | refine s_nil ?_ | refine e_block_exit_ne rfl ?_)); refine e_jf (k := ?_)
    refine j_end (k := ?_)
    repeat (first | refine o_v (k := ?_) | refine c_seq ?_ | refine c_region ?_ | refine o_nil ?_ | refine e_then_normal ?_ | refine o_store (k := ?_) | refine c_true (h1 := ?_) | refine c_false (h1 := ?_) | refine c_ret ?_ | refine c_skip ?_ | refine e_then_ret ?_ | refine c_block ?_ | refine c_exit ?_ | refine e_then_exit ?_ | refine e_block_exit ?_ | refine e_block_normal ?_ | refine e_block_ret ?_ | refine o_box (k := fun _ => ?_) | refine o_alloc (k := fun _ => ?_) | refine e_norm ?_ | refine o_ung (k := ?_) | refine o_k (k := ?_) | refine s_v (k := ?_) | refine s_w (k := ?_) | refine s_k (k := ?_) | refine s_nil ?_ | refine e_block_exit_ne rfl ?_)
    refine o_v (hy := y_as (y_and rfl rfl) (by rw [and511])) (k := ?_)
    repeat (first | refine o_v (k := ?_) | refine c_seq ?_ | refine c_region ?_ | refine o_nil ?_ | refine e_then_normal ?_ | refine o_store (k := ?_) | refine c_true (h1 := ?_) | refine c_false (h1 := ?_) | refine c_ret ?_ | refine c_skip ?_ | refine e_then_ret ?_ | refine c_block ?_ | refine c_exit ?_ | refine e_then_exit ?_ | refine e_block_exit ?_ | refine e_block_normal ?_ | refine e_block_ret ?_ | refine o_box (k := fun _ => ?_) | refine o_alloc (k := fun _ => ?_) | refine e_norm ?_ | refine o_ung (k := ?_) | refine o_k (k := ?_) | refine s_v (k := ?_) | refine s_w (k := ?_) | refine s_k (k := ?_) | refine s_nil ?_ | refine e_block_exit_ne rfl ?_)
    have hC := hM f hf
    unfold MSpec at hC
    refine o_callv (first := []) (vs := [.pointer (some ⟨fb, 0, none⟩), .agg (argsC (argsD x) q c).toArray]) (cap := []) rfl rfl hC (by (repeat (apply SplitA.cons; (repeat (first | exact TakeA.keepI | exact TakeA.here | apply TakeA.there)))); exact SplitA.nil) (k := ?_)
    rintro _ _ ⟨lay', q1, c1, q2, c2, hb, rfl, rfl⟩
    dsimp only [List.cons_append, List.nil_append]
    repeat (first | refine o_v (k := ?_) | refine c_seq ?_ | refine c_region ?_ | refine o_nil ?_ | refine e_then_normal ?_ | refine o_store (k := ?_) | refine c_true (h1 := ?_) | refine c_false (h1 := ?_) | refine c_ret ?_ | refine c_skip ?_ | refine e_then_ret ?_ | refine c_block ?_ | refine c_exit ?_ | refine e_then_exit ?_ | refine e_block_exit ?_ | refine e_block_normal ?_ | refine e_block_ret ?_ | refine o_box (k := fun _ => ?_) | refine o_alloc (k := fun _ => ?_) | refine e_norm ?_ | refine o_ung (k := ?_) | refine o_k (k := ?_) | refine s_v (k := ?_) | refine s_w (k := ?_) | refine s_k (k := ?_) | refine s_nil ?_ | refine e_block_exit_ne rfl ?_)
    refine c_if (h1 := fun h => ?_) (h2 := fun h => ?_)
    · have hne : (doP p x).2.errno ≠ 0 := by simpa using h
      have hr := he hne
      repeat (first | refine o_v (k := ?_) | refine c_seq ?_ | refine c_region ?_ | refine o_nil ?_ | refine e_then_normal ?_ | refine o_store (k := ?_) | refine c_true (h1 := ?_) | refine c_false (h1 := ?_) | refine c_ret ?_ | refine c_skip ?_ | refine e_then_ret ?_ | refine c_block ?_ | refine c_exit ?_ | refine e_then_exit ?_ | refine e_block_exit ?_ | refine e_block_normal ?_ | refine e_block_ret ?_ | refine o_box (k := fun _ => ?_) | refine o_alloc (k := fun _ => ?_) | refine e_norm ?_ | refine o_ung (k := ?_) | refine o_k (k := ?_) | refine s_v (k := ?_) | refine s_w (k := ?_) | refine s_k (k := ?_) | refine s_nil ?_ | refine e_block_exit_ne rfl ?_)
      have e1 : (doP p x).2.data = [] := by rw [hr]; rfl
      have e2 : (doP p x).2.ents = [] := by rw [hr]; rfl
      refine e_add0 (bytesA true none []) (fun w => cellsA_nil _ w) (k := ?_)
      refine e_add0 (cellsA true none (entsC [])) (fun w => cellsA_nil _ w) (k := ?_)
      refine e_1 (h1 := rs_blk) (H' := [fsA fb lay' (doP p x).1, bytesA true none [], cellsA true none (entsC [])]) (hT := ⟨lay', none, 0, none, 0, by rw [e1, e2]; simp, ?_, by rw [e1, e2]⟩)
      rw [hr]
      rfl
    · have h0 : (doP p x).2.errno = 0 := by simpa using h
      repeat (first | refine o_v (k := ?_) | refine c_seq ?_ | refine c_region ?_ | refine o_nil ?_ | refine e_then_normal ?_ | refine o_store (k := ?_) | refine c_true (h1 := ?_) | refine c_false (h1 := ?_) | refine c_ret ?_ | refine c_skip ?_ | refine e_then_ret ?_ | refine c_block ?_ | refine c_exit ?_ | refine e_then_exit ?_ | refine e_block_exit ?_ | refine e_block_normal ?_ | refine e_block_ret ?_ | refine o_box (k := fun _ => ?_) | refine o_alloc (k := fun _ => ?_) | refine e_norm ?_ | refine o_ung (k := ?_) | refine o_k (k := ?_) | refine s_v (k := ?_) | refine s_w (k := ?_) | refine s_k (k := ?_) | refine s_nil ?_ | refine e_block_exit_ne rfl ?_)
      refine e_1 (h1 := rs_blk) (H' := [fsA fb lay' (doP p x).1, bytesA true q1 (doP p x).2.data, cellsA true q2 (entsC (doP p x).2.ents)]) (hT := ⟨lay', q1, c1, q2, c2, hb, ?_, rfl⟩)
      simp only [resC, h0]
end Go.Proofs.YtlkgdidmhmaneaaGreatDoor
/- serve: what its functions leave, of what Do does. -/
namespace Go.Proofs.YtlkgdidmhmaneaaGreatDoor
open Go Go.RowKit
attribute [local irreducible] Yl OG CG EG SG AG JG CellIn CellsIn BlkIn InA TakeA SplitA SubA Ct ResOk Good Held blk cellsA exA
/-- a server -/
def srvA (sb fb : Nat) (lay : Lay) (p : PF) (served : Int) : List Ast := [blk sb 38 [.pointer (some ⟨fb, 0, none⟩), .int .i32 0, .int .u32 0, .int .i64 served] (0, 0), fsA fb lay p]

set_option maxRecDepth 20000 in
set_option maxHeartbeats 4000000 in
theorem srvNew_ok (n room : Int) : Ct Tryz.prog 9 [.int .i64 n, .int .i64 room] [] (Ret fun u H => if (1 ≤ n ∧ n ≤ 64) ∧ 0 ≤ room ∧ room ≤ 65536 then ∃ sb fb lay, u = .tuple #[.pointer (some ⟨sb, 0, none⟩), .int .i64 0] ∧ H = srvA sb fb lay (newF n.toNat room) 0 else u = .tuple #[.pointer none, .int .i64 1] ∧ H = []) := by
  have hc := fsNew_ok n room
  by_cases hok : (1 ≤ n ∧ n ≤ 64) ∧ 0 ≤ room ∧ room ≤ 65536
  · simp only [if_pos hok] at hc ⊢
    refine fn_enter Tryz.func9 rfl Tryz.ntmps9 rfl fun _ _ _ => ?_
    repeat (first | refine o_v (k := ?_) | refine c_seq ?_ | refine c_region ?_ | refine o_nil ?_ | refine e_then_normal ?_ | refine o_store (k := ?_) | refine c_true (h1 := ?_) | refine c_false (h1 := ?_) | refine c_ret ?_ | refine c_skip ?_ | refine e_then_ret ?_ | refine c_block ?_ | refine c_exit ?_ | refine e_then_exit ?_ | refine e_block_exit ?_ | refine e_block_normal ?_ | refine e_block_ret ?_ | refine o_box (k := fun _ => ?_) | refine o_alloc (k := fun _ => ?_) | refine e_norm ?_ | refine o_ung (k := ?_) | refine o_k (k := ?_) | refine s_v (k := ?_) | refine s_w (k := ?_) | refine s_k (k := ?_) | refine s_nil ?_ | refine e_block_exit_ne rfl ?_)
    refine o_call hc (k := ?_)
    rintro _ _ ⟨fb, lay, rfl, rfl⟩
    dsimp only [List.cons_append, List.nil_append]
    repeat (first | refine o_v (k := ?_) | refine c_seq ?_ | refine c_region ?_ | refine o_nil ?_ | refine e_then_normal ?_ | refine o_store (k := ?_) | refine c_true (h1 := ?_) | refine c_false (h1 := ?_) | refine c_ret ?_ | refine c_skip ?_ | refine e_then_ret ?_ | refine c_block ?_ | refine c_exit ?_ | refine e_then_exit ?_ | refine e_block_exit ?_ | refine e_block_normal ?_ | refine e_block_ret ?_ | refine o_box (k := fun _ => ?_) | refine o_alloc (k := fun _ => ?_) | refine e_norm ?_ | refine o_ung (k := ?_) | refine o_k (k := ?_) | refine s_v (k := ?_) | refine s_w (k := ?_) | refine s_k (k := ?_) | refine s_nil ?_ | refine e_block_exit_ne rfl ?_)
    rename_i sb
    exact e_2 (h1 := rs_tmp rfl) (h2 := rs_tmp rfl) (hT := ⟨sb, fb, lay, rfl, rfl⟩)
  · simp only [if_neg hok] at hc ⊢
    refine fn_enter Tryz.func9 rfl Tryz.ntmps9 rfl fun _ _ _ => ?_
    repeat (first | refine o_v (k := ?_) | refine c_seq ?_ | refine c_region ?_ | refine o_nil ?_ | refine e_then_normal ?_ | refine o_store (k := ?_) | refine c_true (h1 := ?_) | refine c_false (h1 := ?_) | refine c_ret ?_ | refine c_skip ?_ | refine e_then_ret ?_ | refine c_block ?_ | refine c_exit ?_ | refine e_then_exit ?_ | refine e_block_exit ?_ | refine e_block_normal ?_ | refine e_block_ret ?_ | refine o_box (k := fun _ => ?_) | refine o_alloc (k := fun _ => ?_) | refine e_norm ?_ | refine o_ung (k := ?_) | refine o_k (k := ?_) | refine s_v (k := ?_) | refine s_w (k := ?_) | refine s_k (k := ?_) | refine s_nil ?_ | refine e_block_exit_ne rfl ?_ | (refine o_call (hc) (k := ?_); rintro _ _ ⟨rfl, rfl⟩; dsimp only [List.cons_append, List.nil_append]))
    exact e_2 (h1 := rs_tmp rfl) (h2 := rs_tmp rfl) (H' := []) (hT := ⟨rfl, rfl⟩)

set_option maxRecDepth 20000 in
set_option maxHeartbeats 4000000 in
theorem served_ok (sb fb : Nat) (lay : Lay) (p : PF) (s : Int) : Ct Tryz.prog 11 [.pointer (some ⟨sb, 0, none⟩)] (srvA sb fb lay p s) (Ret fun u H => u = .int .i64 s ∧ H = srvA sb fb lay p s) := by
  refine fn_enter_d Tryz.func11 rfl Tryz.ntmps11 rfl fun _ _ _ => ?_
  unfold srvA
  repeat (first | refine o_v (k := ?_) | refine c_seq ?_ | refine c_region ?_ | refine o_nil ?_ | refine e_then_normal ?_ | refine o_store (k := ?_) | refine c_true (h1 := ?_) | refine c_false (h1 := ?_) | refine c_ret ?_ | refine c_skip ?_ | refine e_then_ret ?_ | refine c_block ?_ | refine c_exit ?_ | refine e_then_exit ?_ | refine e_block_exit ?_ | refine e_block_normal ?_ | refine e_block_ret ?_ | refine o_box (k := fun _ => ?_) | refine o_alloc (k := fun _ => ?_) | refine e_norm ?_ | refine o_ung (k := ?_) | refine o_k (k := ?_) | refine s_v (k := ?_) | refine s_w (k := ?_) | refine s_k (k := ?_) | refine s_nil ?_ | refine e_block_exit_ne rfl ?_)
  refine o_call (lock_ok sb 1 38 _ rfl) (k := ?_)
  rintro _ _ ⟨rfl, rfl⟩
  dsimp only [List.cons_append, List.nil_append]
  simp only [List.set_cons_succ, List.set_cons_zero]
  repeat (first | refine o_v (k := ?_) | refine c_seq ?_ | refine c_region ?_ | refine o_nil ?_ | refine e_then_normal ?_ | refine o_store (k := ?_) | refine c_true (h1 := ?_) | refine c_false (h1 := ?_) | refine c_ret ?_ | refine c_skip ?_ | refine e_then_ret ?_ | refine c_block ?_ | refine c_exit ?_ | refine e_then_exit ?_ | refine e_block_exit ?_ | refine e_block_normal ?_ | refine e_block_ret ?_ | refine o_box (k := fun _ => ?_) | refine o_alloc (k := fun _ => ?_) | refine e_norm ?_ | refine o_ung (k := ?_) | refine o_k (k := ?_) | refine s_v (k := ?_) | refine s_w (k := ?_) | refine s_k (k := ?_) | refine s_nil ?_ | refine e_block_exit_ne rfl ?_)
  refine o_defer (k := ?_)
  repeat (first | refine o_v (k := ?_) | refine c_seq ?_ | refine c_region ?_ | refine o_nil ?_ | refine e_then_normal ?_ | refine o_store (k := ?_) | refine c_true (h1 := ?_) | refine c_false (h1 := ?_) | refine c_ret ?_ | refine c_skip ?_ | refine e_then_ret ?_ | refine c_block ?_ | refine c_exit ?_ | refine e_then_exit ?_ | refine e_block_exit ?_ | refine e_block_normal ?_ | refine e_block_ret ?_ | refine o_box (k := fun _ => ?_) | refine o_alloc (k := fun _ => ?_) | refine e_norm ?_ | refine o_ung (k := ?_) | refine o_k (k := ?_) | refine s_v (k := ?_) | refine s_w (k := ?_) | refine s_k (k := ?_) | refine s_nil ?_ | refine e_block_exit_ne rfl ?_)
  exact e_1d (unlock_okD sb 1 38 [.pointer (some ⟨fb, 0, none⟩), .int .i32 1, .int .u32 0, .int .i64 s] rfl) (h1 := rs_tmp rfl) (hT := ⟨rfl, rfl⟩)

/-- what is asked of the file system -/
def askOf (proc : Int) (l : List UInt8) : MArgs := let a := (callsRead proc l).1
  if proc = 16 then { a with count := min a.count 64 } else if proc = 6 then { a with count := min a.count 2048 } else a
def answerP (p : PF) (proc : Int) (l : List UInt8) : PF × MRes := if (callsRead proc l).2 ≠ 0 then (p, res0 2) else doP p (askOf proc l)

set_option maxRecDepth 20000 in
set_option maxHeartbeats 4000000 in
theorem answer_ok (own : Bool) (sb fb : Nat) (lay : Lay) (p : PF) (s : Int) (proc : Int) (l : List UInt8) (q : Option Addr) (c : Nat) (m : Int) (hl : l.length ≤ 1000000) (hD : ∀ q c, (callsRead proc l).2 = 0 → DoSpec fb lay p (askOf proc l) q c) : Ct Tryz.prog 41 [.pointer (some ⟨sb, 0, none⟩), .int .i64 proc, .slice q l.length c] [blk sb 38 [.pointer (some ⟨fb, 0, none⟩), .int .i32 m, .int .u32 0, .int .i64 s] (0, 0), fsA fb lay p, bytesA own q l] (Ret fun u H => ∃ lay' q1 c1 q2 c2, (((answerP p proc l).2.data.length ≤ c1 ∧ c1 ≤ 9223372036854775807) ∧ (answerP p proc l).2.ents.length ≤ c2 ∧ c2 ≤ 9223372036854775807) ∧ u = .agg (resC (answerP p proc l).2 q1 c1 q2 c2).toArray ∧ H = [blk sb 38 [.pointer (some ⟨fb, 0, none⟩), .int .i32 m, .int .u32 0, .int .i64 s] (0, 0), fsA fb lay' (answerP p proc l).1, bytesA true q1 (answerP p proc l).2.data, cellsA true q2 (entsC (answerP p proc l).2.ents), bytesA own q l]) := by
  refine fn_enter Tryz.func41 rfl Tryz.ntmps41 rfl fun _ _ _ => ?_
  repeat (first | refine o_v (k := ?_) | refine c_seq ?_ | refine c_region ?_ | refine o_nil ?_ | refine e_then_normal ?_ | refine o_store (k := ?_) | refine c_true (h1 := ?_) | refine c_false (h1 := ?_) | refine c_ret ?_ | refine c_skip ?_ | refine e_then_ret ?_ | refine c_block ?_ | refine c_exit ?_ | refine e_then_exit ?_ | refine e_block_exit ?_ | refine e_block_normal ?_ | refine e_block_ret ?_ | refine o_box (k := fun _ => ?_) | refine o_alloc (k := fun _ => ?_) | refine e_norm ?_ | refine o_ung (k := ?_) | refine o_k (k := ?_) | refine s_v (k := ?_) | refine s_w (k := ?_) | refine s_k (k := ?_) | refine s_nil ?_ | refine e_block_exit_ne rfl ?_)
  rename_i rb
  refine o_call (callsRead_ok own proc q l c hl) (k := ?_)
  rintro _ _ ⟨q', c', hq', rfl, rfl⟩
  dsimp only [List.cons_append, List.nil_append]
  repeat (first | refine o_v (k := ?_) | refine c_seq ?_ | refine c_region ?_ | refine o_nil ?_ | refine e_then_normal ?_ | refine o_store (k := ?_) | refine c_true (h1 := ?_) | refine c_false (h1 := ?_) | refine c_ret ?_ | refine c_skip ?_ | refine e_then_ret ?_ | refine c_block ?_ | refine c_exit ?_ | refine e_then_exit ?_ | refine e_block_exit ?_ | refine e_block_normal ?_ | refine e_block_ret ?_ | refine o_box (k := fun _ => ?_) | refine o_alloc (k := fun _ => ?_) | refine e_norm ?_ | refine o_ung (k := ?_) | refine o_k (k := ?_) | refine s_v (k := ?_) | refine s_w (k := ?_) | refine s_k (k := ?_) | refine s_nil ?_ | refine e_block_exit_ne rfl ?_)
  rename_i ab
  refine c_if (h1 := fun h => ?_) (h2 := fun h => ?_)
  · have hne : (callsRead proc l).2 ≠ 0 := by simpa using h
    have hA : answerP p proc l = (p, res0 2) := if_pos hne
    rw [hA]
    repeat (first | refine o_v (k := ?_) | refine c_seq ?_ | refine c_region ?_ | refine o_nil ?_ | refine e_then_normal ?_ | refine o_store (k := ?_) | refine c_true (h1 := ?_) | refine c_false (h1 := ?_) | refine c_ret ?_ | refine c_skip ?_ | refine e_then_ret ?_ | refine c_block ?_ | refine c_exit ?_ | refine e_then_exit ?_ | refine e_block_exit ?_ | refine e_block_normal ?_ | refine e_block_ret ?_ | refine o_box (k := fun _ => ?_) | refine o_alloc (k := fun _ => ?_) | refine e_norm ?_ | refine o_ung (k := ?_) | refine o_k (k := ?_) | refine s_v (k := ?_) | refine s_w (k := ?_) | refine s_k (k := ?_) | refine s_nil ?_ | refine e_block_exit_ne rfl ?_)
    refine e_add0 (bytesA true none []) (fun w => cellsA_nil _ w) (k := ?_)
    refine e_add0 (cellsA true none (entsC [])) (fun w => cellsA_nil _ w) (k := ?_)
    exact e_1 (h1 := rs_blk) (hT := ⟨lay, none, 0, none, 0, by simp [res0], rfl, rfl⟩)
  have h0 : (callsRead proc l).2 = 0 := by simpa using h
  have hA : answerP p proc l = doP p (askOf proc l) := if_neg (by simpa using h0)
  rw [hA]
  have hDo := hD q' c' h0
  unfold DoSpec at hDo
  have hdat : (askOf proc l).data = (callsRead proc l).1.data := by unfold askOf; dsimp only; split; (· rfl); split <;> rfl
  rw [hdat] at hDo
  repeat (first | refine o_v (k := ?_) | refine c_seq ?_ | refine c_region ?_ | refine o_nil ?_ | refine e_then_normal ?_ | refine o_store (k := ?_) | refine c_true (h1 := ?_) | refine c_false (h1 := ?_) | refine c_ret ?_ | refine c_skip ?_ | refine e_then_ret ?_ | refine c_block ?_ | refine c_exit ?_ | refine e_then_exit ?_ | refine e_block_exit ?_ | refine e_block_normal ?_ | refine e_block_ret ?_ | refine o_box (k := fun _ => ?_) | refine o_alloc (k := fun _ => ?_) | refine e_norm ?_ | refine o_ung (k := ?_) | refine o_k (k := ?_) | refine s_v (k := ?_) | refine s_w (k := ?_) | refine s_k (k := ?_) | refine s_nil ?_ | refine e_block_exit_ne rfl ?_)
  refine c_if (h1 := fun h => ?_) (h2 := fun h16 => ?_)
  · have hp : proc = 16 := by simpa using h
    have e : ([.int .i64 (callsRead proc l).1.proc, .int .i64 (callsRead proc l).1.off, .int .i64 (min (callsRead proc l).1.count 64), .int .i64 (callsRead proc l).1.size, .int .i64 (callsRead proc l).1.mode, .int .i64 (callsRead proc l).1.ino, .int .i64 (callsRead proc l).1.gen, .int .i64 (callsRead proc l).1.ino2, .int .i64 (callsRead proc l).1.gen2, str (callsRead proc l).1.name, str (callsRead proc l).1.name2, .slice q' (callsRead proc l).1.data.length c'] : List Value) = argsC (askOf proc l) q' c' := by subst hp; rfl
    repeat (first | refine o_v (k := ?_) | refine c_seq ?_ | refine c_region ?_ | refine o_nil ?_ | refine e_then_normal ?_ | refine o_store (k := ?_) | refine c_true (h1 := ?_) | refine c_false (h1 := ?_) | refine c_ret ?_ | refine c_skip ?_ | refine e_then_ret ?_ | refine c_block ?_ | refine c_exit ?_ | refine e_then_exit ?_ | refine e_block_exit ?_ | refine e_block_normal ?_ | refine e_block_ret ?_ | refine o_box (k := fun _ => ?_) | refine o_alloc (k := fun _ => ?_) | refine e_norm ?_ | refine o_ung (k := ?_) | refine o_k (k := ?_) | refine s_v (k := ?_) | refine s_w (k := ?_) | refine s_k (k := ?_) | refine s_nil ?_ | refine e_block_exit_ne rfl ?_)
    rw [e]
    refine c_j [blk ab 70 (argsC (askOf proc l) q' c') (0, 0), blk sb 38 [.pointer (some ⟨fb, 0, none⟩), .int .i32 m, .int .u32 0, .int .i64 s] (0, 0)] [0, 1, 2, 3, 4] ?_
    refine j_v 0 (k := ?_); refine j_v 1 (k := ?_); refine j_v 2 (k := ?_); refine j_v 3 (k := ?_); refine j_v 4 (k := ?_)
    refine j_one 5 (nd := true) (k := ?_)
    refine o_call hDo (k := ?_)
    rintro _ _ ⟨lay', q1, c1, q2, c2, hb, rfl, rfl⟩
    dsimp only [List.cons_append, List.nil_append]
    refine o_nil ?_
    refine e_jt (k := ?_)
    refine j_one 6 (nd := false) (k := ?_); (repeat (first | refine o_v (k := ?_) | refine c_seq ?_ | refine c_region ?_ | refine o_nil ?_ | refine e_then_normal ?_ | refine o_store (k := ?_) | refine c_true (h1 := ?_) | refine c_false (h1 := ?_) | refine c_ret ?_ | refine c_skip ?_ | refine e_then_ret ?_ | refine c_block ?_ | refine c_exit ?_ | refine e_then_exit ?_ | refine e_block_exit ?_ | refine e_block_normal ?_ | refine e_block_ret ?_ | refine o_box (k := fun _ => ?_) | refine o_alloc (k := fun _ => ?_) | refine e_norm ?_ | refine o_ung (k := ?_) | refine o_k (k := ?_) | refine s_v (k := ?_) | refine s_w (k := ?_) | refine s_k (k := ?_) | refine s_nil ?_ | refine e_block_exit_ne rfl ?_)); refine e_jf (k := ?_)
    refine j_end (k := ?_)
    repeat (first | refine o_v (k := ?_) | refine c_seq ?_ | refine c_region ?_ | refine o_nil ?_ | refine e_then_normal ?_ | refine o_store (k := ?_) | refine c_true (h1 := ?_) | refine c_false (h1 := ?_) | refine c_ret ?_ | refine c_skip ?_ | refine e_then_ret ?_ | refine c_block ?_ | refine c_exit ?_ | refine e_then_exit ?_ | refine e_block_exit ?_ | refine e_block_normal ?_ | refine e_block_ret ?_ | refine o_box (k := fun _ => ?_) | refine o_alloc (k := fun _ => ?_) | refine e_norm ?_ | refine o_ung (k := ?_) | refine o_k (k := ?_) | refine s_v (k := ?_) | refine s_w (k := ?_) | refine s_k (k := ?_) | refine s_nil ?_ | refine e_block_exit_ne rfl ?_)
    exact e_1 (h1 := rs_blk) (hT := ⟨lay', q1, c1, q2, c2, hb, rfl, rfl⟩)
  repeat (first | refine o_v (k := ?_) | refine c_seq ?_ | refine c_region ?_ | refine o_nil ?_ | refine e_then_normal ?_ | refine o_store (k := ?_) | refine c_true (h1 := ?_) | refine c_false (h1 := ?_) | refine c_ret ?_ | refine c_skip ?_ | refine e_then_ret ?_ | refine c_block ?_ | refine c_exit ?_ | refine e_then_exit ?_ | refine e_block_exit ?_ | refine e_block_normal ?_ | refine e_block_ret ?_ | refine o_box (k := fun _ => ?_) | refine o_alloc (k := fun _ => ?_) | refine e_norm ?_ | refine o_ung (k := ?_) | refine o_k (k := ?_) | refine s_v (k := ?_) | refine s_w (k := ?_) | refine s_k (k := ?_) | refine s_nil ?_ | refine e_block_exit_ne rfl ?_)
  refine c_if (h1 := fun h => ?_) (h2 := fun h6 => ?_)
  · have hp : proc = 6 := by simpa using h
    have e : ([.int .i64 (callsRead proc l).1.proc, .int .i64 (callsRead proc l).1.off, .int .i64 (min (callsRead proc l).1.count 2048), .int .i64 (callsRead proc l).1.size, .int .i64 (callsRead proc l).1.mode, .int .i64 (callsRead proc l).1.ino, .int .i64 (callsRead proc l).1.gen, .int .i64 (callsRead proc l).1.ino2, .int .i64 (callsRead proc l).1.gen2, str (callsRead proc l).1.name, str (callsRead proc l).1.name2, .slice q' (callsRead proc l).1.data.length c'] : List Value) = argsC (askOf proc l) q' c' := by subst hp; rfl
    repeat (first | refine o_v (k := ?_) | refine c_seq ?_ | refine c_region ?_ | refine o_nil ?_ | refine e_then_normal ?_ | refine o_store (k := ?_) | refine c_true (h1 := ?_) | refine c_false (h1 := ?_) | refine c_ret ?_ | refine c_skip ?_ | refine e_then_ret ?_ | refine c_block ?_ | refine c_exit ?_ | refine e_then_exit ?_ | refine e_block_exit ?_ | refine e_block_normal ?_ | refine e_block_ret ?_ | refine o_box (k := fun _ => ?_) | refine o_alloc (k := fun _ => ?_) | refine e_norm ?_ | refine o_ung (k := ?_) | refine o_k (k := ?_) | refine s_v (k := ?_) | refine s_w (k := ?_) | refine s_k (k := ?_) | refine s_nil ?_ | refine e_block_exit_ne rfl ?_)
    rw [e]
    refine c_j [blk ab 70 (argsC (askOf proc l) q' c') (0, 0), blk sb 38 [.pointer (some ⟨fb, 0, none⟩), .int .i32 m, .int .u32 0, .int .i64 s] (0, 0)] [0, 1, 2, 3, 4] ?_
    refine j_v 0 (k := ?_); refine j_v 1 (k := ?_); refine j_v 2 (k := ?_); refine j_v 3 (k := ?_); refine j_v 4 (k := ?_)
    refine j_one 5 (nd := true) (k := ?_)
    refine o_call hDo (k := ?_)
    rintro _ _ ⟨lay', q1, c1, q2, c2, hb, rfl, rfl⟩
    dsimp only [List.cons_append, List.nil_append]
    refine o_nil ?_
    refine e_jt (k := ?_)
    refine j_one 6 (nd := false) (k := ?_); (repeat (first | refine o_v (k := ?_) | refine c_seq ?_ | refine c_region ?_ | refine o_nil ?_ | refine e_then_normal ?_ | refine o_store (k := ?_) | refine c_true (h1 := ?_) | refine c_false (h1 := ?_) | refine c_ret ?_ | refine c_skip ?_ | refine e_then_ret ?_ | refine c_block ?_ | refine c_exit ?_ | refine e_then_exit ?_ | refine e_block_exit ?_ | refine e_block_normal ?_ | refine e_block_ret ?_ | refine o_box (k := fun _ => ?_) | refine o_alloc (k := fun _ => ?_) | refine e_norm ?_ | refine o_ung (k := ?_) | refine o_k (k := ?_) | refine s_v (k := ?_) | refine s_w (k := ?_) | refine s_k (k := ?_) | refine s_nil ?_ | refine e_block_exit_ne rfl ?_)); refine e_jf (k := ?_)
    refine j_end (k := ?_)
    repeat (first | refine o_v (k := ?_) | refine c_seq ?_ | refine c_region ?_ | refine o_nil ?_ | refine e_then_normal ?_ | refine o_store (k := ?_) | refine c_true (h1 := ?_) | refine c_false (h1 := ?_) | refine c_ret ?_ | refine c_skip ?_ | refine e_then_ret ?_ | refine c_block ?_ | refine c_exit ?_ | refine e_then_exit ?_ | refine e_block_exit ?_ | refine e_block_normal ?_ | refine e_block_ret ?_ | refine o_box (k := fun _ => ?_) | refine o_alloc (k := fun _ => ?_) | refine e_norm ?_ | refine o_ung (k := ?_) | refine o_k (k := ?_) | refine s_v (k := ?_) | refine s_w (k := ?_) | refine s_k (k := ?_) | refine s_nil ?_ | refine e_block_exit_ne rfl ?_)
    exact e_1 (h1 := rs_blk) (hT := ⟨lay', q1, c1, q2, c2, hb, rfl, rfl⟩)
  · have h1 : ¬ proc = 16 := by simpa using h16
    have h2 : ¬ proc = 6 := by simpa using h6
    have e : ([.int .i64 (callsRead proc l).1.proc, .int .i64 (callsRead proc l).1.off, .int .i64 (callsRead proc l).1.count, .int .i64 (callsRead proc l).1.size, .int .i64 (callsRead proc l).1.mode, .int .i64 (callsRead proc l).1.ino, .int .i64 (callsRead proc l).1.gen, .int .i64 (callsRead proc l).1.ino2, .int .i64 (callsRead proc l).1.gen2, str (callsRead proc l).1.name, str (callsRead proc l).1.name2, .slice q' (callsRead proc l).1.data.length c'] : List Value) = argsC (askOf proc l) q' c' := by unfold askOf; dsimp only; rw [if_neg h1, if_neg h2]; rfl
    repeat (first | refine o_v (k := ?_) | refine c_seq ?_ | refine c_region ?_ | refine o_nil ?_ | refine e_then_normal ?_ | refine o_store (k := ?_) | refine c_true (h1 := ?_) | refine c_false (h1 := ?_) | refine c_ret ?_ | refine c_skip ?_ | refine e_then_ret ?_ | refine c_block ?_ | refine c_exit ?_ | refine e_then_exit ?_ | refine e_block_exit ?_ | refine e_block_normal ?_ | refine e_block_ret ?_ | refine o_box (k := fun _ => ?_) | refine o_alloc (k := fun _ => ?_) | refine e_norm ?_ | refine o_ung (k := ?_) | refine o_k (k := ?_) | refine s_v (k := ?_) | refine s_w (k := ?_) | refine s_k (k := ?_) | refine s_nil ?_ | refine e_block_exit_ne rfl ?_)
    rw [e]
    refine c_j [blk ab 70 (argsC (askOf proc l) q' c') (0, 0), blk sb 38 [.pointer (some ⟨fb, 0, none⟩), .int .i32 m, .int .u32 0, .int .i64 s] (0, 0)] [0, 1, 2, 3, 4] ?_
    refine j_v 0 (k := ?_); refine j_v 1 (k := ?_); refine j_v 2 (k := ?_); refine j_v 3 (k := ?_); refine j_v 4 (k := ?_)
    refine j_one 5 (nd := true) (k := ?_)
    refine o_call hDo (k := ?_)
    rintro _ _ ⟨lay', q1, c1, q2, c2, hb, rfl, rfl⟩
    dsimp only [List.cons_append, List.nil_append]
    refine o_nil ?_
    refine e_jt (k := ?_)
    refine j_one 6 (nd := false) (k := ?_); (repeat (first | refine o_v (k := ?_) | refine c_seq ?_ | refine c_region ?_ | refine o_nil ?_ | refine e_then_normal ?_ | refine o_store (k := ?_) | refine c_true (h1 := ?_) | refine c_false (h1 := ?_) | refine c_ret ?_ | refine c_skip ?_ | refine e_then_ret ?_ | refine c_block ?_ | refine c_exit ?_ | refine e_then_exit ?_ | refine e_block_exit ?_ | refine e_block_normal ?_ | refine e_block_ret ?_ | refine o_box (k := fun _ => ?_) | refine o_alloc (k := fun _ => ?_) | refine e_norm ?_ | refine o_ung (k := ?_) | refine o_k (k := ?_) | refine s_v (k := ?_) | refine s_w (k := ?_) | refine s_k (k := ?_) | refine s_nil ?_ | refine e_block_exit_ne rfl ?_)); refine e_jf (k := ?_)
    refine j_end (k := ?_)
    repeat (first | refine o_v (k := ?_) | refine c_seq ?_ | refine c_region ?_ | refine o_nil ?_ | refine e_then_normal ?_ | refine o_store (k := ?_) | refine c_true (h1 := ?_) | refine c_false (h1 := ?_) | refine c_ret ?_ | refine c_skip ?_ | refine e_then_ret ?_ | refine c_block ?_ | refine c_exit ?_ | refine e_then_exit ?_ | refine e_block_exit ?_ | refine e_block_normal ?_ | refine e_block_ret ?_ | refine o_box (k := fun _ => ?_) | refine o_alloc (k := fun _ => ?_) | refine e_norm ?_ | refine o_ung (k := ?_) | refine o_k (k := ?_) | refine s_v (k := ?_) | refine s_w (k := ?_) | refine s_k (k := ?_) | refine s_nil ?_ | refine e_block_exit_ne rfl ?_)
    exact e_1 (h1 := rs_blk) (hT := ⟨lay', q1, c1, q2, c2, hb, rfl, rfl⟩)
end Go.Proofs.YtlkgdidmhmaneaaGreatDoor
/- serve.Serve: what it leaves, of what Do does. -/
namespace Go.Proofs.YtlkgdidmhmaneaaGreatDoor
open Go Go.RowKit
theorem rpcRead_lt {l : List UInt8} {r : Bool} {xid proc : Nat} {body : List UInt8} (h : rpcRead l = some (r, xid, proc, body)) : xid < 4294967296 ∧ proc < 4294967296 ∧ body.length ≤ l.length := by
  unfold rpcRead at h
  split at h
  · cases h
  · simp only [Option.some.injEq, Prod.mk.injEq] at h
    obtain ⟨_, rfl, rfl, rfl⟩ := h
    exact ⟨nextS_lt _ _, nextS_lt _ _, by simp⟩
/-- a record's reply, and the file system behind it: none, if there is no reply -/
def serveP (p : PF) (l : List UInt8) : Option (PF × List UInt8) := match rpcRead l with
  | none => none
  | some (r, xid, proc, body) => if r = true ∨ ¬ (proc : Int) ∈ procsL then none else some ((answerP p proc body).1, msgB true xid proc (ansB proc (answerP p proc body).2))
attribute [local irreducible] Yl OG CG EG SG AG  CellIn CellsIn BlkIn InA TakeA SplitA SubA Ct ResOk Good Held blk cellsA exA

set_option maxRecDepth 20000 in
set_option maxHeartbeats 4000000 in
theorem serve_ok (own : Bool) (sb fb : Nat) (lay : Lay) (p : PF) (s : Int) (l : List UInt8) (q : Option Addr) (c : Nat) (hs : 0 ≤ s ∧ s ≤ 1000000) (hc : l.length ≤ c) (hm : c ≤ 9223372036854775807) (hl : l.length ≤ 100000)
    (hD : ∀ xid proc body, rpcRead l = some (false, xid, proc, body) → (∀ q c, (callsRead proc body).2 = 0 → DoSpec fb lay p (askOf proc body) q c) ∧ ((proc : Int) ∈ procsL → mayM proc (answerP p proc body).2 = true) ∧ ((answerP p proc body).2.data.length ≤ 10000 ∧ (answerP p proc body).2.ents.length ≤ 1000 ∧ (∀ e ∈ (answerP p proc body).2.ents, e.1.length ≤ 1000) ∧ (ansB proc (answerP p proc body).2).length ≤ 100000)) :
    Ct Tryz.prog 22 [.pointer (some ⟨sb, 0, none⟩), .slice q l.length c] (srvA sb fb lay p s ++ [bytesA own q l, tabA]) (Ret fun u H => match serveP p l with
      | none => u = .tuple #[.slice none 0 0, .bool false] ∧ H = srvA sb fb lay p s ++ [bytesA own q l, tabA]
      | some (p', out) => ∃ lay' v, u = .tuple #[v, .bool true] ∧ H = bufA v out :: (srvA sb fb lay' p' (s + 1) ++ [bytesA own q l, tabA])) := by
  refine fn_enter_d Tryz.func22 rfl Tryz.ntmps22 rfl fun _ _ _ => ?_
  unfold srvA
  simp only [List.cons_append, List.nil_append]
  repeat (first | refine o_v (k := ?_) | refine c_seq ?_ | refine c_region ?_ | refine o_nil ?_ | refine e_then_normal ?_ | refine o_store (k := ?_) | refine c_true (h1 := ?_) | refine c_false (h1 := ?_) | refine c_ret ?_ | refine c_skip ?_ | refine e_then_ret ?_ | refine c_block ?_ | refine c_exit ?_ | refine e_then_exit ?_ | refine e_block_exit ?_ | refine e_block_normal ?_ | refine e_block_ret ?_ | refine o_box (k := fun _ => ?_) | refine o_alloc (k := fun _ => ?_) | refine e_norm ?_ | refine o_ung (k := ?_) | refine o_k (k := ?_) | refine s_v (k := ?_) | refine s_w (k := ?_) | refine s_k (k := ?_) | refine s_nil ?_ | refine e_block_exit_ne rfl ?_)
  refine o_call (rpcRead_ok own q l c hc hm (by omega)) (k := ?_)
  intro u H' hT
  cases hR : rpcRead l with
  | none =>
    rw [hR] at hT
    obtain ⟨pv, rfl, rfl⟩ := hT
    have hS : serveP p l = none := by simp [serveP, hR]
    simp only [hS]
    dsimp only [List.cons_append, List.nil_append]
    repeat (first | refine o_v (k := ?_) | refine c_seq ?_ | refine c_region ?_ | refine o_nil ?_ | refine e_then_normal ?_ | refine o_store (k := ?_) | refine c_true (h1 := ?_) | refine c_false (h1 := ?_) | refine c_ret ?_ | refine c_skip ?_ | refine e_then_ret ?_ | refine c_block ?_ | refine c_exit ?_ | refine e_then_exit ?_ | refine e_block_exit ?_ | refine e_block_normal ?_ | refine e_block_ret ?_ | refine o_box (k := fun _ => ?_) | refine o_alloc (k := fun _ => ?_) | refine e_norm ?_ | refine o_ung (k := ?_) | refine o_k (k := ?_) | refine s_v (k := ?_) | refine s_w (k := ?_) | refine s_k (k := ?_) | refine s_nil ?_ | refine e_block_exit_ne rfl ?_)
    exact e_2n (h1 := rs_tmp rfl) (h2 := rs_tmp rfl) (hT := ⟨rfl, rfl⟩)
  | some out =>
    obtain ⟨r, xid, proc, body⟩ := out
    rw [hR] at hT
    obtain ⟨q', c', hb1, hb2, rfl, rfl⟩ := hT
    obtain ⟨hx, hp, hbl⟩ := rpcRead_lt hR
    dsimp only [List.cons_append, List.nil_append]
    repeat (first | refine o_v (k := ?_) | refine c_seq ?_ | refine c_region ?_ | refine o_nil ?_ | refine e_then_normal ?_ | refine o_store (k := ?_) | refine c_true (h1 := ?_) | refine c_false (h1 := ?_) | refine c_ret ?_ | refine c_skip ?_ | refine e_then_ret ?_ | refine c_block ?_ | refine c_exit ?_ | refine e_then_exit ?_ | refine e_block_exit ?_ | refine e_block_normal ?_ | refine e_block_ret ?_ | refine o_box (k := fun _ => ?_) | refine o_alloc (k := fun _ => ?_) | refine e_norm ?_ | refine o_ung (k := ?_) | refine o_k (k := ?_) | refine s_v (k := ?_) | refine s_w (k := ?_) | refine s_k (k := ?_) | refine s_nil ?_ | refine e_block_exit_ne rfl ?_)
    rename_i mb
    cases r with
    | true =>
      have hS : serveP p l = none := by simp [serveP, hR]
      simp only [hS]
      repeat (first | refine o_v (k := ?_) | refine c_seq ?_ | refine c_region ?_ | refine o_nil ?_ | refine e_then_normal ?_ | refine o_store (k := ?_) | refine c_true (h1 := ?_) | refine c_false (h1 := ?_) | refine c_ret ?_ | refine c_skip ?_ | refine e_then_ret ?_ | refine c_block ?_ | refine c_exit ?_ | refine e_then_exit ?_ | refine e_block_exit ?_ | refine e_block_normal ?_ | refine e_block_ret ?_ | refine o_box (k := fun _ => ?_) | refine o_alloc (k := fun _ => ?_) | refine e_norm ?_ | refine o_ung (k := ?_) | refine o_k (k := ?_) | refine s_v (k := ?_) | refine s_w (k := ?_) | refine s_k (k := ?_) | refine s_nil ?_ | refine e_block_exit_ne rfl ?_)
      exact e_2n (h1 := rs_tmp rfl) (h2 := rs_tmp rfl) (hT := ⟨rfl, rfl⟩)
    | false =>
      repeat (first | refine o_v (k := ?_) | refine c_seq ?_ | refine c_region ?_ | refine o_nil ?_ | refine e_then_normal ?_ | refine o_store (k := ?_) | refine c_true (h1 := ?_) | refine c_false (h1 := ?_) | refine c_ret ?_ | refine c_skip ?_ | refine e_then_ret ?_ | refine c_block ?_ | refine c_exit ?_ | refine e_then_exit ?_ | refine e_block_exit ?_ | refine e_block_normal ?_ | refine e_block_ret ?_ | refine o_box (k := fun _ => ?_) | refine o_alloc (k := fun _ => ?_) | refine e_norm ?_ | refine o_ung (k := ?_) | refine o_k (k := ?_) | refine s_v (k := ?_) | refine s_w (k := ?_) | refine s_k (k := ?_) | refine s_nil ?_ | refine e_block_exit_ne rfl ?_)
      refine o_call procs_ok (k := ?_)
      rintro _ _ ⟨pb, rfl, rfl⟩
      dsimp only [List.cons_append, List.nil_append]
      repeat (first | refine o_v (k := ?_) | refine c_seq ?_ | refine c_region ?_ | refine o_nil ?_ | refine e_then_normal ?_ | refine o_store (k := ?_) | refine c_true (h1 := ?_) | refine c_false (h1 := ?_) | refine c_ret ?_ | refine c_skip ?_ | refine e_then_ret ?_ | refine c_block ?_ | refine c_exit ?_ | refine e_then_exit ?_ | refine e_block_exit ?_ | refine e_block_normal ?_ | refine e_block_ret ?_ | refine o_box (k := fun _ => ?_) | refine o_alloc (k := fun _ => ?_) | refine e_norm ?_ | refine o_ung (k := ?_) | refine o_k (k := ?_) | refine s_v (k := ?_) | refine s_w (k := ?_) | refine s_k (k := ?_) | refine s_nil ?_ | refine e_block_exit_ne rfl ?_)
      refine o_call (containsI_ok true (some ⟨pb, 0, none⟩) procsL 11 proc (by decide)) (k := ?_)
      rintro _ _ ⟨rfl, rfl⟩
      dsimp only [List.cons_append, List.nil_append]
      repeat (first | refine o_v (k := ?_) | refine c_seq ?_ | refine c_region ?_ | refine o_nil ?_ | refine e_then_normal ?_ | refine o_store (k := ?_) | refine c_true (h1 := ?_) | refine c_false (h1 := ?_) | refine c_ret ?_ | refine c_skip ?_ | refine e_then_ret ?_ | refine c_block ?_ | refine c_exit ?_ | refine e_then_exit ?_ | refine e_block_exit ?_ | refine e_block_normal ?_ | refine e_block_ret ?_ | refine o_box (k := fun _ => ?_) | refine o_alloc (k := fun _ => ?_) | refine e_norm ?_ | refine o_ung (k := ?_) | refine o_k (k := ?_) | refine s_v (k := ?_) | refine s_w (k := ?_) | refine s_k (k := ?_) | refine s_nil ?_ | refine e_block_exit_ne rfl ?_)
      refine c_if (h1 := fun h => ?_) (h2 := fun h => ?_)
      · have hS : serveP p l = none := by simp at h; simp [serveP, hR, h]
        simp only [hS]
        repeat (first | refine o_v (k := ?_) | refine c_seq ?_ | refine c_region ?_ | refine o_nil ?_ | refine e_then_normal ?_ | refine o_store (k := ?_) | refine c_true (h1 := ?_) | refine c_false (h1 := ?_) | refine c_ret ?_ | refine c_skip ?_ | refine e_then_ret ?_ | refine c_block ?_ | refine c_exit ?_ | refine e_then_exit ?_ | refine e_block_exit ?_ | refine e_block_normal ?_ | refine e_block_ret ?_ | refine o_box (k := fun _ => ?_) | refine o_alloc (k := fun _ => ?_) | refine e_norm ?_ | refine o_ung (k := ?_) | refine o_k (k := ?_) | refine s_v (k := ?_) | refine s_w (k := ?_) | refine s_k (k := ?_) | refine s_nil ?_ | refine e_block_exit_ne rfl ?_)
        exact e_2n (h1 := rs_tmp rfl) (h2 := rs_tmp rfl) (hT := ⟨rfl, rfl⟩)
      have hin : (proc : Int) ∈ procsL := by simpa using h
      obtain ⟨hD1, hD2, hD3, hD4, hD5, hD6⟩ := hD xid proc body hR
      have hmay := hD2 hin
      have hS : serveP p l = some ((answerP p proc body).1, msgB true xid proc (ansB proc (answerP p proc body).2)) := by simp [serveP, hR, hin]
      simp only [hS]
      repeat (first | refine o_v (k := ?_) | refine c_seq ?_ | refine c_region ?_ | refine o_nil ?_ | refine e_then_normal ?_ | refine o_store (k := ?_) | refine c_true (h1 := ?_) | refine c_false (h1 := ?_) | refine c_ret ?_ | refine c_skip ?_ | refine e_then_ret ?_ | refine c_block ?_ | refine c_exit ?_ | refine e_then_exit ?_ | refine e_block_exit ?_ | refine e_block_normal ?_ | refine e_block_ret ?_ | refine o_box (k := fun _ => ?_) | refine o_alloc (k := fun _ => ?_) | refine e_norm ?_ | refine o_ung (k := ?_) | refine o_k (k := ?_) | refine s_v (k := ?_) | refine s_w (k := ?_) | refine s_k (k := ?_) | refine s_nil ?_ | refine e_block_exit_ne rfl ?_)
      refine o_call (lock_ok sb 1 38 _ rfl) (k := ?_)
      rintro _ _ ⟨rfl, rfl⟩
      dsimp only [List.cons_append, List.nil_append]
      simp only [List.set_cons_succ, List.set_cons_zero]
      repeat (first | refine o_v (k := ?_) | refine c_seq ?_ | refine c_region ?_ | refine o_nil ?_ | refine e_then_normal ?_ | refine o_store (k := ?_) | refine c_true (h1 := ?_) | refine c_false (h1 := ?_) | refine c_ret ?_ | refine c_skip ?_ | refine e_then_ret ?_ | refine c_block ?_ | refine c_exit ?_ | refine e_then_exit ?_ | refine e_block_exit ?_ | refine e_block_normal ?_ | refine e_block_ret ?_ | refine o_box (k := fun _ => ?_) | refine o_alloc (k := fun _ => ?_) | refine e_norm ?_ | refine o_ung (k := ?_) | refine o_k (k := ?_) | refine s_v (k := ?_) | refine s_w (k := ?_) | refine s_k (k := ?_) | refine s_nil ?_ | refine e_block_exit_ne rfl ?_)
      refine o_defer (k := ?_)
      repeat (first | refine o_v (k := ?_) | refine c_seq ?_ | refine c_region ?_ | refine o_nil ?_ | refine e_then_normal ?_ | refine o_store (k := ?_) | refine c_true (h1 := ?_) | refine c_false (h1 := ?_) | refine c_ret ?_ | refine c_skip ?_ | refine e_then_ret ?_ | refine c_block ?_ | refine c_exit ?_ | refine e_then_exit ?_ | refine e_block_exit ?_ | refine e_block_normal ?_ | refine e_block_ret ?_ | refine o_box (k := fun _ => ?_) | refine o_alloc (k := fun _ => ?_) | refine e_norm ?_ | refine o_ung (k := ?_) | refine o_k (k := ?_) | refine s_v (k := ?_) | refine s_w (k := ?_) | refine s_k (k := ?_) | refine s_nil ?_ | refine e_block_exit_ne rfl ?_)
      refine o_call (answer_ok true sb fb lay p s proc body q' c' 1 (by omega) hD1) (k := ?_)
      rintro _ _ ⟨lay', q1, c1, q2, c2, hcc, rfl, rfl⟩
      dsimp only [List.cons_append, List.nil_append]
      have hW := ansWrite_ok (proc : Int) (answerP p proc body).2 true true q1 q2 c1 c2 (by omega) (by omega) (fun e he => by have := hD5 e he; omega)
      simp only [if_pos hmay] at hW
      refine o_call hW (k := ?_)
      rintro _ _ ⟨v, rfl, rfl⟩
      dsimp only [List.cons_append, List.nil_append]
      refine o_buf true v (k := ?_)
      rintro q3 c3 rfl hc3 hm3
      repeat (first | refine o_v (k := ?_) | refine c_seq ?_ | refine c_region ?_ | refine o_nil ?_ | refine e_then_normal ?_ | refine o_store (k := ?_) | refine c_true (h1 := ?_) | refine c_false (h1 := ?_) | refine c_ret ?_ | refine c_skip ?_ | refine e_then_ret ?_ | refine c_block ?_ | refine c_exit ?_ | refine e_then_exit ?_ | refine e_block_exit ?_ | refine e_block_normal ?_ | refine e_block_ret ?_ | refine o_box (k := fun _ => ?_) | refine o_alloc (k := fun _ => ?_) | refine e_norm ?_ | refine o_ung (k := ?_) | refine o_k (k := ?_) | refine s_v (k := ?_) | refine s_w (k := ?_) | refine s_k (k := ?_) | refine s_nil ?_ | refine e_block_exit_ne rfl ?_)
      refine o_call (rpcWrite_ok true q3 true xid proc (ansB proc (answerP p proc body).2) c3 hx hp hD6) (k := ?_)
      rintro v _ rfl
      dsimp only [List.cons_append, List.nil_append]
      repeat (first | refine o_v (k := ?_) | refine c_seq ?_ | refine c_region ?_ | refine o_nil ?_ | refine e_then_normal ?_ | refine o_store (k := ?_) | refine c_true (h1 := ?_) | refine c_false (h1 := ?_) | refine c_ret ?_ | refine c_skip ?_ | refine e_then_ret ?_ | refine c_block ?_ | refine c_exit ?_ | refine e_then_exit ?_ | refine e_block_exit ?_ | refine e_block_normal ?_ | refine e_block_ret ?_ | refine o_box (k := fun _ => ?_) | refine o_alloc (k := fun _ => ?_) | refine e_norm ?_ | refine o_ung (k := ?_) | refine o_k (k := ?_) | refine s_v (k := ?_) | refine s_w (k := ?_) | refine s_k (k := ?_) | refine s_nil ?_ | refine e_block_exit_ne rfl ?_)
      exact e_2d (unlock_okD sb 1 38 [.pointer (some ⟨fb, 0, none⟩), .int .i32 1, .int .u32 0, .int .i64 (s + 1)] rfl) (h1 := rs_tmp rfl) (h2 := rs_tmp rfl) (hT := ⟨lay', v, rfl, rfl⟩)
end Go.Proofs.YtlkgdidmhmaneaaGreatDoor
/- the reference of chapter 1: what its functions leave. -/
namespace Go.Proofs.YtlkgdidmhmaneaaGreatDoor
open Go Go.RowKit
def rr (l : List UInt8) (i : Nat) (e : Int) (n : Nat) : Nat × Nat × Int := if e ≠ 0 then (0, i, e) else if l.length < i + n then (0, i, 3) else (be ((l.drop i).take n), i + n, 0)
theorem be4 (a b c d : UInt8) : be [a, b, c, d] = a.toNat * 16777216 + b.toNat * 65536 + c.toNat * 256 + d.toNat := by
  simp [be]; omega
theorem take4 {l : List UInt8} {i : Nat} (h : i + 4 ≤ l.length) : (l.drop i).take 4 = [l[i], l[i + 1], l[i + 2], l[i + 3]] := by
  apply List.ext_getElem?
  intro j
  rw [List.getElem?_take]
  match j with
  | 0 => simp [List.getElem?_drop]
  | 1 => simp [List.getElem?_drop]
  | 2 => simp [List.getElem?_drop]
  | 3 => simp [List.getElem?_drop]
  | j + 4 => rw [if_neg (by omega)]; rfl
attribute [local irreducible] Yl OG CG EG SG AG  CellIn CellsIn BlkIn InA TakeA SplitA SubA Ct ResOk Good Held blk cellsA exA
abbrev rrB (b : Nat) (q : Option Addr) (l : List UInt8) (c i : Nat) (e : Int) : Ast := blk b 113 [.slice q l.length c, .int .i64 i, .int .i64 e] (0, 0)

set_option maxRecDepth 20000 in
set_option maxHeartbeats 4000000 in
theorem xU32_ok (n : Nat) (hn : n < 4294967296) : Ct Tryz.prog 36 [.int .u32 n] [] (Ret fun u H => H = [bufA u (w32 n)]) := by
  refine fn_enter Tryz.func36 rfl Tryz.ntmps36 rfl fun _ _ _ => ?_
  repeat (first | refine o_v (k := ?_) | refine c_seq ?_ | refine c_region ?_ | refine o_nil ?_ | refine e_then_normal ?_ | refine o_store (k := ?_) | refine c_true (h1 := ?_) | refine c_false (h1 := ?_) | refine c_ret ?_ | refine c_skip ?_ | refine e_then_ret ?_ | refine c_block ?_ | refine c_exit ?_ | refine e_then_exit ?_ | refine e_block_exit ?_ | refine e_block_normal ?_ | refine e_block_ret ?_ | refine o_box (k := fun _ => ?_) | refine o_alloc (k := fun _ => ?_) | refine e_norm ?_ | refine o_ung (k := ?_) | refine o_k (k := ?_) | refine s_v (k := ?_) | refine s_w (k := ?_) | refine s_k (k := ?_) | refine s_nil ?_ | refine e_block_exit_ne rfl ?_)
  refine o_litbuf (w32 n) (hL := ?_) (k := fun v => ?_)
  · rw [bys_w32]
    simp [repL]
    omega
  repeat (first | refine o_v (k := ?_) | refine c_seq ?_ | refine c_region ?_ | refine o_nil ?_ | refine e_then_normal ?_ | refine o_store (k := ?_) | refine c_true (h1 := ?_) | refine c_false (h1 := ?_) | refine c_ret ?_ | refine c_skip ?_ | refine e_then_ret ?_ | refine c_block ?_ | refine c_exit ?_ | refine e_then_exit ?_ | refine e_block_exit ?_ | refine e_block_normal ?_ | refine e_block_ret ?_ | refine o_box (k := fun _ => ?_) | refine o_alloc (k := fun _ => ?_) | refine e_norm ?_ | refine o_ung (k := ?_) | refine o_k (k := ?_) | refine s_v (k := ?_) | refine s_w (k := ?_) | refine s_k (k := ?_) | refine s_nil ?_ | refine e_block_exit_ne rfl ?_)
  exact e_1 (h1 := rs_tmp rfl) (H' := [bufA v (w32 n)]) (hT := rfl)

set_option maxRecDepth 20000 in
set_option maxHeartbeats 4000000 in
theorem xBool_ok (is : Bool) : Ct Tryz.prog 104 [.bool is] [] (Ret fun u H => H = [bufA u (w32 is.toNat)]) := by
  refine fn_enter Tryz.func104 rfl Tryz.ntmps104 rfl fun _ _ _ => ?_
  repeat (first | refine o_v (k := ?_) | refine c_seq ?_ | refine c_region ?_ | refine o_nil ?_ | refine e_then_normal ?_ | refine o_store (k := ?_) | refine c_true (h1 := ?_) | refine c_false (h1 := ?_) | refine c_ret ?_ | refine c_skip ?_ | refine e_then_ret ?_ | refine c_block ?_ | refine c_exit ?_ | refine e_then_exit ?_ | refine e_block_exit ?_ | refine e_block_normal ?_ | refine e_block_ret ?_ | refine o_box (k := fun _ => ?_) | refine o_alloc (k := fun _ => ?_) | refine e_norm ?_ | refine o_ung (k := ?_) | refine o_k (k := ?_) | refine s_v (k := ?_) | refine s_w (k := ?_) | refine s_k (k := ?_) | refine s_nil ?_ | refine e_block_exit_ne rfl ?_)
  refine c_if (h1 := fun hi => ?_) (h2 := fun hi => ?_)
  · subst hi
    repeat (first | refine o_v (k := ?_) | refine c_seq ?_ | refine c_region ?_ | refine o_nil ?_ | refine e_then_normal ?_ | refine o_store (k := ?_) | refine c_true (h1 := ?_) | refine c_false (h1 := ?_) | refine c_ret ?_ | refine c_skip ?_ | refine e_then_ret ?_ | refine c_block ?_ | refine c_exit ?_ | refine e_then_exit ?_ | refine e_block_exit ?_ | refine e_block_normal ?_ | refine e_block_ret ?_ | refine o_box (k := fun _ => ?_) | refine o_alloc (k := fun _ => ?_) | refine e_norm ?_ | refine o_ung (k := ?_) | refine o_k (k := ?_) | refine s_v (k := ?_) | refine s_w (k := ?_) | refine s_k (k := ?_) | refine s_nil ?_ | refine e_block_exit_ne rfl ?_ | (refine o_call (xU32_ok 1 (by decide)) (k := ?_); rintro v _ rfl; dsimp only [List.cons_append, List.nil_append]))
    exact e_1 (h1 := rs_tmp rfl) (H' := [bufA v (w32 1)]) (hT := rfl)
  · subst hi
    repeat (first | refine o_v (k := ?_) | refine c_seq ?_ | refine c_region ?_ | refine o_nil ?_ | refine e_then_normal ?_ | refine o_store (k := ?_) | refine c_true (h1 := ?_) | refine c_false (h1 := ?_) | refine c_ret ?_ | refine c_skip ?_ | refine e_then_ret ?_ | refine c_block ?_ | refine c_exit ?_ | refine e_then_exit ?_ | refine e_block_exit ?_ | refine e_block_normal ?_ | refine e_block_ret ?_ | refine o_box (k := fun _ => ?_) | refine o_alloc (k := fun _ => ?_) | refine e_norm ?_ | refine o_ung (k := ?_) | refine o_k (k := ?_) | refine s_v (k := ?_) | refine s_w (k := ?_) | refine s_k (k := ?_) | refine s_nil ?_ | refine e_block_exit_ne rfl ?_ | (refine o_call (xU32_ok 0 (by decide)) (k := ?_); rintro v _ rfl; dsimp only [List.cons_append, List.nil_append]))
    exact e_1 (h1 := rs_tmp rfl) (H' := [bufA v (w32 0)]) (hT := rfl)

set_option maxRecDepth 20000 in
set_option maxHeartbeats 4000000 in
theorem short_ok (b : Nat) (q : Option Addr) (l : List UInt8) (c i : Nat) (e : Int) (n : Nat) (hl : l.length ≤ 10000000) (hi : i ≤ l.length) (hn : n ≤ 5000000000) : Ct Tryz.prog 81 [.pointer (some ⟨b, 0, none⟩), .int .i64 n] [rrB b q l c i e] (Ret fun u H => u = .bool (decide (e ≠ 0 ∨ l.length < i + n)) ∧ H = [rrB b q l c i (if e ≠ 0 then e else if l.length < i + n then 3 else 0)]) := by
  refine fn_enter Tryz.func81 rfl Tryz.ntmps81 rfl fun _ _ _ => ?_
  repeat (first | refine o_v (k := ?_) | refine c_seq ?_ | refine c_region ?_ | refine o_nil ?_ | refine e_then_normal ?_ | refine o_store (k := ?_) | refine c_true (h1 := ?_) | refine c_false (h1 := ?_) | refine c_ret ?_ | refine c_skip ?_ | refine e_then_ret ?_ | refine c_block ?_ | refine c_exit ?_ | refine e_then_exit ?_ | refine e_block_exit ?_ | refine e_block_normal ?_ | refine e_block_ret ?_ | refine o_box (k := fun _ => ?_) | refine o_alloc (k := fun _ => ?_) | refine e_norm ?_ | refine o_ung (k := ?_) | refine o_k (k := ?_) | refine s_v (k := ?_) | refine s_w (k := ?_) | refine s_k (k := ?_) | refine s_nil ?_ | refine e_block_exit_ne rfl ?_)
  refine c_if (h1 := fun h => ?_) (h2 := fun h => ?_)
  · have he : e ≠ 0 := by simpa using h
    repeat (first | refine o_v (k := ?_) | refine c_seq ?_ | refine c_region ?_ | refine o_nil ?_ | refine e_then_normal ?_ | refine o_store (k := ?_) | refine c_true (h1 := ?_) | refine c_false (h1 := ?_) | refine c_ret ?_ | refine c_skip ?_ | refine e_then_ret ?_ | refine c_block ?_ | refine c_exit ?_ | refine e_then_exit ?_ | refine e_block_exit ?_ | refine e_block_normal ?_ | refine e_block_ret ?_ | refine o_box (k := fun _ => ?_) | refine o_alloc (k := fun _ => ?_) | refine e_norm ?_ | refine o_ung (k := ?_) | refine o_k (k := ?_) | refine s_v (k := ?_) | refine s_w (k := ?_) | refine s_k (k := ?_) | refine s_nil ?_ | refine e_block_exit_ne rfl ?_)
    simp only [he, ne_eq, not_false_eq_true, true_or, decide_true, if_true]
    exact e_1 (h1 := rs_tmp rfl) (H' := [rrB b q l c i e]) (hT := ⟨rfl, rfl⟩)
  have he : e = 0 := by simpa using h
  subst he
  repeat (first | refine o_v (k := ?_) | refine c_seq ?_ | refine c_region ?_ | refine o_nil ?_ | refine e_then_normal ?_ | refine o_store (k := ?_) | refine c_true (h1 := ?_) | refine c_false (h1 := ?_) | refine c_ret ?_ | refine c_skip ?_ | refine e_then_ret ?_ | refine c_block ?_ | refine c_exit ?_ | refine e_then_exit ?_ | refine e_block_exit ?_ | refine e_block_normal ?_ | refine e_block_ret ?_ | refine o_box (k := fun _ => ?_) | refine o_alloc (k := fun _ => ?_) | refine e_norm ?_ | refine o_ung (k := ?_) | refine o_k (k := ?_) | refine s_v (k := ?_) | refine s_w (k := ?_) | refine s_k (k := ?_) | refine s_nil ?_ | refine e_block_exit_ne rfl ?_)
  refine c_still (P := Tryz.prog) 11 (by kernel_rfl) ?_
  repeat (first | refine o_v (k := ?_) | refine c_seq ?_ | refine c_region ?_ | refine o_nil ?_ | refine e_then_normal ?_ | refine o_store (k := ?_) | refine c_true (h1 := ?_) | refine c_false (h1 := ?_) | refine c_ret ?_ | refine c_skip ?_ | refine e_then_ret ?_ | refine c_block ?_ | refine c_exit ?_ | refine e_then_exit ?_ | refine e_block_exit ?_ | refine e_block_normal ?_ | refine e_block_ret ?_ | refine o_box (k := fun _ => ?_) | refine o_alloc (k := fun _ => ?_) | refine e_norm ?_ | refine o_ung (k := ?_) | refine o_k (k := ?_) | refine s_v (k := ?_) | refine s_w (k := ?_) | refine s_k (k := ?_) | refine s_nil ?_ | refine e_block_exit_ne rfl ?_)
  refine c_if (h1 := fun h2 => ?_) (h2 := fun h2 => ?_)
  · have hs : l.length < i + n := by simp at h2; omega
    repeat (first | refine o_v (k := ?_) | refine c_seq ?_ | refine c_region ?_ | refine o_nil ?_ | refine e_then_normal ?_ | refine o_store (k := ?_) | refine c_true (h1 := ?_) | refine c_false (h1 := ?_) | refine c_ret ?_ | refine c_skip ?_ | refine e_then_ret ?_ | refine c_block ?_ | refine c_exit ?_ | refine e_then_exit ?_ | refine e_block_exit ?_ | refine e_block_normal ?_ | refine e_block_ret ?_ | refine o_box (k := fun _ => ?_) | refine o_alloc (k := fun _ => ?_) | refine e_norm ?_ | refine o_ung (k := ?_) | refine o_k (k := ?_) | refine s_v (k := ?_) | refine s_w (k := ?_) | refine s_k (k := ?_) | refine s_nil ?_ | refine e_block_exit_ne rfl ?_)
    simp only [hs, ne_eq, not_true, false_or, decide_true, if_false, if_true]
    exact e_1 (h1 := rs_tmp rfl) (H' := [rrB b q l c i 3]) (hT := ⟨rfl, rfl⟩)
  · have hs : ¬ l.length < i + n := by simp at h2; omega
    repeat (first | refine o_v (k := ?_) | refine c_seq ?_ | refine c_region ?_ | refine o_nil ?_ | refine e_then_normal ?_ | refine o_store (k := ?_) | refine c_true (h1 := ?_) | refine c_false (h1 := ?_) | refine c_ret ?_ | refine c_skip ?_ | refine e_then_ret ?_ | refine c_block ?_ | refine c_exit ?_ | refine e_then_exit ?_ | refine e_block_exit ?_ | refine e_block_normal ?_ | refine e_block_ret ?_ | refine o_box (k := fun _ => ?_) | refine o_alloc (k := fun _ => ?_) | refine e_norm ?_ | refine o_ung (k := ?_) | refine o_k (k := ?_) | refine s_v (k := ?_) | refine s_w (k := ?_) | refine s_k (k := ?_) | refine s_nil ?_ | refine e_block_exit_ne rfl ?_)
    simp only [hs, ne_eq, not_true, false_or, decide_false, if_false]
    exact e_1 (h1 := rs_tmp rfl) (H' := [rrB b q l c i 0]) (hT := ⟨rfl, rfl⟩)

set_option maxRecDepth 20000 in
set_option maxHeartbeats 4000000 in
theorem word4_ok (b : Nat) (q : Option Addr) (l : List UInt8) (c i j : Nat) (e : Int) (hl : l.length ≤ 10000000) (hj : j + 4 ≤ l.length) : Ct Tryz.prog 82 [.pointer (some ⟨b, 0, none⟩), .int .i64 j] [rrB b q l c i e, bytesA false q l] (Ret fun u H => u = .int .u32 (be ((l.drop j).take 4)) ∧ H = [rrB b q l c i e]) := by
  refine fn_enter Tryz.func82 rfl Tryz.ntmps82 rfl fun _ _ _ => ?_
  have h0 : l[j]? = some l[j] := List.getElem?_eq_getElem (by omega)
  have h1 : l[j + 1]? = some l[j + 1] := List.getElem?_eq_getElem (by omega)
  have h2 : l[j + 2]? = some l[j + 2] := List.getElem?_eq_getElem (by omega)
  have h3 : l[j + 3]? = some l[j + 3] := List.getElem?_eq_getElem (by omega)
  have g0 := l[j].toNat_lt
  have g1 := l[j + 1].toNat_lt
  have g2 := l[j + 2].toNat_lt
  have g3 := l[j + 3].toNat_lt
  refine c_at false q (bys l) (bys_ne (l := l) (by intro h; simp [h] at hj)) (k := ?_)
  rintro pb po rfl
  repeat (first | refine o_v (k := ?_) | refine c_seq ?_ | refine c_region ?_ | refine o_nil ?_ | refine e_then_normal ?_ | refine o_store (k := ?_) | refine c_true (h1 := ?_) | refine c_false (h1 := ?_) | refine c_ret ?_ | refine c_skip ?_ | refine e_then_ret ?_ | refine c_block ?_ | refine c_exit ?_ | refine e_then_exit ?_ | refine e_block_exit ?_ | refine e_block_normal ?_ | refine e_block_ret ?_ | refine o_box (k := fun _ => ?_) | refine o_alloc (k := fun _ => ?_) | refine e_norm ?_ | refine o_ung (k := ?_) | refine o_k (k := ?_) | refine s_v (k := ?_) | refine s_w (k := ?_) | refine s_k (k := ?_) | refine s_nil ?_ | refine e_block_exit_ne rfl ?_)
  refine c_still (P := Tryz.prog) 41 (by kernel_rfl) ?_
  repeat (first | refine o_v (k := ?_) | refine c_seq ?_ | refine c_region ?_ | refine o_nil ?_ | refine e_then_normal ?_ | refine o_store (k := ?_) | refine c_true (h1 := ?_) | refine c_false (h1 := ?_) | refine c_ret ?_ | refine c_skip ?_ | refine e_then_ret ?_ | refine c_block ?_ | refine c_exit ?_ | refine e_then_exit ?_ | refine e_block_exit ?_ | refine e_block_normal ?_ | refine e_block_ret ?_ | refine o_box (k := fun _ => ?_) | refine o_alloc (k := fun _ => ?_) | refine e_norm ?_ | refine o_ung (k := ?_) | refine o_k (k := ?_) | refine s_v (k := ?_) | refine s_w (k := ?_) | refine s_k (k := ?_) | refine s_nil ?_ | refine e_block_exit_ne rfl ?_)
  refine s_y (y_load rfl (CellIn.cells (by repeat (first | exact InA.here | apply InA.there)) (bys_get h0) (by omega))) rfl ?_
  repeat (first | refine o_v (k := ?_) | refine c_seq ?_ | refine c_region ?_ | refine o_nil ?_ | refine e_then_normal ?_ | refine o_store (k := ?_) | refine c_true (h1 := ?_) | refine c_false (h1 := ?_) | refine c_ret ?_ | refine c_skip ?_ | refine e_then_ret ?_ | refine c_block ?_ | refine c_exit ?_ | refine e_then_exit ?_ | refine e_block_exit ?_ | refine e_block_normal ?_ | refine e_block_ret ?_ | refine o_box (k := fun _ => ?_) | refine o_alloc (k := fun _ => ?_) | refine e_norm ?_ | refine o_ung (k := ?_) | refine o_k (k := ?_) | refine s_v (k := ?_) | refine s_w (k := ?_) | refine s_k (k := ?_) | refine s_nil ?_ | refine e_block_exit_ne rfl ?_)
  refine s_y (y_load rfl (CellIn.cells (by repeat (first | exact InA.here | apply InA.there)) (bys_get h1) (by omega))) rfl ?_
  repeat (first | refine o_v (k := ?_) | refine c_seq ?_ | refine c_region ?_ | refine o_nil ?_ | refine e_then_normal ?_ | refine o_store (k := ?_) | refine c_true (h1 := ?_) | refine c_false (h1 := ?_) | refine c_ret ?_ | refine c_skip ?_ | refine e_then_ret ?_ | refine c_block ?_ | refine c_exit ?_ | refine e_then_exit ?_ | refine e_block_exit ?_ | refine e_block_normal ?_ | refine e_block_ret ?_ | refine o_box (k := fun _ => ?_) | refine o_alloc (k := fun _ => ?_) | refine e_norm ?_ | refine o_ung (k := ?_) | refine o_k (k := ?_) | refine s_v (k := ?_) | refine s_w (k := ?_) | refine s_k (k := ?_) | refine s_nil ?_ | refine e_block_exit_ne rfl ?_)
  refine s_y (y_load rfl (CellIn.cells (by repeat (first | exact InA.here | apply InA.there)) (bys_get h2) (by omega))) rfl ?_
  repeat (first | refine o_v (k := ?_) | refine c_seq ?_ | refine c_region ?_ | refine o_nil ?_ | refine e_then_normal ?_ | refine o_store (k := ?_) | refine c_true (h1 := ?_) | refine c_false (h1 := ?_) | refine c_ret ?_ | refine c_skip ?_ | refine e_then_ret ?_ | refine c_block ?_ | refine c_exit ?_ | refine e_then_exit ?_ | refine e_block_exit ?_ | refine e_block_normal ?_ | refine e_block_ret ?_ | refine o_box (k := fun _ => ?_) | refine o_alloc (k := fun _ => ?_) | refine e_norm ?_ | refine o_ung (k := ?_) | refine o_k (k := ?_) | refine s_v (k := ?_) | refine s_w (k := ?_) | refine s_k (k := ?_) | refine s_nil ?_ | refine e_block_exit_ne rfl ?_)
  refine s_y (y_load rfl (CellIn.cells (by repeat (first | exact InA.here | apply InA.there)) (bys_get h3) (by omega))) rfl ?_
  repeat (first | refine o_v (k := ?_) | refine c_seq ?_ | refine c_region ?_ | refine o_nil ?_ | refine e_then_normal ?_ | refine o_store (k := ?_) | refine c_true (h1 := ?_) | refine c_false (h1 := ?_) | refine c_ret ?_ | refine c_skip ?_ | refine e_then_ret ?_ | refine c_block ?_ | refine c_exit ?_ | refine e_then_exit ?_ | refine e_block_exit ?_ | refine e_block_normal ?_ | refine e_block_ret ?_ | refine o_box (k := fun _ => ?_) | refine o_alloc (k := fun _ => ?_) | refine e_norm ?_ | refine o_ung (k := ?_) | refine o_k (k := ?_) | refine s_v (k := ?_) | refine s_w (k := ?_) | refine s_k (k := ?_) | refine s_nil ?_ | refine e_block_exit_ne rfl ?_)
  have hb : be ((l.drop j).take 4) = l[j].toNat * 16777216 + l[j + 1].toNat * 65536 + l[j + 2].toNat * 256 + l[j + 3].toNat := by rw [take4 hj, be4]
  rw [hb]
  exact e_1 (h1 := rs_tmp rfl) (H' := [rrB b (some ⟨pb, po, none⟩) l c i e]) (hT := ⟨by simp, rfl⟩)

set_option maxRecDepth 20000 in
set_option maxHeartbeats 4000000 in
theorem rrU32_ok (b : Nat) (q : Option Addr) (l : List UInt8) (c i : Nat) (e : Int) (hl : l.length ≤ 10000000) (hi : i ≤ l.length) : Ct Tryz.prog 43 [.pointer (some ⟨b, 0, none⟩)] [rrB b q l c i e, bytesA false q l] (Ret fun u H => u = .int .u32 (rr l i e 4).1 ∧ H = [rrB b q l c (rr l i e 4).2.1 (rr l i e 4).2.2]) := by
  refine fn_enter Tryz.func43 rfl Tryz.ntmps43 rfl fun _ _ _ => ?_
  repeat (first | refine o_v (k := ?_) | refine c_seq ?_ | refine c_region ?_ | refine o_nil ?_ | refine e_then_normal ?_ | refine o_store (k := ?_) | refine c_true (h1 := ?_) | refine c_false (h1 := ?_) | refine c_ret ?_ | refine c_skip ?_ | refine e_then_ret ?_ | refine c_block ?_ | refine c_exit ?_ | refine e_then_exit ?_ | refine e_block_exit ?_ | refine e_block_normal ?_ | refine e_block_ret ?_ | refine o_box (k := fun _ => ?_) | refine o_alloc (k := fun _ => ?_) | refine e_norm ?_ | refine o_ung (k := ?_) | refine o_k (k := ?_) | refine s_v (k := ?_) | refine s_w (k := ?_) | refine s_k (k := ?_) | refine s_nil ?_ | refine e_block_exit_ne rfl ?_)
  refine o_call (short_ok b q l c i e 4 hl hi (by omega)) (k := ?_)
  rintro _ _ ⟨rfl, rfl⟩
  dsimp only [List.cons_append, List.nil_append]
  repeat (first | refine o_v (k := ?_) | refine c_seq ?_ | refine c_region ?_ | refine o_nil ?_ | refine e_then_normal ?_ | refine o_store (k := ?_) | refine c_true (h1 := ?_) | refine c_false (h1 := ?_) | refine c_ret ?_ | refine c_skip ?_ | refine e_then_ret ?_ | refine c_block ?_ | refine c_exit ?_ | refine e_then_exit ?_ | refine e_block_exit ?_ | refine e_block_normal ?_ | refine e_block_ret ?_ | refine o_box (k := fun _ => ?_) | refine o_alloc (k := fun _ => ?_) | refine e_norm ?_ | refine o_ung (k := ?_) | refine o_k (k := ?_) | refine s_v (k := ?_) | refine s_w (k := ?_) | refine s_k (k := ?_) | refine s_nil ?_ | refine e_block_exit_ne rfl ?_)
  refine c_if (h1 := fun h => ?_) (h2 := fun h => ?_)
  · repeat (first | refine o_v (k := ?_) | refine c_seq ?_ | refine c_region ?_ | refine o_nil ?_ | refine e_then_normal ?_ | refine o_store (k := ?_) | refine c_true (h1 := ?_) | refine c_false (h1 := ?_) | refine c_ret ?_ | refine c_skip ?_ | refine e_then_ret ?_ | refine c_block ?_ | refine c_exit ?_ | refine e_then_exit ?_ | refine e_block_exit ?_ | refine e_block_normal ?_ | refine e_block_ret ?_ | refine o_box (k := fun _ => ?_) | refine o_alloc (k := fun _ => ?_) | refine e_norm ?_ | refine o_ung (k := ?_) | refine o_k (k := ?_) | refine s_v (k := ?_) | refine s_w (k := ?_) | refine s_k (k := ?_) | refine s_nil ?_ | refine e_block_exit_ne rfl ?_)
    by_cases he : e ≠ 0
    · have hr : rr l i e 4 = (0, i, e) := by simp [rr, he]
      simp only [hr, if_pos he]
      exact e_1 (h1 := rs_tmp rfl) (H' := [rrB b q l c i e]) (hT := ⟨rfl, rfl⟩)
    · have hs : l.length < i + 4 := by simp at h he; omega
      have he' : e = 0 := by simpa using he
      have hr : rr l i e 4 = (0, i, 3) := by subst he'; simp [rr, hs]
      simp only [hr, if_neg he, if_pos hs]
      exact e_1 (h1 := rs_tmp rfl) (H' := [rrB b q l c i 3]) (hT := ⟨rfl, rfl⟩)
  · have he : e = 0 := by simp at h; exact h.1
    have hs : ¬ l.length < i + 4 := by simp at h; omega
    subst he
    have hr : rr l i 0 4 = (be ((l.drop i).take 4), i + 4, 0) := by simp [rr, hs]
    simp only [hr, ne_eq, not_true, if_false, if_neg hs]
    repeat (first | refine o_v (k := ?_) | refine c_seq ?_ | refine c_region ?_ | refine o_nil ?_ | refine e_then_normal ?_ | refine o_store (k := ?_) | refine c_true (h1 := ?_) | refine c_false (h1 := ?_) | refine c_ret ?_ | refine c_skip ?_ | refine e_then_ret ?_ | refine c_block ?_ | refine c_exit ?_ | refine e_then_exit ?_ | refine e_block_exit ?_ | refine e_block_normal ?_ | refine e_block_ret ?_ | refine o_box (k := fun _ => ?_) | refine o_alloc (k := fun _ => ?_) | refine e_norm ?_ | refine o_ung (k := ?_) | refine o_k (k := ?_) | refine s_v (k := ?_) | refine s_w (k := ?_) | refine s_k (k := ?_) | refine s_nil ?_ | refine e_block_exit_ne rfl ?_)
    refine o_call (word4_ok b q l c i i 0 hl (by omega)) (k := ?_)
    rintro _ _ ⟨rfl, rfl⟩
    dsimp only [List.cons_append, List.nil_append]
    repeat (first | refine o_v (k := ?_) | refine c_seq ?_ | refine c_region ?_ | refine o_nil ?_ | refine e_then_normal ?_ | refine o_store (k := ?_) | refine c_true (h1 := ?_) | refine c_false (h1 := ?_) | refine c_ret ?_ | refine c_skip ?_ | refine e_then_ret ?_ | refine c_block ?_ | refine c_exit ?_ | refine e_then_exit ?_ | refine e_block_exit ?_ | refine e_block_normal ?_ | refine e_block_ret ?_ | refine o_box (k := fun _ => ?_) | refine o_alloc (k := fun _ => ?_) | refine e_norm ?_ | refine o_ung (k := ?_) | refine o_k (k := ?_) | refine s_v (k := ?_) | refine s_w (k := ?_) | refine s_k (k := ?_) | refine s_nil ?_ | refine e_block_exit_ne rfl ?_)
    exact e_1 (h1 := rs_tmp rfl) (H' := [rrB b q l c (i + 4) 0]) (hT := ⟨rfl, rfl⟩)
end Go.Proofs.YtlkgdidmhmaneaaGreatDoor
/- the reference of chapter 6: what its functions leave. -/
namespace Go.Proofs.YtlkgdidmhmaneaaGreatDoor
open Go Go.RowKit
theorem msgL_len (r : Bool) (xid proc : Nat) : (msgL r xid proc).length ≤ 6 := by unfold msgL; split <;> simp
theorem msgB_len (r : Bool) (xid proc : Nat) (body : List UInt8) : (msgB r xid proc body).length ≤ 24 + body.length := by
  have := msgL_len r xid proc
  rw [msgB, List.length_append, flatB_length]; omega
attribute [local irreducible] Yl OG CG EG SG AG  CellIn CellsIn BlkIn InA TakeA SplitA SubA Ct ResOk Good Held blk cellsA exA

set_option maxRecDepth 20000 in
set_option maxHeartbeats 4000000 in
theorem mBytes_ok (r : Bool) (xid proc : Nat) (body : List UInt8) (hx : xid < 4294967296) (hp : proc < 4294967296) (hb : body.length ≤ 100000) : Ct Tryz.prog 20 [.agg #[.bool r, .int .u32 xid, .int .u32 proc, str body]] [] (Ret fun u H => H = [bufA u (msgB r xid proc body)]) := by
  refine fn_enter Tryz.func20 rfl Tryz.ntmps20 rfl fun _ _ _ => ?_
  repeat (first | refine o_v (k := ?_) | refine c_seq ?_ | refine c_region ?_ | refine o_nil ?_ | refine e_then_normal ?_ | refine o_store (k := ?_) | refine c_true (h1 := ?_) | refine c_false (h1 := ?_) | refine c_ret ?_ | refine c_skip ?_ | refine e_then_ret ?_ | refine c_block ?_ | refine c_exit ?_ | refine e_then_exit ?_ | refine e_block_exit ?_ | refine e_block_normal ?_ | refine e_block_ret ?_ | refine o_box (k := fun _ => ?_) | refine o_alloc (k := fun _ => ?_) | refine e_norm ?_ | refine o_ung (k := ?_) | refine o_k (k := ?_) | refine s_v (k := ?_) | refine s_w (k := ?_) | refine s_k (k := ?_) | refine s_nil ?_ | refine e_block_exit_ne rfl ?_)
  rename_i m
  refine o_lit (k := fun a1 => ?_)
  repeat (first | refine o_v (k := ?_) | refine c_seq ?_ | refine c_region ?_ | refine o_nil ?_ | refine e_then_normal ?_ | refine o_store (k := ?_) | refine c_true (h1 := ?_) | refine c_false (h1 := ?_) | refine c_ret ?_ | refine c_skip ?_ | refine e_then_ret ?_ | refine c_block ?_ | refine c_exit ?_ | refine e_then_exit ?_ | refine e_block_exit ?_ | refine e_block_normal ?_ | refine e_block_ret ?_ | refine o_box (k := fun _ => ?_) | refine o_alloc (k := fun _ => ?_) | refine e_norm ?_ | refine o_ung (k := ?_) | refine o_k (k := ?_) | refine s_v (k := ?_) | refine s_w (k := ?_) | refine s_k (k := ?_) | refine s_nil ?_ | refine e_block_exit_ne rfl ?_)
  refine c_mid (α := Nat) (fun a => [(1, .pointer (some ⟨m, 0, none⟩)), (3, .slice (some ⟨a, 0, none⟩) (msgL r xid proc).length (msgL r xid proc).length)]) (fun a => [cellsA true (some ⟨a, 0, none⟩) (nums .u32 (natI (msgL r xid proc))), blk m 66 [.bool r, .int .u32 xid, .int .u32 proc, str body] (0, 0)]) (fun _ => True) ?_ ?_
  · refine c_if (h1 := fun hr => ?_) (h2 := fun hr => ?_)
    · repeat (first | refine o_v (k := ?_) | refine c_seq ?_ | refine c_region ?_ | refine o_nil ?_ | refine e_then_normal ?_ | refine o_store (k := ?_) | refine c_true (h1 := ?_) | refine c_false (h1 := ?_) | refine c_ret ?_ | refine c_skip ?_ | refine e_then_ret ?_ | refine c_block ?_ | refine c_exit ?_ | refine e_then_exit ?_ | refine e_block_exit ?_ | refine e_block_normal ?_ | refine e_block_ret ?_ | refine o_box (k := fun _ => ?_) | refine o_alloc (k := fun _ => ?_) | refine e_norm ?_ | refine o_ung (k := ?_) | refine o_k (k := ?_) | refine s_v (k := ?_) | refine s_w (k := ?_) | refine s_k (k := ?_) | refine s_nil ?_ | refine e_block_exit_ne rfl ?_)
      refine o_lit (k := fun a2 => ?_)
      repeat (first | refine o_v (k := ?_) | refine c_seq ?_ | refine c_region ?_ | refine o_nil ?_ | refine e_then_normal ?_ | refine o_store (k := ?_) | refine c_true (h1 := ?_) | refine c_false (h1 := ?_) | refine c_ret ?_ | refine c_skip ?_ | refine e_then_ret ?_ | refine c_block ?_ | refine c_exit ?_ | refine e_then_exit ?_ | refine e_block_exit ?_ | refine e_block_normal ?_ | refine e_block_ret ?_ | refine o_box (k := fun _ => ?_) | refine o_alloc (k := fun _ => ?_) | refine e_norm ?_ | refine o_ung (k := ?_) | refine o_k (k := ?_) | refine s_v (k := ?_) | refine s_w (k := ?_) | refine s_k (k := ?_) | refine s_nil ?_ | refine e_block_exit_ne rfl ?_)
      subst hr
      refine e_mid a2 trivial ⟨rfl, rfl, trivial⟩ (fun w hw => ?_)
      have := hw.take (A := blk a2 32 (nums .u32 (natI (msgL true xid proc))) (0, 0)) (by first | exact TakeA.here | exact TakeA.there TakeA.here)
      exact to_keep _ this.blkCells
    · repeat (first | refine o_v (k := ?_) | refine c_seq ?_ | refine c_region ?_ | refine o_nil ?_ | refine e_then_normal ?_ | refine o_store (k := ?_) | refine c_true (h1 := ?_) | refine c_false (h1 := ?_) | refine c_ret ?_ | refine c_skip ?_ | refine e_then_ret ?_ | refine c_block ?_ | refine c_exit ?_ | refine e_then_exit ?_ | refine e_block_exit ?_ | refine e_block_normal ?_ | refine e_block_ret ?_ | refine o_box (k := fun _ => ?_) | refine o_alloc (k := fun _ => ?_) | refine e_norm ?_ | refine o_ung (k := ?_) | refine o_k (k := ?_) | refine s_v (k := ?_) | refine s_w (k := ?_) | refine s_k (k := ?_) | refine s_nil ?_ | refine e_block_exit_ne rfl ?_)
      subst hr
      refine e_mid a1 trivial ⟨rfl, rfl, trivial⟩ (fun w hw => ?_)
      have := hw.take (A := blk a1 32 (nums .u32 (natI (msgL false xid proc))) (0, 0)) (by first | exact TakeA.here | exact TakeA.there TakeA.here)
      exact to_keep _ this.blkCells
  intro a _
  have hlen := msgL_len r xid proc
  have hrange : ∀ x ∈ msgL r xid proc, x < 4294967296 := by unfold msgL; split <;> simp <;> omega
  unfold msgB
  generalize msgL r xid proc = L at hlen hrange ⊢
  repeat (first | refine o_v (k := ?_) | refine c_seq ?_ | refine c_region ?_ | refine o_nil ?_ | refine e_then_normal ?_ | refine o_store (k := ?_) | refine c_true (h1 := ?_) | refine c_false (h1 := ?_) | refine c_ret ?_ | refine c_skip ?_ | refine e_then_ret ?_ | refine c_block ?_ | refine c_exit ?_ | refine e_then_exit ?_ | refine e_block_exit ?_ | refine e_block_normal ?_ | refine e_block_ret ?_ | refine o_box (k := fun _ => ?_) | refine o_alloc (k := fun _ => ?_) | refine e_norm ?_ | refine o_ung (k := ?_) | refine o_k (k := ?_) | refine s_v (k := ?_) | refine s_w (k := ?_) | refine s_k (k := ?_) | refine s_nil ?_ | refine e_block_exit_ne rfl ?_)
  refine c_buf0 ?_
  refine c_loop (α := Value × Nat) (fun x => [(5, .int .i64 x.2), (3, .slice (some ⟨a, 0, none⟩) L.length L.length), (4, x.1), (1, .pointer (some ⟨m, 0, none⟩))]) (fun x => [bufA x.1 (flatB (L.take x.2)), cellsA true (some ⟨a, 0, none⟩) (nums .u32 (natI L)), blk m 66 [.bool r, .int .u32 xid, .int .u32 proc, str body] (0, 0)]) (fun x => x.2 ≤ L.length) (fun x => L.length - x.2) (.slice none 0 0, 0) (by simp) ⟨rfl, rfl, rfl, rfl, trivial⟩ (fun _ h => h) ?_
  rintro ⟨v, k⟩ hk
  (try dsimp only at hk ⊢)
  repeat (first | refine o_v (k := ?_) | refine c_seq ?_ | refine c_region ?_ | refine o_nil ?_ | refine e_then_normal ?_ | refine o_store (k := ?_) | refine c_true (h1 := ?_) | refine c_false (h1 := ?_) | refine c_ret ?_ | refine c_skip ?_ | refine e_then_ret ?_ | refine c_block ?_ | refine c_exit ?_ | refine e_then_exit ?_ | refine e_block_exit ?_ | refine e_block_normal ?_ | refine e_block_ret ?_ | refine o_box (k := fun _ => ?_) | refine o_alloc (k := fun _ => ?_) | refine e_norm ?_ | refine o_ung (k := ?_) | refine o_k (k := ?_) | refine s_v (k := ?_) | refine s_w (k := ?_) | refine s_k (k := ?_) | refine s_nil ?_ | refine e_block_exit_ne rfl ?_)
  refine c_if (h1 := fun h => ?_) (h2 := fun h => ?_)
  · simp at h
    have hget : (natI L)[k]? = some (L[k] : Int) := by simp [natI, h]
    have hr := hrange L[k] (List.getElem_mem h)
    have hfl := flatB_length (L.take k)
    rw [List.length_take] at hfl
    repeat (first | refine o_v (k := ?_) | refine c_seq ?_ | refine c_region ?_ | refine o_nil ?_ | refine e_then_normal ?_ | refine o_store (k := ?_) | refine c_true (h1 := ?_) | refine c_false (h1 := ?_) | refine c_ret ?_ | refine c_skip ?_ | refine e_then_ret ?_ | refine c_block ?_ | refine c_exit ?_ | refine e_then_exit ?_ | refine e_block_exit ?_ | refine e_block_normal ?_ | refine e_block_ret ?_ | refine o_box (k := fun _ => ?_) | refine o_alloc (k := fun _ => ?_) | refine e_norm ?_ | refine o_ung (k := ?_) | refine o_k (k := ?_) | refine s_v (k := ?_) | refine s_w (k := ?_) | refine s_k (k := ?_) | refine s_nil ?_ | refine e_block_exit_ne rfl ?_)
    refine o_y (y_load rfl (CellIn.cells (InA.there InA.here) (nums_get hget) (by omega))) rfl ?_
    repeat (first | refine o_v (k := ?_) | refine c_seq ?_ | refine c_region ?_ | refine o_nil ?_ | refine e_then_normal ?_ | refine o_store (k := ?_) | refine c_true (h1 := ?_) | refine c_false (h1 := ?_) | refine c_ret ?_ | refine c_skip ?_ | refine e_then_ret ?_ | refine c_block ?_ | refine c_exit ?_ | refine e_then_exit ?_ | refine e_block_exit ?_ | refine e_block_normal ?_ | refine e_block_ret ?_ | refine o_box (k := fun _ => ?_) | refine o_alloc (k := fun _ => ?_) | refine e_norm ?_ | refine o_ung (k := ?_) | refine o_k (k := ?_) | refine s_v (k := ?_) | refine s_w (k := ?_) | refine s_k (k := ?_) | refine s_nil ?_ | refine e_block_exit_ne rfl ?_)
    refine o_call (xU32_ok L[k] hr) (k := ?_)
    rintro v2 _ rfl
    dsimp only [List.cons_append, List.nil_append]
    refine o_buf true v2 (k := ?_)
    rintro q2 c2 rfl hc2 hm2
    refine o_appb true q2 (w32 L[k]) (hb := by rw [w32_length]; omega) (k := fun v => ?_)
    repeat (first | refine o_v (k := ?_) | refine c_seq ?_ | refine c_region ?_ | refine o_nil ?_ | refine e_then_normal ?_ | refine o_store (k := ?_) | refine c_true (h1 := ?_) | refine c_false (h1 := ?_) | refine c_ret ?_ | refine c_skip ?_ | refine e_then_ret ?_ | refine c_block ?_ | refine c_exit ?_ | refine e_then_exit ?_ | refine e_block_exit ?_ | refine e_block_normal ?_ | refine e_block_ret ?_ | refine o_box (k := fun _ => ?_) | refine o_alloc (k := fun _ => ?_) | refine e_norm ?_ | refine o_ung (k := ?_) | refine o_k (k := ?_) | refine s_v (k := ?_) | refine s_w (k := ?_) | refine s_k (k := ?_) | refine s_nil ?_ | refine e_block_exit_ne rfl ?_)
    refine e_loop (v, k + 1) ?_ ?_ ?_ ?_
    · show k + 1 ≤ _; omega
    · show _ - (k + 1) < _ - k; omega
    · exact ⟨rfl, rfl, rfl, rfl, trivial⟩
    · intro w hw
      simp only [flatB_take L k h]
      exact to_keep _ hw
  · simp at h
    have hkn : k = L.length := by omega
    subst hkn
    have hfl := flatB_length L
    repeat (first | refine o_v (k := ?_) | refine c_seq ?_ | refine c_region ?_ | refine o_nil ?_ | refine e_then_normal ?_ | refine o_store (k := ?_) | refine c_true (h1 := ?_) | refine c_false (h1 := ?_) | refine c_ret ?_ | refine c_skip ?_ | refine e_then_ret ?_ | refine c_block ?_ | refine c_exit ?_ | refine e_then_exit ?_ | refine e_block_exit ?_ | refine e_block_normal ?_ | refine e_block_ret ?_ | refine o_box (k := fun _ => ?_) | refine o_alloc (k := fun _ => ?_) | refine e_norm ?_ | refine o_ung (k := ?_) | refine o_k (k := ?_) | refine s_v (k := ?_) | refine s_w (k := ?_) | refine s_k (k := ?_) | refine s_nil ?_ | refine e_block_exit_ne rfl ?_)
    refine o_s2b (l := body) (k := fun vs => ?_)
    refine o_buf true vs (k := ?_)
    rintro q5 c5 rfl hc5 hm5
    refine o_appb true q5 body (hb := by rw [List.take_length, hfl]; omega) (k := fun v => ?_)
    repeat (first | refine o_v (k := ?_) | refine c_seq ?_ | refine c_region ?_ | refine o_nil ?_ | refine e_then_normal ?_ | refine o_store (k := ?_) | refine c_true (h1 := ?_) | refine c_false (h1 := ?_) | refine c_ret ?_ | refine c_skip ?_ | refine e_then_ret ?_ | refine c_block ?_ | refine c_exit ?_ | refine e_then_exit ?_ | refine e_block_exit ?_ | refine e_block_normal ?_ | refine e_block_ret ?_ | refine o_box (k := fun _ => ?_) | refine o_alloc (k := fun _ => ?_) | refine e_norm ?_ | refine o_ung (k := ?_) | refine o_k (k := ?_) | refine s_v (k := ?_) | refine s_w (k := ?_) | refine s_k (k := ?_) | refine s_nil ?_ | refine e_block_exit_ne rfl ?_)
    exact e_1 (H' := [bufA v (flatB (L.take L.length) ++ body)]) (h1 := rs_tmp rfl) (hT := by simp)

set_option maxRecDepth 20000 in
set_option maxHeartbeats 4000000 in
theorem num14_ok (n : Nat) (hn : n < 4294967296) : Ct Tryz.prog 106 [.int .i64 n] [] (Ret fun u H => H = [bufA u (w32 n)]) := by
  refine fn_enter Tryz.func106 rfl Tryz.ntmps106 rfl fun _ _ _ => ?_
  repeat (first | refine o_v (k := ?_) | refine c_seq ?_ | refine c_region ?_ | refine o_nil ?_ | refine e_then_normal ?_ | refine o_store (k := ?_) | refine c_true (h1 := ?_) | refine c_false (h1 := ?_) | refine c_ret ?_ | refine c_skip ?_ | refine e_then_ret ?_ | refine c_block ?_ | refine c_exit ?_ | refine e_then_exit ?_ | refine e_block_exit ?_ | refine e_block_normal ?_ | refine e_block_ret ?_ | refine o_box (k := fun _ => ?_) | refine o_alloc (k := fun _ => ?_) | refine e_norm ?_ | refine o_ung (k := ?_) | refine o_k (k := ?_) | refine s_v (k := ?_) | refine s_w (k := ?_) | refine s_k (k := ?_) | refine s_nil ?_ | refine e_block_exit_ne rfl ?_)
  refine o_call (xU32_ok n hn) (k := ?_)
  rintro v _ rfl
  dsimp only [List.cons_append, List.nil_append]
  repeat (first | refine o_v (k := ?_) | refine c_seq ?_ | refine c_region ?_ | refine o_nil ?_ | refine e_then_normal ?_ | refine o_store (k := ?_) | refine c_true (h1 := ?_) | refine c_false (h1 := ?_) | refine c_ret ?_ | refine c_skip ?_ | refine e_then_ret ?_ | refine c_block ?_ | refine c_exit ?_ | refine e_then_exit ?_ | refine e_block_exit ?_ | refine e_block_normal ?_ | refine e_block_ret ?_ | refine o_box (k := fun _ => ?_) | refine o_alloc (k := fun _ => ?_) | refine e_norm ?_ | refine o_ung (k := ?_) | refine o_k (k := ?_) | refine s_v (k := ?_) | refine s_w (k := ?_) | refine s_k (k := ?_) | refine s_nil ?_ | refine e_block_exit_ne rfl ?_)
  exact e_1 (h1 := rs_tmp rfl) (H' := [bufA v (w32 n)]) (hT := rfl)

set_option maxRecDepth 20000 in
set_option maxHeartbeats 4000000 in
theorem root13_ok : Ct Tryz.prog 13 [] [] (Ret fun u H => u = .agg #[.int .i64 1, .int .i64 1] ∧ H = []) := by
  refine fn_enter Tryz.func13 rfl Tryz.ntmps13 rfl fun _ _ _ => ?_
  repeat (first | refine o_v (k := ?_) | refine c_seq ?_ | refine c_region ?_ | refine o_nil ?_ | refine e_then_normal ?_ | refine o_store (k := ?_) | refine c_true (h1 := ?_) | refine c_false (h1 := ?_) | refine c_ret ?_ | refine c_skip ?_ | refine e_then_ret ?_ | refine c_block ?_ | refine c_exit ?_ | refine e_then_exit ?_ | refine e_block_exit ?_ | refine e_block_normal ?_ | refine e_block_ret ?_ | refine o_box (k := fun _ => ?_) | refine o_alloc (k := fun _ => ?_) | refine e_norm ?_ | refine o_ung (k := ?_) | refine o_k (k := ?_) | refine s_v (k := ?_) | refine s_w (k := ?_) | refine s_k (k := ?_) | refine s_nil ?_ | refine e_block_exit_ne rfl ?_)
  exact e_1 (h1 := rs_blk) (H' := []) (hT := ⟨rfl, rfl⟩)

set_option maxRecDepth 20000 in
set_option maxHeartbeats 4000000 in
theorem may13_ok (n room : Int) : Ct Tryz.prog 10 [.int .i64 n, .int .i64 room] [] (Ret fun u H => u = .bool (decide ((1 ≤ n ∧ n ≤ 64) ∧ 0 ≤ room ∧ room ≤ 65536)) ∧ H = []) := by
  refine fn_enter Tryz.func10 rfl Tryz.ntmps10 rfl fun _ _ _ => ?_
  repeat (first | refine o_v (k := ?_) | refine c_seq ?_ | refine c_region ?_ | refine o_nil ?_ | refine e_then_normal ?_ | refine o_store (k := ?_) | refine c_true (h1 := ?_) | refine c_false (h1 := ?_) | refine c_ret ?_ | refine c_skip ?_ | refine e_then_ret ?_ | refine c_block ?_ | refine c_exit ?_ | refine e_then_exit ?_ | refine e_block_exit ?_ | refine e_block_normal ?_ | refine e_block_ret ?_ | refine o_box (k := fun _ => ?_) | refine o_alloc (k := fun _ => ?_) | refine e_norm ?_ | refine o_ung (k := ?_) | refine o_k (k := ?_) | refine s_v (k := ?_) | refine s_w (k := ?_) | refine s_k (k := ?_) | refine s_nil ?_ | refine e_block_exit_ne rfl ?_)
  refine o_bool 7 rfl (fun h1 => ?_) (fun h1 => ?_)
  · repeat (first | refine o_v (k := ?_) | refine c_seq ?_ | refine c_region ?_ | refine o_nil ?_ | refine e_then_normal ?_ | refine o_store (k := ?_) | refine c_true (h1 := ?_) | refine c_false (h1 := ?_) | refine c_ret ?_ | refine c_skip ?_ | refine e_then_ret ?_ | refine c_block ?_ | refine c_exit ?_ | refine e_then_exit ?_ | refine e_block_exit ?_ | refine e_block_normal ?_ | refine e_block_ret ?_ | refine o_box (k := fun _ => ?_) | refine o_alloc (k := fun _ => ?_) | refine e_norm ?_ | refine o_ung (k := ?_) | refine o_k (k := ?_) | refine s_v (k := ?_) | refine s_w (k := ?_) | refine s_k (k := ?_) | refine s_nil ?_ | refine e_block_exit_ne rfl ?_)
    refine o_bool 11 rfl (fun h2 => ?_) (fun h2 => ?_)
    · repeat (first | refine o_v (k := ?_) | refine c_seq ?_ | refine c_region ?_ | refine o_nil ?_ | refine e_then_normal ?_ | refine o_store (k := ?_) | refine c_true (h1 := ?_) | refine c_false (h1 := ?_) | refine c_ret ?_ | refine c_skip ?_ | refine e_then_ret ?_ | refine c_block ?_ | refine c_exit ?_ | refine e_then_exit ?_ | refine e_block_exit ?_ | refine e_block_normal ?_ | refine e_block_ret ?_ | refine o_box (k := fun _ => ?_) | refine o_alloc (k := fun _ => ?_) | refine e_norm ?_ | refine o_ung (k := ?_) | refine o_k (k := ?_) | refine s_v (k := ?_) | refine s_w (k := ?_) | refine s_k (k := ?_) | refine s_nil ?_ | refine e_block_exit_ne rfl ?_)
      refine o_bool 15 rfl (fun h3 => ?_) (fun h3 => ?_)
      · repeat (first | refine o_v (k := ?_) | refine c_seq ?_ | refine c_region ?_ | refine o_nil ?_ | refine e_then_normal ?_ | refine o_store (k := ?_) | refine c_true (h1 := ?_) | refine c_false (h1 := ?_) | refine c_ret ?_ | refine c_skip ?_ | refine e_then_ret ?_ | refine c_block ?_ | refine c_exit ?_ | refine e_then_exit ?_ | refine e_block_exit ?_ | refine e_block_normal ?_ | refine e_block_ret ?_ | refine o_box (k := fun _ => ?_) | refine o_alloc (k := fun _ => ?_) | refine e_norm ?_ | refine o_ung (k := ?_) | refine o_k (k := ?_) | refine s_v (k := ?_) | refine s_w (k := ?_) | refine s_k (k := ?_) | refine s_nil ?_ | refine e_block_exit_ne rfl ?_)
        refine e_1 (h1 := rs_tmp rfl) (H' := []) (hT := ⟨?_, rfl⟩)
        congr 1
        simp at h1 h2 h3
        exact decide_eq_decide.2 ⟨fun h => ⟨⟨by omega, by omega⟩, h3, by omega⟩, fun h => by omega⟩
      · repeat (first | refine o_v (k := ?_) | refine c_seq ?_ | refine c_region ?_ | refine o_nil ?_ | refine e_then_normal ?_ | refine o_store (k := ?_) | refine c_true (h1 := ?_) | refine c_false (h1 := ?_) | refine c_ret ?_ | refine c_skip ?_ | refine e_then_ret ?_ | refine c_block ?_ | refine c_exit ?_ | refine e_then_exit ?_ | refine e_block_exit ?_ | refine e_block_normal ?_ | refine e_block_ret ?_ | refine o_box (k := fun _ => ?_) | refine o_alloc (k := fun _ => ?_) | refine e_norm ?_ | refine o_ung (k := ?_) | refine o_k (k := ?_) | refine s_v (k := ?_) | refine s_w (k := ?_) | refine s_k (k := ?_) | refine s_nil ?_ | refine e_block_exit_ne rfl ?_)
        refine e_1 (h1 := rs_tmp rfl) (H' := []) (hT := ⟨?_, rfl⟩)
        congr 1
        simp at h3
        exact (decide_eq_false (by omega)).symm
    · repeat (first | refine o_u (k := ?_) | refine o_k (k := ?_) | refine o_v (k := ?_) | refine o_nil ?_ | refine e_then_normal ?_ | refine c_ret ?_)
      refine e_1 (h1 := rs_tmp rfl) (H' := []) (hT := ⟨?_, rfl⟩)
      congr 1
      simp at h2
      exact (decide_eq_false (by omega)).symm
  · repeat (first | refine o_u (k := ?_) | refine o_k (k := ?_) | refine o_v (k := ?_) | refine o_nil ?_ | refine e_then_normal ?_ | refine c_ret ?_)
    refine e_1 (h1 := rs_tmp rfl) (H' := []) (hT := ⟨?_, rfl⟩)
    congr 1
    simp at h1
    exact (decide_eq_false (by omega)).symm

def aroundN (n most : Int) : Int := (if n < 0 then -(n + 1) else n) % most
theorem around_range (n most : Int) (h : 0 < most) : 0 ≤ aroundN n most ∧ aroundN n most < most := ⟨Int.emod_nonneg _ (by omega), Int.emod_lt_of_pos _ h⟩
set_option maxRecDepth 20000 in
set_option maxHeartbeats 4000000 in
theorem around_ok (n most : Int) (hn : -9223372036854775808 ≤ n ∧ n ≤ 9223372036854775807) (hm : 0 < most ∧ most ≤ 9223372036854775807) : Ct Tryz.prog 8 [.int .i64 n, .int .i64 most] [] (Ret fun u H => u = .int .i64 (aroundN n most) ∧ H = []) := by
  refine fn_enter Tryz.func8 rfl Tryz.ntmps8 rfl fun _ _ _ => ?_
  repeat (first | refine o_v (k := ?_) | refine c_seq ?_ | refine c_region ?_ | refine o_nil ?_ | refine e_then_normal ?_ | refine o_store (k := ?_) | refine c_true (h1 := ?_) | refine c_false (h1 := ?_) | refine c_ret ?_ | refine c_skip ?_ | refine e_then_ret ?_ | refine c_block ?_ | refine c_exit ?_ | refine e_then_exit ?_ | refine e_block_exit ?_ | refine e_block_normal ?_ | refine e_block_ret ?_ | refine o_box (k := fun _ => ?_) | refine o_alloc (k := fun _ => ?_) | refine e_norm ?_ | refine o_ung (k := ?_) | refine o_k (k := ?_) | refine s_v (k := ?_) | refine s_w (k := ?_) | refine s_k (k := ?_) | refine s_nil ?_ | refine e_block_exit_ne rfl ?_)
  refine c_if (h1 := fun h => ?_) (h2 := fun h => ?_)
  · have hn0 : n < 0 := by simpa using h
    repeat (first | refine o_v (k := ?_) | refine c_seq ?_ | refine c_region ?_ | refine o_nil ?_ | refine e_then_normal ?_ | refine o_store (k := ?_) | refine c_true (h1 := ?_) | refine c_false (h1 := ?_) | refine c_ret ?_ | refine c_skip ?_ | refine e_then_ret ?_ | refine c_block ?_ | refine c_exit ?_ | refine e_then_exit ?_ | refine e_block_exit ?_ | refine e_block_normal ?_ | refine e_block_ret ?_ | refine o_box (k := fun _ => ?_) | refine o_alloc (k := fun _ => ?_) | refine e_norm ?_ | refine o_ung (k := ?_) | refine o_k (k := ?_) | refine s_v (k := ?_) | refine s_w (k := ?_) | refine s_k (k := ?_) | refine s_nil ?_ | refine e_block_exit_ne rfl ?_)
    exact e_1 (h1 := rs_tmp rfl) (H' := []) (hT := ⟨by rw [aroundN, if_pos hn0], rfl⟩)
  · have hn0 : ¬ n < 0 := by simpa using h
    repeat (first | refine o_v (k := ?_) | refine c_seq ?_ | refine c_region ?_ | refine o_nil ?_ | refine e_then_normal ?_ | refine o_store (k := ?_) | refine c_true (h1 := ?_) | refine c_false (h1 := ?_) | refine c_ret ?_ | refine c_skip ?_ | refine e_then_ret ?_ | refine c_block ?_ | refine c_exit ?_ | refine e_then_exit ?_ | refine e_block_exit ?_ | refine e_block_normal ?_ | refine e_block_ret ?_ | refine o_box (k := fun _ => ?_) | refine o_alloc (k := fun _ => ?_) | refine e_norm ?_ | refine o_ung (k := ?_) | refine o_k (k := ?_) | refine s_v (k := ?_) | refine s_w (k := ?_) | refine s_k (k := ?_) | refine s_nil ?_ | refine e_block_exit_ne rfl ?_)
    exact e_1 (h1 := rs_tmp rfl) (H' := []) (hT := ⟨by rw [aroundN, if_neg hn0], rfl⟩)
end Go.Proofs.YtlkgdidmhmaneaaGreatDoor
/- the reference of chapter 14, part 1: what its functions leave. -/
namespace Go.Proofs.YtlkgdidmhmaneaaGreatDoor
open Go Go.RowKit
def letters : List UInt8 := [104, 105, 110, 106, 111, 99, 115, 109, 100]
def letter (f : Nat) : UInt8 := letters.getD f 0
def fieldsS (p : Int) : List UInt8 := (fieldsOf p).map letter
def procs14 : List Int := [1, 2, 3, 12, 13, 6, 16, 7, 8, 9, 14]
def all14 : List (List UInt8) := [[104], [104, 115], [104, 110], [104, 110], [104, 110], [104, 111, 99], [104, 111, 99], [104, 111, 100], [104, 110, 109], [104, 110, 109], [104, 110, 105, 106]]
theorem fields14 : ∀ k < 11, (procs14[k]?).map fieldsS = all14[k]? := by decide
def strs (l : List (List UInt8)) : List Value := l.map fun s => str s
theorem fields14_none {p : Int} (h : ∀ j, j < 11 → procs14[j]? ≠ some p) : fieldsS p = [] := by
  have e : ∀ k (q : Int), k < 11 → procs14[k]? = some q → p ≠ q := fun k q hk hq e => h k hk (by rw [hq, e])
  have h1 := e 0 1 (by omega) rfl
  have h2 := e 1 2 (by omega) rfl
  have h3 := e 2 3 (by omega) rfl
  have h12 := e 3 12 (by omega) rfl
  have h13 := e 4 13 (by omega) rfl
  have h6 := e 5 6 (by omega) rfl
  have h16 := e 6 16 (by omega) rfl
  have h7 := e 7 7 (by omega) rfl
  have h8 := e 8 8 (by omega) rfl
  have h9 := e 9 9 (by omega) rfl
  have h14 := e 10 14 (by omega) rfl
  simp [fieldsS, fieldsOf, h1, h2, h3, h12, h13, h6, h16, h7, h8, h9, h14]
def w64 (n : Nat) : List UInt8 := w32 (n / 4294967296) ++ w32 (n % 4294967296)
theorem w64_length (n : Nat) : (w64 n).length = 8 := rfl
/-- a field's bytes -/
def fieldB (a : MArgs) (f : Nat) : List UInt8 := match f with
  | 0 => w32 a.ino.toNat ++ w32 a.gen.toNat
  | 1 => w32 a.ino2.toNat ++ w32 a.gen2.toNat
  | 2 => textB a.name
  | 3 => textB a.name2
  | 4 => w64 a.off.toNat
  | 5 => w32 a.count.toNat
  | 6 => w32 a.size.toNat
  | 7 => w32 a.mode.toNat
  | _ => textB a.data
def w32Ok (n : Int) : Prop := 0 ≤ n ∧ n < 4294967296
/-- what may be laid -/
structure ArgsOk (a : MArgs) : Prop where
  off : 0 ≤ a.off ∧ a.off ≤ 4611686018427387904
  count : w32Ok a.count
  size : w32Ok a.size
  mode : w32Ok a.mode
  ino : w32Ok a.ino
  gen : w32Ok a.gen
  ino2 : w32Ok a.ino2
  gen2 : w32Ok a.gen2
  name : a.name.length ≤ 64
  name2 : a.name2.length ≤ 64
  data : a.data.length ≤ 2048
def argsB (a : MArgs) : List UInt8 := (fieldsOf a.proc).flatMap (fieldB a)
theorem nat_of {n : Int} (h : w32Ok n) : ∃ m : Nat, n = m ∧ m < 4294967296 := ⟨n.toNat, by unfold w32Ok at h; omega, by unfold w32Ok at h; omega⟩
attribute [local irreducible] Yl OG CG EG SG AG  CellIn CellsIn BlkIn InA TakeA SplitA SubA Ct ResOk Good Held blk cellsA exA

set_option maxRecDepth 20000 in
set_option maxHeartbeats 4000000 in
theorem xU64_ok (n : Nat) (hn : n < 18446744073709551616) : Ct Tryz.prog 107 [.int .u64 n] [] (Ret fun u H => H = [bufA u (w64 n)]) := by
  refine fn_enter Tryz.func107 rfl Tryz.ntmps107 rfl fun _ _ _ => ?_
  repeat (first | refine o_v (k := ?_) | refine c_seq ?_ | refine c_region ?_ | refine o_nil ?_ | refine e_then_normal ?_ | refine o_store (k := ?_) | refine c_true (h1 := ?_) | refine c_false (h1 := ?_) | refine c_ret ?_ | refine c_skip ?_ | refine e_then_ret ?_ | refine c_block ?_ | refine c_exit ?_ | refine e_then_exit ?_ | refine e_block_exit ?_ | refine e_block_normal ?_ | refine e_block_ret ?_ | refine o_box (k := fun _ => ?_) | refine o_alloc (k := fun _ => ?_) | refine e_norm ?_ | refine o_ung (k := ?_) | refine o_k (k := ?_) | refine s_v (k := ?_) | refine s_w (k := ?_) | refine s_k (k := ?_) | refine s_nil ?_ | refine e_block_exit_ne rfl ?_)
  rw [show (n : Int) / 4294967296 = ((n / 4294967296 : Nat) : Int) from by omega]
  refine o_call (xU32_ok (n / 4294967296) (by omega)) (k := ?_)
  rintro v _ rfl
  dsimp only [List.cons_append, List.nil_append]
  repeat (first | refine o_v (k := ?_) | refine c_seq ?_ | refine c_region ?_ | refine o_nil ?_ | refine e_then_normal ?_ | refine o_store (k := ?_) | refine c_true (h1 := ?_) | refine c_false (h1 := ?_) | refine c_ret ?_ | refine c_skip ?_ | refine e_then_ret ?_ | refine c_block ?_ | refine c_exit ?_ | refine e_then_exit ?_ | refine e_block_exit ?_ | refine e_block_normal ?_ | refine e_block_ret ?_ | refine o_box (k := fun _ => ?_) | refine o_alloc (k := fun _ => ?_) | refine e_norm ?_ | refine o_ung (k := ?_) | refine o_k (k := ?_) | refine s_v (k := ?_) | refine s_w (k := ?_) | refine s_k (k := ?_) | refine s_nil ?_ | refine e_block_exit_ne rfl ?_)
  rw [show (n : Int) % 4294967296 = ((n % 4294967296 : Nat) : Int) from by omega]
  refine o_call (xU32_ok (n % 4294967296) (by omega)) (k := ?_)
  rintro v2 _ rfl
  dsimp only [List.cons_append, List.nil_append]
  refine o_buf true v2 (k := ?_)
  rintro q2 c2 rfl hc2 hm2
  refine o_appb true q2 (w32 (n % 4294967296)) (hb := by rw [w32_length, w32_length]; omega) (k := fun v => ?_)
  repeat (first | refine o_v (k := ?_) | refine c_seq ?_ | refine c_region ?_ | refine o_nil ?_ | refine e_then_normal ?_ | refine o_store (k := ?_) | refine c_true (h1 := ?_) | refine c_false (h1 := ?_) | refine c_ret ?_ | refine c_skip ?_ | refine e_then_ret ?_ | refine c_block ?_ | refine c_exit ?_ | refine e_then_exit ?_ | refine e_block_exit ?_ | refine e_block_normal ?_ | refine e_block_ret ?_ | refine o_box (k := fun _ => ?_) | refine o_alloc (k := fun _ => ?_) | refine e_norm ?_ | refine o_ung (k := ?_) | refine o_k (k := ?_) | refine s_v (k := ?_) | refine s_w (k := ?_) | refine s_k (k := ?_) | refine s_nil ?_ | refine e_block_exit_ne rfl ?_)
  exact e_1 (h1 := rs_tmp rfl) (H' := [bufA v (w32 (n / 4294967296) ++ w32 (n % 4294967296))]) (hT := rfl)

set_option maxRecDepth 20000 in
set_option maxHeartbeats 4000000 in
theorem xText_ok (own : Bool) (q : Option Addr) (s : List UInt8) (c : Nat) (hs : s.length ≤ 10000) : Ct Tryz.prog 103 [.slice q s.length c] [bytesA own q s] (Ret fun u H => H = [bufA u (textB s), bytesA own q s]) := by
  refine fn_enter Tryz.func103 rfl Tryz.ntmps103 rfl fun _ _ _ => ?_
  repeat (first | refine o_v (k := ?_) | refine c_seq ?_ | refine c_region ?_ | refine o_nil ?_ | refine e_then_normal ?_ | refine o_store (k := ?_) | refine c_true (h1 := ?_) | refine c_false (h1 := ?_) | refine c_ret ?_ | refine c_skip ?_ | refine e_then_ret ?_ | refine c_block ?_ | refine c_exit ?_ | refine e_then_exit ?_ | refine e_block_exit ?_ | refine e_block_normal ?_ | refine e_block_ret ?_ | refine o_box (k := fun _ => ?_) | refine o_alloc (k := fun _ => ?_) | refine e_norm ?_ | refine o_ung (k := ?_) | refine o_k (k := ?_) | refine s_v (k := ?_) | refine s_w (k := ?_) | refine s_k (k := ?_) | refine s_nil ?_ | refine e_block_exit_ne rfl ?_)
  refine o_call (xU32_ok s.length (by omega)) (k := ?_)
  rintro v _ rfl
  dsimp only [List.cons_append, List.nil_append]
  repeat (first | refine o_v (k := ?_) | refine c_seq ?_ | refine c_region ?_ | refine o_nil ?_ | refine e_then_normal ?_ | refine o_store (k := ?_) | refine c_true (h1 := ?_) | refine c_false (h1 := ?_) | refine c_ret ?_ | refine c_skip ?_ | refine e_then_ret ?_ | refine c_block ?_ | refine c_exit ?_ | refine e_then_exit ?_ | refine e_block_exit ?_ | refine e_block_normal ?_ | refine e_block_ret ?_ | refine o_box (k := fun _ => ?_) | refine o_alloc (k := fun _ => ?_) | refine e_norm ?_ | refine o_ung (k := ?_) | refine o_k (k := ?_) | refine s_v (k := ?_) | refine s_w (k := ?_) | refine s_k (k := ?_) | refine s_nil ?_ | refine e_block_exit_ne rfl ?_)
  refine o_appb own q s (hb := by rw [w32_length]; omega) (k := fun v => ?_)
  repeat (first | refine o_v (k := ?_) | refine c_seq ?_ | refine c_region ?_ | refine o_nil ?_ | refine e_then_normal ?_ | refine o_store (k := ?_) | refine c_true (h1 := ?_) | refine c_false (h1 := ?_) | refine c_ret ?_ | refine c_skip ?_ | refine e_then_ret ?_ | refine c_block ?_ | refine c_exit ?_ | refine e_then_exit ?_ | refine e_block_exit ?_ | refine e_block_normal ?_ | refine e_block_ret ?_ | refine o_box (k := fun _ => ?_) | refine o_alloc (k := fun _ => ?_) | refine e_norm ?_ | refine o_ung (k := ?_) | refine o_k (k := ?_) | refine s_v (k := ?_) | refine s_w (k := ?_) | refine s_k (k := ?_) | refine s_nil ?_ | refine e_block_exit_ne rfl ?_)
  have hpl := padN_lt s.length
  refine c_loop (α := Value × Nat) (fun x => [(3, x.1)]) (fun x => [bufA x.1 (w32 s.length ++ s ++ List.replicate x.2 0), bytesA own q s]) (fun x => x.2 ≤ padN s.length) (fun x => padN s.length - x.2) (v, 0) (by simp) ⟨rfl, trivial⟩ (fun w hw => by
    have := to_keep [bufA v (w32 s.length ++ s), bytesA own q s] hw
    simpa using this) ?_
  rintro ⟨v, k⟩ hk
  (try dsimp only at hk ⊢)
  have hlen : (w32 s.length ++ s ++ List.replicate k (0 : UInt8)).length = 4 + s.length + k := by rw [List.length_append, List.length_append, w32_length, List.length_replicate]
  refine c_rowis v (k := ?_)
  rintro q3 c3 rfl hc3 hm3 -
  repeat (first | refine o_v (k := ?_) | refine c_seq ?_ | refine c_region ?_ | refine o_nil ?_ | refine e_then_normal ?_ | refine o_store (k := ?_) | refine c_true (h1 := ?_) | refine c_false (h1 := ?_) | refine c_ret ?_ | refine c_skip ?_ | refine e_then_ret ?_ | refine c_block ?_ | refine c_exit ?_ | refine e_then_exit ?_ | refine e_block_exit ?_ | refine e_block_normal ?_ | refine e_block_ret ?_ | refine o_box (k := fun _ => ?_) | refine o_alloc (k := fun _ => ?_) | refine e_norm ?_ | refine o_ung (k := ?_) | refine o_k (k := ?_) | refine s_v (k := ?_) | refine s_w (k := ?_) | refine s_k (k := ?_) | refine s_nil ?_ | refine e_block_exit_ne rfl ?_)
  refine c_if (h1 := fun h => ?_) (h2 := fun h => ?_)
  · have hkl : k < padN s.length := by
      simp only [hlen] at h
      simp at h
      unfold padN at hk ⊢
      omega
    repeat (first | refine o_v (k := ?_) | refine c_seq ?_ | refine c_region ?_ | refine o_nil ?_ | refine e_then_normal ?_ | refine o_store (k := ?_) | refine c_true (h1 := ?_) | refine c_false (h1 := ?_) | refine c_ret ?_ | refine c_skip ?_ | refine e_then_ret ?_ | refine c_block ?_ | refine c_exit ?_ | refine e_then_exit ?_ | refine e_block_exit ?_ | refine e_block_normal ?_ | refine e_block_ret ?_ | refine o_box (k := fun _ => ?_) | refine o_alloc (k := fun _ => ?_) | refine e_norm ?_ | refine o_ung (k := ?_) | refine o_k (k := ?_) | refine s_v (k := ?_) | refine s_w (k := ?_) | refine s_k (k := ?_) | refine s_nil ?_ | refine e_block_exit_ne rfl ?_)
    refine o_litb [0] (hL := rfl) (k := fun lb => ?_)
    repeat (first | refine o_v (k := ?_) | refine c_seq ?_ | refine c_region ?_ | refine o_nil ?_ | refine e_then_normal ?_ | refine o_store (k := ?_) | refine c_true (h1 := ?_) | refine c_false (h1 := ?_) | refine c_ret ?_ | refine c_skip ?_ | refine e_then_ret ?_ | refine c_block ?_ | refine c_exit ?_ | refine e_then_exit ?_ | refine e_block_exit ?_ | refine e_block_normal ?_ | refine e_block_ret ?_ | refine o_box (k := fun _ => ?_) | refine o_alloc (k := fun _ => ?_) | refine e_norm ?_ | refine o_ung (k := ?_) | refine o_k (k := ?_) | refine s_v (k := ?_) | refine s_w (k := ?_) | refine s_k (k := ?_) | refine s_nil ?_ | refine e_block_exit_ne rfl ?_)
    refine o_appb true (some ⟨lb, 0, none⟩) [0] (hb := by rw [hlen]; simp; omega) (k := fun v => ?_)
    repeat (first | refine o_v (k := ?_) | refine c_seq ?_ | refine c_region ?_ | refine o_nil ?_ | refine e_then_normal ?_ | refine o_store (k := ?_) | refine c_true (h1 := ?_) | refine c_false (h1 := ?_) | refine c_ret ?_ | refine c_skip ?_ | refine e_then_ret ?_ | refine c_block ?_ | refine c_exit ?_ | refine e_then_exit ?_ | refine e_block_exit ?_ | refine e_block_normal ?_ | refine e_block_ret ?_ | refine o_box (k := fun _ => ?_) | refine o_alloc (k := fun _ => ?_) | refine e_norm ?_ | refine o_ung (k := ?_) | refine o_k (k := ?_) | refine s_v (k := ?_) | refine s_w (k := ?_) | refine s_k (k := ?_) | refine s_nil ?_ | refine e_block_exit_ne rfl ?_)
    refine e_loop (v, k + 1) ?_ ?_ ?_ ?_
    · show k + 1 ≤ _; omega
    · show _ - (k + 1) < _ - k; omega
    · exact ⟨rfl, trivial⟩
    · intro w hw
      simp only [List.replicate_succ', ← List.append_assoc]
      exact to_keep _ hw
  · have hkl : k = padN s.length := by
      simp only [hlen] at h
      simp at h
      unfold padN at hk ⊢
      omega
    subst hkl
    repeat (first | refine o_v (k := ?_) | refine c_seq ?_ | refine c_region ?_ | refine o_nil ?_ | refine e_then_normal ?_ | refine o_store (k := ?_) | refine c_true (h1 := ?_) | refine c_false (h1 := ?_) | refine c_ret ?_ | refine c_skip ?_ | refine e_then_ret ?_ | refine c_block ?_ | refine c_exit ?_ | refine e_then_exit ?_ | refine e_block_exit ?_ | refine e_block_normal ?_ | refine e_block_ret ?_ | refine o_box (k := fun _ => ?_) | refine o_alloc (k := fun _ => ?_) | refine e_norm ?_ | refine o_ung (k := ?_) | refine o_k (k := ?_) | refine s_v (k := ?_) | refine s_w (k := ?_) | refine s_k (k := ?_) | refine s_nil ?_ | refine e_block_exit_ne rfl ?_)
    exact e_1 (h1 := rs_tmp rfl) (hT := rfl)

set_option maxRecDepth 20000 in
set_option maxHeartbeats 4000000 in
theorem fields14_ok (p : Int) : Ct Tryz.prog 59 [.int .i64 p] [] (Ret fun u H => u = str (fieldsS p) ∧ H = []) := by
  refine fn_enter Tryz.func59 rfl Tryz.ntmps59 rfl fun _ _ _ => ?_
  repeat (first | refine o_v (k := ?_) | refine c_seq ?_ | refine c_region ?_ | refine o_nil ?_ | refine e_then_normal ?_ | refine o_store (k := ?_) | refine c_true (h1 := ?_) | refine c_false (h1 := ?_) | refine c_ret ?_ | refine c_skip ?_ | refine e_then_ret ?_ | refine c_block ?_ | refine c_exit ?_ | refine e_then_exit ?_ | refine e_block_exit ?_ | refine e_block_normal ?_ | refine e_block_ret ?_ | refine o_box (k := fun _ => ?_) | refine o_alloc (k := fun _ => ?_) | refine e_norm ?_ | refine o_ung (k := ?_) | refine o_k (k := ?_) | refine s_v (k := ?_) | refine s_w (k := ?_) | refine s_k (k := ?_) | refine s_nil ?_ | refine e_block_exit_ne rfl ?_)
  refine o_lit (k := fun b1 => ?_)
  repeat (first | refine o_v (k := ?_) | refine c_seq ?_ | refine c_region ?_ | refine o_nil ?_ | refine e_then_normal ?_ | refine o_store (k := ?_) | refine c_true (h1 := ?_) | refine c_false (h1 := ?_) | refine c_ret ?_ | refine c_skip ?_ | refine e_then_ret ?_ | refine c_block ?_ | refine c_exit ?_ | refine e_then_exit ?_ | refine e_block_exit ?_ | refine e_block_normal ?_ | refine e_block_ret ?_ | refine o_box (k := fun _ => ?_) | refine o_alloc (k := fun _ => ?_) | refine e_norm ?_ | refine o_ung (k := ?_) | refine o_k (k := ?_) | refine s_v (k := ?_) | refine s_w (k := ?_) | refine s_k (k := ?_) | refine s_nil ?_ | refine e_block_exit_ne rfl ?_)
  refine o_lit (k := fun b2 => ?_)
  repeat (first | refine o_v (k := ?_) | refine c_seq ?_ | refine c_region ?_ | refine o_nil ?_ | refine e_then_normal ?_ | refine o_store (k := ?_) | refine c_true (h1 := ?_) | refine c_false (h1 := ?_) | refine c_ret ?_ | refine c_skip ?_ | refine e_then_ret ?_ | refine c_block ?_ | refine c_exit ?_ | refine e_then_exit ?_ | refine e_block_exit ?_ | refine e_block_normal ?_ | refine e_block_ret ?_ | refine o_box (k := fun _ => ?_) | refine o_alloc (k := fun _ => ?_) | refine e_norm ?_ | refine o_ung (k := ?_) | refine o_k (k := ?_) | refine s_v (k := ?_) | refine s_w (k := ?_) | refine s_k (k := ?_) | refine s_nil ?_ | refine e_block_exit_ne rfl ?_)
  refine c_conv (fun w hw => (hw.take (A := blk b1 3 (nums .i64 procs14) (0, 0)) (by repeat (first | exact TakeA.here | apply TakeA.there))).blkCells) ?_
  refine c_conv (fun w hw => (hw.take (A := blk b2 9 (strs all14) (0, 0)) (by repeat (first | exact TakeA.here | apply TakeA.there))).blkCells) ?_
  refine c_loop (α := Nat) (fun k => [(5, .int .i64 k), (0, .int .i64 p), (3, .slice (some ⟨b1, 0, none⟩) 11 11), (4, .slice (some ⟨b2, 0, none⟩) 11 11)]) (fun _ => [cellsA true (some ⟨b1, 0, none⟩) (nums .i64 procs14), cellsA true (some ⟨b2, 0, none⟩) (strs all14)]) (fun k => k ≤ 11 ∧ ∀ j, j < k → procs14[j]? ≠ some p) (fun k => 11 - k) 0 ⟨by omega, by omega⟩ ⟨rfl, rfl, rfl, rfl, trivial⟩ (fun w hw => to_keep _ hw) ?_
  rintro k ⟨hk, hz⟩
  (try dsimp only at hk ⊢)
  repeat (first | refine o_v (k := ?_) | refine c_seq ?_ | refine c_region ?_ | refine o_nil ?_ | refine e_then_normal ?_ | refine o_store (k := ?_) | refine c_true (h1 := ?_) | refine c_false (h1 := ?_) | refine c_ret ?_ | refine c_skip ?_ | refine e_then_ret ?_ | refine c_block ?_ | refine c_exit ?_ | refine e_then_exit ?_ | refine e_block_exit ?_ | refine e_block_normal ?_ | refine e_block_ret ?_ | refine o_box (k := fun _ => ?_) | refine o_alloc (k := fun _ => ?_) | refine e_norm ?_ | refine o_ung (k := ?_) | refine o_k (k := ?_) | refine s_v (k := ?_) | refine s_w (k := ?_) | refine s_k (k := ?_) | refine s_nil ?_ | refine e_block_exit_ne rfl ?_)
  refine c_if (h1 := fun h => ?_) (h2 := fun h => ?_)
  · have hlt : k < 11 := by simp at h; omega
    obtain ⟨x, hx⟩ : ∃ x, procs14[k]? = some x := ⟨procs14[k]'(by simpa [procs14] using hlt), List.getElem?_eq_getElem _⟩
    have hf := fields14 k hlt
    rw [hx] at hf
    simp only [Option.map_some] at hf
    repeat (first | refine o_v (k := ?_) | refine c_seq ?_ | refine c_region ?_ | refine o_nil ?_ | refine e_then_normal ?_ | refine o_store (k := ?_) | refine c_true (h1 := ?_) | refine c_false (h1 := ?_) | refine c_ret ?_ | refine c_skip ?_ | refine e_then_ret ?_ | refine c_block ?_ | refine c_exit ?_ | refine e_then_exit ?_ | refine e_block_exit ?_ | refine e_block_normal ?_ | refine e_block_ret ?_ | refine o_box (k := fun _ => ?_) | refine o_alloc (k := fun _ => ?_) | refine e_norm ?_ | refine o_ung (k := ?_) | refine o_k (k := ?_) | refine s_v (k := ?_) | refine s_w (k := ?_) | refine s_k (k := ?_) | refine s_nil ?_ | refine e_block_exit_ne rfl ?_)
    refine o_y (y_load rfl (CellIn.cells (by repeat (first | exact InA.here | apply InA.there)) (nums_get hx) (by omega))) rfl ?_
    repeat (first | refine o_v (k := ?_) | refine c_seq ?_ | refine c_region ?_ | refine o_nil ?_ | refine e_then_normal ?_ | refine o_store (k := ?_) | refine c_true (h1 := ?_) | refine c_false (h1 := ?_) | refine c_ret ?_ | refine c_skip ?_ | refine e_then_ret ?_ | refine c_block ?_ | refine c_exit ?_ | refine e_then_exit ?_ | refine e_block_exit ?_ | refine e_block_normal ?_ | refine e_block_ret ?_ | refine o_box (k := fun _ => ?_) | refine o_alloc (k := fun _ => ?_) | refine e_norm ?_ | refine o_ung (k := ?_) | refine o_k (k := ?_) | refine s_v (k := ?_) | refine s_w (k := ?_) | refine s_k (k := ?_) | refine s_nil ?_ | refine e_block_exit_ne rfl ?_)
    refine c_if (h1 := fun h2 => ?_) (h2 := fun h2 => ?_)
    · have hxp : x = p := by simpa using h2
      subst hxp
      repeat (first | refine o_v (k := ?_) | refine c_seq ?_ | refine c_region ?_ | refine o_nil ?_ | refine e_then_normal ?_ | refine o_store (k := ?_) | refine c_true (h1 := ?_) | refine c_false (h1 := ?_) | refine c_ret ?_ | refine c_skip ?_ | refine e_then_ret ?_ | refine c_block ?_ | refine c_exit ?_ | refine e_then_exit ?_ | refine e_block_exit ?_ | refine e_block_normal ?_ | refine e_block_ret ?_ | refine o_box (k := fun _ => ?_) | refine o_alloc (k := fun _ => ?_) | refine e_norm ?_ | refine o_ung (k := ?_) | refine o_k (k := ?_) | refine s_v (k := ?_) | refine s_w (k := ?_) | refine s_k (k := ?_) | refine s_nil ?_ | refine e_block_exit_ne rfl ?_)
      refine o_y (y_load rfl (CellIn.cells (v := str (fieldsS x)) (j := k) (by repeat (first | exact InA.here | apply InA.there)) (by rw [strs, List.getElem?_map, ← hf]; rfl) (by omega))) rfl ?_
      repeat (first | refine o_v (k := ?_) | refine c_seq ?_ | refine c_region ?_ | refine o_nil ?_ | refine e_then_normal ?_ | refine o_store (k := ?_) | refine c_true (h1 := ?_) | refine c_false (h1 := ?_) | refine c_ret ?_ | refine c_skip ?_ | refine e_then_ret ?_ | refine c_block ?_ | refine c_exit ?_ | refine e_then_exit ?_ | refine e_block_exit ?_ | refine e_block_normal ?_ | refine e_block_ret ?_ | refine o_box (k := fun _ => ?_) | refine o_alloc (k := fun _ => ?_) | refine e_norm ?_ | refine o_ung (k := ?_) | refine o_k (k := ?_) | refine s_v (k := ?_) | refine s_w (k := ?_) | refine s_k (k := ?_) | refine s_nil ?_ | refine e_block_exit_ne rfl ?_)
      exact e_1 (h1 := rs_tmp rfl) (H' := []) (hT := ⟨rfl, rfl⟩)
    · have hxp : x ≠ p := by simpa using h2
      repeat (first | refine o_v (k := ?_) | refine c_seq ?_ | refine c_region ?_ | refine o_nil ?_ | refine e_then_normal ?_ | refine o_store (k := ?_) | refine c_true (h1 := ?_) | refine c_false (h1 := ?_) | refine c_ret ?_ | refine c_skip ?_ | refine e_then_ret ?_ | refine c_block ?_ | refine c_exit ?_ | refine e_then_exit ?_ | refine e_block_exit ?_ | refine e_block_normal ?_ | refine e_block_ret ?_ | refine o_box (k := fun _ => ?_) | refine o_alloc (k := fun _ => ?_) | refine e_norm ?_ | refine o_ung (k := ?_) | refine o_k (k := ?_) | refine s_v (k := ?_) | refine s_w (k := ?_) | refine s_k (k := ?_) | refine s_nil ?_ | refine e_block_exit_ne rfl ?_)
      refine e_loop (k + 1) ?_ ?_ ?_ ?_
      · refine ⟨by omega, fun j hj => ?_⟩
        by_cases hjk : j = k
        · subst hjk; rw [hx]; intro e; exact hxp (Option.some.inj e)
        · exact hz j (by omega)
      · show 11 - (k + 1) < 11 - k; omega
      · exact ⟨rfl, rfl, rfl, rfl, trivial⟩
      · exact fun w hw => hw
  · have hkl : k = 11 := by simp at h; omega
    subst hkl
    have hn := fields14_none hz
    rw [hn]
    repeat (first | refine o_v (k := ?_) | refine c_seq ?_ | refine c_region ?_ | refine o_nil ?_ | refine e_then_normal ?_ | refine o_store (k := ?_) | refine c_true (h1 := ?_) | refine c_false (h1 := ?_) | refine c_ret ?_ | refine c_skip ?_ | refine e_then_ret ?_ | refine c_block ?_ | refine c_exit ?_ | refine e_then_exit ?_ | refine e_block_exit ?_ | refine e_block_normal ?_ | refine e_block_ret ?_ | refine o_box (k := fun _ => ?_) | refine o_alloc (k := fun _ => ?_) | refine e_norm ?_ | refine o_ung (k := ?_) | refine o_k (k := ?_) | refine s_v (k := ?_) | refine s_w (k := ?_) | refine s_k (k := ?_) | refine s_nil ?_ | refine e_block_exit_ne rfl ?_)
    exact e_1 (h1 := rs_tmp rfl) (H' := []) (hT := ⟨rfl, rfl⟩)
end Go.Proofs.YtlkgdidmhmaneaaGreatDoor
/- the reference of chapter 14, part 2: field, Bytes. -/
namespace Go.Proofs.YtlkgdidmhmaneaaGreatDoor
open Go Go.RowKit
theorem fieldB_len {a : MArgs} (h : ArgsOk a) (f : Nat) : (fieldB a f).length ≤ 2056 := by
  have h1 := h.name
  have h2 := h.name2
  have h3 := h.data
  have p1 := padN_lt a.name.length
  have p2 := padN_lt a.name2.length
  have p3 := padN_lt a.data.length
  unfold fieldB
  split <;> simp only [List.length_append, w32_length, w64_length, textB_length] <;> omega
attribute [local irreducible] Yl OG CG EG SG AG JG CellIn CellsIn BlkIn InA TakeA SplitA SubA Ct ResOk Good Held blk cellsA exA

set_option maxRecDepth 20000 in
set_option maxHeartbeats 4000000 in
theorem field_ok (own : Bool) (a : MArgs) (h : ArgsOk a) (q : Option Addr) (c f : Nat) (hf : f ≤ 8) : Ct Tryz.prog 67 [.agg (argsC a q c).toArray, .int .u8 (letter f).toNat] [bytesA own q a.data] (Ret fun u H => H = [bufA u (fieldB a f), bytesA own q a.data]) := by
  obtain ⟨hoff, hcount, hsize, hmode, hino, hgen, hino2, hgen2, hname, hname2, hdata⟩ := h
  obtain ⟨proc, off, count, size, mode, ino, gen, ino2, gen2, name, name2, data⟩ := a
  dsimp only at hoff hcount hsize hmode hino hgen hino2 hgen2 hname hname2 hdata
  obtain ⟨ino, rfl, gino⟩ := nat_of hino
  obtain ⟨gen, rfl, ggen⟩ := nat_of hgen
  obtain ⟨ino2, rfl, gino2⟩ := nat_of hino2
  obtain ⟨gen2, rfl, ggen2⟩ := nat_of hgen2
  obtain ⟨count, rfl, gcount⟩ := nat_of hcount
  obtain ⟨size, rfl, gsize⟩ := nat_of hsize
  obtain ⟨mode, rfl, gmode⟩ := nat_of hmode
  obtain ⟨off, rfl⟩ := Int.eq_ofNat_of_zero_le hoff.1
  obtain rfl | rfl | rfl | rfl | rfl | rfl | rfl | rfl | rfl : f = 0 ∨ f = 1 ∨ f = 2 ∨ f = 3 ∨ f = 4 ∨ f = 5 ∨ f = 6 ∨ f = 7 ∨ f = 8 := by omega
  · refine fn_enter Tryz.func67 rfl Tryz.ntmps67 rfl fun _ _ _ => ?_
    rw [show ((letter _).toNat : Int) = _ from rfl]
    repeat (first | refine o_v (k := ?_) | refine c_seq ?_ | refine c_region ?_ | refine o_nil ?_ | refine e_then_normal ?_ | refine o_store (k := ?_) | refine c_true (h1 := ?_) | refine c_false (h1 := ?_) | refine c_ret ?_ | refine c_skip ?_ | refine e_then_ret ?_ | refine c_block ?_ | refine c_exit ?_ | refine e_then_exit ?_ | refine e_block_exit ?_ | refine e_block_normal ?_ | refine e_block_ret ?_ | refine o_box (k := fun _ => ?_) | refine o_alloc (k := fun _ => ?_) | refine e_norm ?_ | refine o_ung (k := ?_) | refine o_k (k := ?_) | refine s_v (k := ?_) | refine s_w (k := ?_) | refine s_k (k := ?_) | refine s_nil ?_ | refine e_block_exit_ne rfl ?_)
    rename_i ab
    refine c_j [blk ab 70 (argsC ⟨proc, off, count, size, mode, ino, gen, ino2, gen2, name, name2, data⟩ q c) (0, 0)] [0, 1, 2, 4, 5, 6] ?_
    refine j_v 0 (k := ?_); refine j_v 1 (k := ?_); refine j_v 2 (k := ?_); refine j_v 4 (k := ?_); refine j_v 5 (k := ?_); refine j_v 6 (k := ?_)
    refine j_one 3 (nd := true) (k := ?_)
    refine o_call (num14_ok ino gino) (k := ?_)
    rintro v1 _ rfl
    dsimp only [List.cons_append, List.nil_append]
    refine o_nil ?_
    refine e_jt (k := ?_)
    refine j_one 7 (nd := true) (k := ?_)
    refine o_call (num14_ok gen ggen) (k := ?_)
    rintro v2 _ rfl
    dsimp only [List.cons_append, List.nil_append]
    refine o_buf true v2 (k := ?_)
    rintro q2 c2 rfl hc2 hm2
    refine o_nil ?_
    refine e_jt (k := ?_)
    refine j_one 8 (nd := true) (k := ?_)
    refine o_appb true q2 (w32 gen) (hb := by rw [w32_length, w32_length]; omega) (k := fun v => ?_)
    refine o_nil ?_
    refine e_jt (k := ?_)
    refine j_one 9 (nd := false) (k := ?_); (repeat (first | refine o_v (k := ?_) | refine c_seq ?_ | refine c_region ?_ | refine o_nil ?_ | refine e_then_normal ?_ | refine o_store (k := ?_) | refine c_true (h1 := ?_) | refine c_false (h1 := ?_) | refine c_ret ?_ | refine c_skip ?_ | refine e_then_ret ?_ | refine c_block ?_ | refine c_exit ?_ | refine e_then_exit ?_ | refine e_block_exit ?_ | refine e_block_normal ?_ | refine e_block_ret ?_ | refine o_box (k := fun _ => ?_) | refine o_alloc (k := fun _ => ?_) | refine e_norm ?_ | refine o_ung (k := ?_) | refine o_k (k := ?_) | refine s_v (k := ?_) | refine s_w (k := ?_) | refine s_k (k := ?_) | refine s_nil ?_ | refine e_block_exit_ne rfl ?_)); refine e_jf (k := ?_)
    refine j_end (k := ?_)
    repeat (first | refine o_v (k := ?_) | refine c_seq ?_ | refine c_region ?_ | refine o_nil ?_ | refine e_then_normal ?_ | refine o_store (k := ?_) | refine c_true (h1 := ?_) | refine c_false (h1 := ?_) | refine c_ret ?_ | refine c_skip ?_ | refine e_then_ret ?_ | refine c_block ?_ | refine c_exit ?_ | refine e_then_exit ?_ | refine e_block_exit ?_ | refine e_block_normal ?_ | refine e_block_ret ?_ | refine o_box (k := fun _ => ?_) | refine o_alloc (k := fun _ => ?_) | refine e_norm ?_ | refine o_ung (k := ?_) | refine o_k (k := ?_) | refine s_v (k := ?_) | refine s_w (k := ?_) | refine s_k (k := ?_) | refine s_nil ?_ | refine e_block_exit_ne rfl ?_)
    exact e_1 (h1 := rs_tmp rfl) (H' := [bufA v (w32 ino ++ w32 gen), bytesA own q data]) (hT := rfl)
  · refine fn_enter Tryz.func67 rfl Tryz.ntmps67 rfl fun _ _ _ => ?_
    rw [show ((letter _).toNat : Int) = _ from rfl]
    repeat (first | refine o_v (k := ?_) | refine c_seq ?_ | refine c_region ?_ | refine o_nil ?_ | refine e_then_normal ?_ | refine o_store (k := ?_) | refine c_true (h1 := ?_) | refine c_false (h1 := ?_) | refine c_ret ?_ | refine c_skip ?_ | refine e_then_ret ?_ | refine c_block ?_ | refine c_exit ?_ | refine e_then_exit ?_ | refine e_block_exit ?_ | refine e_block_normal ?_ | refine e_block_ret ?_ | refine o_box (k := fun _ => ?_) | refine o_alloc (k := fun _ => ?_) | refine e_norm ?_ | refine o_ung (k := ?_) | refine o_k (k := ?_) | refine s_v (k := ?_) | refine s_w (k := ?_) | refine s_k (k := ?_) | refine s_nil ?_ | refine e_block_exit_ne rfl ?_)
    rename_i ab
    refine c_j [blk ab 70 (argsC ⟨proc, off, count, size, mode, ino, gen, ino2, gen2, name, name2, data⟩ q c) (0, 0)] [0, 1, 2, 4, 5, 6] ?_
    refine j_v 0 (k := ?_); refine j_v 1 (k := ?_); refine j_v 2 (k := ?_); refine j_v 4 (k := ?_); refine j_v 5 (k := ?_); refine j_v 6 (k := ?_)
    refine j_one 3 (nd := true) (k := ?_)
    refine o_call (num14_ok ino2 gino2) (k := ?_)
    rintro v1 _ rfl
    dsimp only [List.cons_append, List.nil_append]
    refine o_nil ?_
    refine e_jt (k := ?_)
    refine j_one 7 (nd := true) (k := ?_)
    refine o_call (num14_ok gen2 ggen2) (k := ?_)
    rintro v2 _ rfl
    dsimp only [List.cons_append, List.nil_append]
    refine o_buf true v2 (k := ?_)
    rintro q2 c2 rfl hc2 hm2
    refine o_nil ?_
    refine e_jt (k := ?_)
    refine j_one 8 (nd := true) (k := ?_)
    refine o_appb true q2 (w32 gen2) (hb := by rw [w32_length, w32_length]; omega) (k := fun v => ?_)
    refine o_nil ?_
    refine e_jt (k := ?_)
    refine j_one 9 (nd := false) (k := ?_); (repeat (first | refine o_v (k := ?_) | refine c_seq ?_ | refine c_region ?_ | refine o_nil ?_ | refine e_then_normal ?_ | refine o_store (k := ?_) | refine c_true (h1 := ?_) | refine c_false (h1 := ?_) | refine c_ret ?_ | refine c_skip ?_ | refine e_then_ret ?_ | refine c_block ?_ | refine c_exit ?_ | refine e_then_exit ?_ | refine e_block_exit ?_ | refine e_block_normal ?_ | refine e_block_ret ?_ | refine o_box (k := fun _ => ?_) | refine o_alloc (k := fun _ => ?_) | refine e_norm ?_ | refine o_ung (k := ?_) | refine o_k (k := ?_) | refine s_v (k := ?_) | refine s_w (k := ?_) | refine s_k (k := ?_) | refine s_nil ?_ | refine e_block_exit_ne rfl ?_)); refine e_jf (k := ?_)
    refine j_end (k := ?_)
    repeat (first | refine o_v (k := ?_) | refine c_seq ?_ | refine c_region ?_ | refine o_nil ?_ | refine e_then_normal ?_ | refine o_store (k := ?_) | refine c_true (h1 := ?_) | refine c_false (h1 := ?_) | refine c_ret ?_ | refine c_skip ?_ | refine e_then_ret ?_ | refine c_block ?_ | refine c_exit ?_ | refine e_then_exit ?_ | refine e_block_exit ?_ | refine e_block_normal ?_ | refine e_block_ret ?_ | refine o_box (k := fun _ => ?_) | refine o_alloc (k := fun _ => ?_) | refine e_norm ?_ | refine o_ung (k := ?_) | refine o_k (k := ?_) | refine s_v (k := ?_) | refine s_w (k := ?_) | refine s_k (k := ?_) | refine s_nil ?_ | refine e_block_exit_ne rfl ?_)
    exact e_1 (h1 := rs_tmp rfl) (H' := [bufA v (w32 ino2 ++ w32 gen2), bytesA own q data]) (hT := rfl)
  · refine fn_enter Tryz.func67 rfl Tryz.ntmps67 rfl fun _ _ _ => ?_
    repeat (first | refine o_v (k := ?_) | refine c_seq ?_ | refine c_region ?_ | refine o_nil ?_ | refine e_then_normal ?_ | refine o_store (k := ?_) | refine c_true (h1 := ?_) | refine c_false (h1 := ?_) | refine c_ret ?_ | refine c_skip ?_ | refine e_then_ret ?_ | refine c_block ?_ | refine c_exit ?_ | refine e_then_exit ?_ | refine e_block_exit ?_ | refine e_block_normal ?_ | refine e_block_ret ?_ | refine o_box (k := fun _ => ?_) | refine o_alloc (k := fun _ => ?_) | refine e_norm ?_ | refine o_ung (k := ?_) | refine o_k (k := ?_) | refine s_v (k := ?_) | refine s_w (k := ?_) | refine s_k (k := ?_) | refine s_nil ?_ | refine e_block_exit_ne rfl ?_)
    refine o_s2b (l := name) (k := fun vs => ?_)
    refine o_buf true vs (k := ?_)
    rintro q5 c5 rfl hc5 hm5
    refine o_call (xText_ok true q5 name c5 (by omega)) (k := ?_)
    rintro v _ rfl
    dsimp only [List.cons_append, List.nil_append]
    repeat (first | refine o_v (k := ?_) | refine c_seq ?_ | refine c_region ?_ | refine o_nil ?_ | refine e_then_normal ?_ | refine o_store (k := ?_) | refine c_true (h1 := ?_) | refine c_false (h1 := ?_) | refine c_ret ?_ | refine c_skip ?_ | refine e_then_ret ?_ | refine c_block ?_ | refine c_exit ?_ | refine e_then_exit ?_ | refine e_block_exit ?_ | refine e_block_normal ?_ | refine e_block_ret ?_ | refine o_box (k := fun _ => ?_) | refine o_alloc (k := fun _ => ?_) | refine e_norm ?_ | refine o_ung (k := ?_) | refine o_k (k := ?_) | refine s_v (k := ?_) | refine s_w (k := ?_) | refine s_k (k := ?_) | refine s_nil ?_ | refine e_block_exit_ne rfl ?_)
    exact e_1 (h1 := rs_tmp rfl) (H' := [bufA v (textB name), bytesA own q data]) (hT := rfl)
  · refine fn_enter Tryz.func67 rfl Tryz.ntmps67 rfl fun _ _ _ => ?_
    repeat (first | refine o_v (k := ?_) | refine c_seq ?_ | refine c_region ?_ | refine o_nil ?_ | refine e_then_normal ?_ | refine o_store (k := ?_) | refine c_true (h1 := ?_) | refine c_false (h1 := ?_) | refine c_ret ?_ | refine c_skip ?_ | refine e_then_ret ?_ | refine c_block ?_ | refine c_exit ?_ | refine e_then_exit ?_ | refine e_block_exit ?_ | refine e_block_normal ?_ | refine e_block_ret ?_ | refine o_box (k := fun _ => ?_) | refine o_alloc (k := fun _ => ?_) | refine e_norm ?_ | refine o_ung (k := ?_) | refine o_k (k := ?_) | refine s_v (k := ?_) | refine s_w (k := ?_) | refine s_k (k := ?_) | refine s_nil ?_ | refine e_block_exit_ne rfl ?_)
    refine o_s2b (l := name2) (k := fun vs => ?_)
    refine o_buf true vs (k := ?_)
    rintro q5 c5 rfl hc5 hm5
    refine o_call (xText_ok true q5 name2 c5 (by omega)) (k := ?_)
    rintro v _ rfl
    dsimp only [List.cons_append, List.nil_append]
    repeat (first | refine o_v (k := ?_) | refine c_seq ?_ | refine c_region ?_ | refine o_nil ?_ | refine e_then_normal ?_ | refine o_store (k := ?_) | refine c_true (h1 := ?_) | refine c_false (h1 := ?_) | refine c_ret ?_ | refine c_skip ?_ | refine e_then_ret ?_ | refine c_block ?_ | refine c_exit ?_ | refine e_then_exit ?_ | refine e_block_exit ?_ | refine e_block_normal ?_ | refine e_block_ret ?_ | refine o_box (k := fun _ => ?_) | refine o_alloc (k := fun _ => ?_) | refine e_norm ?_ | refine o_ung (k := ?_) | refine o_k (k := ?_) | refine s_v (k := ?_) | refine s_w (k := ?_) | refine s_k (k := ?_) | refine s_nil ?_ | refine e_block_exit_ne rfl ?_)
    exact e_1 (h1 := rs_tmp rfl) (H' := [bufA v (textB name2), bytesA own q data]) (hT := rfl)
  · refine fn_enter Tryz.func67 rfl Tryz.ntmps67 rfl fun _ _ _ => ?_
    repeat (first | refine o_v (k := ?_) | refine c_seq ?_ | refine c_region ?_ | refine o_nil ?_ | refine e_then_normal ?_ | refine o_store (k := ?_) | refine c_true (h1 := ?_) | refine c_false (h1 := ?_) | refine c_ret ?_ | refine c_skip ?_ | refine e_then_ret ?_ | refine c_block ?_ | refine c_exit ?_ | refine e_then_exit ?_ | refine e_block_exit ?_ | refine e_block_normal ?_ | refine e_block_ret ?_ | refine o_box (k := fun _ => ?_) | refine o_alloc (k := fun _ => ?_) | refine e_norm ?_ | refine o_ung (k := ?_) | refine o_k (k := ?_) | refine s_v (k := ?_) | refine s_w (k := ?_) | refine s_k (k := ?_) | refine s_nil ?_ | refine e_block_exit_ne rfl ?_)
    dsimp only
    rw [show (off : Int) % 18446744073709551616 = (off : Int) from by omega]
    refine o_call (xU64_ok off (by omega)) (k := ?_)
    rintro v _ rfl
    dsimp only [List.cons_append, List.nil_append]
    repeat (first | refine o_v (k := ?_) | refine c_seq ?_ | refine c_region ?_ | refine o_nil ?_ | refine e_then_normal ?_ | refine o_store (k := ?_) | refine c_true (h1 := ?_) | refine c_false (h1 := ?_) | refine c_ret ?_ | refine c_skip ?_ | refine e_then_ret ?_ | refine c_block ?_ | refine c_exit ?_ | refine e_then_exit ?_ | refine e_block_exit ?_ | refine e_block_normal ?_ | refine e_block_ret ?_ | refine o_box (k := fun _ => ?_) | refine o_alloc (k := fun _ => ?_) | refine e_norm ?_ | refine o_ung (k := ?_) | refine o_k (k := ?_) | refine s_v (k := ?_) | refine s_w (k := ?_) | refine s_k (k := ?_) | refine s_nil ?_ | refine e_block_exit_ne rfl ?_)
    exact e_1 (h1 := rs_tmp rfl) (H' := [bufA v (w64 off), bytesA own q data]) (hT := rfl)
  · refine fn_enter Tryz.func67 rfl Tryz.ntmps67 rfl fun _ _ _ => ?_
    repeat (first | refine o_v (k := ?_) | refine c_seq ?_ | refine c_region ?_ | refine o_nil ?_ | refine e_then_normal ?_ | refine o_store (k := ?_) | refine c_true (h1 := ?_) | refine c_false (h1 := ?_) | refine c_ret ?_ | refine c_skip ?_ | refine e_then_ret ?_ | refine c_block ?_ | refine c_exit ?_ | refine e_then_exit ?_ | refine e_block_exit ?_ | refine e_block_normal ?_ | refine e_block_ret ?_ | refine o_box (k := fun _ => ?_) | refine o_alloc (k := fun _ => ?_) | refine e_norm ?_ | refine o_ung (k := ?_) | refine o_k (k := ?_) | refine s_v (k := ?_) | refine s_w (k := ?_) | refine s_k (k := ?_) | refine s_nil ?_ | refine e_block_exit_ne rfl ?_)
    refine o_call (num14_ok count gcount) (k := ?_)
    rintro v _ rfl
    dsimp only [List.cons_append, List.nil_append]
    repeat (first | refine o_v (k := ?_) | refine c_seq ?_ | refine c_region ?_ | refine o_nil ?_ | refine e_then_normal ?_ | refine o_store (k := ?_) | refine c_true (h1 := ?_) | refine c_false (h1 := ?_) | refine c_ret ?_ | refine c_skip ?_ | refine e_then_ret ?_ | refine c_block ?_ | refine c_exit ?_ | refine e_then_exit ?_ | refine e_block_exit ?_ | refine e_block_normal ?_ | refine e_block_ret ?_ | refine o_box (k := fun _ => ?_) | refine o_alloc (k := fun _ => ?_) | refine e_norm ?_ | refine o_ung (k := ?_) | refine o_k (k := ?_) | refine s_v (k := ?_) | refine s_w (k := ?_) | refine s_k (k := ?_) | refine s_nil ?_ | refine e_block_exit_ne rfl ?_)
    exact e_1 (h1 := rs_tmp rfl) (H' := [bufA v (w32 count), bytesA own q data]) (hT := rfl)
  · refine fn_enter Tryz.func67 rfl Tryz.ntmps67 rfl fun _ _ _ => ?_
    repeat (first | refine o_v (k := ?_) | refine c_seq ?_ | refine c_region ?_ | refine o_nil ?_ | refine e_then_normal ?_ | refine o_store (k := ?_) | refine c_true (h1 := ?_) | refine c_false (h1 := ?_) | refine c_ret ?_ | refine c_skip ?_ | refine e_then_ret ?_ | refine c_block ?_ | refine c_exit ?_ | refine e_then_exit ?_ | refine e_block_exit ?_ | refine e_block_normal ?_ | refine e_block_ret ?_ | refine o_box (k := fun _ => ?_) | refine o_alloc (k := fun _ => ?_) | refine e_norm ?_ | refine o_ung (k := ?_) | refine o_k (k := ?_) | refine s_v (k := ?_) | refine s_w (k := ?_) | refine s_k (k := ?_) | refine s_nil ?_ | refine e_block_exit_ne rfl ?_)
    refine o_call (num14_ok size gsize) (k := ?_)
    rintro v _ rfl
    dsimp only [List.cons_append, List.nil_append]
    repeat (first | refine o_v (k := ?_) | refine c_seq ?_ | refine c_region ?_ | refine o_nil ?_ | refine e_then_normal ?_ | refine o_store (k := ?_) | refine c_true (h1 := ?_) | refine c_false (h1 := ?_) | refine c_ret ?_ | refine c_skip ?_ | refine e_then_ret ?_ | refine c_block ?_ | refine c_exit ?_ | refine e_then_exit ?_ | refine e_block_exit ?_ | refine e_block_normal ?_ | refine e_block_ret ?_ | refine o_box (k := fun _ => ?_) | refine o_alloc (k := fun _ => ?_) | refine e_norm ?_ | refine o_ung (k := ?_) | refine o_k (k := ?_) | refine s_v (k := ?_) | refine s_w (k := ?_) | refine s_k (k := ?_) | refine s_nil ?_ | refine e_block_exit_ne rfl ?_)
    exact e_1 (h1 := rs_tmp rfl) (H' := [bufA v (w32 size), bytesA own q data]) (hT := rfl)
  · refine fn_enter Tryz.func67 rfl Tryz.ntmps67 rfl fun _ _ _ => ?_
    repeat (first | refine o_v (k := ?_) | refine c_seq ?_ | refine c_region ?_ | refine o_nil ?_ | refine e_then_normal ?_ | refine o_store (k := ?_) | refine c_true (h1 := ?_) | refine c_false (h1 := ?_) | refine c_ret ?_ | refine c_skip ?_ | refine e_then_ret ?_ | refine c_block ?_ | refine c_exit ?_ | refine e_then_exit ?_ | refine e_block_exit ?_ | refine e_block_normal ?_ | refine e_block_ret ?_ | refine o_box (k := fun _ => ?_) | refine o_alloc (k := fun _ => ?_) | refine e_norm ?_ | refine o_ung (k := ?_) | refine o_k (k := ?_) | refine s_v (k := ?_) | refine s_w (k := ?_) | refine s_k (k := ?_) | refine s_nil ?_ | refine e_block_exit_ne rfl ?_)
    refine o_call (num14_ok mode gmode) (k := ?_)
    rintro v _ rfl
    dsimp only [List.cons_append, List.nil_append]
    repeat (first | refine o_v (k := ?_) | refine c_seq ?_ | refine c_region ?_ | refine o_nil ?_ | refine e_then_normal ?_ | refine o_store (k := ?_) | refine c_true (h1 := ?_) | refine c_false (h1 := ?_) | refine c_ret ?_ | refine c_skip ?_ | refine e_then_ret ?_ | refine c_block ?_ | refine c_exit ?_ | refine e_then_exit ?_ | refine e_block_exit ?_ | refine e_block_normal ?_ | refine e_block_ret ?_ | refine o_box (k := fun _ => ?_) | refine o_alloc (k := fun _ => ?_) | refine e_norm ?_ | refine o_ung (k := ?_) | refine o_k (k := ?_) | refine s_v (k := ?_) | refine s_w (k := ?_) | refine s_k (k := ?_) | refine s_nil ?_ | refine e_block_exit_ne rfl ?_)
    exact e_1 (h1 := rs_tmp rfl) (H' := [bufA v (w32 mode), bytesA own q data]) (hT := rfl)
  · refine fn_enter Tryz.func67 rfl Tryz.ntmps67 rfl fun _ _ _ => ?_
    repeat (first | refine o_v (k := ?_) | refine c_seq ?_ | refine c_region ?_ | refine o_nil ?_ | refine e_then_normal ?_ | refine o_store (k := ?_) | refine c_true (h1 := ?_) | refine c_false (h1 := ?_) | refine c_ret ?_ | refine c_skip ?_ | refine e_then_ret ?_ | refine c_block ?_ | refine c_exit ?_ | refine e_then_exit ?_ | refine e_block_exit ?_ | refine e_block_normal ?_ | refine e_block_ret ?_ | refine o_box (k := fun _ => ?_) | refine o_alloc (k := fun _ => ?_) | refine e_norm ?_ | refine o_ung (k := ?_) | refine o_k (k := ?_) | refine s_v (k := ?_) | refine s_w (k := ?_) | refine s_k (k := ?_) | refine s_nil ?_ | refine e_block_exit_ne rfl ?_)
    refine o_call (xText_ok own q data c (by omega)) (k := ?_)
    rintro v _ rfl
    dsimp only [List.cons_append, List.nil_append]
    repeat (first | refine o_v (k := ?_) | refine c_seq ?_ | refine c_region ?_ | refine o_nil ?_ | refine e_then_normal ?_ | refine o_store (k := ?_) | refine c_true (h1 := ?_) | refine c_false (h1 := ?_) | refine c_ret ?_ | refine c_skip ?_ | refine e_then_ret ?_ | refine c_block ?_ | refine c_exit ?_ | refine e_then_exit ?_ | refine e_block_exit ?_ | refine e_block_normal ?_ | refine e_block_ret ?_ | refine o_box (k := fun _ => ?_) | refine o_alloc (k := fun _ => ?_) | refine e_norm ?_ | refine o_ung (k := ?_) | refine o_k (k := ?_) | refine s_v (k := ?_) | refine s_w (k := ?_) | refine s_k (k := ?_) | refine s_nil ?_ | refine e_block_exit_ne rfl ?_)
    exact e_1 (h1 := rs_tmp rfl) (H' := [bufA v (textB data), bytesA own q data]) (hT := rfl)

set_option maxRecDepth 20000 in
set_option maxHeartbeats 4000000 in
theorem bytes14_ok (own : Bool) (a : MArgs) (h : ArgsOk a) (q : Option Addr) (c : Nat) : Ct Tryz.prog 35 [.agg (argsC a q c).toArray] [bytesA own q a.data] (Ret fun u H => H = [bufA u (argsB a), bytesA own q a.data]) := by
  refine fn_enter Tryz.func35 rfl Tryz.ntmps35 rfl fun _ _ _ => ?_
  repeat (first | refine o_v (k := ?_) | refine c_seq ?_ | refine c_region ?_ | refine o_nil ?_ | refine e_then_normal ?_ | refine o_store (k := ?_) | refine c_true (h1 := ?_) | refine c_false (h1 := ?_) | refine c_ret ?_ | refine c_skip ?_ | refine e_then_ret ?_ | refine c_block ?_ | refine c_exit ?_ | refine e_then_exit ?_ | refine e_block_exit ?_ | refine e_block_normal ?_ | refine e_block_ret ?_ | refine o_box (k := fun _ => ?_) | refine o_alloc (k := fun _ => ?_) | refine e_norm ?_ | refine o_ung (k := ?_) | refine o_k (k := ?_) | refine s_v (k := ?_) | refine s_w (k := ?_) | refine s_k (k := ?_) | refine s_nil ?_ | refine e_block_exit_ne rfl ?_ | (refine o_call (fields14_ok _) (k := ?_); rintro _ _ ⟨rfl, rfl⟩; dsimp only [List.cons_append, List.nil_append]))
  rename_i ab
  have hfl := fieldsOf_len a.proc
  have hsl : (fieldsS a.proc).length = (fieldsOf a.proc).length := by simp [fieldsS]
  refine c_buf0 ?_
  refine c_loop (α := Value × Nat) (fun x => [(5, .int .i64 x.2), (4, x.1), (3, str (fieldsS a.proc)), (1, .pointer (some ⟨ab, 0, none⟩))]) (fun x => [bufA x.1 (((fieldsOf a.proc).take x.2).flatMap (fieldB a)), blk ab 70 (argsC a q c) (0, 0), bytesA own q a.data]) (fun x => x.2 ≤ (fieldsOf a.proc).length) (fun x => (fieldsOf a.proc).length - x.2) (.slice none 0 0, 0) (by simp) ⟨rfl, rfl, rfl, rfl, trivial⟩ (fun w hw => to_keep _ hw) ?_
  rintro ⟨v, k⟩ hk
  (try dsimp only at hk ⊢)
  have hbl : ∀ L : List Nat, L.length ≤ 4 → (L.flatMap (fieldB a)).length ≤ L.length * 2056 := by
    intro L _
    induction L with
    | nil => simp
    | cons x L ih =>
      have := fieldB_len h x
      have := ih (by simp at *; omega)
      simp only [List.flatMap_cons, List.length_append, List.length_cons]
      omega
  have hb := hbl ((fieldsOf a.proc).take k) (by rw [List.length_take]; omega)
  rw [List.length_take] at hb
  repeat (first | refine o_v (k := ?_) | refine c_seq ?_ | refine c_region ?_ | refine o_nil ?_ | refine e_then_normal ?_ | refine o_store (k := ?_) | refine c_true (h1 := ?_) | refine c_false (h1 := ?_) | refine c_ret ?_ | refine c_skip ?_ | refine e_then_ret ?_ | refine c_block ?_ | refine c_exit ?_ | refine e_then_exit ?_ | refine e_block_exit ?_ | refine e_block_normal ?_ | refine e_block_ret ?_ | refine o_box (k := fun _ => ?_) | refine o_alloc (k := fun _ => ?_) | refine e_norm ?_ | refine o_ung (k := ?_) | refine o_k (k := ?_) | refine s_v (k := ?_) | refine s_w (k := ?_) | refine s_k (k := ?_) | refine s_nil ?_ | refine e_block_exit_ne rfl ?_)
  refine c_if (h1 := fun hlt => ?_) (h2 := fun hlt => ?_)
  · have hlt' : k < (fieldsOf a.proc).length := by simp at hlt; omega
    have hget : (fieldsS a.proc)[k]? = some (letter (fieldsOf a.proc)[k]) := by rw [fieldsS, List.getElem?_map, List.getElem?_eq_getElem hlt']; rfl
    have hf8 := fieldsOf_le a.proc _ (List.getElem_mem hlt')
    have htk : (fieldsOf a.proc).take (k + 1) = (fieldsOf a.proc).take k ++ [(fieldsOf a.proc)[k]] := List.take_succ_eq_append_getElem hlt'
    have hfb := fieldB_len h (fieldsOf a.proc)[k]
    repeat (first | refine o_v (k := ?_) | refine c_seq ?_ | refine c_region ?_ | refine o_nil ?_ | refine e_then_normal ?_ | refine o_store (k := ?_) | refine c_true (h1 := ?_) | refine c_false (h1 := ?_) | refine c_ret ?_ | refine c_skip ?_ | refine e_then_ret ?_ | refine c_block ?_ | refine c_exit ?_ | refine e_then_exit ?_ | refine e_block_exit ?_ | refine e_block_normal ?_ | refine e_block_ret ?_ | refine o_box (k := fun _ => ?_) | refine o_alloc (k := fun _ => ?_) | refine e_norm ?_ | refine o_ung (k := ?_) | refine o_k (k := ?_) | refine s_v (k := ?_) | refine s_w (k := ?_) | refine s_k (k := ?_) | refine s_nil ?_ | refine e_block_exit_ne rfl ?_)
    refine c_j [blk ab 70 (argsC a q c) (0, 0)] [0, 1, 2, 3, 4] ?_
    refine j_v 0 (k := ?_); refine j_v 1 (k := ?_); refine j_v 2 (k := ?_); refine j_v 3 (k := ?_)
    refine j_v 4 (hy := y_sidx (i := (k : Int)) rfl rfl (by omega) (by rw [Int.toNat_natCast]; exact hget)) (k := ?_)
    refine j_one 5 (nd := true) (k := ?_)
    refine o_call (field_ok own a h q c (fieldsOf a.proc)[k] hf8) (k := ?_)
    rintro v2 _ rfl
    dsimp only [List.cons_append, List.nil_append]
    refine o_buf true v2 (k := ?_)
    rintro q2 c2 rfl hc2 hm2
    refine o_nil ?_
    refine e_jt (k := ?_)
    refine j_one 6 (nd := true) (k := ?_)
    refine o_appb true q2 (fieldB a (fieldsOf a.proc)[k]) (hb := by omega) (k := fun v => ?_)
    refine o_nil ?_
    refine e_jt (k := ?_)
    refine j_one 7 (nd := false) (k := ?_); (repeat (first | refine o_v (k := ?_) | refine c_seq ?_ | refine c_region ?_ | refine o_nil ?_ | refine e_then_normal ?_ | refine o_store (k := ?_) | refine c_true (h1 := ?_) | refine c_false (h1 := ?_) | refine c_ret ?_ | refine c_skip ?_ | refine e_then_ret ?_ | refine c_block ?_ | refine c_exit ?_ | refine e_then_exit ?_ | refine e_block_exit ?_ | refine e_block_normal ?_ | refine e_block_ret ?_ | refine o_box (k := fun _ => ?_) | refine o_alloc (k := fun _ => ?_) | refine e_norm ?_ | refine o_ung (k := ?_) | refine o_k (k := ?_) | refine s_v (k := ?_) | refine s_w (k := ?_) | refine s_k (k := ?_) | refine s_nil ?_ | refine e_block_exit_ne rfl ?_)); refine e_jf (k := ?_)
    refine j_end (k := ?_)
    repeat (first | refine o_v (k := ?_) | refine c_seq ?_ | refine c_region ?_ | refine o_nil ?_ | refine e_then_normal ?_ | refine o_store (k := ?_) | refine c_true (h1 := ?_) | refine c_false (h1 := ?_) | refine c_ret ?_ | refine c_skip ?_ | refine e_then_ret ?_ | refine c_block ?_ | refine c_exit ?_ | refine e_then_exit ?_ | refine e_block_exit ?_ | refine e_block_normal ?_ | refine e_block_ret ?_ | refine o_box (k := fun _ => ?_) | refine o_alloc (k := fun _ => ?_) | refine e_norm ?_ | refine o_ung (k := ?_) | refine o_k (k := ?_) | refine s_v (k := ?_) | refine s_w (k := ?_) | refine s_k (k := ?_) | refine s_nil ?_ | refine e_block_exit_ne rfl ?_)
    refine e_loop (v, k + 1) ?_ ?_ ?_ ?_
    · show k + 1 ≤ _; omega
    · show _ - (k + 1) < _ - k; omega
    · exact ⟨rfl, rfl, rfl, rfl, trivial⟩
    · intro w hw
      simp only [htk, List.flatMap_append, List.flatMap_cons, List.flatMap_nil, List.append_nil]
      exact to_keep _ hw
  · have hkl : k = (fieldsOf a.proc).length := by simp at hlt; omega
    subst hkl
    rw [List.take_length]
    repeat (first | refine o_v (k := ?_) | refine c_seq ?_ | refine c_region ?_ | refine o_nil ?_ | refine e_then_normal ?_ | refine o_store (k := ?_) | refine c_true (h1 := ?_) | refine c_false (h1 := ?_) | refine c_ret ?_ | refine c_skip ?_ | refine e_then_ret ?_ | refine c_block ?_ | refine c_exit ?_ | refine e_then_exit ?_ | refine e_block_exit ?_ | refine e_block_normal ?_ | refine e_block_ret ?_ | refine o_box (k := fun _ => ?_) | refine o_alloc (k := fun _ => ?_) | refine e_norm ?_ | refine o_ung (k := ?_) | refine o_k (k := ?_) | refine s_v (k := ?_) | refine s_w (k := ?_) | refine s_k (k := ?_) | refine s_nil ?_ | refine e_block_exit_ne rfl ?_)
    exact e_1 (h1 := rs_tmp rfl) (H' := [bufA v (argsB a), bytesA own q a.data]) (hT := rfl)
end Go.Proofs.YtlkgdidmhmaneaaGreatDoor
/- The engine, part 18: loops that go round a known number of times. -/
namespace Go.Proofs.YtlkgdidmhmaneaaGreatDoor
open Go Go.RowKit
section
variable {P : Program} {Q : Exit → Act → World → Prop} {G : Ctx} {F : Fr} {H : List Ast} {c : Code}
def RG (P : Program) (c : Code) (Q : Exit → Act → World → Prop) (n : Nat) (G : Ctx) (F : Fr) (H : List Ast) : Prop := ∀ a w, FrOk G.n F a → Good G H w → Code.rounds P c Q n a w
theorem c_rounds (n : Nat) (k : RG P c Q n G F H) : CG P (.loop c) Q G F H := fun a w ha hw => wp_loop_rounds n (k a w ha hw)
theorem r_round {n : Nat} (k : CG P c (Exit.then (Code.rounds P c Q n) Q) G F H) : RG P c Q (n + 1) G F H := fun a w ha hw => by
  rw [rounds_succ]; exact k a w ha hw
theorem e_round {n : Nat} (k : RG P c Q n G F H) : EG (Exit.then (Code.rounds P c Q n) Q) .normal G F H := fun a w ha hw => k a w ha hw
/-- only what is named is kept -/
theorem r_keep {n : Nat} (F' : Fr) (H' : List Ast) (hF : subF F F') (hH : ∀ w, Good G H w → Good G H' w) (k : RG P c Q n G F' H') (hk : look F' 999999 = look F 999999 := by rfl) : RG P c Q n G F H := fun a w ha hw => k a w (ha.sub (subF.look hF) hk) (hH w hw)
theorem c_rowat (q : Option Addr) {n n' cp : Nat} {e : TypeId} {sz : Nat} {xs : List Value} (hne : xs ≠ []) (h : InA H (rowA (.slice q n cp) e sz n' xs) := by repeat (first | exact InA.here | apply InA.there)) (k : ∀ b, q = some ⟨b, 0, none⟩ → CG P c Q G F H) : CG P c Q G F H := by
  intro a w ha hw
  obtain ⟨S, o, ⟨hl, hp⟩, hs⟩ := h w hw.held
  cases o with
  | none => exact absurd (List.eq_nil_of_length_eq_zero (by rw [hl, hp.2]; simp)) hne
  | some x => exact k x.1 (by have := hp.1; simp only [Value.slice.injEq] at this; exact this.1) a w ha hw
section
variable {ops : Array Oper} {rest tail : List Oper} {d : Nat} {ty : TypeId} {pos : String} {aft : Array Edge} {t e : TypeId}
/-- x[i:], what is known of the whole kept -/
theorem s_cutlov (i m' : Nat) {x y : Operand} {q : Option Addr} {m c sz : Nat} {i' : Int} {k' : IntKind} [g1 : PUnd P t (.slice e)] [g2 : PSize P e sz] (hx : ev F x = some (.slice q m c) := by rfl) (hy : ev F y = some (.int k' i') := by rfl) (hi : i' = i := by omega) (hm : m' + i = m := by omega) (hc : m ≤ c := by omega) (hd : Nat.ble (d + 1) G.n = true := by rfl)
    (k : ∀ q' c', (∀ b o, q = some ⟨b, o, none⟩ → i < c → q' = some ⟨b, o + i * sz, none⟩) → m' ≤ c' → SG P ops Q G tail rest ((d, .slice q' m' c') :: F) H) : SG P ops Q G tail (⟨some d, .slice t x (some y) none none, ty, pos, aft, none⟩ :: rest) F H := by
  subst hi
  have h := y_cutlo (P := P) (n := G.n) (H := H) (t := t) hx hy (by omega)
  refine s_y h hd ?_
  simp only [Int.toNat_natCast]
  rw [show m - i = m' from by omega]
  refine k _ _ ?_ (by omega)
  rintro b o rfl hlt
  rw [if_neg (by omega)]
  simp [Addr.add_lit]
end
end
end Go.Proofs.YtlkgdidmhmaneaaGreatDoor
