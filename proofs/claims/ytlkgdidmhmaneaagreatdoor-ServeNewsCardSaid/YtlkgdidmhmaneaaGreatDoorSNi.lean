/- A part of the proof: walks and laws that the last part joins. -/
import Derived.Test.YtlkgdidmhmaneaaGreatDoorSNh
/- the reference of chapter 13, part 1: New; the law's own parts. -/
namespace Go.Proofs.YtlkgdidmhmaneaaGreatDoor
open Go Go.RowKit
/-- a node of the reference's, in cells -/
def rnC (n : RN) (q : Option Addr × Nat) : List Value := [.int .i64 n.h.1, .int .i64 n.h.2, .int .i64 n.kind, .int .i64 n.mode, .int .i64 n.up.1, .int .i64 n.up.2, str n.b, .slice q.1 n.l.length q.2]
def rnsC (L : List RN) (qs : List (Option Addr × Nat)) : List Value := (List.zipWith rnC L qs).flatten
/-- nodes of the reference's, that are turned no more: from q on; where each one's entries lie -/
def rnA (q : Option Addr) (L : List RN) (qs : List (Option Addr × Nat)) : Ast where
  own := false
  holds := fun S w => (qs.length = L.length ∧ ∀ (i : Nat) (n : RN) (x : Option Addr × Nat), L[i]? = some n → qs[i]? = some x → n.l.length ≤ x.2 ∧ x.2 ≤ 9223372036854775807 ∧ (cellsA false x.1 (entsC n.l)).holds S w) ∧ (cellsA false q (rnsC L qs)).holds S w
  loc := fun S w w' h hh => ⟨⟨hh.1.1, fun i n x h1 h2 => ⟨(hh.1.2 i n x h1 h2).1, (hh.1.2 i n x h1 h2).2.1, (cellsA false x.1 (entsC n.l)).loc S w w' h (hh.1.2 i n x h1 h2).2.2⟩⟩, (cellsA false q (rnsC L qs)).loc S w w' h hh.2⟩
  mono := fun S S' w h hh => ⟨⟨hh.1.1, fun i n x h1 h2 => ⟨(hh.1.2 i n x h1 h2).1, (hh.1.2 i n x h1 h2).2.1, (cellsA false x.1 (entsC n.l)).mono S S' w h (hh.1.2 i n x h1 h2).2.2⟩⟩, (cellsA false q (rnsC L qs)).mono S S' w h hh.2⟩
instance (q : Option Addr) (L : List RN) (qs : List (Option Addr × Nat)) : ImmA (rnA q L qs) := ⟨rfl⟩
@[simp] theorem rnA_own (q : Option Addr) (L : List RN) (qs : List (Option Addr × Nat)) : (rnA q L qs).own = false := rfl
/-- where a file system of the reference's lies: its nodes, their entries, its counts -/
structure RQ where
  q : Option Addr
  c : Nat
  qs : List (Option Addr × Nat)
  gq : Option Addr
  gc : Nat
def rfC (f : RF) (x : RQ) : List Value := [.int .i64 f.most, .int .i64 f.room, .slice x.q f.L.length x.c, .slice x.gq f.gens.length x.gc]
def rqOk (f : RF) (x : RQ) : Prop := (f.L.length ≤ x.c ∧ x.c ≤ 9223372036854775807) ∧ f.gens.length ≤ x.gc ∧ x.gc ≤ 9223372036854775807
abbrev rfA (f : RF) (x : RQ) : List Ast := [rnA x.q f.L x.qs, cellsA false x.gq (nums .i64 f.gens)]
theorem rnA_new (S : Nat → Prop) (w : World) (b : Nat) (n : RN) (hl : n.l = []) (h : (cellsA false (some ⟨b, 0, none⟩) (rnC n (none, 0))).holds S w) : (rnA (some ⟨b, 0, none⟩) [n] [(none, 0)]).holds S w := by
  refine ⟨⟨rfl, fun i m x h1 h2 => ?_⟩, ?_⟩
  · cases i with
    | zero =>
      simp only [List.getElem?_cons_zero, Option.some.injEq] at h1 h2
      subst h1; subst h2
      rw [hl]
      exact ⟨by simp, by simp, cellsA_nil _ _⟩
    | succ i => simp at h1
  · simpa [rnsC] using h
theorem gens_new (n : Nat) (hn : 1 ≤ n) : List.take (Int.toNat 1) (List.replicate (n + 1) (Value.int .i64 0)) ++ [.int .i64 1] ++ List.drop (Int.toNat 1 + [Value.int .i64 1].length) (List.replicate (n + 1) (.int .i64 0)) = nums .i64 (0 :: 1 :: List.replicate (n - 1) 0) := by
  obtain ⟨m, rfl⟩ : ∃ m, n = m + 1 := ⟨n - 1, by omega⟩
  simp [nums, List.replicate_succ]
attribute [local irreducible] Yl OG CG EG SG AG  CellIn CellsIn BlkIn InA TakeA SplitA SubA Ct ResOk Good Held blk cellsA exA

set_option maxRecDepth 20000 in
set_option maxHeartbeats 4000000 in
theorem newR_ok (n : Nat) (room : Int) (hn : 1 ≤ n ∧ n ≤ 64) : Ct Tryz.prog 30 [.int .i64 n, .int .i64 room] [] (Ret fun u H => ∃ x, rqOk (newR n room) x ∧ u = .agg (rfC (newR n room) x).toArray ∧ H = rfA (newR n room) x) := by
  refine fn_enter Tryz.func30 rfl Tryz.ntmps30 rfl fun _ _ _ => ?_
  repeat (first | refine o_v (k := ?_) | refine c_seq ?_ | refine c_region ?_ | refine o_nil ?_ | refine e_then_normal ?_ | refine o_store (k := ?_) | refine c_true (h1 := ?_) | refine c_false (h1 := ?_) | refine c_ret ?_ | refine c_skip ?_ | refine e_then_ret ?_ | refine c_block ?_ | refine c_exit ?_ | refine e_then_exit ?_ | refine e_block_exit ?_ | refine e_block_normal ?_ | refine e_block_ret ?_ | refine o_box (k := fun _ => ?_) | refine o_alloc (k := fun _ => ?_) | refine e_norm ?_ | refine o_ung (k := ?_) | refine o_k (k := ?_) | refine s_v (k := ?_) | refine s_w (k := ?_) | refine s_k (k := ?_) | refine s_nil ?_ | refine e_block_exit_ne rfl ?_)
  refine o_make (h := by omega) (k := fun gb => ?_)
  rw [show ((n : Int) + 1).toNat = n + 1 from by omega]
  rw [repL_one]
  repeat (first | refine o_v (k := ?_) | refine c_seq ?_ | refine c_region ?_ | refine o_nil ?_ | refine e_then_normal ?_ | refine o_store (k := ?_) | refine c_true (h1 := ?_) | refine c_false (h1 := ?_) | refine c_ret ?_ | refine c_skip ?_ | refine e_then_ret ?_ | refine c_block ?_ | refine c_exit ?_ | refine e_then_exit ?_ | refine e_block_exit ?_ | refine e_block_normal ?_ | refine e_block_ret ?_ | refine o_box (k := fun _ => ?_) | refine o_alloc (k := fun _ => ?_) | refine e_norm ?_ | refine o_ung (k := ?_) | refine o_k (k := ?_) | refine s_v (k := ?_) | refine s_w (k := ?_) | refine s_k (k := ?_) | refine s_nil ?_ | refine e_block_exit_ne rfl ?_)
  refine o_storeAt (us := [.int .i64 1]) (m := 1) (hfz := .inl rfl) (hm := by simp; omega) (k := ?_)
  repeat (first | refine o_v (k := ?_) | refine c_seq ?_ | refine c_region ?_ | refine o_nil ?_ | refine e_then_normal ?_ | refine o_store (k := ?_) | refine c_true (h1 := ?_) | refine c_false (h1 := ?_) | refine c_ret ?_ | refine c_skip ?_ | refine e_then_ret ?_ | refine c_block ?_ | refine c_exit ?_ | refine e_then_exit ?_ | refine e_block_exit ?_ | refine e_block_normal ?_ | refine e_block_ret ?_ | refine o_box (k := fun _ => ?_) | refine o_alloc (k := fun _ => ?_) | refine e_norm ?_ | refine o_ung (k := ?_) | refine o_k (k := ?_) | refine s_v (k := ?_) | refine s_w (k := ?_) | refine s_k (k := ?_) | refine s_nil ?_ | refine e_block_exit_ne rfl ?_ | (refine o_call (root13_ok) (k := ?_); rintro _ _ ⟨rfl, rfl⟩; dsimp only [List.cons_append, List.nil_append]) | (refine o_call (root13_ok) (k := ?_); rintro _ _ ⟨rfl, rfl⟩; dsimp only [List.cons_append, List.nil_append]))
  refine o_lit (k := fun lb => ?_)
  repeat (first | refine o_v (k := ?_) | refine c_seq ?_ | refine c_region ?_ | refine o_nil ?_ | refine e_then_normal ?_ | refine o_store (k := ?_) | refine c_true (h1 := ?_) | refine c_false (h1 := ?_) | refine c_ret ?_ | refine c_skip ?_ | refine e_then_ret ?_ | refine c_block ?_ | refine c_exit ?_ | refine e_then_exit ?_ | refine e_block_exit ?_ | refine e_block_normal ?_ | refine e_block_ret ?_ | refine o_box (k := fun _ => ?_) | refine o_alloc (k := fun _ => ?_) | refine e_norm ?_ | refine o_ung (k := ?_) | refine o_k (k := ?_) | refine s_v (k := ?_) | refine s_w (k := ?_) | refine s_k (k := ?_) | refine s_nil ?_ | refine e_block_exit_ne rfl ?_)
  rename_i xb tb
  rw [gens_new n hn.1]
  refine e_freeze (blk gb 3 (nums .i64 (0 :: 1 :: List.replicate (n - 1) 0)) (0, 0)) (cellsA false (some ⟨gb, 0, none⟩) (nums .i64 (0 :: 1 :: List.replicate (n - 1) 0))) (fun S w h => blk_cells S w h) (k := ?_)
  refine e_freeze (blk lb 134 (rnC ⟨rootH, 1, 493, rootH, [], []⟩ (none, 0)) (0, 0)) (rnA (some ⟨lb, 0, none⟩) [⟨rootH, 1, 493, rootH, [], []⟩] [(none, 0)]) (fun S w h => rnA_new S w lb _ rfl (blk_cells S w h)) (k := ?_)
  exact e_1 (h1 := rs_blk) (H' := rfA (newR n room) ⟨some ⟨lb, 0, none⟩, 1, [(none, 0)], some ⟨gb, 0, none⟩, n + 1⟩) (hT := ⟨_, ⟨⟨by simp [newR], by dsimp only; omega⟩, by simp [newR]; omega, by dsimp only; omega⟩, by simp [rfC, newR, show n - 1 + 1 + 1 = n + 1 from by omega], rfl⟩)
end Go.Proofs.YtlkgdidmhmaneaaGreatDoor
/- the laws' own world: begin, call. -/
namespace Go.Proofs.YtlkgdidmhmaneaaGreatDoor
open Go Go.RowKit
def hdC (h : Hd) : List Value := [.int .i64 h.1, .int .i64 h.2]
def hdsC (l : List Hd) : List Value := (l.map hdC).flatten
/-- the laws' world: a server, the document's file system, the handles that were told, the replies' number -/
abbrev wA (wb sb fb : Nat) (lay : Lay) (p : PF) (s : Int) (f : RF) (x : RQ) (av : Value) (hs : List Hd) (n : Int) : List Ast := blk wb 59 (.pointer (some ⟨sb, 0, none⟩) :: (rfC f x ++ [av, .int .i64 n])) (0, 0) :: rowA av 41 2 hs.length (hdsC hs) :: (srvA sb fb lay p s ++ rfA f x)
attribute [local irreducible] Yl OG CG EG SG AG JG CellIn CellsIn BlkIn InA TakeA SplitA SubA Ct ResOk Good Held blk cellsA exA

set_option maxRecDepth 20000 in
set_option maxHeartbeats 4000000 in
theorem begin_ok (n : Nat) (room : Int) (hn : 1 ≤ n ∧ n ≤ 64) (hr : 0 ≤ room ∧ room ≤ 65536) : Ct Tryz.prog 15 [.int .i64 n, .int .i64 room] [] (Ret fun u H => ∃ wb sb fb lay x av, rqOk (newR n room) x ∧ u = .pointer (some ⟨wb, 0, none⟩) ∧ H = wA wb sb fb lay (newF n room) 0 (newR n room) x av [rootH] 0) := by
  have hc := srvNew_ok n room
  have hif : ((1 : Int) ≤ n ∧ (n : Int) ≤ 64) ∧ 0 ≤ room ∧ room ≤ 65536 := by omega
  simp only [if_pos hif, Int.toNat_natCast] at hc
  refine fn_enter Tryz.func15 rfl Tryz.ntmps15 rfl fun _ _ _ => ?_
  repeat (first | refine o_v (k := ?_) | refine c_seq ?_ | refine c_region ?_ | refine o_nil ?_ | refine e_then_normal ?_ | refine o_store (k := ?_) | refine c_true (h1 := ?_) | refine c_false (h1 := ?_) | refine c_ret ?_ | refine c_skip ?_ | refine e_then_ret ?_ | refine c_block ?_ | refine c_exit ?_ | refine e_then_exit ?_ | refine e_block_exit ?_ | refine e_block_normal ?_ | refine e_block_ret ?_ | refine o_box (k := fun _ => ?_) | refine o_alloc (k := fun _ => ?_) | refine e_norm ?_ | refine o_ung (k := ?_) | refine o_k (k := ?_) | refine s_v (k := ?_) | refine s_w (k := ?_) | refine s_k (k := ?_) | refine s_nil ?_ | refine e_block_exit_ne rfl ?_)
  refine o_call hc (k := ?_)
  rintro _ _ ⟨sb, fb, lay, rfl, rfl⟩
  unfold srvA
  dsimp only [List.cons_append, List.nil_append]
  repeat (first | refine o_v (k := ?_) | refine c_seq ?_ | refine c_region ?_ | refine o_nil ?_ | refine e_then_normal ?_ | refine o_store (k := ?_) | refine c_true (h1 := ?_) | refine c_false (h1 := ?_) | refine c_ret ?_ | refine c_skip ?_ | refine e_then_ret ?_ | refine c_block ?_ | refine c_exit ?_ | refine e_then_exit ?_ | refine e_block_exit ?_ | refine e_block_normal ?_ | refine e_block_ret ?_ | refine o_box (k := fun _ => ?_) | refine o_alloc (k := fun _ => ?_) | refine e_norm ?_ | refine o_ung (k := ?_) | refine o_k (k := ?_) | refine s_v (k := ?_) | refine s_w (k := ?_) | refine s_k (k := ?_) | refine s_nil ?_ | refine e_block_exit_ne rfl ?_)
  refine o_call (newR_ok n room hn) (k := ?_)
  rintro _ _ ⟨x, hx, rfl, rfl⟩
  dsimp only [List.cons_append, List.nil_append]
  repeat (first | refine o_v (k := ?_) | refine c_seq ?_ | refine c_region ?_ | refine o_nil ?_ | refine e_then_normal ?_ | refine o_store (k := ?_) | refine c_true (h1 := ?_) | refine c_false (h1 := ?_) | refine c_ret ?_ | refine c_skip ?_ | refine e_then_ret ?_ | refine c_block ?_ | refine c_exit ?_ | refine e_then_exit ?_ | refine e_block_exit ?_ | refine e_block_normal ?_ | refine e_block_ret ?_ | refine o_box (k := fun _ => ?_) | refine o_alloc (k := fun _ => ?_) | refine e_norm ?_ | refine o_ung (k := ?_) | refine o_k (k := ?_) | refine s_v (k := ?_) | refine s_w (k := ?_) | refine s_k (k := ?_) | refine s_nil ?_ | refine e_block_exit_ne rfl ?_ | (refine o_call (root13_ok) (k := ?_); rintro _ _ ⟨rfl, rfl⟩; dsimp only [List.cons_append, List.nil_append]))
  refine o_lit (k := fun lb => ?_)
  repeat (first | refine o_v (k := ?_) | refine c_seq ?_ | refine c_region ?_ | refine o_nil ?_ | refine e_then_normal ?_ | refine o_store (k := ?_) | refine c_true (h1 := ?_) | refine c_false (h1 := ?_) | refine c_ret ?_ | refine c_skip ?_ | refine e_then_ret ?_ | refine c_block ?_ | refine c_exit ?_ | refine e_then_exit ?_ | refine e_block_exit ?_ | refine e_block_normal ?_ | refine e_block_ret ?_ | refine o_box (k := fun _ => ?_) | refine o_alloc (k := fun _ => ?_) | refine e_norm ?_ | refine o_ung (k := ?_) | refine o_k (k := ?_) | refine s_v (k := ?_) | refine s_w (k := ?_) | refine s_k (k := ?_) | refine s_nil ?_ | refine e_block_exit_ne rfl ?_)
  rename_i wb
  refine e_rowof (sz := 2) lb 1 1 (hdsC [rootH]) [] rfl (h := by simp [hdsC, hdC]) (k := ?_)
  exact e_1 (h1 := rs_tmp rfl) (hT := ⟨wb, sb, fb, lay, x, _, hx, rfl, rfl⟩)

theorem flat_most {α β : Type} (f : α → List β) (m : Nat) : ∀ (l : List α), (∀ x ∈ l, (f x).length ≤ m) → (l.flatMap f).length ≤ l.length * m
  | [], _ => by simp
  | x :: l, h => by
    have h1 := flat_most f m l (fun y hy => h y (List.mem_cons_of_mem _ hy))
    have h2 := h x (List.mem_cons_self ..)
    simp only [List.flatMap_cons, List.length_append, List.length_cons, Nat.add_mul, Nat.one_mul]
    omega
theorem argsB_len {a : MArgs} (h : ArgsOk a) : (argsB a).length ≤ 100000 := by
  have h1 := flat_most (fieldB a) 2056 (fieldsOf a.proc) (fun f _ => fieldB_len h f)
  have h2 := fieldsOf_len a.proc
  have h3 : (fieldsOf a.proc).length * 2056 ≤ 4 * 2056 := Nat.mul_le_mul_right _ h2
  show ((fieldsOf a.proc).flatMap (fieldB a)).length ≤ 100000
  omega
def callB (xid : Nat) (a : MArgs) : List UInt8 := msgB false xid a.proc.toNat (argsB a)
set_option maxRecDepth 20000 in
set_option maxHeartbeats 4000000 in
theorem call_ok (own : Bool) (xid : Nat) (a : MArgs) (hx : xid < 4294967296) (hp : w32Ok a.proc) (h : ArgsOk a) (q : Option Addr) (c : Nat) : Ct Tryz.prog 21 [.int .u32 xid, .agg (argsC a q c).toArray] [bytesA own q a.data] (Ret fun u H => H = [bufA u (callB xid a), bytesA own q a.data]) := by
  refine fn_enter Tryz.func21 rfl Tryz.ntmps21 rfl fun _ _ _ => ?_
  repeat (first | refine o_v (k := ?_) | refine c_seq ?_ | refine c_region ?_ | refine o_nil ?_ | refine e_then_normal ?_ | refine o_store (k := ?_) | refine c_true (h1 := ?_) | refine c_false (h1 := ?_) | refine c_ret ?_ | refine c_skip ?_ | refine e_then_ret ?_ | refine c_block ?_ | refine c_exit ?_ | refine e_then_exit ?_ | refine e_block_exit ?_ | refine e_block_normal ?_ | refine e_block_ret ?_ | refine o_box (k := fun _ => ?_) | refine o_alloc (k := fun _ => ?_) | refine e_norm ?_ | refine o_ung (k := ?_) | refine o_k (k := ?_) | refine s_v (k := ?_) | refine s_w (k := ?_) | refine s_k (k := ?_) | refine s_nil ?_ | refine e_block_exit_ne rfl ?_)
  rename_i ab
  refine c_j [blk ab 70 (argsC a q c) (0, 0)] [0, 1, 2, 3, 4] ?_
  refine j_v 0 (k := ?_); refine j_v 1 (k := ?_); refine j_v 2 (k := ?_); refine j_v 3 (k := ?_); refine j_v 4 (k := ?_)
  refine j_one 5 (nd := true) (k := ?_)
  refine o_call (bytes14_ok own a h q c) (k := ?_)
  rintro v _ rfl
  dsimp only [List.cons_append, List.nil_append]
  refine o_nil ?_
  refine e_jt (k := ?_)
  refine j_one 6 (nd := true) (k := ?_)
  refine o_rowis v (k := ?_)
  rintro q1 c1 rfl - - -
  refine o_y (y_b2s (own := true) (l := argsB a) rfl (InA.row true (by repeat (first | exact InA.here | apply InA.there)))) rfl ?_
  refine o_nil ?_
  refine e_jt (k := ?_)
  obtain ⟨pn, hpe, hpl⟩ := nat_of hp
  have hw : a.proc % 4294967296 = (pn : Int) := by omega
  rw [hw]
  refine j_one 7 (nd := true) (k := ?_); (repeat (first | refine o_v (k := ?_) | refine c_seq ?_ | refine c_region ?_ | refine o_nil ?_ | refine e_then_normal ?_ | refine o_store (k := ?_) | refine c_true (h1 := ?_) | refine c_false (h1 := ?_) | refine c_ret ?_ | refine c_skip ?_ | refine e_then_ret ?_ | refine c_block ?_ | refine c_exit ?_ | refine e_then_exit ?_ | refine e_block_exit ?_ | refine e_block_normal ?_ | refine e_block_ret ?_ | refine o_box (k := fun _ => ?_) | refine o_alloc (k := fun _ => ?_) | refine e_norm ?_ | refine o_ung (k := ?_) | refine o_k (k := ?_) | refine s_v (k := ?_) | refine s_w (k := ?_) | refine s_k (k := ?_) | refine s_nil ?_ | refine e_block_exit_ne rfl ?_)); refine e_jt (k := ?_)
  refine j_one 8 (nd := true) (k := ?_)
  refine o_call (mBytes_ok false xid pn (argsB a) hx hpl (argsB_len h)) (k := ?_)
  rintro v _ rfl
  dsimp only [List.cons_append, List.nil_append]
  refine o_nil ?_
  refine e_jt (k := ?_)
  refine j_one 9 (nd := false) (k := ?_); (repeat (first | refine o_v (k := ?_) | refine c_seq ?_ | refine c_region ?_ | refine o_nil ?_ | refine e_then_normal ?_ | refine o_store (k := ?_) | refine c_true (h1 := ?_) | refine c_false (h1 := ?_) | refine c_ret ?_ | refine c_skip ?_ | refine e_then_ret ?_ | refine c_block ?_ | refine c_exit ?_ | refine e_then_exit ?_ | refine e_block_exit ?_ | refine e_block_normal ?_ | refine e_block_ret ?_ | refine o_box (k := fun _ => ?_) | refine o_alloc (k := fun _ => ?_) | refine e_norm ?_ | refine o_ung (k := ?_) | refine o_k (k := ?_) | refine s_v (k := ?_) | refine s_w (k := ?_) | refine s_k (k := ?_) | refine s_nil ?_ | refine e_block_exit_ne rfl ?_)); refine e_jf (k := ?_)
  refine j_end (k := ?_)
  repeat (first | refine o_v (k := ?_) | refine c_seq ?_ | refine c_region ?_ | refine o_nil ?_ | refine e_then_normal ?_ | refine o_store (k := ?_) | refine c_true (h1 := ?_) | refine c_false (h1 := ?_) | refine c_ret ?_ | refine c_skip ?_ | refine e_then_ret ?_ | refine c_block ?_ | refine c_exit ?_ | refine e_then_exit ?_ | refine e_block_exit ?_ | refine e_block_normal ?_ | refine e_block_ret ?_ | refine o_box (k := fun _ => ?_) | refine o_alloc (k := fun _ => ?_) | refine e_norm ?_ | refine o_ung (k := ?_) | refine o_k (k := ?_) | refine s_v (k := ?_) | refine s_w (k := ?_) | refine s_k (k := ?_) | refine s_nil ?_ | refine e_block_exit_ne rfl ?_)
  have hc : callB xid a = msgB false xid pn (argsB a) := by unfold callB; rw [hpe]; rfl
  rw [← hc]
  exact e_1 (h1 := rs_tmp rfl) (H' := [bufA v (callB xid a), bytesA own q a.data]) (hT := rfl)
end Go.Proofs.YtlkgdidmhmaneaaGreatDoor
/- the reference of chapter 6: Read. -/
namespace Go.Proofs.YtlkgdidmhmaneaaGreatDoor
open Go Go.RowKit
def wd (l : List UInt8) (i : Nat) : Nat := be ((l.drop i).take 4)
theorem wd_lt (l : List UInt8) (i : Nat) : wd l i < 4294967296 := by
  have := be_lt ((l.drop i).take 4)
  have h2 : 256 ^ ((l.drop i).take 4).length ≤ 256 ^ 4 := Nat.pow_le_pow_right (by omega) (by simp; omega)
  unfold wd
  omega
theorem nextS_wrong {s : RdS} (h : s.wrong = true) (may : List Int) : nextS s may = (0, s) := by simp [nextS, h]
theorem nextS_run (b : List UInt8) (k : Nat) (may : List Int) : nextS ⟨k, false, 0, b.drop k⟩ may = if b.length < k + 4 then (0, ⟨k, true, 3, []⟩) else if may ≠ [] ∧ (wd b k : Int) ∉ may then (0, ⟨k, true, 0, b.drop (k + 4)⟩) else (wd b k, ⟨k + 4, false, 0, b.drop (k + 4)⟩) := by
  unfold nextS rdNum wd
  by_cases h : b.length < k + 4
  · have h2 : b.length - k < 4 := by omega
    simp [h, h2]
  · have h2 : ¬ (b.length - k < 4) := by omega
    simp [h, h2, List.drop_drop]
theorem nextS_bad (k : Nat) (e : Int) (l : List UInt8) (may : List Int) : nextS ⟨k, true, e, l⟩ may = (0, ⟨k, true, e, l⟩) := by simp [nextS]
theorem run_short (b : List UInt8) (k : Nat) (may : List Int) (h : b.length < k + 4) : nextS ⟨k, false, 0, b.drop k⟩ may = (0, ⟨k, true, 3, []⟩) := by rw [nextS_run, if_pos h]
theorem run_not (b : List UInt8) (k : Nat) (may : List Int) (h : ¬ b.length < k + 4) (hm : may ≠ [] ∧ (wd b k : Int) ∉ may) : nextS ⟨k, false, 0, b.drop k⟩ may = (0, ⟨k, true, 0, b.drop (k + 4)⟩) := by rw [nextS_run, if_neg h, if_pos hm]
theorem run_is (b : List UInt8) (k : Nat) (may : List Int) (h : ¬ b.length < k + 4) (hm : ¬ (may ≠ [] ∧ (wd b k : Int) ∉ may)) : nextS ⟨k, false, 0, b.drop k⟩ may = (wd b k, ⟨k + 4, false, 0, b.drop (k + 4)⟩) := by rw [nextS_run, if_neg h, if_neg hm]
theorem mem_nat (n k : Nat) (l : List Int) (h : n = k) (hk : (k : Int) ∈ l) : ¬ (l ≠ [] ∧ (n : Int) ∉ l) := fun hc => hc.2 (h ▸ hk)
theorem rpcRead_eq (l : List UInt8) : rpcRead l = if l.length < 8 then none else if wd l 4 = 1 then (if l.length < 16 ∨ wd l 8 ≠ 0 then none else some (true, wd l 0, wd l 12, l.drop 16))
    else if wd l 4 = 0 then (if l.length < 24 ∨ wd l 8 ≠ 2 ∨ wd l 12 ≠ 536870913 ∨ wd l 16 ≠ 1 then none else some (false, wd l 0, wd l 20, l.drop 24)) else none := by
  have e0 : (⟨0, false, 0, l⟩ : RdS) = ⟨0, false, 0, l.drop 0⟩ := by rw [List.drop_zero]
  by_cases h4 : l.length < 4
  · have h8 : l.length < 8 := by omega
    simp [rpcRead, rpcS, e0, -List.drop_zero, run_short l 0 [] (by omega), nextS_bad, readS3, h8]
  have e1 := run_is l 0 [] (by omega) (by simp)
  by_cases h8 : l.length < 8
  · simp [rpcRead, rpcS, e0, -List.drop_zero, e1, run_short l 4 [0, 1] (by omega), nextS_bad, readS3, h8]
  by_cases w1 : wd l 4 = 1
  · have e2 := run_is l 4 [0, 1] (by omega) (mem_nat _ 1 _ w1 (by simp))
    rw [w1] at e2
    by_cases h12 : l.length < 12
    · have h16 : l.length < 16 := by omega
      simp [rpcRead, rpcS, e0, -List.drop_zero, e1, e2, run_short l 8 [0] (by omega), nextS_bad, readS3, h8, w1, h16]
    by_cases w2 : wd l 8 = 0
    · have e3 := run_is l 8 [0] (by omega) (mem_nat _ 0 _ w2 (by simp))
      by_cases h16 : l.length < 16
      · simp [rpcRead, rpcS, e0, -List.drop_zero, e1, e2, e3, run_short l 12 [] (by omega), nextS_bad, readS3, h8, w1, h16]
      · simp [rpcRead, rpcS, e0, -List.drop_zero, e1, e2, e3, run_is l 12 [] (by omega) (by simp), readS3, h8, w1, w2, h16]
    · simp [rpcRead, rpcS, e0, -List.drop_zero, e1, e2, run_not l 8 [0] (by omega) ⟨by simp, by simp; omega⟩, nextS_bad, readS3, h8, w1, w2]
  by_cases w0 : wd l 4 = 0
  · have e2 := run_is l 4 [0, 1] (by omega) (mem_nat _ 0 _ w0 (by simp))
    rw [w0] at e2
    by_cases h12 : l.length < 12
    · have h24 : l.length < 24 := by omega
      simp [rpcRead, rpcS, e0, -List.drop_zero, e1, e2, run_short l 8 [2] (by omega), nextS_bad, readS3, h8, w0, h24]
    by_cases w2 : wd l 8 = 2
    · have e3 := run_is l 8 [2] (by omega) (mem_nat _ 2 _ w2 (by simp))
      by_cases h16 : l.length < 16
      · have h24 : l.length < 24 := by omega
        simp [rpcRead, rpcS, e0, -List.drop_zero, e1, e2, e3, run_short l 12 [536870913] (by omega), nextS_bad, readS3, h8, w0, h24]
      by_cases w3 : wd l 12 = 536870913
      · have e4 := run_is l 12 [536870913] (by omega) (mem_nat _ 536870913 _ w3 (by simp))
        by_cases h20 : l.length < 20
        · have h24 : l.length < 24 := by omega
          simp [rpcRead, rpcS, e0, -List.drop_zero, e1, e2, e3, e4, run_short l 16 [1] (by omega), nextS_bad, readS3, h8, w0, h24]
        by_cases w4 : wd l 16 = 1
        · have e5 := run_is l 16 [1] (by omega) (mem_nat _ 1 _ w4 (by simp))
          by_cases h24 : l.length < 24
          · simp [rpcRead, rpcS, e0, -List.drop_zero, e1, e2, e3, e4, e5, run_short l 20 [] (by omega), nextS_bad, readS3, h8, w0, h24]
          · simp [rpcRead, rpcS, e0, -List.drop_zero, e1, e2, e3, e4, e5, run_is l 20 [] (by omega) (by simp), readS3, h8, w0, w2, w3, w4, h24]
        · simp [rpcRead, rpcS, e0, -List.drop_zero, e1, e2, e3, e4, run_not l 16 [1] (by omega) ⟨by simp, by simp; omega⟩, nextS_bad, readS3, h8, w0, w4]
      · simp [rpcRead, rpcS, e0, -List.drop_zero, e1, e2, e3, run_not l 12 [536870913] (by omega) ⟨by simp, by simp; omega⟩, nextS_bad, readS3, h8, w0, w3]
    · simp [rpcRead, rpcS, e0, -List.drop_zero, e1, e2, run_not l 8 [2] (by omega) ⟨by simp, by simp; omega⟩, nextS_bad, readS3, h8, w0, w2]
  · simp [rpcRead, rpcS, e0, -List.drop_zero, e1, run_not l 4 [0, 1] (by omega) ⟨by simp, by simp; omega⟩, nextS_bad, readS3, h8, w1, w0]
end Go.Proofs.YtlkgdidmhmaneaaGreatDoor
/- the reference of chapter 6: Read. -/
namespace Go.Proofs.YtlkgdidmhmaneaaGreatDoor
open Go Go.RowKit
def wds (l : List UInt8) : Nat → List Int
  | 0 => []
  | k + 1 => wds l k ++ [(wd l (4 * k) : Int)]
attribute [local irreducible] Yl OG CG EG SG AG  CellIn CellsIn BlkIn InA TakeA SplitA SubA Ct ResOk Good Held blk cellsA exA

set_option maxRecDepth 20000 in
set_option maxHeartbeats 4000000 in
theorem mRead_ok (q : Option Addr) (l : List UInt8) (c : Nat) (hc : l.length ≤ c) (hm : c ≤ 9223372036854775807) (hl : l.length ≤ 10000000) : Ct Tryz.prog 23 [.slice q l.length c] [bytesA false q l] (Ret fun u H => match rpcRead l with
    | none => ∃ e i : Int, e ≠ 0 ∧ u = .agg #[.bool false, .int .u32 0, .int .u32 0, str [], .int .i64 e, .int .i64 i] ∧ H = []
    | some (r, xid, proc, body) => u = .agg #[.bool r, .int .u32 xid, .int .u32 proc, str body, .int .i64 0, .int .i64 (-1)] ∧ H = []) := by
  refine fn_enter Tryz.func23 rfl Tryz.ntmps23 rfl fun _ _ _ => ?_
  repeat (first | refine o_v (k := ?_) | refine c_seq ?_ | refine c_region ?_ | refine o_nil ?_ | refine e_then_normal ?_ | refine o_store (k := ?_) | refine c_true (h1 := ?_) | refine c_false (h1 := ?_) | refine c_ret ?_ | refine c_skip ?_ | refine e_then_ret ?_ | refine c_block ?_ | refine c_exit ?_ | refine e_then_exit ?_ | refine e_block_exit ?_ | refine e_block_normal ?_ | refine e_block_ret ?_ | refine o_box (k := fun _ => ?_) | refine o_alloc (k := fun _ => ?_) | refine e_norm ?_ | refine o_ung (k := ?_) | refine o_k (k := ?_) | refine s_v (k := ?_) | refine s_w (k := ?_) | refine s_k (k := ?_) | refine s_nil ?_ | refine e_block_exit_ne rfl ?_)
  rename_i ob rb
  refine c_row0 32 1 ?_
  refine c_rounds 8 ?_
  rw [show (Value.slice none 0 0) = Value.slice none 0 0 from rfl]
  refine r_keep [(6, .int .i64 0), (5, .int .i64 2), (4, .slice none 0 0), (3, .pointer (some ⟨rb, 0, none⟩)), (2, .pointer (some ⟨ob, 0, none⟩)), (0, .slice q l.length c)] [rowA (.slice none 0 0) 32 1 0 (nums .u32 (wds l 0)), rrB rb q l c 0 0, bytesA false q l, blk ob 74 [.bool false, .int .u32 0, .int .u32 0, str [], .int .i64 0, .int .i64 0] (0, 0)] ⟨rfl, rfl, rfl, rfl, rfl, rfl, trivial⟩ (fun w hw => to_keep _ hw) ?_
  refine r_round ?_
  repeat (first | refine o_v (k := ?_) | refine c_seq ?_ | refine c_region ?_ | refine o_nil ?_ | refine e_then_normal ?_ | refine o_store (k := ?_) | refine c_true (h1 := ?_) | refine c_false (h1 := ?_) | refine c_ret ?_ | refine c_skip ?_ | refine e_then_ret ?_ | refine c_block ?_ | refine c_exit ?_ | refine e_then_exit ?_ | refine e_block_exit ?_ | refine e_block_normal ?_ | refine e_block_ret ?_ | refine o_box (k := fun _ => ?_) | refine o_alloc (k := fun _ => ?_) | refine e_norm ?_ | refine o_ung (k := ?_) | refine o_k (k := ?_) | refine s_v (k := ?_) | refine s_w (k := ?_) | refine s_k (k := ?_) | refine s_nil ?_ | refine e_block_exit_ne rfl ?_)
  refine o_call (rrU32_ok rb q l c 0 0 hl (by omega)) (k := ?_)
  rintro _ _ ⟨rfl, rfl⟩
  dsimp only [List.cons_append, List.nil_append]
  by_cases hs0 : l.length < 4
  · have hN : rpcRead l = none := by rw [rpcRead_eq]; (repeat' split) <;> first | rfl | (exfalso; omega)
    rw [show rr l 0 0 4 = (0, 0, 3) from by simp [rr, hs0]]
    repeat (first | refine o_v (k := ?_) | refine c_seq ?_ | refine c_region ?_ | refine o_nil ?_ | refine e_then_normal ?_ | refine o_store (k := ?_) | refine c_true (h1 := ?_) | refine c_false (h1 := ?_) | refine c_ret ?_ | refine c_skip ?_ | refine e_then_ret ?_ | refine c_block ?_ | refine c_exit ?_ | refine e_then_exit ?_ | refine e_block_exit ?_ | refine e_block_normal ?_ | refine e_block_ret ?_ | refine o_box (k := fun _ => ?_) | refine o_alloc (k := fun _ => ?_) | refine e_norm ?_ | refine o_ung (k := ?_) | refine o_k (k := ?_) | refine s_v (k := ?_) | refine s_w (k := ?_) | refine s_k (k := ?_) | refine s_nil ?_ | refine e_block_exit_ne rfl ?_)
    exact e_1 (h1 := rs_blk) (H' := []) (hT := by rw [hN]; exact ⟨3, 0, by decide, rfl, rfl⟩)
  rw [show rr l 0 0 4 = (wd l 0, 4, 0) from by simp [rr, hs0, wd]]
  repeat (first | refine o_v (k := ?_) | refine c_seq ?_ | refine c_region ?_ | refine o_nil ?_ | refine e_then_normal ?_ | refine o_store (k := ?_) | refine c_true (h1 := ?_) | refine c_false (h1 := ?_) | refine c_ret ?_ | refine c_skip ?_ | refine e_then_ret ?_ | refine c_block ?_ | refine c_exit ?_ | refine e_then_exit ?_ | refine e_block_exit ?_ | refine e_block_normal ?_ | refine e_block_ret ?_ | refine o_box (k := fun _ => ?_) | refine o_alloc (k := fun _ => ?_) | refine e_norm ?_ | refine o_ung (k := ?_) | refine o_k (k := ?_) | refine s_v (k := ?_) | refine s_w (k := ?_) | refine s_k (k := ?_) | refine s_nil ?_ | refine e_block_exit_ne rfl ?_)
  refine o_lit (k := fun lb => ?_)
  repeat (first | refine o_v (k := ?_) | refine c_seq ?_ | refine c_region ?_ | refine o_nil ?_ | refine e_then_normal ?_ | refine o_store (k := ?_) | refine c_true (h1 := ?_) | refine c_false (h1 := ?_) | refine c_ret ?_ | refine c_skip ?_ | refine e_then_ret ?_ | refine c_block ?_ | refine c_exit ?_ | refine e_then_exit ?_ | refine e_block_exit ?_ | refine e_block_normal ?_ | refine e_block_ret ?_ | refine o_box (k := fun _ => ?_) | refine o_alloc (k := fun _ => ?_) | refine e_norm ?_ | refine o_ung (k := ?_) | refine o_k (k := ?_) | refine s_v (k := ?_) | refine s_w (k := ?_) | refine s_k (k := ?_) | refine s_nil ?_ | refine e_block_exit_ne rfl ?_)
  refine o_append (e := 32) (sz := 1) (n := 0) (m := 1) (xs := nums .u32 (wds l 0)) (news := [.int .u32 (wd l 0)]) (hsrc := src_cells (p := ⟨lb, 0, none⟩) (CellsIn.blk (m := 1) (by repeat (first | exact BlkIn.here | apply BlkIn.there)) rfl) rfl (by simp [Value.oneCell'])) (hb := by omega) (k := fun v => ?_)
  rw [show nums .u32 (wds l 0) ++ [.int .u32 (wd l 0)] = nums .u32 (wds l 1) from by simp [wds, nums]]
  repeat (first | refine o_v (k := ?_) | refine c_seq ?_ | refine c_region ?_ | refine o_nil ?_ | refine e_then_normal ?_ | refine o_store (k := ?_) | refine c_true (h1 := ?_) | refine c_false (h1 := ?_) | refine c_ret ?_ | refine c_skip ?_ | refine e_then_ret ?_ | refine c_block ?_ | refine c_exit ?_ | refine e_then_exit ?_ | refine e_block_exit ?_ | refine e_block_normal ?_ | refine e_block_ret ?_ | refine o_box (k := fun _ => ?_) | refine o_alloc (k := fun _ => ?_) | refine e_norm ?_ | refine o_ung (k := ?_) | refine o_k (k := ?_) | refine s_v (k := ?_) | refine s_w (k := ?_) | refine s_k (k := ?_) | refine s_nil ?_ | refine e_block_exit_ne rfl ?_)
  refine e_round ?_
  refine r_keep [(6, .int .i64 1), (5, .int .i64 2), (4, v), (3, .pointer (some ⟨rb, 0, none⟩)), (2, .pointer (some ⟨ob, 0, none⟩)), (0, .slice q l.length c)] [rowA v 32 1 1 (nums .u32 (wds l 1)), rrB rb q l c 4 0, bytesA false q l, blk ob 74 [.bool false, .int .u32 0, .int .u32 0, str [], .int .i64 0, .int .i64 0] (0, 0)] ⟨rfl, rfl, rfl, rfl, rfl, rfl, trivial⟩ (fun w hw => to_keep _ hw) ?_
  refine r_round ?_
  repeat (first | refine o_v (k := ?_) | refine c_seq ?_ | refine c_region ?_ | refine o_nil ?_ | refine e_then_normal ?_ | refine o_store (k := ?_) | refine c_true (h1 := ?_) | refine c_false (h1 := ?_) | refine c_ret ?_ | refine c_skip ?_ | refine e_then_ret ?_ | refine c_block ?_ | refine c_exit ?_ | refine e_then_exit ?_ | refine e_block_exit ?_ | refine e_block_normal ?_ | refine e_block_ret ?_ | refine o_box (k := fun _ => ?_) | refine o_alloc (k := fun _ => ?_) | refine e_norm ?_ | refine o_ung (k := ?_) | refine o_k (k := ?_) | refine s_v (k := ?_) | refine s_w (k := ?_) | refine s_k (k := ?_) | refine s_nil ?_ | refine e_block_exit_ne rfl ?_)
  refine o_call (rrU32_ok rb q l c 4 0 hl (by omega)) (k := ?_)
  rintro _ _ ⟨rfl, rfl⟩
  dsimp only [List.cons_append, List.nil_append]
  by_cases hs1 : l.length < 8
  · have hN : rpcRead l = none := by rw [rpcRead_eq]; (repeat' split) <;> first | rfl | (exfalso; omega)
    rw [show rr l 4 0 4 = (0, 4, 3) from by simp [rr, hs1]]
    repeat (first | refine o_v (k := ?_) | refine c_seq ?_ | refine c_region ?_ | refine o_nil ?_ | refine e_then_normal ?_ | refine o_store (k := ?_) | refine c_true (h1 := ?_) | refine c_false (h1 := ?_) | refine c_ret ?_ | refine c_skip ?_ | refine e_then_ret ?_ | refine c_block ?_ | refine c_exit ?_ | refine e_then_exit ?_ | refine e_block_exit ?_ | refine e_block_normal ?_ | refine e_block_ret ?_ | refine o_box (k := fun _ => ?_) | refine o_alloc (k := fun _ => ?_) | refine e_norm ?_ | refine o_ung (k := ?_) | refine o_k (k := ?_) | refine s_v (k := ?_) | refine s_w (k := ?_) | refine s_k (k := ?_) | refine s_nil ?_ | refine e_block_exit_ne rfl ?_)
    exact e_1 (h1 := rs_blk) (H' := []) (hT := by rw [hN]; exact ⟨3, 4, by decide, rfl, rfl⟩)
  rw [show rr l 4 0 4 = (wd l 4, 8, 0) from by simp [rr, hs1, wd]]
  repeat (first | refine o_v (k := ?_) | refine c_seq ?_ | refine c_region ?_ | refine o_nil ?_ | refine e_then_normal ?_ | refine o_store (k := ?_) | refine c_true (h1 := ?_) | refine c_false (h1 := ?_) | refine c_ret ?_ | refine c_skip ?_ | refine e_then_ret ?_ | refine c_block ?_ | refine c_exit ?_ | refine e_then_exit ?_ | refine e_block_exit ?_ | refine e_block_normal ?_ | refine e_block_ret ?_ | refine o_box (k := fun _ => ?_) | refine o_alloc (k := fun _ => ?_) | refine e_norm ?_ | refine o_ung (k := ?_) | refine o_k (k := ?_) | refine s_v (k := ?_) | refine s_w (k := ?_) | refine s_k (k := ?_) | refine s_nil ?_ | refine e_block_exit_ne rfl ?_)
  refine o_lit (k := fun lb => ?_)
  repeat (first | refine o_v (k := ?_) | refine c_seq ?_ | refine c_region ?_ | refine o_nil ?_ | refine e_then_normal ?_ | refine o_store (k := ?_) | refine c_true (h1 := ?_) | refine c_false (h1 := ?_) | refine c_ret ?_ | refine c_skip ?_ | refine e_then_ret ?_ | refine c_block ?_ | refine c_exit ?_ | refine e_then_exit ?_ | refine e_block_exit ?_ | refine e_block_normal ?_ | refine e_block_ret ?_ | refine o_box (k := fun _ => ?_) | refine o_alloc (k := fun _ => ?_) | refine e_norm ?_ | refine o_ung (k := ?_) | refine o_k (k := ?_) | refine s_v (k := ?_) | refine s_w (k := ?_) | refine s_k (k := ?_) | refine s_nil ?_ | refine e_block_exit_ne rfl ?_)
  refine o_append (e := 32) (sz := 1) (n := 1) (m := 1) (xs := nums .u32 (wds l 1)) (news := [.int .u32 (wd l 4)]) (hsrc := src_cells (p := ⟨lb, 0, none⟩) (CellsIn.blk (m := 1) (by repeat (first | exact BlkIn.here | apply BlkIn.there)) rfl) rfl (by simp [Value.oneCell'])) (hb := by omega) (k := fun v => ?_)
  rw [show nums .u32 (wds l 1) ++ [.int .u32 (wd l 4)] = nums .u32 (wds l 2) from by simp [wds, nums]]
  repeat (first | refine o_v (k := ?_) | refine c_seq ?_ | refine c_region ?_ | refine o_nil ?_ | refine e_then_normal ?_ | refine o_store (k := ?_) | refine c_true (h1 := ?_) | refine c_false (h1 := ?_) | refine c_ret ?_ | refine c_skip ?_ | refine e_then_ret ?_ | refine c_block ?_ | refine c_exit ?_ | refine e_then_exit ?_ | refine e_block_exit ?_ | refine e_block_normal ?_ | refine e_block_ret ?_ | refine o_box (k := fun _ => ?_) | refine o_alloc (k := fun _ => ?_) | refine e_norm ?_ | refine o_ung (k := ?_) | refine o_k (k := ?_) | refine s_v (k := ?_) | refine s_w (k := ?_) | refine s_k (k := ?_) | refine s_nil ?_ | refine e_block_exit_ne rfl ?_)
  refine c_if (h1 := fun h1 => ?_) (h2 := fun h1 => ?_)
  · have w1 : wd l 4 = 1 := by simp at h1; omega
    repeat (first | refine o_v (k := ?_) | refine c_seq ?_ | refine c_region ?_ | refine o_nil ?_ | refine e_then_normal ?_ | refine o_store (k := ?_) | refine c_true (h1 := ?_) | refine c_false (h1 := ?_) | refine c_ret ?_ | refine c_skip ?_ | refine e_then_ret ?_ | refine c_block ?_ | refine c_exit ?_ | refine e_then_exit ?_ | refine e_block_exit ?_ | refine e_block_normal ?_ | refine e_block_ret ?_ | refine o_box (k := fun _ => ?_) | refine o_alloc (k := fun _ => ?_) | refine e_norm ?_ | refine o_ung (k := ?_) | refine o_k (k := ?_) | refine s_v (k := ?_) | refine s_w (k := ?_) | refine s_k (k := ?_) | refine s_nil ?_ | refine e_block_exit_ne rfl ?_)
    refine c_if (h1 := fun hb => ?_) (h2 := fun hb => ?_)
    · have hb' : 1 < wd l 4 := by simp at hb; omega
      have hN : rpcRead l = none := by rw [rpcRead_eq]; (repeat' split) <;> first | rfl | (exfalso; omega)
      repeat (first | refine o_v (k := ?_) | refine c_seq ?_ | refine c_region ?_ | refine o_nil ?_ | refine e_then_normal ?_ | refine o_store (k := ?_) | refine c_true (h1 := ?_) | refine c_false (h1 := ?_) | refine c_ret ?_ | refine c_skip ?_ | refine e_then_ret ?_ | refine c_block ?_ | refine c_exit ?_ | refine e_then_exit ?_ | refine e_block_exit ?_ | refine e_block_normal ?_ | refine e_block_ret ?_ | refine o_box (k := fun _ => ?_) | refine o_alloc (k := fun _ => ?_) | refine e_norm ?_ | refine o_ung (k := ?_) | refine o_k (k := ?_) | refine s_v (k := ?_) | refine s_w (k := ?_) | refine s_k (k := ?_) | refine s_nil ?_ | refine e_block_exit_ne rfl ?_)
      exact e_1 (h1 := rs_blk) (H' := []) (hT := by rw [hN]; exact ⟨2, 4, by decide, rfl, rfl⟩)
    have hb1 : ¬ (1 < wd l 4) := by simp at hb; omega
    repeat (first | refine o_v (k := ?_) | refine c_seq ?_ | refine c_region ?_ | refine o_nil ?_ | refine e_then_normal ?_ | refine o_store (k := ?_) | refine c_true (h1 := ?_) | refine c_false (h1 := ?_) | refine c_ret ?_ | refine c_skip ?_ | refine e_then_ret ?_ | refine c_block ?_ | refine c_exit ?_ | refine e_then_exit ?_ | refine e_block_exit ?_ | refine e_block_normal ?_ | refine e_block_ret ?_ | refine o_box (k := fun _ => ?_) | refine o_alloc (k := fun _ => ?_) | refine e_norm ?_ | refine o_ung (k := ?_) | refine o_k (k := ?_) | refine s_v (k := ?_) | refine s_w (k := ?_) | refine s_k (k := ?_) | refine s_nil ?_ | refine e_block_exit_ne rfl ?_)
    refine e_round ?_
    refine r_keep [(6, .int .i64 2), (5, .int .i64 4), (4, v), (3, .pointer (some ⟨rb, 0, none⟩)), (2, .pointer (some ⟨ob, 0, none⟩)), (0, .slice q l.length c)] [rowA v 32 1 2 (nums .u32 (wds l 2)), rrB rb q l c 8 0, bytesA false q l, blk ob 74 [.bool false, .int .u32 0, .int .u32 0, str [], .int .i64 0, .int .i64 0] (0, 0)] ⟨rfl, rfl, rfl, rfl, rfl, rfl, trivial⟩ (fun w hw => to_keep _ hw) ?_
    refine r_round ?_
    repeat (first | refine o_v (k := ?_) | refine c_seq ?_ | refine c_region ?_ | refine o_nil ?_ | refine e_then_normal ?_ | refine o_store (k := ?_) | refine c_true (h1 := ?_) | refine c_false (h1 := ?_) | refine c_ret ?_ | refine c_skip ?_ | refine e_then_ret ?_ | refine c_block ?_ | refine c_exit ?_ | refine e_then_exit ?_ | refine e_block_exit ?_ | refine e_block_normal ?_ | refine e_block_ret ?_ | refine o_box (k := fun _ => ?_) | refine o_alloc (k := fun _ => ?_) | refine e_norm ?_ | refine o_ung (k := ?_) | refine o_k (k := ?_) | refine s_v (k := ?_) | refine s_w (k := ?_) | refine s_k (k := ?_) | refine s_nil ?_ | refine e_block_exit_ne rfl ?_)
    refine o_call (rrU32_ok rb q l c 8 0 hl (by omega)) (k := ?_)
    rintro _ _ ⟨rfl, rfl⟩
    dsimp only [List.cons_append, List.nil_append]
    by_cases hs2 : l.length < 12
    · have hN : rpcRead l = none := by rw [rpcRead_eq]; (repeat' split) <;> first | rfl | (exfalso; omega)
      rw [show rr l 8 0 4 = (0, 8, 3) from by simp [rr, hs2]]
      repeat (first | refine o_v (k := ?_) | refine c_seq ?_ | refine c_region ?_ | refine o_nil ?_ | refine e_then_normal ?_ | refine o_store (k := ?_) | refine c_true (h1 := ?_) | refine c_false (h1 := ?_) | refine c_ret ?_ | refine c_skip ?_ | refine e_then_ret ?_ | refine c_block ?_ | refine c_exit ?_ | refine e_then_exit ?_ | refine e_block_exit ?_ | refine e_block_normal ?_ | refine e_block_ret ?_ | refine o_box (k := fun _ => ?_) | refine o_alloc (k := fun _ => ?_) | refine e_norm ?_ | refine o_ung (k := ?_) | refine o_k (k := ?_) | refine s_v (k := ?_) | refine s_w (k := ?_) | refine s_k (k := ?_) | refine s_nil ?_ | refine e_block_exit_ne rfl ?_)
      exact e_1 (h1 := rs_blk) (H' := []) (hT := by rw [hN]; exact ⟨3, 8, by decide, rfl, rfl⟩)
    rw [show rr l 8 0 4 = (wd l 8, 12, 0) from by simp [rr, hs2, wd]]
    repeat (first | refine o_v (k := ?_) | refine c_seq ?_ | refine c_region ?_ | refine o_nil ?_ | refine e_then_normal ?_ | refine o_store (k := ?_) | refine c_true (h1 := ?_) | refine c_false (h1 := ?_) | refine c_ret ?_ | refine c_skip ?_ | refine e_then_ret ?_ | refine c_block ?_ | refine c_exit ?_ | refine e_then_exit ?_ | refine e_block_exit ?_ | refine e_block_normal ?_ | refine e_block_ret ?_ | refine o_box (k := fun _ => ?_) | refine o_alloc (k := fun _ => ?_) | refine e_norm ?_ | refine o_ung (k := ?_) | refine o_k (k := ?_) | refine s_v (k := ?_) | refine s_w (k := ?_) | refine s_k (k := ?_) | refine s_nil ?_ | refine e_block_exit_ne rfl ?_)
    refine o_lit (k := fun lb => ?_)
    repeat (first | refine o_v (k := ?_) | refine c_seq ?_ | refine c_region ?_ | refine o_nil ?_ | refine e_then_normal ?_ | refine o_store (k := ?_) | refine c_true (h1 := ?_) | refine c_false (h1 := ?_) | refine c_ret ?_ | refine c_skip ?_ | refine e_then_ret ?_ | refine c_block ?_ | refine c_exit ?_ | refine e_then_exit ?_ | refine e_block_exit ?_ | refine e_block_normal ?_ | refine e_block_ret ?_ | refine o_box (k := fun _ => ?_) | refine o_alloc (k := fun _ => ?_) | refine e_norm ?_ | refine o_ung (k := ?_) | refine o_k (k := ?_) | refine s_v (k := ?_) | refine s_w (k := ?_) | refine s_k (k := ?_) | refine s_nil ?_ | refine e_block_exit_ne rfl ?_)
    refine o_append (e := 32) (sz := 1) (n := 2) (m := 1) (xs := nums .u32 (wds l 2)) (news := [.int .u32 (wd l 8)]) (hsrc := src_cells (p := ⟨lb, 0, none⟩) (CellsIn.blk (m := 1) (by repeat (first | exact BlkIn.here | apply BlkIn.there)) rfl) rfl (by simp [Value.oneCell'])) (hb := by omega) (k := fun v => ?_)
    rw [show nums .u32 (wds l 2) ++ [.int .u32 (wd l 8)] = nums .u32 (wds l 3) from by simp [wds, nums]]
    repeat (first | refine o_v (k := ?_) | refine c_seq ?_ | refine c_region ?_ | refine o_nil ?_ | refine e_then_normal ?_ | refine o_store (k := ?_) | refine c_true (h1 := ?_) | refine c_false (h1 := ?_) | refine c_ret ?_ | refine c_skip ?_ | refine e_then_ret ?_ | refine c_block ?_ | refine c_exit ?_ | refine e_then_exit ?_ | refine e_block_exit ?_ | refine e_block_normal ?_ | refine e_block_ret ?_ | refine o_box (k := fun _ => ?_) | refine o_alloc (k := fun _ => ?_) | refine e_norm ?_ | refine o_ung (k := ?_) | refine o_k (k := ?_) | refine s_v (k := ?_) | refine s_w (k := ?_) | refine s_k (k := ?_) | refine s_nil ?_ | refine e_block_exit_ne rfl ?_)
    refine c_if (h1 := fun hb => ?_) (h2 := fun hb => ?_)
    · have hb' : wd l 8 ≠ 0 := by simp at hb; omega
      have hN : rpcRead l = none := by rw [rpcRead_eq]; (repeat' split) <;> first | rfl | (exfalso; omega)
      repeat (first | refine o_v (k := ?_) | refine c_seq ?_ | refine c_region ?_ | refine o_nil ?_ | refine e_then_normal ?_ | refine o_store (k := ?_) | refine c_true (h1 := ?_) | refine c_false (h1 := ?_) | refine c_ret ?_ | refine c_skip ?_ | refine e_then_ret ?_ | refine c_block ?_ | refine c_exit ?_ | refine e_then_exit ?_ | refine e_block_exit ?_ | refine e_block_normal ?_ | refine e_block_ret ?_ | refine o_box (k := fun _ => ?_) | refine o_alloc (k := fun _ => ?_) | refine e_norm ?_ | refine o_ung (k := ?_) | refine o_k (k := ?_) | refine s_v (k := ?_) | refine s_w (k := ?_) | refine s_k (k := ?_) | refine s_nil ?_ | refine e_block_exit_ne rfl ?_)
      exact e_1 (h1 := rs_blk) (H' := []) (hT := by rw [hN]; exact ⟨2, 8, by decide, rfl, rfl⟩)
    have hb2 : ¬ (wd l 8 ≠ 0) := by simp at hb; omega
    repeat (first | refine o_v (k := ?_) | refine c_seq ?_ | refine c_region ?_ | refine o_nil ?_ | refine e_then_normal ?_ | refine o_store (k := ?_) | refine c_true (h1 := ?_) | refine c_false (h1 := ?_) | refine c_ret ?_ | refine c_skip ?_ | refine e_then_ret ?_ | refine c_block ?_ | refine c_exit ?_ | refine e_then_exit ?_ | refine e_block_exit ?_ | refine e_block_normal ?_ | refine e_block_ret ?_ | refine o_box (k := fun _ => ?_) | refine o_alloc (k := fun _ => ?_) | refine e_norm ?_ | refine o_ung (k := ?_) | refine o_k (k := ?_) | refine s_v (k := ?_) | refine s_w (k := ?_) | refine s_k (k := ?_) | refine s_nil ?_ | refine e_block_exit_ne rfl ?_)
    refine e_round ?_
    refine r_keep [(6, .int .i64 3), (5, .int .i64 4), (4, v), (3, .pointer (some ⟨rb, 0, none⟩)), (2, .pointer (some ⟨ob, 0, none⟩)), (0, .slice q l.length c)] [rowA v 32 1 3 (nums .u32 (wds l 3)), rrB rb q l c 12 0, bytesA false q l, blk ob 74 [.bool false, .int .u32 0, .int .u32 0, str [], .int .i64 0, .int .i64 0] (0, 0)] ⟨rfl, rfl, rfl, rfl, rfl, rfl, trivial⟩ (fun w hw => to_keep _ hw) ?_
    refine r_round ?_
    repeat (first | refine o_v (k := ?_) | refine c_seq ?_ | refine c_region ?_ | refine o_nil ?_ | refine e_then_normal ?_ | refine o_store (k := ?_) | refine c_true (h1 := ?_) | refine c_false (h1 := ?_) | refine c_ret ?_ | refine c_skip ?_ | refine e_then_ret ?_ | refine c_block ?_ | refine c_exit ?_ | refine e_then_exit ?_ | refine e_block_exit ?_ | refine e_block_normal ?_ | refine e_block_ret ?_ | refine o_box (k := fun _ => ?_) | refine o_alloc (k := fun _ => ?_) | refine e_norm ?_ | refine o_ung (k := ?_) | refine o_k (k := ?_) | refine s_v (k := ?_) | refine s_w (k := ?_) | refine s_k (k := ?_) | refine s_nil ?_ | refine e_block_exit_ne rfl ?_)
    refine o_call (rrU32_ok rb q l c 12 0 hl (by omega)) (k := ?_)
    rintro _ _ ⟨rfl, rfl⟩
    dsimp only [List.cons_append, List.nil_append]
    by_cases hs3 : l.length < 16
    · have hN : rpcRead l = none := by rw [rpcRead_eq]; (repeat' split) <;> first | rfl | (exfalso; omega)
      rw [show rr l 12 0 4 = (0, 12, 3) from by simp [rr, hs3]]
      repeat (first | refine o_v (k := ?_) | refine c_seq ?_ | refine c_region ?_ | refine o_nil ?_ | refine e_then_normal ?_ | refine o_store (k := ?_) | refine c_true (h1 := ?_) | refine c_false (h1 := ?_) | refine c_ret ?_ | refine c_skip ?_ | refine e_then_ret ?_ | refine c_block ?_ | refine c_exit ?_ | refine e_then_exit ?_ | refine e_block_exit ?_ | refine e_block_normal ?_ | refine e_block_ret ?_ | refine o_box (k := fun _ => ?_) | refine o_alloc (k := fun _ => ?_) | refine e_norm ?_ | refine o_ung (k := ?_) | refine o_k (k := ?_) | refine s_v (k := ?_) | refine s_w (k := ?_) | refine s_k (k := ?_) | refine s_nil ?_ | refine e_block_exit_ne rfl ?_)
      exact e_1 (h1 := rs_blk) (H' := []) (hT := by rw [hN]; exact ⟨3, 12, by decide, rfl, rfl⟩)
    rw [show rr l 12 0 4 = (wd l 12, 16, 0) from by simp [rr, hs3, wd]]
    repeat (first | refine o_v (k := ?_) | refine c_seq ?_ | refine c_region ?_ | refine o_nil ?_ | refine e_then_normal ?_ | refine o_store (k := ?_) | refine c_true (h1 := ?_) | refine c_false (h1 := ?_) | refine c_ret ?_ | refine c_skip ?_ | refine e_then_ret ?_ | refine c_block ?_ | refine c_exit ?_ | refine e_then_exit ?_ | refine e_block_exit ?_ | refine e_block_normal ?_ | refine e_block_ret ?_ | refine o_box (k := fun _ => ?_) | refine o_alloc (k := fun _ => ?_) | refine e_norm ?_ | refine o_ung (k := ?_) | refine o_k (k := ?_) | refine s_v (k := ?_) | refine s_w (k := ?_) | refine s_k (k := ?_) | refine s_nil ?_ | refine e_block_exit_ne rfl ?_)
    refine o_lit (k := fun lb => ?_)
    repeat (first | refine o_v (k := ?_) | refine c_seq ?_ | refine c_region ?_ | refine o_nil ?_ | refine e_then_normal ?_ | refine o_store (k := ?_) | refine c_true (h1 := ?_) | refine c_false (h1 := ?_) | refine c_ret ?_ | refine c_skip ?_ | refine e_then_ret ?_ | refine c_block ?_ | refine c_exit ?_ | refine e_then_exit ?_ | refine e_block_exit ?_ | refine e_block_normal ?_ | refine e_block_ret ?_ | refine o_box (k := fun _ => ?_) | refine o_alloc (k := fun _ => ?_) | refine e_norm ?_ | refine o_ung (k := ?_) | refine o_k (k := ?_) | refine s_v (k := ?_) | refine s_w (k := ?_) | refine s_k (k := ?_) | refine s_nil ?_ | refine e_block_exit_ne rfl ?_)
    refine o_append (e := 32) (sz := 1) (n := 3) (m := 1) (xs := nums .u32 (wds l 3)) (news := [.int .u32 (wd l 12)]) (hsrc := src_cells (p := ⟨lb, 0, none⟩) (CellsIn.blk (m := 1) (by repeat (first | exact BlkIn.here | apply BlkIn.there)) rfl) rfl (by simp [Value.oneCell'])) (hb := by omega) (k := fun v => ?_)
    rw [show nums .u32 (wds l 3) ++ [.int .u32 (wd l 12)] = nums .u32 (wds l 4) from by simp [wds, nums]]
    repeat (first | refine o_v (k := ?_) | refine c_seq ?_ | refine c_region ?_ | refine o_nil ?_ | refine e_then_normal ?_ | refine o_store (k := ?_) | refine c_true (h1 := ?_) | refine c_false (h1 := ?_) | refine c_ret ?_ | refine c_skip ?_ | refine e_then_ret ?_ | refine c_block ?_ | refine c_exit ?_ | refine e_then_exit ?_ | refine e_block_exit ?_ | refine e_block_normal ?_ | refine e_block_ret ?_ | refine o_box (k := fun _ => ?_) | refine o_alloc (k := fun _ => ?_) | refine e_norm ?_ | refine o_ung (k := ?_) | refine o_k (k := ?_) | refine s_v (k := ?_) | refine s_w (k := ?_) | refine s_k (k := ?_) | refine s_nil ?_ | refine e_block_exit_ne rfl ?_)
    refine e_round ?_
    refine r_keep [(6, .int .i64 4), (5, .int .i64 4), (4, v), (3, .pointer (some ⟨rb, 0, none⟩)), (2, .pointer (some ⟨ob, 0, none⟩)), (0, .slice q l.length c)] [rowA v 32 1 4 (nums .u32 (wds l 4)), rrB rb q l c 16 0, bytesA false q l, blk ob 74 [.bool false, .int .u32 0, .int .u32 0, str [], .int .i64 0, .int .i64 0] (0, 0)] ⟨rfl, rfl, rfl, rfl, rfl, rfl, trivial⟩ (fun w hw => to_keep _ hw) ?_
    refine r_round ?_
    repeat (first | refine o_v (k := ?_) | refine c_seq ?_ | refine c_region ?_ | refine o_nil ?_ | refine e_then_normal ?_ | refine o_store (k := ?_) | refine c_true (h1 := ?_) | refine c_false (h1 := ?_) | refine c_ret ?_ | refine c_skip ?_ | refine e_then_ret ?_ | refine c_block ?_ | refine c_exit ?_ | refine e_then_exit ?_ | refine e_block_exit ?_ | refine e_block_normal ?_ | refine e_block_ret ?_ | refine o_box (k := fun _ => ?_) | refine o_alloc (k := fun _ => ?_) | refine e_norm ?_ | refine o_ung (k := ?_) | refine o_k (k := ?_) | refine s_v (k := ?_) | refine s_w (k := ?_) | refine s_k (k := ?_) | refine s_nil ?_ | refine e_block_exit_ne rfl ?_)
    refine c_rowis v (k := ?_)
    rintro q4 c4 rfl hc4 hm4 -
    have hS : rpcRead l = some (true, wd l 0, wd l 12, l.drop 16) := by rw [rpcRead_eq]; (repeat' split) <;> first | rfl | (exfalso; omega)
    refine c_rowat q4 (xs := nums .u32 (wds l 4)) (by simp [wds, nums]) (k := ?_)
    rintro wb rfl
    refine c_still (P := Tryz.prog) 17 (by kernel_rfl) ?_
    repeat (first | refine o_v (k := ?_) | refine c_seq ?_ | refine c_region ?_ | refine o_nil ?_ | refine e_then_normal ?_ | refine o_store (k := ?_) | refine c_true (h1 := ?_) | refine c_false (h1 := ?_) | refine c_ret ?_ | refine c_skip ?_ | refine e_then_ret ?_ | refine c_block ?_ | refine c_exit ?_ | refine e_then_exit ?_ | refine e_block_exit ?_ | refine e_block_normal ?_ | refine e_block_ret ?_ | refine o_box (k := fun _ => ?_) | refine o_alloc (k := fun _ => ?_) | refine e_norm ?_ | refine o_ung (k := ?_) | refine o_k (k := ?_) | refine s_v (k := ?_) | refine s_w (k := ?_) | refine s_k (k := ?_) | refine s_nil ?_ | refine e_block_exit_ne rfl ?_)
    refine s_y (y_load (v := .int .u32 (wd l 0)) rfl (CellIn.cells (own := true) (vs := nums .u32 (wds l 4)) (j := 0) (InA.row true (by repeat (first | exact InA.here | apply InA.there))) rfl rfl)) rfl ?_
    repeat (first | refine o_v (k := ?_) | refine c_seq ?_ | refine c_region ?_ | refine o_nil ?_ | refine e_then_normal ?_ | refine o_store (k := ?_) | refine c_true (h1 := ?_) | refine c_false (h1 := ?_) | refine c_ret ?_ | refine c_skip ?_ | refine e_then_ret ?_ | refine c_block ?_ | refine c_exit ?_ | refine e_then_exit ?_ | refine e_block_exit ?_ | refine e_block_normal ?_ | refine e_block_ret ?_ | refine o_box (k := fun _ => ?_) | refine o_alloc (k := fun _ => ?_) | refine e_norm ?_ | refine o_ung (k := ?_) | refine o_k (k := ?_) | refine s_v (k := ?_) | refine s_w (k := ?_) | refine s_k (k := ?_) | refine s_nil ?_ | refine e_block_exit_ne rfl ?_)
    refine s_y (y_load (v := .int .u32 (wd l 12)) rfl (CellIn.cells (own := true) (vs := nums .u32 (wds l 4)) (j := 3) (InA.row true (by repeat (first | exact InA.here | apply InA.there))) rfl rfl)) rfl ?_
    repeat (first | refine o_v (k := ?_) | refine c_seq ?_ | refine c_region ?_ | refine o_nil ?_ | refine e_then_normal ?_ | refine o_store (k := ?_) | refine c_true (h1 := ?_) | refine c_false (h1 := ?_) | refine c_ret ?_ | refine c_skip ?_ | refine e_then_ret ?_ | refine c_block ?_ | refine c_exit ?_ | refine e_then_exit ?_ | refine e_block_exit ?_ | refine e_block_normal ?_ | refine e_block_ret ?_ | refine o_box (k := fun _ => ?_) | refine o_alloc (k := fun _ => ?_) | refine e_norm ?_ | refine o_ung (k := ?_) | refine o_k (k := ?_) | refine s_v (k := ?_) | refine s_w (k := ?_) | refine s_k (k := ?_) | refine s_nil ?_ | refine e_block_exit_ne rfl ?_)
    refine s_cutlov 16 (l.drop 16).length (hm := by simp; omega) (k := fun q1 c1 hq1 hc1 => ?_)
    refine s_y (y_b2s (own := false) (l := l.drop 16) rfl (by
      have e : l.drop 16 = (l.drop 16).take (l.drop 16).length := by rw [List.take_length]
      rw [e]
      exact InA.rangeB (own := false) (q := q) 16 (l.drop 16).length (fun b o h hn => by simpa using hq1 b o h (by simp at hn; omega)) (by repeat (first | exact InA.here | apply InA.there)))) rfl ?_
    repeat (first | refine o_v (k := ?_) | refine c_seq ?_ | refine c_region ?_ | refine o_nil ?_ | refine e_then_normal ?_ | refine o_store (k := ?_) | refine c_true (h1 := ?_) | refine c_false (h1 := ?_) | refine c_ret ?_ | refine c_skip ?_ | refine e_then_ret ?_ | refine c_block ?_ | refine c_exit ?_ | refine e_then_exit ?_ | refine e_block_exit ?_ | refine e_block_normal ?_ | refine e_block_ret ?_ | refine o_box (k := fun _ => ?_) | refine o_alloc (k := fun _ => ?_) | refine e_norm ?_ | refine o_ung (k := ?_) | refine o_k (k := ?_) | refine s_v (k := ?_) | refine s_w (k := ?_) | refine s_k (k := ?_) | refine s_nil ?_ | refine e_block_exit_ne rfl ?_)
    exact e_1 (h1 := rs_blk) (H' := []) (hT := by rw [hS]; exact ⟨rfl, rfl⟩)
  · have w1 : wd l 4 ≠ 1 := by simp at h1; omega
    repeat (first | refine o_v (k := ?_) | refine c_seq ?_ | refine c_region ?_ | refine o_nil ?_ | refine e_then_normal ?_ | refine o_store (k := ?_) | refine c_true (h1 := ?_) | refine c_false (h1 := ?_) | refine c_ret ?_ | refine c_skip ?_ | refine e_then_ret ?_ | refine c_block ?_ | refine c_exit ?_ | refine e_then_exit ?_ | refine e_block_exit ?_ | refine e_block_normal ?_ | refine e_block_ret ?_ | refine o_box (k := fun _ => ?_) | refine o_alloc (k := fun _ => ?_) | refine e_norm ?_ | refine o_ung (k := ?_) | refine o_k (k := ?_) | refine s_v (k := ?_) | refine s_w (k := ?_) | refine s_k (k := ?_) | refine s_nil ?_ | refine e_block_exit_ne rfl ?_)
    refine c_if (h1 := fun hb => ?_) (h2 := fun hb => ?_)
    · have hb' : 1 < wd l 4 := by simp at hb; omega
      have hN : rpcRead l = none := by rw [rpcRead_eq]; (repeat' split) <;> first | rfl | (exfalso; omega)
      repeat (first | refine o_v (k := ?_) | refine c_seq ?_ | refine c_region ?_ | refine o_nil ?_ | refine e_then_normal ?_ | refine o_store (k := ?_) | refine c_true (h1 := ?_) | refine c_false (h1 := ?_) | refine c_ret ?_ | refine c_skip ?_ | refine e_then_ret ?_ | refine c_block ?_ | refine c_exit ?_ | refine e_then_exit ?_ | refine e_block_exit ?_ | refine e_block_normal ?_ | refine e_block_ret ?_ | refine o_box (k := fun _ => ?_) | refine o_alloc (k := fun _ => ?_) | refine e_norm ?_ | refine o_ung (k := ?_) | refine o_k (k := ?_) | refine s_v (k := ?_) | refine s_w (k := ?_) | refine s_k (k := ?_) | refine s_nil ?_ | refine e_block_exit_ne rfl ?_)
      exact e_1 (h1 := rs_blk) (H' := []) (hT := by rw [hN]; exact ⟨2, 4, by decide, rfl, rfl⟩)
    have hb1 : ¬ (1 < wd l 4) := by simp at hb; omega
    repeat (first | refine o_v (k := ?_) | refine c_seq ?_ | refine c_region ?_ | refine o_nil ?_ | refine e_then_normal ?_ | refine o_store (k := ?_) | refine c_true (h1 := ?_) | refine c_false (h1 := ?_) | refine c_ret ?_ | refine c_skip ?_ | refine e_then_ret ?_ | refine c_block ?_ | refine c_exit ?_ | refine e_then_exit ?_ | refine e_block_exit ?_ | refine e_block_normal ?_ | refine e_block_ret ?_ | refine o_box (k := fun _ => ?_) | refine o_alloc (k := fun _ => ?_) | refine e_norm ?_ | refine o_ung (k := ?_) | refine o_k (k := ?_) | refine s_v (k := ?_) | refine s_w (k := ?_) | refine s_k (k := ?_) | refine s_nil ?_ | refine e_block_exit_ne rfl ?_)
    refine e_round ?_
    refine r_keep [(6, .int .i64 2), (5, .int .i64 6), (4, v), (3, .pointer (some ⟨rb, 0, none⟩)), (2, .pointer (some ⟨ob, 0, none⟩)), (0, .slice q l.length c)] [rowA v 32 1 2 (nums .u32 (wds l 2)), rrB rb q l c 8 0, bytesA false q l, blk ob 74 [.bool false, .int .u32 0, .int .u32 0, str [], .int .i64 0, .int .i64 0] (0, 0)] ⟨rfl, rfl, rfl, rfl, rfl, rfl, trivial⟩ (fun w hw => to_keep _ hw) ?_
    refine r_round ?_
    repeat (first | refine o_v (k := ?_) | refine c_seq ?_ | refine c_region ?_ | refine o_nil ?_ | refine e_then_normal ?_ | refine o_store (k := ?_) | refine c_true (h1 := ?_) | refine c_false (h1 := ?_) | refine c_ret ?_ | refine c_skip ?_ | refine e_then_ret ?_ | refine c_block ?_ | refine c_exit ?_ | refine e_then_exit ?_ | refine e_block_exit ?_ | refine e_block_normal ?_ | refine e_block_ret ?_ | refine o_box (k := fun _ => ?_) | refine o_alloc (k := fun _ => ?_) | refine e_norm ?_ | refine o_ung (k := ?_) | refine o_k (k := ?_) | refine s_v (k := ?_) | refine s_w (k := ?_) | refine s_k (k := ?_) | refine s_nil ?_ | refine e_block_exit_ne rfl ?_)
    refine o_call (rrU32_ok rb q l c 8 0 hl (by omega)) (k := ?_)
    rintro _ _ ⟨rfl, rfl⟩
    dsimp only [List.cons_append, List.nil_append]
    by_cases hs2 : l.length < 12
    · have hN : rpcRead l = none := by rw [rpcRead_eq]; (repeat' split) <;> first | rfl | (exfalso; omega)
      rw [show rr l 8 0 4 = (0, 8, 3) from by simp [rr, hs2]]
      repeat (first | refine o_v (k := ?_) | refine c_seq ?_ | refine c_region ?_ | refine o_nil ?_ | refine e_then_normal ?_ | refine o_store (k := ?_) | refine c_true (h1 := ?_) | refine c_false (h1 := ?_) | refine c_ret ?_ | refine c_skip ?_ | refine e_then_ret ?_ | refine c_block ?_ | refine c_exit ?_ | refine e_then_exit ?_ | refine e_block_exit ?_ | refine e_block_normal ?_ | refine e_block_ret ?_ | refine o_box (k := fun _ => ?_) | refine o_alloc (k := fun _ => ?_) | refine e_norm ?_ | refine o_ung (k := ?_) | refine o_k (k := ?_) | refine s_v (k := ?_) | refine s_w (k := ?_) | refine s_k (k := ?_) | refine s_nil ?_ | refine e_block_exit_ne rfl ?_)
      exact e_1 (h1 := rs_blk) (H' := []) (hT := by rw [hN]; exact ⟨3, 8, by decide, rfl, rfl⟩)
    rw [show rr l 8 0 4 = (wd l 8, 12, 0) from by simp [rr, hs2, wd]]
    repeat (first | refine o_v (k := ?_) | refine c_seq ?_ | refine c_region ?_ | refine o_nil ?_ | refine e_then_normal ?_ | refine o_store (k := ?_) | refine c_true (h1 := ?_) | refine c_false (h1 := ?_) | refine c_ret ?_ | refine c_skip ?_ | refine e_then_ret ?_ | refine c_block ?_ | refine c_exit ?_ | refine e_then_exit ?_ | refine e_block_exit ?_ | refine e_block_normal ?_ | refine e_block_ret ?_ | refine o_box (k := fun _ => ?_) | refine o_alloc (k := fun _ => ?_) | refine e_norm ?_ | refine o_ung (k := ?_) | refine o_k (k := ?_) | refine s_v (k := ?_) | refine s_w (k := ?_) | refine s_k (k := ?_) | refine s_nil ?_ | refine e_block_exit_ne rfl ?_)
    refine o_lit (k := fun lb => ?_)
    repeat (first | refine o_v (k := ?_) | refine c_seq ?_ | refine c_region ?_ | refine o_nil ?_ | refine e_then_normal ?_ | refine o_store (k := ?_) | refine c_true (h1 := ?_) | refine c_false (h1 := ?_) | refine c_ret ?_ | refine c_skip ?_ | refine e_then_ret ?_ | refine c_block ?_ | refine c_exit ?_ | refine e_then_exit ?_ | refine e_block_exit ?_ | refine e_block_normal ?_ | refine e_block_ret ?_ | refine o_box (k := fun _ => ?_) | refine o_alloc (k := fun _ => ?_) | refine e_norm ?_ | refine o_ung (k := ?_) | refine o_k (k := ?_) | refine s_v (k := ?_) | refine s_w (k := ?_) | refine s_k (k := ?_) | refine s_nil ?_ | refine e_block_exit_ne rfl ?_)
    refine o_append (e := 32) (sz := 1) (n := 2) (m := 1) (xs := nums .u32 (wds l 2)) (news := [.int .u32 (wd l 8)]) (hsrc := src_cells (p := ⟨lb, 0, none⟩) (CellsIn.blk (m := 1) (by repeat (first | exact BlkIn.here | apply BlkIn.there)) rfl) rfl (by simp [Value.oneCell'])) (hb := by omega) (k := fun v => ?_)
    rw [show nums .u32 (wds l 2) ++ [.int .u32 (wd l 8)] = nums .u32 (wds l 3) from by simp [wds, nums]]
    repeat (first | refine o_v (k := ?_) | refine c_seq ?_ | refine c_region ?_ | refine o_nil ?_ | refine e_then_normal ?_ | refine o_store (k := ?_) | refine c_true (h1 := ?_) | refine c_false (h1 := ?_) | refine c_ret ?_ | refine c_skip ?_ | refine e_then_ret ?_ | refine c_block ?_ | refine c_exit ?_ | refine e_then_exit ?_ | refine e_block_exit ?_ | refine e_block_normal ?_ | refine e_block_ret ?_ | refine o_box (k := fun _ => ?_) | refine o_alloc (k := fun _ => ?_) | refine e_norm ?_ | refine o_ung (k := ?_) | refine o_k (k := ?_) | refine s_v (k := ?_) | refine s_w (k := ?_) | refine s_k (k := ?_) | refine s_nil ?_ | refine e_block_exit_ne rfl ?_)
    refine o_lit (k := fun tb => ?_)
    repeat (first | refine o_v (k := ?_) | refine c_seq ?_ | refine c_region ?_ | refine o_nil ?_ | refine e_then_normal ?_ | refine o_store (k := ?_) | refine c_true (h1 := ?_) | refine c_false (h1 := ?_) | refine c_ret ?_ | refine c_skip ?_ | refine e_then_ret ?_ | refine c_block ?_ | refine c_exit ?_ | refine e_then_exit ?_ | refine e_block_exit ?_ | refine e_block_normal ?_ | refine e_block_ret ?_ | refine o_box (k := fun _ => ?_) | refine o_alloc (k := fun _ => ?_) | refine e_norm ?_ | refine o_ung (k := ?_) | refine o_k (k := ?_) | refine s_v (k := ?_) | refine s_w (k := ?_) | refine s_k (k := ?_) | refine s_nil ?_ | refine e_block_exit_ne rfl ?_)
    refine c_if (h1 := fun hb => ?_) (h2 := fun hb => ?_)
    · have hb' : wd l 8 ≠ 2 := by simp at hb; omega
      have hN : rpcRead l = none := by rw [rpcRead_eq]; (repeat' split) <;> first | rfl | (exfalso; omega)
      repeat (first | refine o_v (k := ?_) | refine c_seq ?_ | refine c_region ?_ | refine o_nil ?_ | refine e_then_normal ?_ | refine o_store (k := ?_) | refine c_true (h1 := ?_) | refine c_false (h1 := ?_) | refine c_ret ?_ | refine c_skip ?_ | refine e_then_ret ?_ | refine c_block ?_ | refine c_exit ?_ | refine e_then_exit ?_ | refine e_block_exit ?_ | refine e_block_normal ?_ | refine e_block_ret ?_ | refine o_box (k := fun _ => ?_) | refine o_alloc (k := fun _ => ?_) | refine e_norm ?_ | refine o_ung (k := ?_) | refine o_k (k := ?_) | refine s_v (k := ?_) | refine s_w (k := ?_) | refine s_k (k := ?_) | refine s_nil ?_ | refine e_block_exit_ne rfl ?_)
      exact e_1 (h1 := rs_blk) (H' := []) (hT := by rw [hN]; exact ⟨2, 8, by decide, rfl, rfl⟩)
    have hb2 : ¬ (wd l 8 ≠ 2) := by simp at hb; omega
    repeat (first | refine o_v (k := ?_) | refine c_seq ?_ | refine c_region ?_ | refine o_nil ?_ | refine e_then_normal ?_ | refine o_store (k := ?_) | refine c_true (h1 := ?_) | refine c_false (h1 := ?_) | refine c_ret ?_ | refine c_skip ?_ | refine e_then_ret ?_ | refine c_block ?_ | refine c_exit ?_ | refine e_then_exit ?_ | refine e_block_exit ?_ | refine e_block_normal ?_ | refine e_block_ret ?_ | refine o_box (k := fun _ => ?_) | refine o_alloc (k := fun _ => ?_) | refine e_norm ?_ | refine o_ung (k := ?_) | refine o_k (k := ?_) | refine s_v (k := ?_) | refine s_w (k := ?_) | refine s_k (k := ?_) | refine s_nil ?_ | refine e_block_exit_ne rfl ?_)
    refine e_round ?_
    refine r_keep [(6, .int .i64 3), (5, .int .i64 6), (4, v), (3, .pointer (some ⟨rb, 0, none⟩)), (2, .pointer (some ⟨ob, 0, none⟩)), (0, .slice q l.length c)] [rowA v 32 1 3 (nums .u32 (wds l 3)), rrB rb q l c 12 0, bytesA false q l, blk ob 74 [.bool false, .int .u32 0, .int .u32 0, str [], .int .i64 0, .int .i64 0] (0, 0)] ⟨rfl, rfl, rfl, rfl, rfl, rfl, trivial⟩ (fun w hw => to_keep _ hw) ?_
    refine r_round ?_
    repeat (first | refine o_v (k := ?_) | refine c_seq ?_ | refine c_region ?_ | refine o_nil ?_ | refine e_then_normal ?_ | refine o_store (k := ?_) | refine c_true (h1 := ?_) | refine c_false (h1 := ?_) | refine c_ret ?_ | refine c_skip ?_ | refine e_then_ret ?_ | refine c_block ?_ | refine c_exit ?_ | refine e_then_exit ?_ | refine e_block_exit ?_ | refine e_block_normal ?_ | refine e_block_ret ?_ | refine o_box (k := fun _ => ?_) | refine o_alloc (k := fun _ => ?_) | refine e_norm ?_ | refine o_ung (k := ?_) | refine o_k (k := ?_) | refine s_v (k := ?_) | refine s_w (k := ?_) | refine s_k (k := ?_) | refine s_nil ?_ | refine e_block_exit_ne rfl ?_)
    refine o_call (rrU32_ok rb q l c 12 0 hl (by omega)) (k := ?_)
    rintro _ _ ⟨rfl, rfl⟩
    dsimp only [List.cons_append, List.nil_append]
    by_cases hs3 : l.length < 16
    · have hN : rpcRead l = none := by rw [rpcRead_eq]; (repeat' split) <;> first | rfl | (exfalso; omega)
      rw [show rr l 12 0 4 = (0, 12, 3) from by simp [rr, hs3]]
      repeat (first | refine o_v (k := ?_) | refine c_seq ?_ | refine c_region ?_ | refine o_nil ?_ | refine e_then_normal ?_ | refine o_store (k := ?_) | refine c_true (h1 := ?_) | refine c_false (h1 := ?_) | refine c_ret ?_ | refine c_skip ?_ | refine e_then_ret ?_ | refine c_block ?_ | refine c_exit ?_ | refine e_then_exit ?_ | refine e_block_exit ?_ | refine e_block_normal ?_ | refine e_block_ret ?_ | refine o_box (k := fun _ => ?_) | refine o_alloc (k := fun _ => ?_) | refine e_norm ?_ | refine o_ung (k := ?_) | refine o_k (k := ?_) | refine s_v (k := ?_) | refine s_w (k := ?_) | refine s_k (k := ?_) | refine s_nil ?_ | refine e_block_exit_ne rfl ?_)
      exact e_1 (h1 := rs_blk) (H' := []) (hT := by rw [hN]; exact ⟨3, 12, by decide, rfl, rfl⟩)
    rw [show rr l 12 0 4 = (wd l 12, 16, 0) from by simp [rr, hs3, wd]]
    repeat (first | refine o_v (k := ?_) | refine c_seq ?_ | refine c_region ?_ | refine o_nil ?_ | refine e_then_normal ?_ | refine o_store (k := ?_) | refine c_true (h1 := ?_) | refine c_false (h1 := ?_) | refine c_ret ?_ | refine c_skip ?_ | refine e_then_ret ?_ | refine c_block ?_ | refine c_exit ?_ | refine e_then_exit ?_ | refine e_block_exit ?_ | refine e_block_normal ?_ | refine e_block_ret ?_ | refine o_box (k := fun _ => ?_) | refine o_alloc (k := fun _ => ?_) | refine e_norm ?_ | refine o_ung (k := ?_) | refine o_k (k := ?_) | refine s_v (k := ?_) | refine s_w (k := ?_) | refine s_k (k := ?_) | refine s_nil ?_ | refine e_block_exit_ne rfl ?_)
    refine o_lit (k := fun lb => ?_)
    repeat (first | refine o_v (k := ?_) | refine c_seq ?_ | refine c_region ?_ | refine o_nil ?_ | refine e_then_normal ?_ | refine o_store (k := ?_) | refine c_true (h1 := ?_) | refine c_false (h1 := ?_) | refine c_ret ?_ | refine c_skip ?_ | refine e_then_ret ?_ | refine c_block ?_ | refine c_exit ?_ | refine e_then_exit ?_ | refine e_block_exit ?_ | refine e_block_normal ?_ | refine e_block_ret ?_ | refine o_box (k := fun _ => ?_) | refine o_alloc (k := fun _ => ?_) | refine e_norm ?_ | refine o_ung (k := ?_) | refine o_k (k := ?_) | refine s_v (k := ?_) | refine s_w (k := ?_) | refine s_k (k := ?_) | refine s_nil ?_ | refine e_block_exit_ne rfl ?_)
    refine o_append (e := 32) (sz := 1) (n := 3) (m := 1) (xs := nums .u32 (wds l 3)) (news := [.int .u32 (wd l 12)]) (hsrc := src_cells (p := ⟨lb, 0, none⟩) (CellsIn.blk (m := 1) (by repeat (first | exact BlkIn.here | apply BlkIn.there)) rfl) rfl (by simp [Value.oneCell'])) (hb := by omega) (k := fun v => ?_)
    rw [show nums .u32 (wds l 3) ++ [.int .u32 (wd l 12)] = nums .u32 (wds l 4) from by simp [wds, nums]]
    repeat (first | refine o_v (k := ?_) | refine c_seq ?_ | refine c_region ?_ | refine o_nil ?_ | refine e_then_normal ?_ | refine o_store (k := ?_) | refine c_true (h1 := ?_) | refine c_false (h1 := ?_) | refine c_ret ?_ | refine c_skip ?_ | refine e_then_ret ?_ | refine c_block ?_ | refine c_exit ?_ | refine e_then_exit ?_ | refine e_block_exit ?_ | refine e_block_normal ?_ | refine e_block_ret ?_ | refine o_box (k := fun _ => ?_) | refine o_alloc (k := fun _ => ?_) | refine e_norm ?_ | refine o_ung (k := ?_) | refine o_k (k := ?_) | refine s_v (k := ?_) | refine s_w (k := ?_) | refine s_k (k := ?_) | refine s_nil ?_ | refine e_block_exit_ne rfl ?_)
    refine o_lit (k := fun tb => ?_)
    repeat (first | refine o_v (k := ?_) | refine c_seq ?_ | refine c_region ?_ | refine o_nil ?_ | refine e_then_normal ?_ | refine o_store (k := ?_) | refine c_true (h1 := ?_) | refine c_false (h1 := ?_) | refine c_ret ?_ | refine c_skip ?_ | refine e_then_ret ?_ | refine c_block ?_ | refine c_exit ?_ | refine e_then_exit ?_ | refine e_block_exit ?_ | refine e_block_normal ?_ | refine e_block_ret ?_ | refine o_box (k := fun _ => ?_) | refine o_alloc (k := fun _ => ?_) | refine e_norm ?_ | refine o_ung (k := ?_) | refine o_k (k := ?_) | refine s_v (k := ?_) | refine s_w (k := ?_) | refine s_k (k := ?_) | refine s_nil ?_ | refine e_block_exit_ne rfl ?_)
    refine c_if (h1 := fun hb => ?_) (h2 := fun hb => ?_)
    · have hb' : wd l 12 ≠ 536870913 := by simp at hb; omega
      have hN : rpcRead l = none := by rw [rpcRead_eq]; (repeat' split) <;> first | rfl | (exfalso; omega)
      repeat (first | refine o_v (k := ?_) | refine c_seq ?_ | refine c_region ?_ | refine o_nil ?_ | refine e_then_normal ?_ | refine o_store (k := ?_) | refine c_true (h1 := ?_) | refine c_false (h1 := ?_) | refine c_ret ?_ | refine c_skip ?_ | refine e_then_ret ?_ | refine c_block ?_ | refine c_exit ?_ | refine e_then_exit ?_ | refine e_block_exit ?_ | refine e_block_normal ?_ | refine e_block_ret ?_ | refine o_box (k := fun _ => ?_) | refine o_alloc (k := fun _ => ?_) | refine e_norm ?_ | refine o_ung (k := ?_) | refine o_k (k := ?_) | refine s_v (k := ?_) | refine s_w (k := ?_) | refine s_k (k := ?_) | refine s_nil ?_ | refine e_block_exit_ne rfl ?_)
      exact e_1 (h1 := rs_blk) (H' := []) (hT := by rw [hN]; exact ⟨2, 12, by decide, rfl, rfl⟩)
    have hb3 : ¬ (wd l 12 ≠ 536870913) := by simp at hb; omega
    repeat (first | refine o_v (k := ?_) | refine c_seq ?_ | refine c_region ?_ | refine o_nil ?_ | refine e_then_normal ?_ | refine o_store (k := ?_) | refine c_true (h1 := ?_) | refine c_false (h1 := ?_) | refine c_ret ?_ | refine c_skip ?_ | refine e_then_ret ?_ | refine c_block ?_ | refine c_exit ?_ | refine e_then_exit ?_ | refine e_block_exit ?_ | refine e_block_normal ?_ | refine e_block_ret ?_ | refine o_box (k := fun _ => ?_) | refine o_alloc (k := fun _ => ?_) | refine e_norm ?_ | refine o_ung (k := ?_) | refine o_k (k := ?_) | refine s_v (k := ?_) | refine s_w (k := ?_) | refine s_k (k := ?_) | refine s_nil ?_ | refine e_block_exit_ne rfl ?_)
    refine e_round ?_
    refine r_keep [(6, .int .i64 4), (5, .int .i64 6), (4, v), (3, .pointer (some ⟨rb, 0, none⟩)), (2, .pointer (some ⟨ob, 0, none⟩)), (0, .slice q l.length c)] [rowA v 32 1 4 (nums .u32 (wds l 4)), rrB rb q l c 16 0, bytesA false q l, blk ob 74 [.bool false, .int .u32 0, .int .u32 0, str [], .int .i64 0, .int .i64 0] (0, 0)] ⟨rfl, rfl, rfl, rfl, rfl, rfl, trivial⟩ (fun w hw => to_keep _ hw) ?_
    refine r_round ?_
    repeat (first | refine o_v (k := ?_) | refine c_seq ?_ | refine c_region ?_ | refine o_nil ?_ | refine e_then_normal ?_ | refine o_store (k := ?_) | refine c_true (h1 := ?_) | refine c_false (h1 := ?_) | refine c_ret ?_ | refine c_skip ?_ | refine e_then_ret ?_ | refine c_block ?_ | refine c_exit ?_ | refine e_then_exit ?_ | refine e_block_exit ?_ | refine e_block_normal ?_ | refine e_block_ret ?_ | refine o_box (k := fun _ => ?_) | refine o_alloc (k := fun _ => ?_) | refine e_norm ?_ | refine o_ung (k := ?_) | refine o_k (k := ?_) | refine s_v (k := ?_) | refine s_w (k := ?_) | refine s_k (k := ?_) | refine s_nil ?_ | refine e_block_exit_ne rfl ?_)
    refine o_call (rrU32_ok rb q l c 16 0 hl (by omega)) (k := ?_)
    rintro _ _ ⟨rfl, rfl⟩
    dsimp only [List.cons_append, List.nil_append]
    by_cases hs4 : l.length < 20
    · have hN : rpcRead l = none := by rw [rpcRead_eq]; (repeat' split) <;> first | rfl | (exfalso; omega)
      rw [show rr l 16 0 4 = (0, 16, 3) from by simp [rr, hs4]]
      repeat (first | refine o_v (k := ?_) | refine c_seq ?_ | refine c_region ?_ | refine o_nil ?_ | refine e_then_normal ?_ | refine o_store (k := ?_) | refine c_true (h1 := ?_) | refine c_false (h1 := ?_) | refine c_ret ?_ | refine c_skip ?_ | refine e_then_ret ?_ | refine c_block ?_ | refine c_exit ?_ | refine e_then_exit ?_ | refine e_block_exit ?_ | refine e_block_normal ?_ | refine e_block_ret ?_ | refine o_box (k := fun _ => ?_) | refine o_alloc (k := fun _ => ?_) | refine e_norm ?_ | refine o_ung (k := ?_) | refine o_k (k := ?_) | refine s_v (k := ?_) | refine s_w (k := ?_) | refine s_k (k := ?_) | refine s_nil ?_ | refine e_block_exit_ne rfl ?_)
      exact e_1 (h1 := rs_blk) (H' := []) (hT := by rw [hN]; exact ⟨3, 16, by decide, rfl, rfl⟩)
    rw [show rr l 16 0 4 = (wd l 16, 20, 0) from by simp [rr, hs4, wd]]
    repeat (first | refine o_v (k := ?_) | refine c_seq ?_ | refine c_region ?_ | refine o_nil ?_ | refine e_then_normal ?_ | refine o_store (k := ?_) | refine c_true (h1 := ?_) | refine c_false (h1 := ?_) | refine c_ret ?_ | refine c_skip ?_ | refine e_then_ret ?_ | refine c_block ?_ | refine c_exit ?_ | refine e_then_exit ?_ | refine e_block_exit ?_ | refine e_block_normal ?_ | refine e_block_ret ?_ | refine o_box (k := fun _ => ?_) | refine o_alloc (k := fun _ => ?_) | refine e_norm ?_ | refine o_ung (k := ?_) | refine o_k (k := ?_) | refine s_v (k := ?_) | refine s_w (k := ?_) | refine s_k (k := ?_) | refine s_nil ?_ | refine e_block_exit_ne rfl ?_)
    refine o_lit (k := fun lb => ?_)
    repeat (first | refine o_v (k := ?_) | refine c_seq ?_ | refine c_region ?_ | refine o_nil ?_ | refine e_then_normal ?_ | refine o_store (k := ?_) | refine c_true (h1 := ?_) | refine c_false (h1 := ?_) | refine c_ret ?_ | refine c_skip ?_ | refine e_then_ret ?_ | refine c_block ?_ | refine c_exit ?_ | refine e_then_exit ?_ | refine e_block_exit ?_ | refine e_block_normal ?_ | refine e_block_ret ?_ | refine o_box (k := fun _ => ?_) | refine o_alloc (k := fun _ => ?_) | refine e_norm ?_ | refine o_ung (k := ?_) | refine o_k (k := ?_) | refine s_v (k := ?_) | refine s_w (k := ?_) | refine s_k (k := ?_) | refine s_nil ?_ | refine e_block_exit_ne rfl ?_)
    refine o_append (e := 32) (sz := 1) (n := 4) (m := 1) (xs := nums .u32 (wds l 4)) (news := [.int .u32 (wd l 16)]) (hsrc := src_cells (p := ⟨lb, 0, none⟩) (CellsIn.blk (m := 1) (by repeat (first | exact BlkIn.here | apply BlkIn.there)) rfl) rfl (by simp [Value.oneCell'])) (hb := by omega) (k := fun v => ?_)
    rw [show nums .u32 (wds l 4) ++ [.int .u32 (wd l 16)] = nums .u32 (wds l 5) from by simp [wds, nums]]
    repeat (first | refine o_v (k := ?_) | refine c_seq ?_ | refine c_region ?_ | refine o_nil ?_ | refine e_then_normal ?_ | refine o_store (k := ?_) | refine c_true (h1 := ?_) | refine c_false (h1 := ?_) | refine c_ret ?_ | refine c_skip ?_ | refine e_then_ret ?_ | refine c_block ?_ | refine c_exit ?_ | refine e_then_exit ?_ | refine e_block_exit ?_ | refine e_block_normal ?_ | refine e_block_ret ?_ | refine o_box (k := fun _ => ?_) | refine o_alloc (k := fun _ => ?_) | refine e_norm ?_ | refine o_ung (k := ?_) | refine o_k (k := ?_) | refine s_v (k := ?_) | refine s_w (k := ?_) | refine s_k (k := ?_) | refine s_nil ?_ | refine e_block_exit_ne rfl ?_)
    refine o_lit (k := fun tb => ?_)
    repeat (first | refine o_v (k := ?_) | refine c_seq ?_ | refine c_region ?_ | refine o_nil ?_ | refine e_then_normal ?_ | refine o_store (k := ?_) | refine c_true (h1 := ?_) | refine c_false (h1 := ?_) | refine c_ret ?_ | refine c_skip ?_ | refine e_then_ret ?_ | refine c_block ?_ | refine c_exit ?_ | refine e_then_exit ?_ | refine e_block_exit ?_ | refine e_block_normal ?_ | refine e_block_ret ?_ | refine o_box (k := fun _ => ?_) | refine o_alloc (k := fun _ => ?_) | refine e_norm ?_ | refine o_ung (k := ?_) | refine o_k (k := ?_) | refine s_v (k := ?_) | refine s_w (k := ?_) | refine s_k (k := ?_) | refine s_nil ?_ | refine e_block_exit_ne rfl ?_)
    refine c_if (h1 := fun hb => ?_) (h2 := fun hb => ?_)
    · have hb' : wd l 16 ≠ 1 := by simp at hb; omega
      have hN : rpcRead l = none := by rw [rpcRead_eq]; (repeat' split) <;> first | rfl | (exfalso; omega)
      repeat (first | refine o_v (k := ?_) | refine c_seq ?_ | refine c_region ?_ | refine o_nil ?_ | refine e_then_normal ?_ | refine o_store (k := ?_) | refine c_true (h1 := ?_) | refine c_false (h1 := ?_) | refine c_ret ?_ | refine c_skip ?_ | refine e_then_ret ?_ | refine c_block ?_ | refine c_exit ?_ | refine e_then_exit ?_ | refine e_block_exit ?_ | refine e_block_normal ?_ | refine e_block_ret ?_ | refine o_box (k := fun _ => ?_) | refine o_alloc (k := fun _ => ?_) | refine e_norm ?_ | refine o_ung (k := ?_) | refine o_k (k := ?_) | refine s_v (k := ?_) | refine s_w (k := ?_) | refine s_k (k := ?_) | refine s_nil ?_ | refine e_block_exit_ne rfl ?_)
      exact e_1 (h1 := rs_blk) (H' := []) (hT := by rw [hN]; exact ⟨2, 16, by decide, rfl, rfl⟩)
    have hb4 : ¬ (wd l 16 ≠ 1) := by simp at hb; omega
    repeat (first | refine o_v (k := ?_) | refine c_seq ?_ | refine c_region ?_ | refine o_nil ?_ | refine e_then_normal ?_ | refine o_store (k := ?_) | refine c_true (h1 := ?_) | refine c_false (h1 := ?_) | refine c_ret ?_ | refine c_skip ?_ | refine e_then_ret ?_ | refine c_block ?_ | refine c_exit ?_ | refine e_then_exit ?_ | refine e_block_exit ?_ | refine e_block_normal ?_ | refine e_block_ret ?_ | refine o_box (k := fun _ => ?_) | refine o_alloc (k := fun _ => ?_) | refine e_norm ?_ | refine o_ung (k := ?_) | refine o_k (k := ?_) | refine s_v (k := ?_) | refine s_w (k := ?_) | refine s_k (k := ?_) | refine s_nil ?_ | refine e_block_exit_ne rfl ?_)
    refine e_round ?_
    refine r_keep [(6, .int .i64 5), (5, .int .i64 6), (4, v), (3, .pointer (some ⟨rb, 0, none⟩)), (2, .pointer (some ⟨ob, 0, none⟩)), (0, .slice q l.length c)] [rowA v 32 1 5 (nums .u32 (wds l 5)), rrB rb q l c 20 0, bytesA false q l, blk ob 74 [.bool false, .int .u32 0, .int .u32 0, str [], .int .i64 0, .int .i64 0] (0, 0)] ⟨rfl, rfl, rfl, rfl, rfl, rfl, trivial⟩ (fun w hw => to_keep _ hw) ?_
    refine r_round ?_
    repeat (first | refine o_v (k := ?_) | refine c_seq ?_ | refine c_region ?_ | refine o_nil ?_ | refine e_then_normal ?_ | refine o_store (k := ?_) | refine c_true (h1 := ?_) | refine c_false (h1 := ?_) | refine c_ret ?_ | refine c_skip ?_ | refine e_then_ret ?_ | refine c_block ?_ | refine c_exit ?_ | refine e_then_exit ?_ | refine e_block_exit ?_ | refine e_block_normal ?_ | refine e_block_ret ?_ | refine o_box (k := fun _ => ?_) | refine o_alloc (k := fun _ => ?_) | refine e_norm ?_ | refine o_ung (k := ?_) | refine o_k (k := ?_) | refine s_v (k := ?_) | refine s_w (k := ?_) | refine s_k (k := ?_) | refine s_nil ?_ | refine e_block_exit_ne rfl ?_)
    refine o_call (rrU32_ok rb q l c 20 0 hl (by omega)) (k := ?_)
    rintro _ _ ⟨rfl, rfl⟩
    dsimp only [List.cons_append, List.nil_append]
    by_cases hs5 : l.length < 24
    · have hN : rpcRead l = none := by rw [rpcRead_eq]; (repeat' split) <;> first | rfl | (exfalso; omega)
      rw [show rr l 20 0 4 = (0, 20, 3) from by simp [rr, hs5]]
      repeat (first | refine o_v (k := ?_) | refine c_seq ?_ | refine c_region ?_ | refine o_nil ?_ | refine e_then_normal ?_ | refine o_store (k := ?_) | refine c_true (h1 := ?_) | refine c_false (h1 := ?_) | refine c_ret ?_ | refine c_skip ?_ | refine e_then_ret ?_ | refine c_block ?_ | refine c_exit ?_ | refine e_then_exit ?_ | refine e_block_exit ?_ | refine e_block_normal ?_ | refine e_block_ret ?_ | refine o_box (k := fun _ => ?_) | refine o_alloc (k := fun _ => ?_) | refine e_norm ?_ | refine o_ung (k := ?_) | refine o_k (k := ?_) | refine s_v (k := ?_) | refine s_w (k := ?_) | refine s_k (k := ?_) | refine s_nil ?_ | refine e_block_exit_ne rfl ?_)
      exact e_1 (h1 := rs_blk) (H' := []) (hT := by rw [hN]; exact ⟨3, 20, by decide, rfl, rfl⟩)
    rw [show rr l 20 0 4 = (wd l 20, 24, 0) from by simp [rr, hs5, wd]]
    repeat (first | refine o_v (k := ?_) | refine c_seq ?_ | refine c_region ?_ | refine o_nil ?_ | refine e_then_normal ?_ | refine o_store (k := ?_) | refine c_true (h1 := ?_) | refine c_false (h1 := ?_) | refine c_ret ?_ | refine c_skip ?_ | refine e_then_ret ?_ | refine c_block ?_ | refine c_exit ?_ | refine e_then_exit ?_ | refine e_block_exit ?_ | refine e_block_normal ?_ | refine e_block_ret ?_ | refine o_box (k := fun _ => ?_) | refine o_alloc (k := fun _ => ?_) | refine e_norm ?_ | refine o_ung (k := ?_) | refine o_k (k := ?_) | refine s_v (k := ?_) | refine s_w (k := ?_) | refine s_k (k := ?_) | refine s_nil ?_ | refine e_block_exit_ne rfl ?_)
    refine o_lit (k := fun lb => ?_)
    repeat (first | refine o_v (k := ?_) | refine c_seq ?_ | refine c_region ?_ | refine o_nil ?_ | refine e_then_normal ?_ | refine o_store (k := ?_) | refine c_true (h1 := ?_) | refine c_false (h1 := ?_) | refine c_ret ?_ | refine c_skip ?_ | refine e_then_ret ?_ | refine c_block ?_ | refine c_exit ?_ | refine e_then_exit ?_ | refine e_block_exit ?_ | refine e_block_normal ?_ | refine e_block_ret ?_ | refine o_box (k := fun _ => ?_) | refine o_alloc (k := fun _ => ?_) | refine e_norm ?_ | refine o_ung (k := ?_) | refine o_k (k := ?_) | refine s_v (k := ?_) | refine s_w (k := ?_) | refine s_k (k := ?_) | refine s_nil ?_ | refine e_block_exit_ne rfl ?_)
    refine o_append (e := 32) (sz := 1) (n := 5) (m := 1) (xs := nums .u32 (wds l 5)) (news := [.int .u32 (wd l 20)]) (hsrc := src_cells (p := ⟨lb, 0, none⟩) (CellsIn.blk (m := 1) (by repeat (first | exact BlkIn.here | apply BlkIn.there)) rfl) rfl (by simp [Value.oneCell'])) (hb := by omega) (k := fun v => ?_)
    rw [show nums .u32 (wds l 5) ++ [.int .u32 (wd l 20)] = nums .u32 (wds l 6) from by simp [wds, nums]]
    repeat (first | refine o_v (k := ?_) | refine c_seq ?_ | refine c_region ?_ | refine o_nil ?_ | refine e_then_normal ?_ | refine o_store (k := ?_) | refine c_true (h1 := ?_) | refine c_false (h1 := ?_) | refine c_ret ?_ | refine c_skip ?_ | refine e_then_ret ?_ | refine c_block ?_ | refine c_exit ?_ | refine e_then_exit ?_ | refine e_block_exit ?_ | refine e_block_normal ?_ | refine e_block_ret ?_ | refine o_box (k := fun _ => ?_) | refine o_alloc (k := fun _ => ?_) | refine e_norm ?_ | refine o_ung (k := ?_) | refine o_k (k := ?_) | refine s_v (k := ?_) | refine s_w (k := ?_) | refine s_k (k := ?_) | refine s_nil ?_ | refine e_block_exit_ne rfl ?_)
    refine e_round ?_
    refine r_keep [(6, .int .i64 6), (5, .int .i64 6), (4, v), (3, .pointer (some ⟨rb, 0, none⟩)), (2, .pointer (some ⟨ob, 0, none⟩)), (0, .slice q l.length c)] [rowA v 32 1 6 (nums .u32 (wds l 6)), rrB rb q l c 24 0, bytesA false q l, blk ob 74 [.bool false, .int .u32 0, .int .u32 0, str [], .int .i64 0, .int .i64 0] (0, 0)] ⟨rfl, rfl, rfl, rfl, rfl, rfl, trivial⟩ (fun w hw => to_keep _ hw) ?_
    refine r_round ?_
    repeat (first | refine o_v (k := ?_) | refine c_seq ?_ | refine c_region ?_ | refine o_nil ?_ | refine e_then_normal ?_ | refine o_store (k := ?_) | refine c_true (h1 := ?_) | refine c_false (h1 := ?_) | refine c_ret ?_ | refine c_skip ?_ | refine e_then_ret ?_ | refine c_block ?_ | refine c_exit ?_ | refine e_then_exit ?_ | refine e_block_exit ?_ | refine e_block_normal ?_ | refine e_block_ret ?_ | refine o_box (k := fun _ => ?_) | refine o_alloc (k := fun _ => ?_) | refine e_norm ?_ | refine o_ung (k := ?_) | refine o_k (k := ?_) | refine s_v (k := ?_) | refine s_w (k := ?_) | refine s_k (k := ?_) | refine s_nil ?_ | refine e_block_exit_ne rfl ?_)
    refine c_rowis v (k := ?_)
    rintro q4 c4 rfl hc4 hm4 -
    have hS : rpcRead l = some (false, wd l 0, wd l 20, l.drop 24) := by rw [rpcRead_eq]; (repeat' split) <;> first | rfl | (exfalso; omega)
    refine c_rowat q4 (xs := nums .u32 (wds l 6)) (by simp [wds, nums]) (k := ?_)
    rintro wb rfl
    refine c_still (P := Tryz.prog) 17 (by kernel_rfl) ?_
    repeat (first | refine o_v (k := ?_) | refine c_seq ?_ | refine c_region ?_ | refine o_nil ?_ | refine e_then_normal ?_ | refine o_store (k := ?_) | refine c_true (h1 := ?_) | refine c_false (h1 := ?_) | refine c_ret ?_ | refine c_skip ?_ | refine e_then_ret ?_ | refine c_block ?_ | refine c_exit ?_ | refine e_then_exit ?_ | refine e_block_exit ?_ | refine e_block_normal ?_ | refine e_block_ret ?_ | refine o_box (k := fun _ => ?_) | refine o_alloc (k := fun _ => ?_) | refine e_norm ?_ | refine o_ung (k := ?_) | refine o_k (k := ?_) | refine s_v (k := ?_) | refine s_w (k := ?_) | refine s_k (k := ?_) | refine s_nil ?_ | refine e_block_exit_ne rfl ?_)
    refine s_y (y_load (v := .int .u32 (wd l 0)) rfl (CellIn.cells (own := true) (vs := nums .u32 (wds l 6)) (j := 0) (InA.row true (by repeat (first | exact InA.here | apply InA.there))) rfl rfl)) rfl ?_
    repeat (first | refine o_v (k := ?_) | refine c_seq ?_ | refine c_region ?_ | refine o_nil ?_ | refine e_then_normal ?_ | refine o_store (k := ?_) | refine c_true (h1 := ?_) | refine c_false (h1 := ?_) | refine c_ret ?_ | refine c_skip ?_ | refine e_then_ret ?_ | refine c_block ?_ | refine c_exit ?_ | refine e_then_exit ?_ | refine e_block_exit ?_ | refine e_block_normal ?_ | refine e_block_ret ?_ | refine o_box (k := fun _ => ?_) | refine o_alloc (k := fun _ => ?_) | refine e_norm ?_ | refine o_ung (k := ?_) | refine o_k (k := ?_) | refine s_v (k := ?_) | refine s_w (k := ?_) | refine s_k (k := ?_) | refine s_nil ?_ | refine e_block_exit_ne rfl ?_)
    refine s_y (y_load (v := .int .u32 (wd l 20)) rfl (CellIn.cells (own := true) (vs := nums .u32 (wds l 6)) (j := 5) (InA.row true (by repeat (first | exact InA.here | apply InA.there))) rfl rfl)) rfl ?_
    repeat (first | refine o_v (k := ?_) | refine c_seq ?_ | refine c_region ?_ | refine o_nil ?_ | refine e_then_normal ?_ | refine o_store (k := ?_) | refine c_true (h1 := ?_) | refine c_false (h1 := ?_) | refine c_ret ?_ | refine c_skip ?_ | refine e_then_ret ?_ | refine c_block ?_ | refine c_exit ?_ | refine e_then_exit ?_ | refine e_block_exit ?_ | refine e_block_normal ?_ | refine e_block_ret ?_ | refine o_box (k := fun _ => ?_) | refine o_alloc (k := fun _ => ?_) | refine e_norm ?_ | refine o_ung (k := ?_) | refine o_k (k := ?_) | refine s_v (k := ?_) | refine s_w (k := ?_) | refine s_k (k := ?_) | refine s_nil ?_ | refine e_block_exit_ne rfl ?_)
    refine s_cutlov 24 (l.drop 24).length (hm := by simp; omega) (k := fun q1 c1 hq1 hc1 => ?_)
    refine s_y (y_b2s (own := false) (l := l.drop 24) rfl (by
      have e : l.drop 24 = (l.drop 24).take (l.drop 24).length := by rw [List.take_length]
      rw [e]
      exact InA.rangeB (own := false) (q := q) 24 (l.drop 24).length (fun b o h hn => by simpa using hq1 b o h (by simp at hn; omega)) (by repeat (first | exact InA.here | apply InA.there)))) rfl ?_
    repeat (first | refine o_v (k := ?_) | refine c_seq ?_ | refine c_region ?_ | refine o_nil ?_ | refine e_then_normal ?_ | refine o_store (k := ?_) | refine c_true (h1 := ?_) | refine c_false (h1 := ?_) | refine c_ret ?_ | refine c_skip ?_ | refine e_then_ret ?_ | refine c_block ?_ | refine c_exit ?_ | refine e_then_exit ?_ | refine e_block_exit ?_ | refine e_block_normal ?_ | refine e_block_ret ?_ | refine o_box (k := fun _ => ?_) | refine o_alloc (k := fun _ => ?_) | refine e_norm ?_ | refine o_ung (k := ?_) | refine o_k (k := ?_) | refine s_v (k := ?_) | refine s_w (k := ?_) | refine s_k (k := ?_) | refine s_nil ?_ | refine e_block_exit_ne rfl ?_)
    exact e_1 (h1 := rs_blk) (H' := []) (hT := by rw [hS]; exact ⟨rfl, rfl⟩)
end Go.Proofs.YtlkgdidmhmaneaaGreatDoor
/- getattr among the procedures; what the laws' example is, in numbers. -/
namespace Go.Proofs.YtlkgdidmhmaneaaGreatDoor
open Go Go.RowKit
def exPf : PF := newF 4 10
def exArgs : MArgs := { args0 1 with ino := 1, gen := 1 }
theorem ex_call : rpcRead (callB 9 exArgs) = some (false, 9, 1, argsB exArgs) := by decide +kernel
theorem ex_reply : rpcRead (msgB true 0 1 []) = some (true, 0, 1, []) := by decide +kernel
theorem ex_read : callsRead 1 (argsB exArgs) = (exArgs, 0) := by kernel_rfl
theorem ex_answer : (answerP exPf 1 (argsB exArgs)).2 = attrR (1, 1) ⟨493, rootH, some [], []⟩ := by decide +kernel
theorem ex_may : mayM 1 (answerP exPf 1 (argsB exArgs)).2 = true := by decide +kernel
def exB : List UInt8 := ansB 1 (answerP exPf 1 (argsB exArgs)).2
theorem ex_back : rpcRead (msgB true 9 1 exB) = some (true, 9, 1, exB) := by decide +kernel
theorem exB_len : exB.length = 24 := by decide +kernel
theorem ex_len2 : (msgB true 9 1 exB).length = 40 := by decide +kernel
theorem Ct.conv {P : Program} {f : FuncId} {args : List Value} {H H0 Hf : List Ast} {R R' : Ending → List Ast → Prop} (h : Ct P f args H0 R) (hs : SplitA H H0 Hf) (hR : ∀ e H', R e H' → ∀ G w, Good G H' w → ∃ H'', R' e H'' ∧ Good G H'' w) : Ct P f args H R' := by
  intro w M T n hw h1 h2 h3
  obtain ⟨S, g1, g2, _⟩ := SepL.append_split (hs _ _ _ hw)
  refine (h w M T n (SepL.mono g1 (fun _ hk => hk) g2) h1 h2 h3).mono ?_
  rintro e w' ⟨H', hr, hg⟩
  exact hR e H' hr _ w' hg
attribute [local irreducible] Yl OG CG EG SG AG JG CellIn CellsIn BlkIn InA TakeA SplitA SubA Ct ResOk Good Held blk cellsA exA

set_option maxRecDepth 20000 in
set_option maxHeartbeats 4000000 in
theorem getattr_spec (fb : Nat) (lay : Lay) (p : PF) (x : MArgs) (q : Option Addr) (c : Nat) : MSpec 154 fb lay p x q c (p, getattrP p x.h1) := by
  unfold MSpec
  refine Ct.conv (Hf := [bytesA true q x.data]) (getattr_ok fb lay p x q c) (SplitA.cons .here SplitA.nil) ?_
  rintro e H' ⟨u, rfl, hu, rfl⟩ G w hg
  have hg2 : Good G [cellsA true none (entsC []), bytesA true none [], fsA fb lay p] w := (hg.add0 (by simp) (cellsA_nil _ w)).add0 (by simp) (cellsA_nil _ w)
  have hg3 : Good G [fsA fb lay p, bytesA true none [], cellsA true none (entsC [])] w := hg2.split (SplitA.cons (.there (.there .here)) (SplitA.cons (.there .here) (SplitA.cons .here SplitA.nil)))
  unfold getattrP
  cases hn : p.get x.h1 with
  | none =>
    rw [hn] at hu
    dsimp only at hu ⊢
    exact ⟨_, ⟨u, rfl, lay, none, 0, none, 0, by simp [res0], by rw [hu]; rfl, rfl⟩, hg3⟩
  | some n =>
    rw [hn] at hu
    dsimp only at hu ⊢
    exact ⟨_, ⟨u, rfl, lay, none, 0, none, 0, by simp [attrR, res0], by rw [hu]; rfl, rfl⟩, hg3⟩

theorem ex_ok : ArgsOk exArgs := by constructor <;> first | (unfold w32Ok; decide) | decide
theorem ex_len : (callB 9 exArgs).length = 32 := by decide +kernel
theorem ex_serve : serveP (newF 4 10) (callB 9 exArgs) = some ((answerP exPf 1 (argsB exArgs)).1, msgB true 9 1 exB) := by
  unfold serveP
  rw [ex_call]
  rfl
theorem ex_ask : askOf 1 (argsB exArgs) = exArgs := by unfold askOf; dsimp only; rw [ex_read]; rfl
theorem ex_do (fb : Nat) (lay : Lay) : (∀ q c, (callsRead (1 : Nat) (argsB exArgs)).2 = 0 → DoSpec fb lay (newF 4 10) (askOf (1 : Nat) (argsB exArgs)) q c) ∧ (((1 : Nat) : Int) ∈ procsL → mayM (1 : Nat) (answerP (newF 4 10) (1 : Nat) (argsB exArgs)).2 = true) ∧ ((answerP (newF 4 10) (1 : Nat) (argsB exArgs)).2.data.length ≤ 10000 ∧ (answerP (newF 4 10) (1 : Nat) (argsB exArgs)).2.ents.length ≤ 1000 ∧ (∀ e ∈ (answerP (newF 4 10) (1 : Nat) (argsB exArgs)).2.ents, e.1.length ≤ 1000) ∧ (ansB (1 : Nat) (answerP (newF 4 10) (1 : Nat) (argsB exArgs)).2).length ≤ 100000) := by
  refine ⟨fun q c _ => ?_, fun _ => ex_may, ?_⟩
  · rw [show askOf ((1 : Nat) : Int) (argsB exArgs) = exArgs from ex_ask]
    refine do_ok fb lay (newF 4 10) exArgs q c (fun f hf => ?_) ?_
    · have h1 : f = 154 := (Option.some.inj hf).symm
      subst h1
      exact getattr_spec fb lay (newF 4 10) (argsD exArgs) q c
    · intro h; exact absurd (by decide +kernel) h
  · rw [show answerP (newF 4 10) ((1 : Nat) : Int) (argsB exArgs) = answerP exPf 1 (argsB exArgs) from rfl, ex_answer]
    exact ⟨by decide, by decide, (fun e he => (by cases he)), by decide +kernel⟩

set_option maxRecDepth 20000 in
set_option maxHeartbeats 4000000 in
theorem lives_ok : Ct Tryz.prog 14 [] [tabA] (Ret fun u H => u = .bool true ∧ H = [tabA]) := by
  refine fn_enter Tryz.func14 rfl Tryz.ntmps14 rfl fun _ _ _ => ?_
  repeat (first | refine o_v (k := ?_) | refine c_seq ?_ | refine c_region ?_ | refine o_nil ?_ | refine e_then_normal ?_ | refine o_store (k := ?_) | refine c_true (h1 := ?_) | refine c_false (h1 := ?_) | refine c_ret ?_ | refine c_skip ?_ | refine e_then_ret ?_ | refine c_block ?_ | refine c_exit ?_ | refine e_then_exit ?_ | refine e_block_exit ?_ | refine e_block_normal ?_ | refine e_block_ret ?_ | refine o_box (k := fun _ => ?_) | refine o_alloc (k := fun _ => ?_) | refine e_norm ?_ | refine o_ung (k := ?_) | refine o_k (k := ?_) | refine s_v (k := ?_) | refine s_w (k := ?_) | refine s_k (k := ?_) | refine s_nil ?_ | refine e_block_exit_ne rfl ?_)
  refine o_call (begin_ok 4 10 (by omega) (by omega)) (k := ?_)
  rintro _ _ ⟨wb, sb, fb, lay, x, av, hx, rfl, rfl⟩
  dsimp only [List.cons_append, List.nil_append]
  repeat (first | refine o_v (k := ?_) | refine c_seq ?_ | refine c_region ?_ | refine o_nil ?_ | refine e_then_normal ?_ | refine o_store (k := ?_) | refine c_true (h1 := ?_) | refine c_false (h1 := ?_) | refine c_ret ?_ | refine c_skip ?_ | refine e_then_ret ?_ | refine c_block ?_ | refine c_exit ?_ | refine e_then_exit ?_ | refine e_block_exit ?_ | refine e_block_normal ?_ | refine e_block_ret ?_ | refine o_box (k := fun _ => ?_) | refine o_alloc (k := fun _ => ?_) | refine e_norm ?_ | refine o_ung (k := ?_) | refine o_k (k := ?_) | refine s_v (k := ?_) | refine s_w (k := ?_) | refine s_k (k := ?_) | refine s_nil ?_ | refine e_block_exit_ne rfl ?_)
  refine c_j [blk wb 59 (.pointer (some ⟨sb, 0, none⟩) :: (rfC (newR 4 10) x ++ [av, .int .i64 0])) (0, 0)] [0, 1, 2, 3, 4, 8, 9] ?_
  refine j_v 0 (k := ?_); refine j_v 1 (k := ?_); refine j_v 2 (k := ?_); refine j_v 3 (k := ?_); refine j_v 4 (k := ?_)
  refine j_one 5 (nd := true) (k := ?_)
  refine o_call (mBytes_ok true 0 1 [] (by omega) (by omega) (by simp)) (k := ?_)
  rintro v _ rfl
  dsimp only [List.cons_append, List.nil_append]
  refine o_nil ?_
  refine e_jt (k := ?_)
  refine j_one 6 (nd := true) (k := ?_)
  refine o_buf true v (k := ?_)
  rintro q1 c1 rfl hc1 hm1
  refine o_call (serve_ok true sb fb lay (newF 4 10) 0 (msgB true 0 1 []) q1 c1 (by omega) hc1 hm1 (by decide) (fun xid proc body hr => by rw [ex_reply] at hr; cases hr)) (k := ?_)
  have hS0 : serveP (newF 4 10) (msgB true 0 1 []) = none := by unfold serveP; rw [ex_reply]; rfl
  simp only [hS0]
  rintro _ _ ⟨rfl, rfl⟩
  unfold srvA
  dsimp only [List.cons_append, List.nil_append]
  refine o_nil ?_
  refine e_jt (k := ?_)
  refine j_one 7 (nd := true) (k := ?_); (repeat (first | refine o_v (k := ?_) | refine c_seq ?_ | refine c_region ?_ | refine o_nil ?_ | refine e_then_normal ?_ | refine o_store (k := ?_) | refine c_true (h1 := ?_) | refine c_false (h1 := ?_) | refine c_ret ?_ | refine c_skip ?_ | refine e_then_ret ?_ | refine c_block ?_ | refine c_exit ?_ | refine e_then_exit ?_ | refine e_block_exit ?_ | refine e_block_normal ?_ | refine e_block_ret ?_ | refine o_box (k := fun _ => ?_) | refine o_alloc (k := fun _ => ?_) | refine e_norm ?_ | refine o_ung (k := ?_) | refine o_k (k := ?_) | refine s_v (k := ?_) | refine s_w (k := ?_) | refine s_k (k := ?_) | refine s_nil ?_ | refine e_block_exit_ne rfl ?_)); refine e_jt (k := ?_)
  refine j_v 8 (k := ?_); refine j_v 9 (k := ?_)
  refine j_one 10 (nd := true) (k := ?_); (repeat (first | refine o_v (k := ?_) | refine c_seq ?_ | refine c_region ?_ | refine o_nil ?_ | refine e_then_normal ?_ | refine o_store (k := ?_) | refine c_true (h1 := ?_) | refine c_false (h1 := ?_) | refine c_ret ?_ | refine c_skip ?_ | refine e_then_ret ?_ | refine c_block ?_ | refine c_exit ?_ | refine e_then_exit ?_ | refine e_block_exit ?_ | refine e_block_normal ?_ | refine e_block_ret ?_ | refine o_box (k := fun _ => ?_) | refine o_alloc (k := fun _ => ?_) | refine e_norm ?_ | refine o_ung (k := ?_) | refine o_k (k := ?_) | refine s_v (k := ?_) | refine s_w (k := ?_) | refine s_k (k := ?_) | refine s_nil ?_ | refine e_block_exit_ne rfl ?_)); refine e_jt (k := ?_); refine j_one 11 (nd := false) (k := ?_); (repeat (first | refine o_v (k := ?_) | refine c_seq ?_ | refine c_region ?_ | refine o_nil ?_ | refine e_then_normal ?_ | refine o_store (k := ?_) | refine c_true (h1 := ?_) | refine c_false (h1 := ?_) | refine c_ret ?_ | refine c_skip ?_ | refine e_then_ret ?_ | refine c_block ?_ | refine c_exit ?_ | refine e_then_exit ?_ | refine e_block_exit ?_ | refine e_block_normal ?_ | refine e_block_ret ?_ | refine o_box (k := fun _ => ?_) | refine o_alloc (k := fun _ => ?_) | refine e_norm ?_ | refine o_ung (k := ?_) | refine o_k (k := ?_) | refine s_v (k := ?_) | refine s_w (k := ?_) | refine s_k (k := ?_) | refine s_nil ?_ | refine e_block_exit_ne rfl ?_)); refine e_jf (k := ?_)
  refine j_end (k := ?_)
  repeat (first | refine o_v (k := ?_) | refine c_seq ?_ | refine c_region ?_ | refine o_nil ?_ | refine e_then_normal ?_ | refine o_store (k := ?_) | refine c_true (h1 := ?_) | refine c_false (h1 := ?_) | refine c_ret ?_ | refine c_skip ?_ | refine e_then_ret ?_ | refine c_block ?_ | refine c_exit ?_ | refine e_then_exit ?_ | refine e_block_exit ?_ | refine e_block_normal ?_ | refine e_block_ret ?_ | refine o_box (k := fun _ => ?_) | refine o_alloc (k := fun _ => ?_) | refine e_norm ?_ | refine o_ung (k := ?_) | refine o_k (k := ?_) | refine s_v (k := ?_) | refine s_w (k := ?_) | refine s_k (k := ?_) | refine s_nil ?_ | refine e_block_exit_ne rfl ?_)
  refine c_j [blk wb 59 (.pointer (some ⟨sb, 0, none⟩) :: (rfC (newR 4 10) x ++ [av, .int .i64 0])) (0, 0)] [0, 1, 2, 3, 9, 10] ?_
  refine j_v 0 (k := ?_); refine j_v 1 (k := ?_); refine j_v 2 (k := ?_); refine j_v 3 (k := ?_)
  refine j_one 4 (nd := true) (k := ?_)
  (repeat (first | refine o_v (k := ?_) | refine c_seq ?_ | refine c_region ?_ | refine o_nil ?_ | refine e_then_normal ?_ | refine o_store (k := ?_) | refine c_true (h1 := ?_) | refine c_false (h1 := ?_) | refine c_ret ?_ | refine c_skip ?_ | refine e_then_ret ?_ | refine c_block ?_ | refine c_exit ?_ | refine e_then_exit ?_ | refine e_block_exit ?_ | refine e_block_normal ?_ | refine e_block_ret ?_ | refine o_box (k := fun _ => ?_) | refine o_alloc (k := fun _ => ?_) | refine e_norm ?_ | refine o_ung (k := ?_) | refine o_k (k := ?_) | refine s_v (k := ?_) | refine s_w (k := ?_) | refine s_k (k := ?_) | refine s_nil ?_ | refine e_block_exit_ne rfl ?_ | (refine o_call (root13_ok) (k := ?_); rintro _ _ ⟨rfl, rfl⟩; dsimp only [List.cons_append, List.nil_append])))
  refine e_jt (k := ?_)
  refine j_one 5 (nd := true) (k := ?_); (repeat (first | refine o_v (k := ?_) | refine c_seq ?_ | refine c_region ?_ | refine o_nil ?_ | refine e_then_normal ?_ | refine o_store (k := ?_) | refine c_true (h1 := ?_) | refine c_false (h1 := ?_) | refine c_ret ?_ | refine c_skip ?_ | refine e_then_ret ?_ | refine c_block ?_ | refine c_exit ?_ | refine e_then_exit ?_ | refine e_block_exit ?_ | refine e_block_normal ?_ | refine e_block_ret ?_ | refine o_box (k := fun _ => ?_) | refine o_alloc (k := fun _ => ?_) | refine e_norm ?_ | refine o_ung (k := ?_) | refine o_k (k := ?_) | refine s_v (k := ?_) | refine s_w (k := ?_) | refine s_k (k := ?_) | refine s_nil ?_ | refine e_block_exit_ne rfl ?_)); refine e_jt (k := ?_)
  refine j_one 6 (nd := true) (k := ?_)
  refine o_add0 (bytesA true none exArgs.data) (fun w => cellsA_nil _ w) (k := ?_)
  refine o_call (call_ok true 9 exArgs (by decide) (by unfold w32Ok; decide) ex_ok none 0) (k := ?_)
  rintro v2 _ rfl
  dsimp only [List.cons_append, List.nil_append]
  refine o_nil ?_
  refine e_jt (k := ?_)
  refine j_one 7 (nd := true) (k := ?_)
  refine o_buf true v2 (k := ?_)
  rintro q2 c2 rfl hc2 hm2
  refine o_call (serve_ok true sb fb lay (newF 4 10) 0 (callB 9 exArgs) q2 c2 (by omega) hc2 hm2 (by rw [ex_len]; decide) (fun xid proc body hr => by
    rw [ex_call] at hr
    simp only [Option.some.injEq, Prod.mk.injEq] at hr
    obtain ⟨-, rfl, rfl, rfl⟩ := hr
    exact ex_do fb lay)) (k := ?_)
  simp only [ex_serve]
  rintro _ _ ⟨lay', v3, rfl, rfl⟩
  unfold srvA
  dsimp only [List.cons_append, List.nil_append]
  refine o_nil ?_
  refine e_jt (k := ?_)
  refine j_one 8 (nd := true) (k := ?_); (repeat (first | refine o_v (k := ?_) | refine c_seq ?_ | refine c_region ?_ | refine o_nil ?_ | refine e_then_normal ?_ | refine o_store (k := ?_) | refine c_true (h1 := ?_) | refine c_false (h1 := ?_) | refine c_ret ?_ | refine c_skip ?_ | refine e_then_ret ?_ | refine c_block ?_ | refine c_exit ?_ | refine e_then_exit ?_ | refine e_block_exit ?_ | refine e_block_normal ?_ | refine e_block_ret ?_ | refine o_box (k := fun _ => ?_) | refine o_alloc (k := fun _ => ?_) | refine e_norm ?_ | refine o_ung (k := ?_) | refine o_k (k := ?_) | refine s_v (k := ?_) | refine s_w (k := ?_) | refine s_k (k := ?_) | refine s_nil ?_ | refine e_block_exit_ne rfl ?_)); refine e_jt (k := ?_)
  refine j_v 9 (k := ?_); refine j_v 10 (k := ?_)
  refine j_one 11 (nd := true) (k := ?_); (repeat (first | refine o_v (k := ?_) | refine c_seq ?_ | refine c_region ?_ | refine o_nil ?_ | refine e_then_normal ?_ | refine o_store (k := ?_) | refine c_true (h1 := ?_) | refine c_false (h1 := ?_) | refine c_ret ?_ | refine c_skip ?_ | refine e_then_ret ?_ | refine c_block ?_ | refine c_exit ?_ | refine e_then_exit ?_ | refine e_block_exit ?_ | refine e_block_normal ?_ | refine e_block_ret ?_ | refine o_box (k := fun _ => ?_) | refine o_alloc (k := fun _ => ?_) | refine e_norm ?_ | refine o_ung (k := ?_) | refine o_k (k := ?_) | refine s_v (k := ?_) | refine s_w (k := ?_) | refine s_k (k := ?_) | refine s_nil ?_ | refine e_block_exit_ne rfl ?_)); refine e_jt (k := ?_); refine j_one 12 (nd := false) (k := ?_); (repeat (first | refine o_v (k := ?_) | refine c_seq ?_ | refine c_region ?_ | refine o_nil ?_ | refine e_then_normal ?_ | refine o_store (k := ?_) | refine c_true (h1 := ?_) | refine c_false (h1 := ?_) | refine c_ret ?_ | refine c_skip ?_ | refine e_then_ret ?_ | refine c_block ?_ | refine c_exit ?_ | refine e_then_exit ?_ | refine e_block_exit ?_ | refine e_block_normal ?_ | refine e_block_ret ?_ | refine o_box (k := fun _ => ?_) | refine o_alloc (k := fun _ => ?_) | refine e_norm ?_ | refine o_ung (k := ?_) | refine o_k (k := ?_) | refine s_v (k := ?_) | refine s_w (k := ?_) | refine s_k (k := ?_) | refine s_nil ?_ | refine e_block_exit_ne rfl ?_)); refine e_jf (k := ?_)
  refine j_end (k := ?_)
  repeat (first | refine o_v (k := ?_) | refine c_seq ?_ | refine c_region ?_ | refine o_nil ?_ | refine e_then_normal ?_ | refine o_store (k := ?_) | refine c_true (h1 := ?_) | refine c_false (h1 := ?_) | refine c_ret ?_ | refine c_skip ?_ | refine e_then_ret ?_ | refine c_block ?_ | refine c_exit ?_ | refine e_then_exit ?_ | refine e_block_exit ?_ | refine e_block_normal ?_ | refine e_block_ret ?_ | refine o_box (k := fun _ => ?_) | refine o_alloc (k := fun _ => ?_) | refine e_norm ?_ | refine o_ung (k := ?_) | refine o_k (k := ?_) | refine s_v (k := ?_) | refine s_w (k := ?_) | refine s_k (k := ?_) | refine s_nil ?_ | refine e_block_exit_ne rfl ?_)
  refine o_buf false v3 (k := ?_)
  rintro q3 c3 rfl hc3 hm3
  refine o_call (mRead_ok q3 (msgB true 9 1 exB) c3 hc3 hm3 (by rw [ex_len2]; decide)) (k := ?_)
  simp only [ex_back]
  rintro _ _ ⟨rfl, rfl⟩
  dsimp only [List.cons_append, List.nil_append]
  repeat (first | refine o_v (k := ?_) | refine c_seq ?_ | refine c_region ?_ | refine o_nil ?_ | refine e_then_normal ?_ | refine o_store (k := ?_) | refine c_true (h1 := ?_) | refine c_false (h1 := ?_) | refine c_ret ?_ | refine c_skip ?_ | refine e_then_ret ?_ | refine c_block ?_ | refine c_exit ?_ | refine e_then_exit ?_ | refine e_block_exit ?_ | refine e_block_normal ?_ | refine e_block_ret ?_ | refine o_box (k := fun _ => ?_) | refine o_alloc (k := fun _ => ?_) | refine e_norm ?_ | refine o_ung (k := ?_) | refine o_k (k := ?_) | refine s_v (k := ?_) | refine s_w (k := ?_) | refine s_k (k := ?_) | refine s_nil ?_ | refine e_block_exit_ne rfl ?_)
  exact e_1 (h1 := rs_tmp rfl) (H' := [tabA]) (hT := ⟨by rw [exB_len]; rfl, rfl⟩)
end Go.Proofs.YtlkgdidmhmaneaaGreatDoor
/- ServeNews: the walk. -/
namespace Go.Proofs.YtlkgdidmhmaneaaGreatDoor
open Go Go.RowKit
section
variable {P : Program} {F : Fr} {H : List Ast}
theorem y_neqb {n : Nat} {t ty2 : TypeId} {x y : Operand} {a b : Bool} [h1 : PUnd P t .bool] (hx : ev F x = some (.bool a)) (hy : ev F y = some (.bool b)) : Yl P n F H (.binOp .neq t x y ty2) (.bool (!decide (a = b))) := fun ac w _ _ _ _ _ ha _ => by
  have he : (Op.equal t (.bool a) (.bool b)).run P w = .ok (decide (a = b)) w := run_equal (by rw [Op.equalIn]; cases a <;> cases b <;> simp [h1.h])
  cases a <;> cases b <;> simp [execOp, ha.ev hx, ha.ev hy, eqGuard, binOp, he]
end
theorem r_ind3 {P : Program} {c : Code} {Q : Exit → Act → World → Prop} {G : Ctx} (F : Nat → Fr) (H : Nat → List Ast) (hs : ∀ n k, k < 2 → RG P c Q n G (F (k + 1)) (H (k + 1)) → RG P c Q (n + 1) G (F k) (H k)) (he : ∀ n, RG P c Q (n + 1) G (F 2) (H 2)) : RG P c Q 3 G (F 0) (H 0) :=
  hs 2 0 (by omega) (hs 1 1 (by omega) (he 0))
attribute [local irreducible] Yl OG CG EG SG AG  CellIn CellsIn BlkIn InA TakeA SplitA SubA Ct ResOk Good Held blk cellsA exA

set_option maxRecDepth 20000 in
set_option maxHeartbeats 4000000 in
theorem serveNews_ok (n room : Int) (hn : -9223372036854775808 ≤ n ∧ n ≤ 9223372036854775807) : Ct Tryz.prog 3 [.int .i64 n, .int .i64 room] [tabA] (Ret fun u H => u = .bool true ∧ H = [tabA]) := by
  refine fn_enter Tryz.func3 rfl Tryz.ntmps3 rfl fun _ _ _ => ?_
  repeat (first | refine o_v (k := ?_) | refine c_seq ?_ | refine c_region ?_ | refine o_nil ?_ | refine e_then_normal ?_ | refine o_store (k := ?_) | refine c_true (h1 := ?_) | refine c_false (h1 := ?_) | refine c_ret ?_ | refine c_skip ?_ | refine e_then_ret ?_ | refine c_block ?_ | refine c_exit ?_ | refine e_then_exit ?_ | refine e_block_exit ?_ | refine e_block_normal ?_ | refine e_block_ret ?_ | refine o_box (k := fun _ => ?_) | refine o_alloc (k := fun _ => ?_) | refine e_norm ?_ | refine o_ung (k := ?_) | refine o_k (k := ?_) | refine s_v (k := ?_) | refine s_w (k := ?_) | refine s_k (k := ?_) | refine s_nil ?_ | refine e_block_exit_ne rfl ?_)
  refine o_call (around_ok n 67 hn (by omega)) (k := ?_)
  rintro _ _ ⟨rfl, rfl⟩
  dsimp only [List.cons_append, List.nil_append]
  repeat (first | refine o_v (k := ?_) | refine c_seq ?_ | refine c_region ?_ | refine o_nil ?_ | refine e_then_normal ?_ | refine o_store (k := ?_) | refine c_true (h1 := ?_) | refine c_false (h1 := ?_) | refine c_ret ?_ | refine c_skip ?_ | refine e_then_ret ?_ | refine c_block ?_ | refine c_exit ?_ | refine e_then_exit ?_ | refine e_block_exit ?_ | refine e_block_normal ?_ | refine e_block_ret ?_ | refine o_box (k := fun _ => ?_) | refine o_alloc (k := fun _ => ?_) | refine e_norm ?_ | refine o_ung (k := ?_) | refine o_k (k := ?_) | refine s_v (k := ?_) | refine s_w (k := ?_) | refine s_k (k := ?_) | refine s_nil ?_ | refine e_block_exit_ne rfl ?_)
  refine o_lit (k := fun lb => ?_)
  repeat (first | refine o_v (k := ?_) | refine c_seq ?_ | refine c_region ?_ | refine o_nil ?_ | refine e_then_normal ?_ | refine o_store (k := ?_) | refine c_true (h1 := ?_) | refine c_false (h1 := ?_) | refine c_ret ?_ | refine c_skip ?_ | refine e_then_ret ?_ | refine c_block ?_ | refine c_exit ?_ | refine e_then_exit ?_ | refine e_block_exit ?_ | refine e_block_normal ?_ | refine e_block_ret ?_ | refine o_box (k := fun _ => ?_) | refine o_alloc (k := fun _ => ?_) | refine e_norm ?_ | refine o_ung (k := ?_) | refine o_k (k := ?_) | refine s_v (k := ?_) | refine s_w (k := ?_) | refine s_k (k := ?_) | refine s_nil ?_ | refine e_block_exit_ne rfl ?_)
  refine c_rounds 3 ?_
  refine r_keep [(6, .int .i64 0), (5, .slice (some ⟨lb, 0, none⟩) 2 2), (4, .bool false), (1, .int .i64 room), (0, .int .i64 n)] [blk lb 3 [.int .i64 n, .int .i64 (aroundN n 67)] (0, 0), tabA] ⟨rfl, rfl, rfl, rfl, rfl, trivial⟩ (fun w hw => to_keep _ hw) ?_
  refine r_ind3 (fun k => [(6, .int .i64 (k : Int)), (5, .slice (some ⟨lb, 0, none⟩) 2 2), (4, .bool false), (1, .int .i64 room), (0, .int .i64 n)]) (fun k => [blk lb 3 [.int .i64 n, .int .i64 (aroundN n 67)] (0, 0), tabA]) (fun r k hk IH => ?_) (fun r => ?_)
  · obtain rfl | rfl : k = 0 ∨ k = 1 := by omega
    · refine r_keep [(6, .int .i64 0), (5, .slice (some ⟨lb, 0, none⟩) 2 2), (4, .bool false), (1, .int .i64 room), (0, .int .i64 n)] [blk lb 3 [.int .i64 n, .int .i64 (aroundN n 67)] (0, 0), tabA] ⟨rfl, rfl, rfl, rfl, rfl, trivial⟩ (fun w hw => to_keep _ hw) ?_
      refine r_round ?_
      repeat (first | refine o_v (k := ?_) | refine c_seq ?_ | refine c_region ?_ | refine o_nil ?_ | refine e_then_normal ?_ | refine o_store (k := ?_) | refine c_true (h1 := ?_) | refine c_false (h1 := ?_) | refine c_ret ?_ | refine c_skip ?_ | refine e_then_ret ?_ | refine c_block ?_ | refine c_exit ?_ | refine e_then_exit ?_ | refine e_block_exit ?_ | refine e_block_normal ?_ | refine e_block_ret ?_ | refine o_box (k := fun _ => ?_) | refine o_alloc (k := fun _ => ?_) | refine e_norm ?_ | refine o_ung (k := ?_) | refine o_k (k := ?_) | refine s_v (k := ?_) | refine s_w (k := ?_) | refine s_k (k := ?_) | refine s_nil ?_ | refine e_block_exit_ne rfl ?_)
      have hc := srvNew_ok n room
      have hm := may13_ok n room
      by_cases hok : (1 ≤ n ∧ n ≤ 64) ∧ 0 ≤ room ∧ room ≤ 65536
      · simp only [if_pos hok] at hc
        simp only [decide_eq_true hok] at hm
        refine o_call hc (k := ?_)
        rintro _ _ ⟨sb, fb, lay, rfl, rfl⟩
        unfold srvA
        dsimp only [List.cons_append, List.nil_append]
        repeat (first | refine o_v (k := ?_) | refine c_seq ?_ | refine c_region ?_ | refine o_nil ?_ | refine e_then_normal ?_ | refine o_store (k := ?_) | refine c_true (h1 := ?_) | refine c_false (h1 := ?_) | refine c_ret ?_ | refine c_skip ?_ | refine e_then_ret ?_ | refine c_block ?_ | refine c_exit ?_ | refine e_then_exit ?_ | refine e_block_exit ?_ | refine e_block_normal ?_ | refine e_block_ret ?_ | refine o_box (k := fun _ => ?_) | refine o_alloc (k := fun _ => ?_) | refine e_norm ?_ | refine o_ung (k := ?_) | refine o_k (k := ?_) | refine s_v (k := ?_) | refine s_w (k := ?_) | refine s_k (k := ?_) | refine s_nil ?_ | refine e_block_exit_ne rfl ?_ | (refine o_call (hm) (k := ?_); rintro _ _ ⟨rfl, rfl⟩; dsimp only [List.cons_append, List.nil_append]))
        refine o_y (y_neqb rfl rfl) rfl ?_
        repeat (first | refine o_v (k := ?_) | refine c_seq ?_ | refine c_region ?_ | refine o_nil ?_ | refine e_then_normal ?_ | refine o_store (k := ?_) | refine c_true (h1 := ?_) | refine c_false (h1 := ?_) | refine c_ret ?_ | refine c_skip ?_ | refine e_then_ret ?_ | refine c_block ?_ | refine c_exit ?_ | refine e_then_exit ?_ | refine e_block_exit ?_ | refine e_block_normal ?_ | refine e_block_ret ?_ | refine o_box (k := fun _ => ?_) | refine o_alloc (k := fun _ => ?_) | refine e_norm ?_ | refine o_ung (k := ?_) | refine o_k (k := ?_) | refine s_v (k := ?_) | refine s_w (k := ?_) | refine s_k (k := ?_) | refine s_nil ?_ | refine e_block_exit_ne rfl ?_)
        refine o_y (y_neqb rfl rfl) rfl ?_
        repeat (first | refine o_v (k := ?_) | refine c_seq ?_ | refine c_region ?_ | refine o_nil ?_ | refine e_then_normal ?_ | refine o_store (k := ?_) | refine c_true (h1 := ?_) | refine c_false (h1 := ?_) | refine c_ret ?_ | refine c_skip ?_ | refine e_then_ret ?_ | refine c_block ?_ | refine c_exit ?_ | refine e_then_exit ?_ | refine e_block_exit ?_ | refine e_block_normal ?_ | refine e_block_ret ?_ | refine o_box (k := fun _ => ?_) | refine o_alloc (k := fun _ => ?_) | refine e_norm ?_ | refine o_ung (k := ?_) | refine o_k (k := ?_) | refine s_v (k := ?_) | refine s_w (k := ?_) | refine s_k (k := ?_) | refine s_nil ?_ | refine e_block_exit_ne rfl ?_)
        refine o_call (served_ok sb fb lay (newF (Int.toNat n) room) 0) (k := ?_)
        rintro _ _ ⟨rfl, rfl⟩
        unfold srvA
        dsimp only [List.cons_append, List.nil_append]
        repeat (first | refine o_v (k := ?_) | refine c_seq ?_ | refine c_region ?_ | refine o_nil ?_ | refine e_then_normal ?_ | refine o_store (k := ?_) | refine c_true (h1 := ?_) | refine c_false (h1 := ?_) | refine c_ret ?_ | refine c_skip ?_ | refine e_then_ret ?_ | refine c_block ?_ | refine c_exit ?_ | refine e_then_exit ?_ | refine e_block_exit ?_ | refine e_block_normal ?_ | refine e_block_ret ?_ | refine o_box (k := fun _ => ?_) | refine o_alloc (k := fun _ => ?_) | refine e_norm ?_ | refine o_ung (k := ?_) | refine o_k (k := ?_) | refine s_v (k := ?_) | refine s_w (k := ?_) | refine s_k (k := ?_) | refine s_nil ?_ | refine e_block_exit_ne rfl ?_ | (refine o_call (fsRoot_ok fb lay (newF (Int.toNat n) room)) (k := ?_); rintro _ _ ⟨rfl, rfl⟩; dsimp only [List.cons_append, List.nil_append]) | (refine o_call (root13_ok) (k := ?_); rintro _ _ ⟨rfl, rfl⟩; dsimp only [List.cons_append, List.nil_append]))
        refine o_y (y_neH rfl rfl) rfl ?_
        repeat (first | refine o_v (k := ?_) | refine c_seq ?_ | refine c_region ?_ | refine o_nil ?_ | refine e_then_normal ?_ | refine o_store (k := ?_) | refine c_true (h1 := ?_) | refine c_false (h1 := ?_) | refine c_ret ?_ | refine c_skip ?_ | refine e_then_ret ?_ | refine c_block ?_ | refine c_exit ?_ | refine e_then_exit ?_ | refine e_block_exit ?_ | refine e_block_normal ?_ | refine e_block_ret ?_ | refine o_box (k := fun _ => ?_) | refine o_alloc (k := fun _ => ?_) | refine e_norm ?_ | refine o_ung (k := ?_) | refine o_k (k := ?_) | refine s_v (k := ?_) | refine s_w (k := ?_) | refine s_k (k := ?_) | refine s_nil ?_ | refine e_block_exit_ne rfl ?_)
        refine e_round ?_
        exact r_keep [(6, .int .i64 1), (5, .slice (some ⟨lb, 0, none⟩) 2 2), (4, .bool false), (1, .int .i64 room), (0, .int .i64 n)] [blk lb 3 [.int .i64 n, .int .i64 (aroundN n 67)] (0, 0), tabA] ⟨rfl, rfl, rfl, rfl, rfl, trivial⟩ (fun w hw => to_keep _ hw) IH
      · simp only [if_neg hok] at hc
        simp only [decide_eq_false hok] at hm
        repeat (first | refine o_v (k := ?_) | refine c_seq ?_ | refine c_region ?_ | refine o_nil ?_ | refine e_then_normal ?_ | refine o_store (k := ?_) | refine c_true (h1 := ?_) | refine c_false (h1 := ?_) | refine c_ret ?_ | refine c_skip ?_ | refine e_then_ret ?_ | refine c_block ?_ | refine c_exit ?_ | refine e_then_exit ?_ | refine e_block_exit ?_ | refine e_block_normal ?_ | refine e_block_ret ?_ | refine o_box (k := fun _ => ?_) | refine o_alloc (k := fun _ => ?_) | refine e_norm ?_ | refine o_ung (k := ?_) | refine o_k (k := ?_) | refine s_v (k := ?_) | refine s_w (k := ?_) | refine s_k (k := ?_) | refine s_nil ?_ | refine e_block_exit_ne rfl ?_ | (refine o_call (hc) (k := ?_); rintro _ _ ⟨rfl, rfl⟩; dsimp only [List.cons_append, List.nil_append]) | (refine o_call (hm) (k := ?_); rintro _ _ ⟨rfl, rfl⟩; dsimp only [List.cons_append, List.nil_append]))
        refine o_y (y_neqb rfl rfl) rfl ?_
        repeat (first | refine o_v (k := ?_) | refine c_seq ?_ | refine c_region ?_ | refine o_nil ?_ | refine e_then_normal ?_ | refine o_store (k := ?_) | refine c_true (h1 := ?_) | refine c_false (h1 := ?_) | refine c_ret ?_ | refine c_skip ?_ | refine e_then_ret ?_ | refine c_block ?_ | refine c_exit ?_ | refine e_then_exit ?_ | refine e_block_exit ?_ | refine e_block_normal ?_ | refine e_block_ret ?_ | refine o_box (k := fun _ => ?_) | refine o_alloc (k := fun _ => ?_) | refine e_norm ?_ | refine o_ung (k := ?_) | refine o_k (k := ?_) | refine s_v (k := ?_) | refine s_w (k := ?_) | refine s_k (k := ?_) | refine s_nil ?_ | refine e_block_exit_ne rfl ?_)
        refine o_y (y_neqb rfl rfl) rfl ?_
        repeat (first | refine o_v (k := ?_) | refine c_seq ?_ | refine c_region ?_ | refine o_nil ?_ | refine e_then_normal ?_ | refine o_store (k := ?_) | refine c_true (h1 := ?_) | refine c_false (h1 := ?_) | refine c_ret ?_ | refine c_skip ?_ | refine e_then_ret ?_ | refine c_block ?_ | refine c_exit ?_ | refine e_then_exit ?_ | refine e_block_exit ?_ | refine e_block_normal ?_ | refine e_block_ret ?_ | refine o_box (k := fun _ => ?_) | refine o_alloc (k := fun _ => ?_) | refine e_norm ?_ | refine o_ung (k := ?_) | refine o_k (k := ?_) | refine s_v (k := ?_) | refine s_w (k := ?_) | refine s_k (k := ?_) | refine s_nil ?_ | refine e_block_exit_ne rfl ?_)
        refine e_round ?_
        exact r_keep [(6, .int .i64 1), (5, .slice (some ⟨lb, 0, none⟩) 2 2), (4, .bool false), (1, .int .i64 room), (0, .int .i64 n)] [blk lb 3 [.int .i64 n, .int .i64 (aroundN n 67)] (0, 0), tabA] ⟨rfl, rfl, rfl, rfl, rfl, trivial⟩ (fun w hw => to_keep _ hw) IH
    · refine r_keep [(6, .int .i64 1), (5, .slice (some ⟨lb, 0, none⟩) 2 2), (4, .bool false), (1, .int .i64 room), (0, .int .i64 n)] [blk lb 3 [.int .i64 n, .int .i64 (aroundN n 67)] (0, 0), tabA] ⟨rfl, rfl, rfl, rfl, rfl, trivial⟩ (fun w hw => to_keep _ hw) ?_
      refine r_round ?_
      repeat (first | refine o_v (k := ?_) | refine c_seq ?_ | refine c_region ?_ | refine o_nil ?_ | refine e_then_normal ?_ | refine o_store (k := ?_) | refine c_true (h1 := ?_) | refine c_false (h1 := ?_) | refine c_ret ?_ | refine c_skip ?_ | refine e_then_ret ?_ | refine c_block ?_ | refine c_exit ?_ | refine e_then_exit ?_ | refine e_block_exit ?_ | refine e_block_normal ?_ | refine e_block_ret ?_ | refine o_box (k := fun _ => ?_) | refine o_alloc (k := fun _ => ?_) | refine e_norm ?_ | refine o_ung (k := ?_) | refine o_k (k := ?_) | refine s_v (k := ?_) | refine s_w (k := ?_) | refine s_k (k := ?_) | refine s_nil ?_ | refine e_block_exit_ne rfl ?_)
      have hc := srvNew_ok (aroundN n 67) room
      have hm := may13_ok (aroundN n 67) room
      by_cases hok : (1 ≤ (aroundN n 67) ∧ (aroundN n 67) ≤ 64) ∧ 0 ≤ room ∧ room ≤ 65536
      · simp only [if_pos hok] at hc
        simp only [decide_eq_true hok] at hm
        refine o_call hc (k := ?_)
        rintro _ _ ⟨sb, fb, lay, rfl, rfl⟩
        unfold srvA
        dsimp only [List.cons_append, List.nil_append]
        repeat (first | refine o_v (k := ?_) | refine c_seq ?_ | refine c_region ?_ | refine o_nil ?_ | refine e_then_normal ?_ | refine o_store (k := ?_) | refine c_true (h1 := ?_) | refine c_false (h1 := ?_) | refine c_ret ?_ | refine c_skip ?_ | refine e_then_ret ?_ | refine c_block ?_ | refine c_exit ?_ | refine e_then_exit ?_ | refine e_block_exit ?_ | refine e_block_normal ?_ | refine e_block_ret ?_ | refine o_box (k := fun _ => ?_) | refine o_alloc (k := fun _ => ?_) | refine e_norm ?_ | refine o_ung (k := ?_) | refine o_k (k := ?_) | refine s_v (k := ?_) | refine s_w (k := ?_) | refine s_k (k := ?_) | refine s_nil ?_ | refine e_block_exit_ne rfl ?_ | (refine o_call (hm) (k := ?_); rintro _ _ ⟨rfl, rfl⟩; dsimp only [List.cons_append, List.nil_append]))
        refine o_y (y_neqb rfl rfl) rfl ?_
        repeat (first | refine o_v (k := ?_) | refine c_seq ?_ | refine c_region ?_ | refine o_nil ?_ | refine e_then_normal ?_ | refine o_store (k := ?_) | refine c_true (h1 := ?_) | refine c_false (h1 := ?_) | refine c_ret ?_ | refine c_skip ?_ | refine e_then_ret ?_ | refine c_block ?_ | refine c_exit ?_ | refine e_then_exit ?_ | refine e_block_exit ?_ | refine e_block_normal ?_ | refine e_block_ret ?_ | refine o_box (k := fun _ => ?_) | refine o_alloc (k := fun _ => ?_) | refine e_norm ?_ | refine o_ung (k := ?_) | refine o_k (k := ?_) | refine s_v (k := ?_) | refine s_w (k := ?_) | refine s_k (k := ?_) | refine s_nil ?_ | refine e_block_exit_ne rfl ?_)
        refine o_y (y_neqb rfl rfl) rfl ?_
        repeat (first | refine o_v (k := ?_) | refine c_seq ?_ | refine c_region ?_ | refine o_nil ?_ | refine e_then_normal ?_ | refine o_store (k := ?_) | refine c_true (h1 := ?_) | refine c_false (h1 := ?_) | refine c_ret ?_ | refine c_skip ?_ | refine e_then_ret ?_ | refine c_block ?_ | refine c_exit ?_ | refine e_then_exit ?_ | refine e_block_exit ?_ | refine e_block_normal ?_ | refine e_block_ret ?_ | refine o_box (k := fun _ => ?_) | refine o_alloc (k := fun _ => ?_) | refine e_norm ?_ | refine o_ung (k := ?_) | refine o_k (k := ?_) | refine s_v (k := ?_) | refine s_w (k := ?_) | refine s_k (k := ?_) | refine s_nil ?_ | refine e_block_exit_ne rfl ?_)
        refine o_call (served_ok sb fb lay (newF (Int.toNat (aroundN n 67)) room) 0) (k := ?_)
        rintro _ _ ⟨rfl, rfl⟩
        unfold srvA
        dsimp only [List.cons_append, List.nil_append]
        repeat (first | refine o_v (k := ?_) | refine c_seq ?_ | refine c_region ?_ | refine o_nil ?_ | refine e_then_normal ?_ | refine o_store (k := ?_) | refine c_true (h1 := ?_) | refine c_false (h1 := ?_) | refine c_ret ?_ | refine c_skip ?_ | refine e_then_ret ?_ | refine c_block ?_ | refine c_exit ?_ | refine e_then_exit ?_ | refine e_block_exit ?_ | refine e_block_normal ?_ | refine e_block_ret ?_ | refine o_box (k := fun _ => ?_) | refine o_alloc (k := fun _ => ?_) | refine e_norm ?_ | refine o_ung (k := ?_) | refine o_k (k := ?_) | refine s_v (k := ?_) | refine s_w (k := ?_) | refine s_k (k := ?_) | refine s_nil ?_ | refine e_block_exit_ne rfl ?_ | (refine o_call (fsRoot_ok fb lay (newF (Int.toNat (aroundN n 67)) room)) (k := ?_); rintro _ _ ⟨rfl, rfl⟩; dsimp only [List.cons_append, List.nil_append]) | (refine o_call (root13_ok) (k := ?_); rintro _ _ ⟨rfl, rfl⟩; dsimp only [List.cons_append, List.nil_append]))
        refine o_y (y_neH rfl rfl) rfl ?_
        repeat (first | refine o_v (k := ?_) | refine c_seq ?_ | refine c_region ?_ | refine o_nil ?_ | refine e_then_normal ?_ | refine o_store (k := ?_) | refine c_true (h1 := ?_) | refine c_false (h1 := ?_) | refine c_ret ?_ | refine c_skip ?_ | refine e_then_ret ?_ | refine c_block ?_ | refine c_exit ?_ | refine e_then_exit ?_ | refine e_block_exit ?_ | refine e_block_normal ?_ | refine e_block_ret ?_ | refine o_box (k := fun _ => ?_) | refine o_alloc (k := fun _ => ?_) | refine e_norm ?_ | refine o_ung (k := ?_) | refine o_k (k := ?_) | refine s_v (k := ?_) | refine s_w (k := ?_) | refine s_k (k := ?_) | refine s_nil ?_ | refine e_block_exit_ne rfl ?_)
        refine e_round ?_
        exact r_keep [(6, .int .i64 2), (5, .slice (some ⟨lb, 0, none⟩) 2 2), (4, .bool false), (1, .int .i64 room), (0, .int .i64 n)] [blk lb 3 [.int .i64 n, .int .i64 (aroundN n 67)] (0, 0), tabA] ⟨rfl, rfl, rfl, rfl, rfl, trivial⟩ (fun w hw => to_keep _ hw) IH
      · simp only [if_neg hok] at hc
        simp only [decide_eq_false hok] at hm
        repeat (first | refine o_v (k := ?_) | refine c_seq ?_ | refine c_region ?_ | refine o_nil ?_ | refine e_then_normal ?_ | refine o_store (k := ?_) | refine c_true (h1 := ?_) | refine c_false (h1 := ?_) | refine c_ret ?_ | refine c_skip ?_ | refine e_then_ret ?_ | refine c_block ?_ | refine c_exit ?_ | refine e_then_exit ?_ | refine e_block_exit ?_ | refine e_block_normal ?_ | refine e_block_ret ?_ | refine o_box (k := fun _ => ?_) | refine o_alloc (k := fun _ => ?_) | refine e_norm ?_ | refine o_ung (k := ?_) | refine o_k (k := ?_) | refine s_v (k := ?_) | refine s_w (k := ?_) | refine s_k (k := ?_) | refine s_nil ?_ | refine e_block_exit_ne rfl ?_ | (refine o_call (hc) (k := ?_); rintro _ _ ⟨rfl, rfl⟩; dsimp only [List.cons_append, List.nil_append]) | (refine o_call (hm) (k := ?_); rintro _ _ ⟨rfl, rfl⟩; dsimp only [List.cons_append, List.nil_append]))
        refine o_y (y_neqb rfl rfl) rfl ?_
        repeat (first | refine o_v (k := ?_) | refine c_seq ?_ | refine c_region ?_ | refine o_nil ?_ | refine e_then_normal ?_ | refine o_store (k := ?_) | refine c_true (h1 := ?_) | refine c_false (h1 := ?_) | refine c_ret ?_ | refine c_skip ?_ | refine e_then_ret ?_ | refine c_block ?_ | refine c_exit ?_ | refine e_then_exit ?_ | refine e_block_exit ?_ | refine e_block_normal ?_ | refine e_block_ret ?_ | refine o_box (k := fun _ => ?_) | refine o_alloc (k := fun _ => ?_) | refine e_norm ?_ | refine o_ung (k := ?_) | refine o_k (k := ?_) | refine s_v (k := ?_) | refine s_w (k := ?_) | refine s_k (k := ?_) | refine s_nil ?_ | refine e_block_exit_ne rfl ?_)
        refine o_y (y_neqb rfl rfl) rfl ?_
        repeat (first | refine o_v (k := ?_) | refine c_seq ?_ | refine c_region ?_ | refine o_nil ?_ | refine e_then_normal ?_ | refine o_store (k := ?_) | refine c_true (h1 := ?_) | refine c_false (h1 := ?_) | refine c_ret ?_ | refine c_skip ?_ | refine e_then_ret ?_ | refine c_block ?_ | refine c_exit ?_ | refine e_then_exit ?_ | refine e_block_exit ?_ | refine e_block_normal ?_ | refine e_block_ret ?_ | refine o_box (k := fun _ => ?_) | refine o_alloc (k := fun _ => ?_) | refine e_norm ?_ | refine o_ung (k := ?_) | refine o_k (k := ?_) | refine s_v (k := ?_) | refine s_w (k := ?_) | refine s_k (k := ?_) | refine s_nil ?_ | refine e_block_exit_ne rfl ?_)
        refine e_round ?_
        exact r_keep [(6, .int .i64 2), (5, .slice (some ⟨lb, 0, none⟩) 2 2), (4, .bool false), (1, .int .i64 room), (0, .int .i64 n)] [blk lb 3 [.int .i64 n, .int .i64 (aroundN n 67)] (0, 0), tabA] ⟨rfl, rfl, rfl, rfl, rfl, trivial⟩ (fun w hw => to_keep _ hw) IH
  · refine r_round ?_
    repeat (first | refine o_v (k := ?_) | refine c_seq ?_ | refine c_region ?_ | refine o_nil ?_ | refine e_then_normal ?_ | refine o_store (k := ?_) | refine c_true (h1 := ?_) | refine c_false (h1 := ?_) | refine c_ret ?_ | refine c_skip ?_ | refine e_then_ret ?_ | refine c_block ?_ | refine c_exit ?_ | refine e_then_exit ?_ | refine e_block_exit ?_ | refine e_block_normal ?_ | refine e_block_ret ?_ | refine o_box (k := fun _ => ?_) | refine o_alloc (k := fun _ => ?_) | refine e_norm ?_ | refine o_ung (k := ?_) | refine o_k (k := ?_) | refine s_v (k := ?_) | refine s_w (k := ?_) | refine s_k (k := ?_) | refine s_nil ?_ | refine e_block_exit_ne rfl ?_ | (refine o_call (lives_ok) (k := ?_); rintro _ _ ⟨rfl, rfl⟩; dsimp only [List.cons_append, List.nil_append]))
    exact e_1 (h1 := rs_tmp rfl) (H' := [tabA]) (hT := ⟨rfl, rfl⟩)
end Go.Proofs.YtlkgdidmhmaneaaGreatDoor
