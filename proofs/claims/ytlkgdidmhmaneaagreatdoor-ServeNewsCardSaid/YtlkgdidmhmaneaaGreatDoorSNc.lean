/- A part of the proof: walks and laws that the last part joins. -/
import Derived.Test.YtlkgdidmhmaneaaGreatDoorSNb
/- xdr: what its functions leave. -/
namespace Go.Proofs.YtlkgdidmhmaneaaGreatDoor
open Go Go.RowKit
attribute [local irreducible] Yl OG CG EG SG AG  CellIn CellsIn BlkIn InA TakeA SplitA SubA Ct ResOk Good Held blk cellsA exA

/-- the number of bytes, the greatest first. -/
def be (l : List UInt8) : Nat := l.foldl (fun a c => a * 256 + c.toNat) 0
theorem be_snoc (l : List UInt8) (c : UInt8) : be (l ++ [c]) = be l * 256 + c.toNat := by simp [be]
theorem foldl_be_lt : ∀ (l : List UInt8) (a : Nat), l.foldl (fun a c => a * 256 + c.toNat) a < (a + 1) * 256 ^ l.length
  | [], a => by simp
  | c :: l, a => by
    simp only [List.foldl_cons, List.length_cons]
    refine Nat.lt_of_lt_of_le (foldl_be_lt l _) ?_
    rw [Nat.pow_succ, Nat.mul_comm (256 ^ l.length) 256, ← Nat.mul_assoc]
    have := c.toNat_lt
    exact Nat.mul_le_mul_right _ (by omega)
theorem be_lt (l : List UInt8) : be l < 256 ^ l.length := by simpa [be] using foldl_be_lt l 0

theorem or_low (x : Int) (c : Nat) (hc : c < 256) (h0 : 0 ≤ x) (hx : x < 72057594037927936) :
    IntKind.u64.wrap (BitVec.ofInt 64 (IntKind.u64.wrap (x * 2 ^ 8)) ||| BitVec.ofInt 64 (c : Int)).toNat = x * 256 + c := by
  obtain ⟨x, rfl⟩ := Int.eq_ofNat_of_zero_le h0
  rw [u64_wrap, u64_wrap]
  have e1 : ((x : Int) * 2 ^ 8) % 18446744073709551616 = ((x * 256 : Nat) : Int) := by omega
  rw [e1]
  have e2 : (BitVec.ofInt 64 ((x * 256 : Nat) : Int) ||| BitVec.ofInt 64 (c : Int)).toNat = x * 256 + c := by
    simp only [BitVec.ofInt_natCast, BitVec.toNat_or, BitVec.toNat_ofNat]
    rw [Nat.mod_eq_of_lt (by omega), Nat.mod_eq_of_lt (by omega)]
    have := Nat.shiftLeft_add_eq_or_of_lt (i := 8) (b := c) (by omega) x
    rw [Nat.shiftLeft_eq] at this
    exact this.symm
  rw [e2]
  omega

/-- a number's four bytes -/
def w32 (n : Nat) : List UInt8 := [UInt8.ofNat (n / 16777216), UInt8.ofNat (n / 65536), UInt8.ofNat (n / 256), UInt8.ofNat n]
@[simp] theorem w32_length (n : Nat) : (w32 n).length = 4 := rfl
theorem u8_ofNat (n : Nat) : ((UInt8.ofNat n).toNat : Int) = (n : Int) % 256 := by simp [UInt8.toNat_ofNat']
theorem bys_w32 (n : Nat) : bys (w32 n) = [.int .u8 ((n : Int) / 16777216 % 256), .int .u8 ((n : Int) / 65536 % 256), .int .u8 ((n : Int) / 256 % 256), .int .u8 ((n : Int) % 256)] := by
  simp [bys, w32]
/-- zeros behind a text -/
def padN (n : Nat) : Nat := (4 - n % 4) % 4
def textB (s : List UInt8) : List UInt8 := w32 s.length ++ s ++ List.replicate (padN s.length) 0
theorem padN_lt (n : Nat) : padN n < 4 := Nat.mod_lt _ (by decide)
theorem textB_length (s : List UInt8) : (textB s).length = 4 + s.length + padN s.length := by simp [textB]; omega

/-- A reader of xdr's: its error, the bytes that are left. -/
def rdA (b : Nat) (e : Int) (l : List UInt8) : Ast := exA (fun x : Option Addr × Nat => l.length ≤ x.2 ∧ x.2 ≤ 9223372036854775807) fun x => [blk b 195 [.int .i64 e, .slice x.1 l.length x.2] (0, 0), bytesA true x.1 l]
def rdNum (e : Int) (l : List UInt8) (n : Nat) : Nat × Int × List UInt8 := if e ≠ 0 then (0, e, l) else if l.length < n then (0, 3, []) else (be (l.take n), 0, l.drop n)

set_option maxRecDepth 20000 in
theorem fail_ok (b : Nat) (e e' : Int) (v : Value) : Ct Tryz.prog 177 [.pointer (some ⟨b, 0, none⟩), .int .i64 e'] [blk b 195 [.int .i64 e, v] (0, 0)] (Ret fun u H => u = .tuple #[] ∧ H = [blk b 195 [.int .i64 e', .slice none 0 0] (0, 0)]) := by
  refine fn_enter Tryz.func177 rfl Tryz.ntmps177 rfl fun _ _ _ => ?_
  repeat (first | refine o_v (k := ?_) | refine c_seq ?_ | refine c_region ?_ | refine o_nil ?_ | refine e_then_normal ?_ | refine o_store (k := ?_) | refine c_true (h1 := ?_) | refine c_false (h1 := ?_) | refine c_ret ?_ | refine c_skip ?_ | refine e_then_ret ?_ | refine c_block ?_ | refine c_exit ?_ | refine e_then_exit ?_ | refine e_block_exit ?_ | refine e_block_normal ?_ | refine e_block_ret ?_ | refine o_box (k := fun _ => ?_) | refine o_alloc (k := fun _ => ?_) | refine e_norm ?_ | refine o_ung (k := ?_) | refine o_k (k := ?_) | refine s_v (k := ?_) | refine s_w (k := ?_) | refine s_k (k := ?_) | refine s_nil ?_ | refine e_block_exit_ne rfl ?_)
  exact e_0 (hT := ⟨rfl, rfl⟩)

set_option maxRecDepth 20000 in
theorem number_ok (b : Nat) (e : Int) (l : List UInt8) (n : Nat) (hn : n ≤ 8) : Ct Tryz.prog 142 [.pointer (some ⟨b, 0, none⟩), .int .i64 n] [rdA b e l]
    (Ret fun u H => u = .int .u64 (rdNum e l n).1 ∧ H = [rdA b (rdNum e l n).2.1 (rdNum e l n).2.2]) := by
  refine fn_enter Tryz.func142 rfl Tryz.ntmps142 rfl fun _ _ _ => ?_
  refine c_unf (rdA b e l) (k := ?_)
  rintro ⟨q, c⟩ ⟨hc, hc2⟩
  dsimp only [List.cons_append, List.nil_append] at hc hc2 ⊢
  repeat (first | refine o_v (k := ?_) | refine c_seq ?_ | refine c_region ?_ | refine o_nil ?_ | refine e_then_normal ?_ | refine o_store (k := ?_) | refine c_true (h1 := ?_) | refine c_false (h1 := ?_) | refine c_ret ?_ | refine c_skip ?_ | refine e_then_ret ?_ | refine c_block ?_ | refine c_exit ?_ | refine e_then_exit ?_ | refine e_block_exit ?_ | refine e_block_normal ?_ | refine e_block_ret ?_ | refine o_box (k := fun _ => ?_) | refine o_alloc (k := fun _ => ?_) | refine e_norm ?_ | refine o_ung (k := ?_) | refine o_k (k := ?_) | refine s_v (k := ?_) | refine s_w (k := ?_) | refine s_k (k := ?_) | refine s_nil ?_ | refine e_block_exit_ne rfl ?_)
  refine c_if (h1 := fun he => ?_) (h2 := fun he => ?_)
  · repeat (first | refine o_v (k := ?_) | refine c_seq ?_ | refine c_region ?_ | refine o_nil ?_ | refine e_then_normal ?_ | refine o_store (k := ?_) | refine c_true (h1 := ?_) | refine c_false (h1 := ?_) | refine c_ret ?_ | refine c_skip ?_ | refine e_then_ret ?_ | refine c_block ?_ | refine c_exit ?_ | refine e_then_exit ?_ | refine e_block_exit ?_ | refine e_block_normal ?_ | refine e_block_ret ?_ | refine o_box (k := fun _ => ?_) | refine o_alloc (k := fun _ => ?_) | refine e_norm ?_ | refine o_ung (k := ?_) | refine o_k (k := ?_) | refine s_v (k := ?_) | refine s_w (k := ?_) | refine s_k (k := ?_) | refine s_nil ?_ | refine e_block_exit_ne rfl ?_)
    simp at he
    refine e_fold (rdA b e l) (q, c) (hx := ?_) (k := ?_)
    · exact ⟨hc, hc2⟩
    exact e_1 (H' := [rdA b e l]) (h1 := rs_tmp rfl) (hT := by simp [rdNum, he])
  simp at he
  subst he
  repeat (first | refine o_v (k := ?_) | refine c_seq ?_ | refine c_region ?_ | refine o_nil ?_ | refine e_then_normal ?_ | refine o_store (k := ?_) | refine c_true (h1 := ?_) | refine c_false (h1 := ?_) | refine c_ret ?_ | refine c_skip ?_ | refine e_then_ret ?_ | refine c_block ?_ | refine c_exit ?_ | refine e_then_exit ?_ | refine e_block_exit ?_ | refine e_block_normal ?_ | refine e_block_ret ?_ | refine o_box (k := fun _ => ?_) | refine o_alloc (k := fun _ => ?_) | refine e_norm ?_ | refine o_ung (k := ?_) | refine o_k (k := ?_) | refine s_v (k := ?_) | refine s_w (k := ?_) | refine s_k (k := ?_) | refine s_nil ?_ | refine e_block_exit_ne rfl ?_)
  refine c_if (h1 := fun hl => ?_) (h2 := fun hl => ?_)
  · repeat (first | refine o_v (k := ?_) | refine c_seq ?_ | refine c_region ?_ | refine o_nil ?_ | refine e_then_normal ?_ | refine o_store (k := ?_) | refine c_true (h1 := ?_) | refine c_false (h1 := ?_) | refine c_ret ?_ | refine c_skip ?_ | refine e_then_ret ?_ | refine c_block ?_ | refine c_exit ?_ | refine e_then_exit ?_ | refine e_block_exit ?_ | refine e_block_normal ?_ | refine e_block_ret ?_ | refine o_box (k := fun _ => ?_) | refine o_alloc (k := fun _ => ?_) | refine e_norm ?_ | refine o_ung (k := ?_) | refine o_k (k := ?_) | refine s_v (k := ?_) | refine s_w (k := ?_) | refine s_k (k := ?_) | refine s_nil ?_ | refine e_block_exit_ne rfl ?_ | (refine o_call (fail_ok _ _ _ _) (k := ?_); rintro _ _ ⟨rfl, rfl⟩; dsimp only [List.cons_append, List.nil_append]))
    refine e_add0 (bytesA true none []) (fun w => cellsA_nil _ w) (k := ?_)
    refine e_fold (rdA b 3 []) (none, 0) (hx := ?_) (k := ?_)
    · exact ⟨by simp, by simp⟩
    simp at hl
    exact e_1 (H' := [rdA b 3 []]) (h1 := rs_tmp rfl) (hT := by simp [rdNum, hl])
  simp at hl
  repeat (first | refine o_v (k := ?_) | refine c_seq ?_ | refine c_region ?_ | refine o_nil ?_ | refine e_then_normal ?_ | refine o_store (k := ?_) | refine c_true (h1 := ?_) | refine c_false (h1 := ?_) | refine c_ret ?_ | refine c_skip ?_ | refine e_then_ret ?_ | refine c_block ?_ | refine c_exit ?_ | refine e_then_exit ?_ | refine e_block_exit ?_ | refine e_block_normal ?_ | refine e_block_ret ?_ | refine o_box (k := fun _ => ?_) | refine o_alloc (k := fun _ => ?_) | refine e_norm ?_ | refine o_ung (k := ?_) | refine o_k (k := ?_) | refine s_v (k := ?_) | refine s_w (k := ?_) | refine s_k (k := ?_) | refine s_nil ?_ | refine e_block_exit_ne rfl ?_)
  refine o_cuthi0 n (k := ?_)
  repeat (first | refine o_v (k := ?_) | refine c_seq ?_ | refine c_region ?_ | refine o_nil ?_ | refine e_then_normal ?_ | refine o_store (k := ?_) | refine c_true (h1 := ?_) | refine c_false (h1 := ?_) | refine c_ret ?_ | refine c_skip ?_ | refine e_then_ret ?_ | refine c_block ?_ | refine c_exit ?_ | refine e_then_exit ?_ | refine e_block_exit ?_ | refine e_block_normal ?_ | refine e_block_ret ?_ | refine o_box (k := fun _ => ?_) | refine o_alloc (k := fun _ => ?_) | refine e_norm ?_ | refine o_ung (k := ?_) | refine o_k (k := ?_) | refine s_v (k := ?_) | refine s_w (k := ?_) | refine s_k (k := ?_) | refine s_nil ?_ | refine e_block_exit_ne rfl ?_)
  refine c_loop (α := Nat) (fun k => [(30, .int .i64 k), (5, .int .u64 (be (l.take k))), (29, .int .i64 n), (28, .slice q n c), (0, .pointer (some ⟨b, 0, none⟩)), (1, .int .i64 n)]) (fun _ => [blk b 195 [.int .i64 0, .slice q l.length c] (0, 0), bytesA true q l]) (fun k => k ≤ n) (fun k => n - k) 0 (by omega) ⟨rfl, rfl, rfl, rfl, rfl, rfl, trivial⟩ (fun _ h => h) ?_
  intro k hk
  (try dsimp only at hk ⊢)
  repeat (first | refine o_v (k := ?_) | refine c_seq ?_ | refine c_region ?_ | refine o_nil ?_ | refine e_then_normal ?_ | refine o_store (k := ?_) | refine c_true (h1 := ?_) | refine c_false (h1 := ?_) | refine c_ret ?_ | refine c_skip ?_ | refine e_then_ret ?_ | refine c_block ?_ | refine c_exit ?_ | refine e_then_exit ?_ | refine e_block_exit ?_ | refine e_block_normal ?_ | refine e_block_ret ?_ | refine o_box (k := fun _ => ?_) | refine o_alloc (k := fun _ => ?_) | refine e_norm ?_ | refine o_ung (k := ?_) | refine o_k (k := ?_) | refine s_v (k := ?_) | refine s_w (k := ?_) | refine s_k (k := ?_) | refine s_nil ?_ | refine e_block_exit_ne rfl ?_)
  refine c_if (h1 := fun hl2 => ?_) (h2 := fun hl2 => ?_)
  · simp at hl2
    have hkl : k < l.length := by omega
    have hget : l[k]? = some l[k] := List.getElem?_eq_getElem hkl
    have hb1 := be_lt (l.take k)
    have hb2 : 256 ^ (l.take k).length ≤ 256 ^ 7 := Nat.pow_le_pow_right (by omega) (by simp; omega)
    have hb3 : (be (l.take k) : Int) < 72057594037927936 := by
      have : (256 : Nat) ^ 7 = 72057594037927936 := by decide
      omega
    have hc8 := l[k].toNat_lt
    have hor := or_low (be (l.take k)) l[k].toNat (by omega) (by omega) hb3
    have hnext : be (l.take (k + 1)) = be (l.take k) * 256 + l[k].toNat := by
      rw [List.take_succ_eq_append_getElem hkl, be_snoc]
    repeat (first | refine o_v (k := ?_) | refine c_seq ?_ | refine c_region ?_ | refine o_nil ?_ | refine e_then_normal ?_ | refine o_store (k := ?_) | refine c_true (h1 := ?_) | refine c_false (h1 := ?_) | refine c_ret ?_ | refine c_skip ?_ | refine e_then_ret ?_ | refine c_block ?_ | refine c_exit ?_ | refine e_then_exit ?_ | refine e_block_exit ?_ | refine e_block_normal ?_ | refine e_block_ret ?_ | refine o_box (k := fun _ => ?_) | refine o_alloc (k := fun _ => ?_) | refine e_norm ?_ | refine o_ung (k := ?_) | refine o_k (k := ?_) | refine s_v (k := ?_) | refine s_w (k := ?_) | refine s_k (k := ?_) | refine s_nil ?_ | refine e_block_exit_ne rfl ?_)
    refine o_at true q (bys l) (bys_ne (by intro h; simp [h] at hkl)) (k := ?_)
    rintro pb po rfl
    repeat (first | refine o_v (k := ?_) | refine c_seq ?_ | refine c_region ?_ | refine o_nil ?_ | refine e_then_normal ?_ | refine o_store (k := ?_) | refine c_true (h1 := ?_) | refine c_false (h1 := ?_) | refine c_ret ?_ | refine c_skip ?_ | refine e_then_ret ?_ | refine c_block ?_ | refine c_exit ?_ | refine e_then_exit ?_ | refine e_block_exit ?_ | refine e_block_normal ?_ | refine e_block_ret ?_ | refine o_box (k := fun _ => ?_) | refine o_alloc (k := fun _ => ?_) | refine e_norm ?_ | refine o_ung (k := ?_) | refine o_k (k := ?_) | refine s_v (k := ?_) | refine s_w (k := ?_) | refine s_k (k := ?_) | refine s_nil ?_ | refine e_block_exit_ne rfl ?_)
    refine o_y (y_load rfl (CellIn.cells (InA.there InA.here) (bys_get hget) rfl)) rfl ?_
    repeat (first | refine o_v (k := ?_) | refine c_seq ?_ | refine c_region ?_ | refine o_nil ?_ | refine e_then_normal ?_ | refine o_store (k := ?_) | refine c_true (h1 := ?_) | refine c_false (h1 := ?_) | refine c_ret ?_ | refine c_skip ?_ | refine e_then_ret ?_ | refine c_block ?_ | refine c_exit ?_ | refine e_then_exit ?_ | refine e_block_exit ?_ | refine e_block_normal ?_ | refine e_block_ret ?_ | refine o_box (k := fun _ => ?_) | refine o_alloc (k := fun _ => ?_) | refine e_norm ?_ | refine o_ung (k := ?_) | refine o_k (k := ?_) | refine s_v (k := ?_) | refine s_w (k := ?_) | refine s_k (k := ?_) | refine s_nil ?_ | refine e_block_exit_ne rfl ?_)
    refine o_y (y_as (y_shl rfl rfl (by omega)) rfl) rfl ?_
    repeat (first | refine o_v (k := ?_) | refine c_seq ?_ | refine c_region ?_ | refine o_nil ?_ | refine e_then_normal ?_ | refine o_store (k := ?_) | refine c_true (h1 := ?_) | refine c_false (h1 := ?_) | refine c_ret ?_ | refine c_skip ?_ | refine e_then_ret ?_ | refine c_block ?_ | refine c_exit ?_ | refine e_then_exit ?_ | refine e_block_exit ?_ | refine e_block_normal ?_ | refine e_block_ret ?_ | refine o_box (k := fun _ => ?_) | refine o_alloc (k := fun _ => ?_) | refine e_norm ?_ | refine o_ung (k := ?_) | refine o_k (k := ?_) | refine s_v (k := ?_) | refine s_w (k := ?_) | refine s_k (k := ?_) | refine s_nil ?_ | refine e_block_exit_ne rfl ?_)
    refine o_y (y_as (y_or rfl rfl) (congrArg (Value.int .u64) hor)) rfl ?_
    repeat (first | refine o_v (k := ?_) | refine c_seq ?_ | refine c_region ?_ | refine o_nil ?_ | refine e_then_normal ?_ | refine o_store (k := ?_) | refine c_true (h1 := ?_) | refine c_false (h1 := ?_) | refine c_ret ?_ | refine c_skip ?_ | refine e_then_ret ?_ | refine c_block ?_ | refine c_exit ?_ | refine e_then_exit ?_ | refine e_block_exit ?_ | refine e_block_normal ?_ | refine e_block_ret ?_ | refine o_box (k := fun _ => ?_) | refine o_alloc (k := fun _ => ?_) | refine e_norm ?_ | refine o_ung (k := ?_) | refine o_k (k := ?_) | refine s_v (k := ?_) | refine s_w (k := ?_) | refine s_k (k := ?_) | refine s_nil ?_ | refine e_block_exit_ne rfl ?_)
    refine e_loop (k + 1) ?_ ?_ ?_ ?_
    · show k + 1 ≤ n; omega
    · show n - (k + 1) < n - k; omega
    · simp only [hnext]; exact ⟨rfl, rfl, rfl, rfl, rfl, rfl, trivial⟩
    · exact fun _ h => h
  repeat (first | refine o_v (k := ?_) | refine c_seq ?_ | refine c_region ?_ | refine o_nil ?_ | refine e_then_normal ?_ | refine o_store (k := ?_) | refine c_true (h1 := ?_) | refine c_false (h1 := ?_) | refine c_ret ?_ | refine c_skip ?_ | refine e_then_ret ?_ | refine c_block ?_ | refine c_exit ?_ | refine e_then_exit ?_ | refine e_block_exit ?_ | refine e_block_normal ?_ | refine e_block_ret ?_ | refine o_box (k := fun _ => ?_) | refine o_alloc (k := fun _ => ?_) | refine e_norm ?_ | refine o_ung (k := ?_) | refine o_k (k := ?_) | refine s_v (k := ?_) | refine s_w (k := ?_) | refine s_k (k := ?_) | refine s_nil ?_ | refine e_block_exit_ne rfl ?_)
  simp at hl2
  have hkn : k = n := by omega
  subst hkn
  refine o_cutlo true q (bys l) k (l.drop k).length (hm := by simp; omega) (k := fun q' c' hc' hm' => ?_)
  repeat (first | refine o_v (k := ?_) | refine c_seq ?_ | refine c_region ?_ | refine o_nil ?_ | refine e_then_normal ?_ | refine o_store (k := ?_) | refine c_true (h1 := ?_) | refine c_false (h1 := ?_) | refine c_ret ?_ | refine c_skip ?_ | refine e_then_ret ?_ | refine c_block ?_ | refine c_exit ?_ | refine e_then_exit ?_ | refine e_block_exit ?_ | refine e_block_normal ?_ | refine e_block_ret ?_ | refine o_box (k := fun _ => ?_) | refine o_alloc (k := fun _ => ?_) | refine e_norm ?_ | refine o_ung (k := ?_) | refine o_k (k := ?_) | refine s_v (k := ?_) | refine s_w (k := ?_) | refine s_k (k := ?_) | refine s_nil ?_ | refine e_block_exit_ne rfl ?_)
  simp only [Nat.mul_one, bys_drop]
  refine e_fold (rdA b 0 (l.drop k)) (q', c') (hx := ?_) (k := ?_)
  · exact ⟨hc', hm'⟩
  exact e_1 (H' := [rdA b 0 (l.drop k)]) (h1 := rs_tmp rfl) (hT := by simp [rdNum, Nat.not_lt.2 hl])

theorem rdNum_lt (e : Int) (l : List UInt8) (n : Nat) : (rdNum e l n).1 < 256 ^ n := by
  unfold rdNum
  split
  · exact Nat.pow_pos (by decide)
  · split
    · exact Nat.pow_pos (by decide)
    · have := be_lt (l.take n)
      rw [List.length_take, Nat.min_eq_left (by omega)] at this
      exact this

set_option maxRecDepth 20000 in
theorem rdU32_ok (b : Nat) (e : Int) (l : List UInt8) : Ct Tryz.prog 108 [.pointer (some ⟨b, 0, none⟩)] [rdA b e l]
    (Ret fun u H => u = .int .u32 (rdNum e l 4).1 ∧ H = [rdA b (rdNum e l 4).2.1 (rdNum e l 4).2.2]) := by
  refine fn_enter Tryz.func108 rfl Tryz.ntmps108 rfl fun _ _ _ => ?_
  have hlt := rdNum_lt e l 4
  simp only [Nat.reducePow] at hlt
  repeat (first | refine o_v (k := ?_) | refine c_seq ?_ | refine c_region ?_ | refine o_nil ?_ | refine e_then_normal ?_ | refine o_store (k := ?_) | refine c_true (h1 := ?_) | refine c_false (h1 := ?_) | refine c_ret ?_ | refine c_skip ?_ | refine e_then_ret ?_ | refine c_block ?_ | refine c_exit ?_ | refine e_then_exit ?_ | refine e_block_exit ?_ | refine e_block_normal ?_ | refine e_block_ret ?_ | refine o_box (k := fun _ => ?_) | refine o_alloc (k := fun _ => ?_) | refine e_norm ?_ | refine o_ung (k := ?_) | refine o_k (k := ?_) | refine s_v (k := ?_) | refine s_w (k := ?_) | refine s_k (k := ?_) | refine s_nil ?_ | refine e_block_exit_ne rfl ?_ | (refine o_call (number_ok _ _ _ 4 (by omega)) (k := ?_); rintro _ _ ⟨rfl, rfl⟩; dsimp only [List.cons_append, List.nil_append]))
  exact e_1 (H' := [rdA b (rdNum e l 4).2.1 (rdNum e l 4).2.2]) (h1 := rs_tmp rfl) (hT := ⟨rfl, rfl⟩)

set_option maxRecDepth 20000 in
theorem rdU64_ok (b : Nat) (e : Int) (l : List UInt8) : Ct Tryz.prog 153 [.pointer (some ⟨b, 0, none⟩)] [rdA b e l]
    (Ret fun u H => u = .int .u64 (rdNum e l 8).1 ∧ H = [rdA b (rdNum e l 8).2.1 (rdNum e l 8).2.2]) := by
  refine fn_enter Tryz.func153 rfl Tryz.ntmps153 rfl fun _ _ _ => ?_
  repeat (first | refine o_v (k := ?_) | refine c_seq ?_ | refine c_region ?_ | refine o_nil ?_ | refine e_then_normal ?_ | refine o_store (k := ?_) | refine c_true (h1 := ?_) | refine c_false (h1 := ?_) | refine c_ret ?_ | refine c_skip ?_ | refine e_then_ret ?_ | refine c_block ?_ | refine c_exit ?_ | refine e_then_exit ?_ | refine e_block_exit ?_ | refine e_block_normal ?_ | refine e_block_ret ?_ | refine o_box (k := fun _ => ?_) | refine o_alloc (k := fun _ => ?_) | refine e_norm ?_ | refine o_ung (k := ?_) | refine o_k (k := ?_) | refine s_v (k := ?_) | refine s_w (k := ?_) | refine s_k (k := ?_) | refine s_nil ?_ | refine e_block_exit_ne rfl ?_ | (refine o_call (number_ok _ _ _ 8 (by omega)) (k := ?_); rintro _ _ ⟨rfl, rfl⟩; dsimp only [List.cons_append, List.nil_append]))
  exact e_1 (H' := [rdA b (rdNum e l 8).2.1 (rdNum e l 8).2.2]) (h1 := rs_tmp rfl) (hT := ⟨rfl, rfl⟩)

set_option maxRecDepth 20000 in
theorem errno_ok (b : Nat) (e : Int) (l : List UInt8) : Ct Tryz.prog 109 [.pointer (some ⟨b, 0, none⟩)] [rdA b e l] (Ret fun u H => u = .int .i64 e ∧ H = [rdA b e l]) := by
  refine fn_enter Tryz.func109 rfl Tryz.ntmps109 rfl fun _ _ _ => ?_
  refine c_unf (rdA b e l) (k := ?_)
  rintro ⟨q, c⟩ ⟨hc, hc2⟩
  dsimp only [List.cons_append, List.nil_append] at hc hc2 ⊢
  repeat (first | refine o_v (k := ?_) | refine c_seq ?_ | refine c_region ?_ | refine o_nil ?_ | refine e_then_normal ?_ | refine o_store (k := ?_) | refine c_true (h1 := ?_) | refine c_false (h1 := ?_) | refine c_ret ?_ | refine c_skip ?_ | refine e_then_ret ?_ | refine c_block ?_ | refine c_exit ?_ | refine e_then_exit ?_ | refine e_block_exit ?_ | refine e_block_normal ?_ | refine e_block_ret ?_ | refine o_box (k := fun _ => ?_) | refine o_alloc (k := fun _ => ?_) | refine e_norm ?_ | refine o_ung (k := ?_) | refine o_k (k := ?_) | refine s_v (k := ?_) | refine s_w (k := ?_) | refine s_k (k := ?_) | refine s_nil ?_ | refine e_block_exit_ne rfl ?_)
  refine e_fold (rdA b e l) (q, c) (hx := by exact ⟨hc, hc2⟩) (k := ?_)
  exact e_1 (H' := [rdA b e l]) (h1 := rs_tmp rfl) (hT := ⟨rfl, rfl⟩)

set_option maxRecDepth 20000 in
theorem rdEnd_ok (b : Nat) (e : Int) (l : List UInt8) : Ct Tryz.prog 122 [.pointer (some ⟨b, 0, none⟩)] [rdA b e l] (Ret fun u H => u = .int .i64 (if e = 0 ∧ l ≠ [] then 2 else e) ∧ H = [rdA b e l]) := by
  refine fn_enter Tryz.func122 rfl Tryz.ntmps122 rfl fun _ _ _ => ?_
  refine c_unf (rdA b e l) (k := ?_)
  rintro ⟨q, c⟩ ⟨hc, hc2⟩
  dsimp only [List.cons_append, List.nil_append] at hc hc2 ⊢
  repeat (first | refine o_v (k := ?_) | refine c_seq ?_ | refine c_region ?_ | refine o_nil ?_ | refine e_then_normal ?_ | refine o_store (k := ?_) | refine c_true (h1 := ?_) | refine c_false (h1 := ?_) | refine c_ret ?_ | refine c_skip ?_ | refine e_then_ret ?_ | refine c_block ?_ | refine c_exit ?_ | refine e_then_exit ?_ | refine e_block_exit ?_ | refine e_block_normal ?_ | refine e_block_ret ?_ | refine o_box (k := fun _ => ?_) | refine o_alloc (k := fun _ => ?_) | refine e_norm ?_ | refine o_ung (k := ?_) | refine o_k (k := ?_) | refine s_v (k := ?_) | refine s_w (k := ?_) | refine s_k (k := ?_) | refine s_nil ?_ | refine e_block_exit_ne rfl ?_)
  refine o_bool 9 rfl (fun he => ?_) (fun he => ?_)
  · repeat (first | refine o_v (k := ?_) | refine c_seq ?_ | refine c_region ?_ | refine o_nil ?_ | refine e_then_normal ?_ | refine o_store (k := ?_) | refine c_true (h1 := ?_) | refine c_false (h1 := ?_) | refine c_ret ?_ | refine c_skip ?_ | refine e_then_ret ?_ | refine c_block ?_ | refine c_exit ?_ | refine e_then_exit ?_ | refine e_block_exit ?_ | refine e_block_normal ?_ | refine e_block_ret ?_ | refine o_box (k := fun _ => ?_) | refine o_alloc (k := fun _ => ?_) | refine e_norm ?_ | refine o_ung (k := ?_) | refine o_k (k := ?_) | refine s_v (k := ?_) | refine s_w (k := ?_) | refine s_k (k := ?_) | refine s_nil ?_ | refine e_block_exit_ne rfl ?_)
    simp at he
    subst he
    refine c_if (h1 := fun hl => ?_) (h2 := fun hl => ?_)
    · repeat (first | refine o_v (k := ?_) | refine c_seq ?_ | refine c_region ?_ | refine o_nil ?_ | refine e_then_normal ?_ | refine o_store (k := ?_) | refine c_true (h1 := ?_) | refine c_false (h1 := ?_) | refine c_ret ?_ | refine c_skip ?_ | refine e_then_ret ?_ | refine c_block ?_ | refine c_exit ?_ | refine e_then_exit ?_ | refine e_block_exit ?_ | refine e_block_normal ?_ | refine e_block_ret ?_ | refine o_box (k := fun _ => ?_) | refine o_alloc (k := fun _ => ?_) | refine e_norm ?_ | refine o_ung (k := ?_) | refine o_k (k := ?_) | refine s_v (k := ?_) | refine s_w (k := ?_) | refine s_k (k := ?_) | refine s_nil ?_ | refine e_block_exit_ne rfl ?_)
      refine e_fold (rdA b 0 l) (q, c) (hx := by exact ⟨hc, hc2⟩) (k := ?_)
      exact e_1 (H' := [rdA b 0 l]) (h1 := rs_tmp rfl) (hT := by simp at hl; have := List.ne_nil_of_length_pos hl; simp [this])
    · repeat (first | refine o_v (k := ?_) | refine c_seq ?_ | refine c_region ?_ | refine o_nil ?_ | refine e_then_normal ?_ | refine o_store (k := ?_) | refine c_true (h1 := ?_) | refine c_false (h1 := ?_) | refine c_ret ?_ | refine c_skip ?_ | refine e_then_ret ?_ | refine c_block ?_ | refine c_exit ?_ | refine e_then_exit ?_ | refine e_block_exit ?_ | refine e_block_normal ?_ | refine e_block_ret ?_ | refine o_box (k := fun _ => ?_) | refine o_alloc (k := fun _ => ?_) | refine e_norm ?_ | refine o_ung (k := ?_) | refine o_k (k := ?_) | refine s_v (k := ?_) | refine s_w (k := ?_) | refine s_k (k := ?_) | refine s_nil ?_ | refine e_block_exit_ne rfl ?_)
      refine e_fold (rdA b 0 l) (q, c) (hx := by exact ⟨hc, hc2⟩) (k := ?_)
      exact e_1 (H' := [rdA b 0 l]) (h1 := rs_tmp rfl) (hT := by simp at hl; simp [hl])
  · repeat (first | refine o_v (k := ?_) | refine c_seq ?_ | refine c_region ?_ | refine o_nil ?_ | refine e_then_normal ?_ | refine o_store (k := ?_) | refine c_true (h1 := ?_) | refine c_false (h1 := ?_) | refine c_ret ?_ | refine c_skip ?_ | refine e_then_ret ?_ | refine c_block ?_ | refine c_exit ?_ | refine e_then_exit ?_ | refine e_block_exit ?_ | refine e_block_normal ?_ | refine e_block_ret ?_ | refine o_box (k := fun _ => ?_) | refine o_alloc (k := fun _ => ?_) | refine e_norm ?_ | refine o_ung (k := ?_) | refine o_k (k := ?_) | refine s_v (k := ?_) | refine s_w (k := ?_) | refine s_k (k := ?_) | refine s_nil ?_ | refine e_block_exit_ne rfl ?_)
    refine e_fold (rdA b e l) (q, c) (hx := by exact ⟨hc, hc2⟩) (k := ?_)
    exact e_1 (H' := [rdA b e l]) (h1 := rs_tmp rfl) (hT := by simp at he; simp [he])

set_option maxRecDepth 20000 in
theorem pad_ok (n : Nat) (hn : n ≤ 9223372036854775807) : Ct Tryz.prog 119 [.int .i64 n] [] (Ret fun u H => u = .int .i64 (padN n) ∧ H = []) := by
  refine fn_enter Tryz.func119 rfl Tryz.ntmps119 rfl fun _ _ _ => ?_
  repeat (first | refine o_v (k := ?_) | refine c_seq ?_ | refine c_region ?_ | refine o_nil ?_ | refine e_then_normal ?_ | refine o_store (k := ?_) | refine c_true (h1 := ?_) | refine c_false (h1 := ?_) | refine c_ret ?_ | refine c_skip ?_ | refine e_then_ret ?_ | refine c_block ?_ | refine c_exit ?_ | refine e_then_exit ?_ | refine e_block_exit ?_ | refine e_block_normal ?_ | refine e_block_ret ?_ | refine o_box (k := fun _ => ?_) | refine o_alloc (k := fun _ => ?_) | refine e_norm ?_ | refine o_ung (k := ?_) | refine o_k (k := ?_) | refine s_v (k := ?_) | refine s_w (k := ?_) | refine s_k (k := ?_) | refine s_nil ?_ | refine e_block_exit_ne rfl ?_)
  exact e_1 (H' := []) (h1 := rs_tmp rfl) (hT := ⟨by simp only [padN]; congr 1; omega, rfl⟩)

set_option maxRecDepth 20000 in
set_option maxHeartbeats 4000000 in
theorem clone_sub (own : Bool) (q q' : Option Addr) (L : List UInt8) (i n c : Nat) (hL : L.length ≤ 1000000) (hn : i + n ≤ L.length) (hq : ∀ b o, q = some ⟨b, o, none⟩ → 0 < n → q' = some ⟨b, o + i, none⟩) : Ct Tryz.prog 70 [.slice q' n c] [bytesA own q L] (Ret fun u H => H = [bufA u ((L.drop i).take n), bytesA own q L]) := by
  have hln : n = ((L.drop i).take n).length := by simp; omega
  refine fn_enter Tryz.func70 rfl Tryz.ntmps70 rfl fun _ _ _ => ?_
  repeat (first | refine o_v (k := ?_) | refine c_seq ?_ | refine c_region ?_ | refine o_nil ?_ | refine e_then_normal ?_ | refine o_store (k := ?_) | refine c_true (h1 := ?_) | refine c_false (h1 := ?_) | refine c_ret ?_ | refine c_skip ?_ | refine e_then_ret ?_ | refine c_block ?_ | refine c_exit ?_ | refine e_then_exit ?_ | refine e_block_exit ?_ | refine e_block_normal ?_ | refine e_block_ret ?_ | refine o_box (k := fun _ => ?_) | refine o_alloc (k := fun _ => ?_) | refine e_norm ?_ | refine o_ung (k := ?_) | refine o_k (k := ?_) | refine s_v (k := ?_) | refine s_w (k := ?_) | refine s_k (k := ?_) | refine s_nil ?_ | refine e_block_exit_ne rfl ?_)
  refine c_if (h1 := fun hq2 => ?_) (h2 := fun hq2 => ?_)
  · repeat (first | refine o_v (k := ?_) | refine c_seq ?_ | refine c_region ?_ | refine o_nil ?_ | refine e_then_normal ?_ | refine o_store (k := ?_) | refine c_true (h1 := ?_) | refine c_false (h1 := ?_) | refine c_ret ?_ | refine c_skip ?_ | refine e_then_ret ?_ | refine c_block ?_ | refine c_exit ?_ | refine e_then_exit ?_ | refine e_block_exit ?_ | refine e_block_normal ?_ | refine e_block_ret ?_ | refine o_box (k := fun _ => ?_) | refine o_alloc (k := fun _ => ?_) | refine e_norm ?_ | refine o_ung (k := ?_) | refine o_k (k := ?_) | refine s_v (k := ?_) | refine s_w (k := ?_) | refine s_k (k := ?_) | refine s_nil ?_ | refine e_block_exit_ne rfl ?_)
    simp at hq2
    subst hq2
    by_cases hn0 : n = 0
    · subst hn0
      refine e_buf0 ?_
      exact e_1 (H' := [bufA (.slice none 0 0) [], bytesA own q L]) (h1 := rs_tmp rfl) (hT := by simp)
    · refine e_known (bytesA own q L) (q := False) ?_ (k := ?_)
      · intro S w h
        obtain ⟨b, o, h⟩ := cells_some (bys_ne (by intro h; simp [h] at hn; omega)) S w h
        have := hq b o h (by omega)
        cases this
      · exact False.elim
  · repeat (first | refine o_v (k := ?_) | refine c_seq ?_ | refine c_region ?_ | refine o_nil ?_ | refine e_then_normal ?_ | refine o_store (k := ?_) | refine c_true (h1 := ?_) | refine c_false (h1 := ?_) | refine c_ret ?_ | refine c_skip ?_ | refine e_then_ret ?_ | refine c_block ?_ | refine c_exit ?_ | refine e_then_exit ?_ | refine e_block_exit ?_ | refine e_block_normal ?_ | refine e_block_ret ?_ | refine o_box (k := fun _ => ?_) | refine o_alloc (k := fun _ => ?_) | refine e_norm ?_ | refine o_ung (k := ?_) | refine o_k (k := ?_) | refine s_v (k := ?_) | refine s_w (k := ?_) | refine s_k (k := ?_) | refine s_nil ?_ | refine e_block_exit_ne rfl ?_)
    refine o_litbuf [] (hL := rfl) (k := fun v => ?_)
    repeat (first | refine o_v (k := ?_) | refine c_seq ?_ | refine c_region ?_ | refine o_nil ?_ | refine e_then_normal ?_ | refine o_store (k := ?_) | refine c_true (h1 := ?_) | refine c_false (h1 := ?_) | refine c_ret ?_ | refine c_skip ?_ | refine e_then_ret ?_ | refine c_block ?_ | refine c_exit ?_ | refine e_then_exit ?_ | refine e_block_exit ?_ | refine e_block_normal ?_ | refine e_block_ret ?_ | refine o_box (k := fun _ => ?_) | refine o_alloc (k := fun _ => ?_) | refine e_norm ?_ | refine o_ung (k := ?_) | refine o_k (k := ?_) | refine s_v (k := ?_) | refine s_w (k := ?_) | refine s_k (k := ?_) | refine s_nil ?_ | refine e_block_exit_ne rfl ?_)
    refine o_appb own q' ((L.drop i).take n) (hi := InA.rangeB i n hq (by (repeat (first | exact InA.here | apply InA.there)))) (hm := hln) (hb := by simp; omega) (k := fun v => ?_)
    repeat (first | refine o_v (k := ?_) | refine c_seq ?_ | refine c_region ?_ | refine o_nil ?_ | refine e_then_normal ?_ | refine o_store (k := ?_) | refine c_true (h1 := ?_) | refine c_false (h1 := ?_) | refine c_ret ?_ | refine c_skip ?_ | refine e_then_ret ?_ | refine c_block ?_ | refine c_exit ?_ | refine e_then_exit ?_ | refine e_block_exit ?_ | refine e_block_normal ?_ | refine e_block_ret ?_ | refine o_box (k := fun _ => ?_) | refine o_alloc (k := fun _ => ?_) | refine e_norm ?_ | refine o_ung (k := ?_) | refine o_k (k := ?_) | refine s_v (k := ?_) | refine s_w (k := ?_) | refine s_k (k := ?_) | refine s_nil ?_ | refine e_block_exit_ne rfl ?_)
    exact e_1 (h1 := rs_tmp rfl) (H' := [bufA v ([] ++ (L.drop i).take n), bytesA own q L]) (hT := by simp)
theorem clone_ok (own : Bool) (q : Option Addr) (l : List UInt8) (c : Nat) (hl : l.length ≤ 1000000) : Ct Tryz.prog 70 [.slice q l.length c] [bytesA own q l] (Ret fun u H => H = [bufA u l, bytesA own q l]) := by
  have := clone_sub own q q l 0 l.length c hl (by omega) (fun b o h _ => by simpa using h)
  simpa using this

set_option maxRecDepth 20000 in
set_option maxHeartbeats 4000000 in
theorem rdNew_ok (own : Bool) (q : Option Addr) (l : List UInt8) (c : Nat) (hl : l.length ≤ 1000000) : Ct Tryz.prog 68 [.slice q l.length c] [bytesA own q l] (Ret fun u H => ∃ b, u = .pointer (some ⟨b, 0, none⟩) ∧ H = [rdA b 0 l, bytesA own q l]) := by
  refine fn_enter Tryz.func68 rfl Tryz.ntmps68 rfl fun _ _ _ => ?_
  repeat (first | refine o_v (k := ?_) | refine c_seq ?_ | refine c_region ?_ | refine o_nil ?_ | refine e_then_normal ?_ | refine o_store (k := ?_) | refine c_true (h1 := ?_) | refine c_false (h1 := ?_) | refine c_ret ?_ | refine c_skip ?_ | refine e_then_ret ?_ | refine c_block ?_ | refine c_exit ?_ | refine e_then_exit ?_ | refine e_block_exit ?_ | refine e_block_normal ?_ | refine e_block_ret ?_ | refine o_box (k := fun _ => ?_) | refine o_alloc (k := fun _ => ?_) | refine e_norm ?_ | refine o_ung (k := ?_) | refine o_k (k := ?_) | refine s_v (k := ?_) | refine s_w (k := ?_) | refine s_k (k := ?_) | refine s_nil ?_ | refine e_block_exit_ne rfl ?_ | (refine o_call (clone_ok own _ l _ hl) (k := ?_); rintro v _ rfl; dsimp only [List.cons_append, List.nil_append]))
  refine o_buf true v (k := ?_)
  rintro q' c' rfl hc hm
  repeat (first | refine o_v (k := ?_) | refine c_seq ?_ | refine c_region ?_ | refine o_nil ?_ | refine e_then_normal ?_ | refine o_store (k := ?_) | refine c_true (h1 := ?_) | refine c_false (h1 := ?_) | refine c_ret ?_ | refine c_skip ?_ | refine e_then_ret ?_ | refine c_block ?_ | refine c_exit ?_ | refine e_then_exit ?_ | refine e_block_exit ?_ | refine e_block_normal ?_ | refine e_block_ret ?_ | refine o_box (k := fun _ => ?_) | refine o_alloc (k := fun _ => ?_) | refine e_norm ?_ | refine o_ung (k := ?_) | refine o_k (k := ?_) | refine s_v (k := ?_) | refine s_w (k := ?_) | refine s_k (k := ?_) | refine s_nil ?_ | refine e_block_exit_ne rfl ?_)
  rename_i b
  refine e_fold (rdA b 0 l) (q', c') (hx := by exact ⟨hc, hm⟩) (k := ?_)
  exact e_1 (h1 := rs_tmp rfl) (hT := ⟨b, rfl, rfl⟩)

set_option maxRecDepth 20000 in
set_option maxHeartbeats 4000000 in
theorem u32_ok (own : Bool) (q : Option Addr) (l : List UInt8) (c n : Nat) (hl : l.length ≤ 1000000) (hc : l.length ≤ c) (hn : n < 4294967296) : Ct Tryz.prog 73 [.slice q l.length c, .int .u32 n] [bytesA own q l] (Ret fun u H => H = [bufA u (l ++ w32 n), bytesA own q l]) := by
  refine fn_enter Tryz.func73 rfl Tryz.ntmps73 rfl fun _ _ _ => ?_
  repeat (first | refine o_v (k := ?_) | refine c_seq ?_ | refine c_region ?_ | refine o_nil ?_ | refine e_then_normal ?_ | refine o_store (k := ?_) | refine c_true (h1 := ?_) | refine c_false (h1 := ?_) | refine c_ret ?_ | refine c_skip ?_ | refine e_then_ret ?_ | refine c_block ?_ | refine c_exit ?_ | refine e_then_exit ?_ | refine e_block_exit ?_ | refine e_block_normal ?_ | refine e_block_ret ?_ | refine o_box (k := fun _ => ?_) | refine o_alloc (k := fun _ => ?_) | refine e_norm ?_ | refine o_ung (k := ?_) | refine o_k (k := ?_) | refine s_v (k := ?_) | refine s_w (k := ?_) | refine s_k (k := ?_) | refine s_nil ?_ | refine e_block_exit_ne rfl ?_)
  refine o_litb (w32 n) (hL := ?_) (k := fun b => ?_)
  · rw [bys_w32]
    simp [Int.fdiv_eq_ediv, IntKind.bits, repL]
  repeat (first | refine o_v (k := ?_) | refine c_seq ?_ | refine c_region ?_ | refine o_nil ?_ | refine e_then_normal ?_ | refine o_store (k := ?_) | refine c_true (h1 := ?_) | refine c_false (h1 := ?_) | refine c_ret ?_ | refine c_skip ?_ | refine e_then_ret ?_ | refine c_block ?_ | refine c_exit ?_ | refine e_then_exit ?_ | refine e_block_exit ?_ | refine e_block_normal ?_ | refine e_block_ret ?_ | refine o_box (k := fun _ => ?_) | refine o_alloc (k := fun _ => ?_) | refine e_norm ?_ | refine o_ung (k := ?_) | refine o_k (k := ?_) | refine s_v (k := ?_) | refine s_w (k := ?_) | refine s_k (k := ?_) | refine s_nil ?_ | refine e_block_exit_ne rfl ?_)
  refine o_appfull own true q _ l (w32 n) (k := fun v => ?_)
  repeat (first | refine o_v (k := ?_) | refine c_seq ?_ | refine c_region ?_ | refine o_nil ?_ | refine e_then_normal ?_ | refine o_store (k := ?_) | refine c_true (h1 := ?_) | refine c_false (h1 := ?_) | refine c_ret ?_ | refine c_skip ?_ | refine e_then_ret ?_ | refine c_block ?_ | refine c_exit ?_ | refine e_then_exit ?_ | refine e_block_exit ?_ | refine e_block_normal ?_ | refine e_block_ret ?_ | refine o_box (k := fun _ => ?_) | refine o_alloc (k := fun _ => ?_) | refine e_norm ?_ | refine o_ung (k := ?_) | refine o_k (k := ?_) | refine s_v (k := ?_) | refine s_w (k := ?_) | refine s_k (k := ?_) | refine s_nil ?_ | refine e_block_exit_ne rfl ?_)
  exact e_1 (h1 := rs_tmp rfl) (H' := [bufA v (l ++ w32 n), bytesA own q l]) (hT := rfl)

set_option maxRecDepth 20000 in
set_option maxHeartbeats 4000000 in
theorem bool_ok (own : Bool) (q : Option Addr) (l : List UInt8) (c : Nat) (is : Bool) (hl : l.length ≤ 1000000) (hc : l.length ≤ c) : Ct Tryz.prog 77 [.slice q l.length c, .bool is] [bytesA own q l] (Ret fun u H => H = [bufA u (l ++ w32 is.toNat), bytesA own q l]) := by
  refine fn_enter Tryz.func77 rfl Tryz.ntmps77 rfl fun _ _ _ => ?_
  repeat (first | refine o_v (k := ?_) | refine c_seq ?_ | refine c_region ?_ | refine o_nil ?_ | refine e_then_normal ?_ | refine o_store (k := ?_) | refine c_true (h1 := ?_) | refine c_false (h1 := ?_) | refine c_ret ?_ | refine c_skip ?_ | refine e_then_ret ?_ | refine c_block ?_ | refine c_exit ?_ | refine e_then_exit ?_ | refine e_block_exit ?_ | refine e_block_normal ?_ | refine e_block_ret ?_ | refine o_box (k := fun _ => ?_) | refine o_alloc (k := fun _ => ?_) | refine e_norm ?_ | refine o_ung (k := ?_) | refine o_k (k := ?_) | refine s_v (k := ?_) | refine s_w (k := ?_) | refine s_k (k := ?_) | refine s_nil ?_ | refine e_block_exit_ne rfl ?_)
  refine c_if (h1 := fun hi => ?_) (h2 := fun hi => ?_)
  · repeat (first | refine o_v (k := ?_) | refine c_seq ?_ | refine c_region ?_ | refine o_nil ?_ | refine e_then_normal ?_ | refine o_store (k := ?_) | refine c_true (h1 := ?_) | refine c_false (h1 := ?_) | refine c_ret ?_ | refine c_skip ?_ | refine e_then_ret ?_ | refine c_block ?_ | refine c_exit ?_ | refine e_then_exit ?_ | refine e_block_exit ?_ | refine e_block_normal ?_ | refine e_block_ret ?_ | refine o_box (k := fun _ => ?_) | refine o_alloc (k := fun _ => ?_) | refine e_norm ?_ | refine o_ung (k := ?_) | refine o_k (k := ?_) | refine s_v (k := ?_) | refine s_w (k := ?_) | refine s_k (k := ?_) | refine s_nil ?_ | refine e_block_exit_ne rfl ?_ | (refine o_call (u32_ok own q l c 1 hl hc (by decide)) (k := ?_); rintro v _ rfl; dsimp only [List.cons_append, List.nil_append]))
    exact e_1 (h1 := rs_tmp rfl) (H' := [bufA v (l ++ w32 1), bytesA own q l]) (hT := by subst hi; rfl)
  · repeat (first | refine o_v (k := ?_) | refine c_seq ?_ | refine c_region ?_ | refine o_nil ?_ | refine e_then_normal ?_ | refine o_store (k := ?_) | refine c_true (h1 := ?_) | refine c_false (h1 := ?_) | refine c_ret ?_ | refine c_skip ?_ | refine e_then_ret ?_ | refine c_block ?_ | refine c_exit ?_ | refine e_then_exit ?_ | refine e_block_exit ?_ | refine e_block_normal ?_ | refine e_block_ret ?_ | refine o_box (k := fun _ => ?_) | refine o_alloc (k := fun _ => ?_) | refine e_norm ?_ | refine o_ung (k := ?_) | refine o_k (k := ?_) | refine s_v (k := ?_) | refine s_w (k := ?_) | refine s_k (k := ?_) | refine s_nil ?_ | refine e_block_exit_ne rfl ?_ | (refine o_call (u32_ok own q l c 0 hl hc (by decide)) (k := ?_); rintro v _ rfl; dsimp only [List.cons_append, List.nil_append]))
    exact e_1 (h1 := rs_tmp rfl) (H' := [bufA v (l ++ w32 0), bytesA own q l]) (hT := by subst hi; rfl)

set_option maxRecDepth 20000 in
set_option maxHeartbeats 4000000 in
theorem text_ok (own own2 : Bool) (q q2 : Option Addr) (l s : List UInt8) (c c2 : Nat) (hl : l.length ≤ 900000) (hc : l.length ≤ c) (hs : s.length ≤ 10000) : Ct Tryz.prog 76 [.slice q l.length c, .slice q2 s.length c2] [bytesA own q l, bytesA own2 q2 s] (Ret fun u H => H = [bufA u (l ++ textB s), bytesA own q l, bytesA own2 q2 s]) := by
  refine fn_enter Tryz.func76 rfl Tryz.ntmps76 rfl fun _ _ _ => ?_
  repeat (first | refine o_v (k := ?_) | refine c_seq ?_ | refine c_region ?_ | refine o_nil ?_ | refine e_then_normal ?_ | refine o_store (k := ?_) | refine c_true (h1 := ?_) | refine c_false (h1 := ?_) | refine c_ret ?_ | refine c_skip ?_ | refine e_then_ret ?_ | refine c_block ?_ | refine c_exit ?_ | refine e_then_exit ?_ | refine e_block_exit ?_ | refine e_block_normal ?_ | refine e_block_ret ?_ | refine o_box (k := fun _ => ?_) | refine o_alloc (k := fun _ => ?_) | refine e_norm ?_ | refine o_ung (k := ?_) | refine o_k (k := ?_) | refine s_v (k := ?_) | refine s_w (k := ?_) | refine s_k (k := ?_) | refine s_nil ?_ | refine e_block_exit_ne rfl ?_ | (refine o_call (u32_ok own q l c s.length (by omega) hc (by omega)) (k := ?_); rintro v _ rfl; dsimp only [List.cons_append, List.nil_append]))
  refine o_appb own2 q2 s (k := fun v => ?_)
  repeat (first | refine o_v (k := ?_) | refine c_seq ?_ | refine c_region ?_ | refine o_nil ?_ | refine e_then_normal ?_ | refine o_store (k := ?_) | refine c_true (h1 := ?_) | refine c_false (h1 := ?_) | refine c_ret ?_ | refine c_skip ?_ | refine e_then_ret ?_ | refine c_block ?_ | refine c_exit ?_ | refine e_then_exit ?_ | refine e_block_exit ?_ | refine e_block_normal ?_ | refine e_block_ret ?_ | refine o_box (k := fun _ => ?_) | refine o_alloc (k := fun _ => ?_) | refine e_norm ?_ | refine o_ung (k := ?_) | refine o_k (k := ?_) | refine s_v (k := ?_) | refine s_w (k := ?_) | refine s_k (k := ?_) | refine s_nil ?_ | refine e_block_exit_ne rfl ?_ | (refine o_call (pad_ok s.length (by omega)) (k := ?_); rintro _ _ ⟨rfl, rfl⟩; dsimp only [List.cons_append, List.nil_append]))
  have hp := padN_lt s.length
  refine c_loop (α := Value × Nat) (fun x => [(15, .int .i64 x.2), (0, x.1), (14, .int .i64 (padN s.length))]) (fun x => [bufA x.1 (l ++ w32 s.length ++ s ++ List.replicate x.2 0), bytesA own q l, bytesA own2 q2 s]) (fun x => x.2 ≤ padN s.length) (fun x => padN s.length - x.2) (v, 0) (by simp) ⟨rfl, rfl, rfl, trivial⟩ (fun w h => by have := to_keep [bufA v (l ++ w32 s.length ++ s), bytesA own q l, bytesA own2 q2 s] h; simpa using this) ?_
  rintro ⟨v, k⟩ hk
  (try dsimp only at hk ⊢)
  repeat (first | refine o_v (k := ?_) | refine c_seq ?_ | refine c_region ?_ | refine o_nil ?_ | refine e_then_normal ?_ | refine o_store (k := ?_) | refine c_true (h1 := ?_) | refine c_false (h1 := ?_) | refine c_ret ?_ | refine c_skip ?_ | refine e_then_ret ?_ | refine c_block ?_ | refine c_exit ?_ | refine e_then_exit ?_ | refine e_block_exit ?_ | refine e_block_normal ?_ | refine e_block_ret ?_ | refine o_box (k := fun _ => ?_) | refine o_alloc (k := fun _ => ?_) | refine e_norm ?_ | refine o_ung (k := ?_) | refine o_k (k := ?_) | refine s_v (k := ?_) | refine s_w (k := ?_) | refine s_k (k := ?_) | refine s_nil ?_ | refine e_block_exit_ne rfl ?_)
  refine c_if (h1 := fun h => ?_) (h2 := fun h => ?_)
  · simp at h
    repeat (first | refine o_v (k := ?_) | refine c_seq ?_ | refine c_region ?_ | refine o_nil ?_ | refine e_then_normal ?_ | refine o_store (k := ?_) | refine c_true (h1 := ?_) | refine c_false (h1 := ?_) | refine c_ret ?_ | refine c_skip ?_ | refine e_then_ret ?_ | refine c_block ?_ | refine c_exit ?_ | refine e_then_exit ?_ | refine e_block_exit ?_ | refine e_block_normal ?_ | refine e_block_ret ?_ | refine o_box (k := fun _ => ?_) | refine o_alloc (k := fun _ => ?_) | refine e_norm ?_ | refine o_ung (k := ?_) | refine o_k (k := ?_) | refine s_v (k := ?_) | refine s_w (k := ?_) | refine s_k (k := ?_) | refine s_nil ?_ | refine e_block_exit_ne rfl ?_)
    refine o_litb [0] (hL := rfl) (k := fun b => ?_)
    repeat (first | refine o_v (k := ?_) | refine c_seq ?_ | refine c_region ?_ | refine o_nil ?_ | refine e_then_normal ?_ | refine o_store (k := ?_) | refine c_true (h1 := ?_) | refine c_false (h1 := ?_) | refine c_ret ?_ | refine c_skip ?_ | refine e_then_ret ?_ | refine c_block ?_ | refine c_exit ?_ | refine e_then_exit ?_ | refine e_block_exit ?_ | refine e_block_normal ?_ | refine e_block_ret ?_ | refine o_box (k := fun _ => ?_) | refine o_alloc (k := fun _ => ?_) | refine e_norm ?_ | refine o_ung (k := ?_) | refine o_k (k := ?_) | refine s_v (k := ?_) | refine s_w (k := ?_) | refine s_k (k := ?_) | refine s_nil ?_ | refine e_block_exit_ne rfl ?_)
    refine o_appb true _ [0] (k := fun v' => ?_)
    repeat (first | refine o_v (k := ?_) | refine c_seq ?_ | refine c_region ?_ | refine o_nil ?_ | refine e_then_normal ?_ | refine o_store (k := ?_) | refine c_true (h1 := ?_) | refine c_false (h1 := ?_) | refine c_ret ?_ | refine c_skip ?_ | refine e_then_ret ?_ | refine c_block ?_ | refine c_exit ?_ | refine e_then_exit ?_ | refine e_block_exit ?_ | refine e_block_normal ?_ | refine e_block_ret ?_ | refine o_box (k := fun _ => ?_) | refine o_alloc (k := fun _ => ?_) | refine e_norm ?_ | refine o_ung (k := ?_) | refine o_k (k := ?_) | refine s_v (k := ?_) | refine s_w (k := ?_) | refine s_k (k := ?_) | refine s_nil ?_ | refine e_block_exit_ne rfl ?_)
    refine e_loop (v', k + 1) ?_ ?_ ?_ ?_
    · show k + 1 ≤ _; omega
    · show _ - (k + 1) < _ - k; omega
    · exact ⟨rfl, rfl, rfl, trivial⟩
    · intro w hw
      simp only [List.replicate_succ', ← List.append_assoc]
      exact to_keep _ hw
  · repeat (first | refine o_v (k := ?_) | refine c_seq ?_ | refine c_region ?_ | refine o_nil ?_ | refine e_then_normal ?_ | refine o_store (k := ?_) | refine c_true (h1 := ?_) | refine c_false (h1 := ?_) | refine c_ret ?_ | refine c_skip ?_ | refine e_then_ret ?_ | refine c_block ?_ | refine c_exit ?_ | refine e_then_exit ?_ | refine e_block_exit ?_ | refine e_block_normal ?_ | refine e_block_ret ?_ | refine o_box (k := fun _ => ?_) | refine o_alloc (k := fun _ => ?_) | refine e_norm ?_ | refine o_ung (k := ?_) | refine o_k (k := ?_) | refine s_v (k := ?_) | refine s_w (k := ?_) | refine s_k (k := ?_) | refine s_nil ?_ | refine e_block_exit_ne rfl ?_)
    simp at h
    have hkn : k = padN s.length := by omega
    subst hkn
    refine e_1 (h1 := rs_tmp rfl) (H' := [bufA v (l ++ textB s), bytesA own q l, bytesA own2 q2 s]) (hT := rfl) (hs := ?_)
    simp only [textB, ← List.append_assoc]
    exact SubA.mk SplitA.rfl
end Go.Proofs.YtlkgdidmhmaneaaGreatDoor
/- xdr, rpc: what their functions leave. -/
namespace Go.Proofs.YtlkgdidmhmaneaaGreatDoor
open Go Go.RowKit
attribute [local irreducible] Yl OG CG EG SG AG  CellIn CellsIn BlkIn InA TakeA SplitA SubA Ct ResOk Good Held blk cellsA exA

/-- Text of a reader: the text, the error, what is left. -/
def rdText (e : Int) (l : List UInt8) (most : Int) : List UInt8 × Int × List UInt8 :=
  let n := (rdNum e l 4).1
  let r := rdNum e l 4
  if r.2.1 ≠ 0 then ([], r.2.1, r.2.2)
  else if (n : Int) > most then ([], 4, [])
  else if r.2.2.length < n + padN n then ([], 3, [])
  else if ((r.2.2.take (n + padN n)).drop n).any (· != 0) = true then ([], 2, [])
  else (r.2.2.take n, 0, r.2.2.drop (n + padN n))

theorem any_nz {l : List UInt8} {n p k : Nat} (hk : k < p) (hl : n + p ≤ l.length) (c : UInt8) (hc : l[n + k]? = some c) (h0 : c ≠ 0) : ((l.take (n + p)).drop n).any (· != 0) = true := by
  rw [List.any_eq_true]
  refine ⟨c, ?_, by simpa using h0⟩
  have : ((l.take (n + p)).drop n)[k]? = some c := by
    rw [List.getElem?_drop, List.getElem?_take, if_pos (by omega)]; exact hc
  exact List.mem_of_getElem? this
theorem any_z {l : List UInt8} {n p : Nat} (h : ∀ j, j < p → l[n + j]? = some 0) : ((l.take (n + p)).drop n).any (· != 0) = false := by
  rw [List.any_eq_false]
  intro c hc
  obtain ⟨j, hj⟩ := List.mem_iff_getElem?.1 hc
  rw [List.getElem?_drop, List.getElem?_take] at hj
  split at hj
  · rw [h j (by omega)] at hj
    cases hj; simp
  · cases hj

set_option maxRecDepth 20000 in
set_option maxHeartbeats 4000000 in
theorem rdText_ok (b : Nat) (e most : Int) (l : List UInt8) (hl : l.length ≤ 1000000) (hm : most ≤ 1000000) : Ct Tryz.prog 152 [.pointer (some ⟨b, 0, none⟩), .int .i64 most] [rdA b e l]
    (Ret fun u H => H = [bufA u (rdText e l most).1, rdA b (rdText e l most).2.1 (rdText e l most).2.2]) := by
  refine fn_enter Tryz.func152 rfl Tryz.ntmps152 rfl fun _ _ _ => ?_
  have hlt := rdNum_lt e l 4
  simp only [Nat.reducePow] at hlt
  obtain ⟨n, e', l', hr⟩ : ∃ n e' l', rdNum e l 4 = (n, e', l') := ⟨_, _, _, rfl⟩
  have hl' : l'.length ≤ 1000000 := by
    have : l' = (rdNum e l 4).2.2 := by rw [hr]
    rw [this]; unfold rdNum; split
    · exact hl
    · split <;> simp; omega
  rw [hr] at hlt
  have hU := rdU32_ok b e l
  rw [hr] at hU
  repeat (first | refine o_v (k := ?_) | refine c_seq ?_ | refine c_region ?_ | refine o_nil ?_ | refine e_then_normal ?_ | refine o_store (k := ?_) | refine c_true (h1 := ?_) | refine c_false (h1 := ?_) | refine c_ret ?_ | refine c_skip ?_ | refine e_then_ret ?_ | refine c_block ?_ | refine c_exit ?_ | refine e_then_exit ?_ | refine e_block_exit ?_ | refine e_block_normal ?_ | refine e_block_ret ?_ | refine o_box (k := fun _ => ?_) | refine o_alloc (k := fun _ => ?_) | refine e_norm ?_ | refine o_ung (k := ?_) | refine o_k (k := ?_) | refine s_v (k := ?_) | refine s_w (k := ?_) | refine s_k (k := ?_) | refine s_nil ?_ | refine e_block_exit_ne rfl ?_ | (refine o_call (hU) (k := ?_); rintro _ _ ⟨rfl, rfl⟩; dsimp only [List.cons_append, List.nil_append]))
  (first | refine o_unf (rdA b e' l') (k := ?_) | refine c_unf (rdA b e' l') (k := ?_) | refine e_unf (rdA b e' l') (k := ?_))
  rintro ⟨q, c⟩ ⟨hc, hc2⟩
  dsimp only [List.cons_append, List.nil_append] at hc hc2 hlt ⊢
  repeat (first | refine o_v (k := ?_) | refine c_seq ?_ | refine c_region ?_ | refine o_nil ?_ | refine e_then_normal ?_ | refine o_store (k := ?_) | refine c_true (h1 := ?_) | refine c_false (h1 := ?_) | refine c_ret ?_ | refine c_skip ?_ | refine e_then_ret ?_ | refine c_block ?_ | refine c_exit ?_ | refine e_then_exit ?_ | refine e_block_exit ?_ | refine e_block_normal ?_ | refine e_block_ret ?_ | refine o_box (k := fun _ => ?_) | refine o_alloc (k := fun _ => ?_) | refine e_norm ?_ | refine o_ung (k := ?_) | refine o_k (k := ?_) | refine s_v (k := ?_) | refine s_w (k := ?_) | refine s_k (k := ?_) | refine s_nil ?_ | refine e_block_exit_ne rfl ?_)
  refine c_if (h1 := fun he => ?_) (h2 := fun he => ?_)
  · repeat (first | refine o_v (k := ?_) | refine c_seq ?_ | refine c_region ?_ | refine o_nil ?_ | refine e_then_normal ?_ | refine o_store (k := ?_) | refine c_true (h1 := ?_) | refine c_false (h1 := ?_) | refine c_ret ?_ | refine c_skip ?_ | refine e_then_ret ?_ | refine c_block ?_ | refine c_exit ?_ | refine e_then_exit ?_ | refine e_block_exit ?_ | refine e_block_normal ?_ | refine e_block_ret ?_ | refine o_box (k := fun _ => ?_) | refine o_alloc (k := fun _ => ?_) | refine e_norm ?_ | refine o_ung (k := ?_) | refine o_k (k := ?_) | refine s_v (k := ?_) | refine s_w (k := ?_) | refine s_k (k := ?_) | refine s_nil ?_ | refine e_block_exit_ne rfl ?_)
    simp at he
    refine e_buf0 ?_
    refine e_fold (rdA b e' l') (q, c) (hx := by exact ⟨hc, hc2⟩) (k := ?_)
    exact e_1 (H' := [bufA (.slice none 0 0) [], rdA b e' l']) (h1 := rs_tmp rfl) (hT := by simp [rdText, hr, he])
  simp at he
  subst he
  have hp := padN_lt n
  repeat (first | refine o_v (k := ?_) | refine c_seq ?_ | refine c_region ?_ | refine o_nil ?_ | refine e_then_normal ?_ | refine o_store (k := ?_) | refine c_true (h1 := ?_) | refine c_false (h1 := ?_) | refine c_ret ?_ | refine c_skip ?_ | refine e_then_ret ?_ | refine c_block ?_ | refine c_exit ?_ | refine e_then_exit ?_ | refine e_block_exit ?_ | refine e_block_normal ?_ | refine e_block_ret ?_ | refine o_box (k := fun _ => ?_) | refine o_alloc (k := fun _ => ?_) | refine e_norm ?_ | refine o_ung (k := ?_) | refine o_k (k := ?_) | refine s_v (k := ?_) | refine s_w (k := ?_) | refine s_k (k := ?_) | refine s_nil ?_ | refine e_block_exit_ne rfl ?_ | (refine o_call (pad_ok n (by omega)) (k := ?_); rintro _ _ ⟨rfl, rfl⟩; dsimp only [List.cons_append, List.nil_append]))
  refine c_if (h1 := fun hn => ?_) (h2 := fun hn => ?_)
  · repeat (first | refine o_v (k := ?_) | refine c_seq ?_ | refine c_region ?_ | refine o_nil ?_ | refine e_then_normal ?_ | refine o_store (k := ?_) | refine c_true (h1 := ?_) | refine c_false (h1 := ?_) | refine c_ret ?_ | refine c_skip ?_ | refine e_then_ret ?_ | refine c_block ?_ | refine c_exit ?_ | refine e_then_exit ?_ | refine e_block_exit ?_ | refine e_block_normal ?_ | refine e_block_ret ?_ | refine o_box (k := fun _ => ?_) | refine o_alloc (k := fun _ => ?_) | refine e_norm ?_ | refine o_ung (k := ?_) | refine o_k (k := ?_) | refine s_v (k := ?_) | refine s_w (k := ?_) | refine s_k (k := ?_) | refine s_nil ?_ | refine e_block_exit_ne rfl ?_ | (refine o_call (fail_ok _ _ _ _) (k := ?_); rintro _ _ ⟨rfl, rfl⟩; dsimp only [List.cons_append, List.nil_append]))
    refine e_buf0 ?_
    refine e_add0 (bytesA true none []) (fun w => cellsA_nil _ w) (k := ?_)
    refine e_fold (rdA b 4 []) (none, 0) (hx := by exact ⟨by simp, by simp⟩) (k := ?_)
    simp at hn
    exact e_1 (H' := [bufA (.slice none 0 0) [], rdA b 4 []]) (h1 := rs_tmp rfl) (hT := by simp [rdText, hr, hn])
  simp at hn
  repeat (first | refine o_v (k := ?_) | refine c_seq ?_ | refine c_region ?_ | refine o_nil ?_ | refine e_then_normal ?_ | refine o_store (k := ?_) | refine c_true (h1 := ?_) | refine c_false (h1 := ?_) | refine c_ret ?_ | refine c_skip ?_ | refine e_then_ret ?_ | refine c_block ?_ | refine c_exit ?_ | refine e_then_exit ?_ | refine e_block_exit ?_ | refine e_block_normal ?_ | refine e_block_ret ?_ | refine o_box (k := fun _ => ?_) | refine o_alloc (k := fun _ => ?_) | refine e_norm ?_ | refine o_ung (k := ?_) | refine o_k (k := ?_) | refine s_v (k := ?_) | refine s_w (k := ?_) | refine s_k (k := ?_) | refine s_nil ?_ | refine e_block_exit_ne rfl ?_)
  refine c_if (h1 := fun hs => ?_) (h2 := fun hs => ?_)
  · repeat (first | refine o_v (k := ?_) | refine c_seq ?_ | refine c_region ?_ | refine o_nil ?_ | refine e_then_normal ?_ | refine o_store (k := ?_) | refine c_true (h1 := ?_) | refine c_false (h1 := ?_) | refine c_ret ?_ | refine c_skip ?_ | refine e_then_ret ?_ | refine c_block ?_ | refine c_exit ?_ | refine e_then_exit ?_ | refine e_block_exit ?_ | refine e_block_normal ?_ | refine e_block_ret ?_ | refine o_box (k := fun _ => ?_) | refine o_alloc (k := fun _ => ?_) | refine e_norm ?_ | refine o_ung (k := ?_) | refine o_k (k := ?_) | refine s_v (k := ?_) | refine s_w (k := ?_) | refine s_k (k := ?_) | refine s_nil ?_ | refine e_block_exit_ne rfl ?_ | (refine o_call (fail_ok _ _ _ _) (k := ?_); rintro _ _ ⟨rfl, rfl⟩; dsimp only [List.cons_append, List.nil_append]))
    refine e_buf0 ?_
    refine e_add0 (bytesA true none []) (fun w => cellsA_nil _ w) (k := ?_)
    refine e_fold (rdA b 3 []) (none, 0) (hx := by exact ⟨by simp, by simp⟩) (k := ?_)
    simp at hs
    have hs' : l'.length < n + padN n := by omega
    exact e_1 (H' := [bufA (.slice none 0 0) [], rdA b 3 []]) (h1 := rs_tmp rfl) (hT := by simp [rdText, hr, Int.not_lt.2 hn, hs'])
  simp at hs
  repeat (first | refine o_v (k := ?_) | refine c_seq ?_ | refine c_region ?_ | refine o_nil ?_ | refine e_then_normal ?_ | refine o_store (k := ?_) | refine c_true (h1 := ?_) | refine c_false (h1 := ?_) | refine c_ret ?_ | refine c_skip ?_ | refine e_then_ret ?_ | refine c_block ?_ | refine c_exit ?_ | refine e_then_exit ?_ | refine e_block_exit ?_ | refine e_block_normal ?_ | refine e_block_ret ?_ | refine o_box (k := fun _ => ?_) | refine o_alloc (k := fun _ => ?_) | refine e_norm ?_ | refine o_ung (k := ?_) | refine o_k (k := ?_) | refine s_v (k := ?_) | refine s_w (k := ?_) | refine s_k (k := ?_) | refine s_nil ?_ | refine e_block_exit_ne rfl ?_)
  refine o_cutv n (n + padN n) (padN n) (k := fun q1 c1 hq1 hc1 => ?_)
  repeat (first | refine o_v (k := ?_) | refine c_seq ?_ | refine c_region ?_ | refine o_nil ?_ | refine e_then_normal ?_ | refine o_store (k := ?_) | refine c_true (h1 := ?_) | refine c_false (h1 := ?_) | refine c_ret ?_ | refine c_skip ?_ | refine e_then_ret ?_ | refine c_block ?_ | refine c_exit ?_ | refine e_then_exit ?_ | refine e_block_exit ?_ | refine e_block_normal ?_ | refine e_block_ret ?_ | refine o_box (k := fun _ => ?_) | refine o_alloc (k := fun _ => ?_) | refine e_norm ?_ | refine o_ung (k := ?_) | refine o_k (k := ?_) | refine s_v (k := ?_) | refine s_w (k := ?_) | refine s_k (k := ?_) | refine s_nil ?_ | refine e_block_exit_ne rfl ?_)
  have hlen : ((l'.take (n + padN n)).drop n).length = padN n := by simp; omega
  refine c_loop (α := Nat) (fun k => [(47, .int .i64 k), (46, .int .i64 (padN n)), (45, .slice q1 (padN n) c1), (0, .pointer (some ⟨b, 0, none⟩)), (5, .int .i64 n), (6, .int .i64 (n + padN n : Nat))]) (fun _ => [blk b 195 [.int .i64 0, .slice q l'.length c] (0, 0), bytesA true q l']) (fun k => k ≤ padN n ∧ ∀ j, j < k → l'[n + j]? = some 0) (fun k => padN n - k) 0 ⟨by omega, by omega⟩ ⟨rfl, rfl, rfl, rfl, rfl, rfl, trivial⟩ (fun _ h => h) ?_
  rintro k ⟨hk, hz⟩
  (try dsimp only at hk ⊢)
  repeat (first | refine o_v (k := ?_) | refine c_seq ?_ | refine c_region ?_ | refine o_nil ?_ | refine e_then_normal ?_ | refine o_store (k := ?_) | refine c_true (h1 := ?_) | refine c_false (h1 := ?_) | refine c_ret ?_ | refine c_skip ?_ | refine e_then_ret ?_ | refine c_block ?_ | refine c_exit ?_ | refine e_then_exit ?_ | refine e_block_exit ?_ | refine e_block_normal ?_ | refine e_block_ret ?_ | refine o_box (k := fun _ => ?_) | refine o_alloc (k := fun _ => ?_) | refine e_norm ?_ | refine o_ung (k := ?_) | refine o_k (k := ?_) | refine s_v (k := ?_) | refine s_w (k := ?_) | refine s_k (k := ?_) | refine s_nil ?_ | refine e_block_exit_ne rfl ?_)
  refine c_if (h1 := fun hl2 => ?_) (h2 := fun hl2 => ?_)
  · simp at hl2
    have hkl : n + k < l'.length := by omega
    have hget : l'[n + k]? = some l'[n + k] := List.getElem?_eq_getElem hkl
    repeat (first | refine o_v (k := ?_) | refine c_seq ?_ | refine c_region ?_ | refine o_nil ?_ | refine e_then_normal ?_ | refine o_store (k := ?_) | refine c_true (h1 := ?_) | refine c_false (h1 := ?_) | refine c_ret ?_ | refine c_skip ?_ | refine e_then_ret ?_ | refine c_block ?_ | refine c_exit ?_ | refine e_then_exit ?_ | refine e_block_exit ?_ | refine e_block_normal ?_ | refine e_block_ret ?_ | refine o_box (k := fun _ => ?_) | refine o_alloc (k := fun _ => ?_) | refine e_norm ?_ | refine o_ung (k := ?_) | refine o_k (k := ?_) | refine s_v (k := ?_) | refine s_w (k := ?_) | refine s_k (k := ?_) | refine s_nil ?_ | refine e_block_exit_ne rfl ?_)
    refine o_at true q (bys l') (bys_ne (by intro h; simp [h] at hkl)) (k := ?_)
    rintro pb po rfl
    obtain rfl := hq1 pb po rfl (by omega)
    repeat (first | refine o_v (k := ?_) | refine c_seq ?_ | refine c_region ?_ | refine o_nil ?_ | refine e_then_normal ?_ | refine o_store (k := ?_) | refine c_true (h1 := ?_) | refine c_false (h1 := ?_) | refine c_ret ?_ | refine c_skip ?_ | refine e_then_ret ?_ | refine c_block ?_ | refine c_exit ?_ | refine e_then_exit ?_ | refine e_block_exit ?_ | refine e_block_normal ?_ | refine e_block_ret ?_ | refine o_box (k := fun _ => ?_) | refine o_alloc (k := fun _ => ?_) | refine e_norm ?_ | refine o_ung (k := ?_) | refine o_k (k := ?_) | refine s_v (k := ?_) | refine s_w (k := ?_) | refine s_k (k := ?_) | refine s_nil ?_ | refine e_block_exit_ne rfl ?_)
    refine o_y (y_load rfl (CellIn.cells (InA.there InA.here) (bys_get hget) (by omega))) rfl ?_
    repeat (first | refine o_v (k := ?_) | refine c_seq ?_ | refine c_region ?_ | refine o_nil ?_ | refine e_then_normal ?_ | refine o_store (k := ?_) | refine c_true (h1 := ?_) | refine c_false (h1 := ?_) | refine c_ret ?_ | refine c_skip ?_ | refine e_then_ret ?_ | refine c_block ?_ | refine c_exit ?_ | refine e_then_exit ?_ | refine e_block_exit ?_ | refine e_block_normal ?_ | refine e_block_ret ?_ | refine o_box (k := fun _ => ?_) | refine o_alloc (k := fun _ => ?_) | refine e_norm ?_ | refine o_ung (k := ?_) | refine o_k (k := ?_) | refine s_v (k := ?_) | refine s_w (k := ?_) | refine s_k (k := ?_) | refine s_nil ?_ | refine e_block_exit_ne rfl ?_)
    refine c_if (h1 := fun hc => ?_) (h2 := fun hc => ?_)
    · repeat (first | refine o_v (k := ?_) | refine c_seq ?_ | refine c_region ?_ | refine o_nil ?_ | refine e_then_normal ?_ | refine o_store (k := ?_) | refine c_true (h1 := ?_) | refine c_false (h1 := ?_) | refine c_ret ?_ | refine c_skip ?_ | refine e_then_ret ?_ | refine c_block ?_ | refine c_exit ?_ | refine e_then_exit ?_ | refine e_block_exit ?_ | refine e_block_normal ?_ | refine e_block_ret ?_ | refine o_box (k := fun _ => ?_) | refine o_alloc (k := fun _ => ?_) | refine e_norm ?_ | refine o_ung (k := ?_) | refine o_k (k := ?_) | refine s_v (k := ?_) | refine s_w (k := ?_) | refine s_k (k := ?_) | refine s_nil ?_ | refine e_block_exit_ne rfl ?_ | (refine o_call (fail_ok _ _ _ _) (k := ?_); rintro _ _ ⟨rfl, rfl⟩; dsimp only [List.cons_append, List.nil_append]))
      refine e_buf0 ?_
      refine e_add0 (bytesA true none []) (fun w => cellsA_nil _ w) (k := ?_)
      refine e_fold (rdA b 2 []) (none, 0) (hx := by exact ⟨by simp, by simp⟩) (k := ?_)
      have hany := any_nz hl2 (by omega) _ hget (fun h => by rw [h] at hc; simp at hc)
      have hs' : ¬ l'.length < n + padN n := by omega
      exact e_1 (H' := [bufA (.slice none 0 0) [], rdA b 2 []]) (h1 := rs_tmp rfl) (hT := by simp [rdText, hr, Int.not_lt.2 hn, hs', hany])
    · repeat (first | refine o_v (k := ?_) | refine c_seq ?_ | refine c_region ?_ | refine o_nil ?_ | refine e_then_normal ?_ | refine o_store (k := ?_) | refine c_true (h1 := ?_) | refine c_false (h1 := ?_) | refine c_ret ?_ | refine c_skip ?_ | refine e_then_ret ?_ | refine c_block ?_ | refine c_exit ?_ | refine e_then_exit ?_ | refine e_block_exit ?_ | refine e_block_normal ?_ | refine e_block_ret ?_ | refine o_box (k := fun _ => ?_) | refine o_alloc (k := fun _ => ?_) | refine e_norm ?_ | refine o_ung (k := ?_) | refine o_k (k := ?_) | refine s_v (k := ?_) | refine s_w (k := ?_) | refine s_k (k := ?_) | refine s_nil ?_ | refine e_block_exit_ne rfl ?_)
      have h0 : l'[n + k] = 0 := by
        simp at hc
        exact UInt8.toNat_inj.1 (by simpa using hc)
      refine e_loop (k + 1) ?_ ?_ ?_ ?_
      · refine ⟨by omega, fun j hj => ?_⟩
        by_cases hjk : j < k
        · exact hz j hjk
        · have : j = k := by omega
          subst this
          rw [hget, h0]
      · show _ - (k + 1) < _ - k; omega
      · exact ⟨rfl, rfl, rfl, rfl, rfl, rfl, trivial⟩
      · exact fun _ h => h
  · simp at hl2
    have hkp : k = padN n := by omega
    subst hkp
    have hany := any_z hz
    repeat (first | refine o_v (k := ?_) | refine c_seq ?_ | refine c_region ?_ | refine o_nil ?_ | refine e_then_normal ?_ | refine o_store (k := ?_) | refine c_true (h1 := ?_) | refine c_false (h1 := ?_) | refine c_ret ?_ | refine c_skip ?_ | refine e_then_ret ?_ | refine c_block ?_ | refine c_exit ?_ | refine e_then_exit ?_ | refine e_block_exit ?_ | refine e_block_normal ?_ | refine e_block_ret ?_ | refine o_box (k := fun _ => ?_) | refine o_alloc (k := fun _ => ?_) | refine e_norm ?_ | refine o_ung (k := ?_) | refine o_k (k := ?_) | refine s_v (k := ?_) | refine s_w (k := ?_) | refine s_k (k := ?_) | refine s_nil ?_ | refine e_block_exit_ne rfl ?_)
    refine o_cuthi0 n (k := ?_)
    have hcl := clone_sub true q q l' 0 n c (by omega) (by omega) (fun b o h _ => by simpa using h)
    simp only [List.drop_zero] at hcl
    repeat (first | refine o_v (k := ?_) | refine c_seq ?_ | refine c_region ?_ | refine o_nil ?_ | refine e_then_normal ?_ | refine o_store (k := ?_) | refine c_true (h1 := ?_) | refine c_false (h1 := ?_) | refine c_ret ?_ | refine c_skip ?_ | refine e_then_ret ?_ | refine c_block ?_ | refine c_exit ?_ | refine e_then_exit ?_ | refine e_block_exit ?_ | refine e_block_normal ?_ | refine e_block_ret ?_ | refine o_box (k := fun _ => ?_) | refine o_alloc (k := fun _ => ?_) | refine e_norm ?_ | refine o_ung (k := ?_) | refine o_k (k := ?_) | refine s_v (k := ?_) | refine s_w (k := ?_) | refine s_k (k := ?_) | refine s_nil ?_ | refine e_block_exit_ne rfl ?_ | (refine o_call (hcl) (k := ?_); rintro v _ rfl; dsimp only [List.cons_append, List.nil_append]))
    refine o_cutlo true q (bys l') (n + padN n) (l'.drop (n + padN n)).length (hm := by simp; omega) (k := fun q' c' hc' hm' => ?_)
    repeat (first | refine o_v (k := ?_) | refine c_seq ?_ | refine c_region ?_ | refine o_nil ?_ | refine e_then_normal ?_ | refine o_store (k := ?_) | refine c_true (h1 := ?_) | refine c_false (h1 := ?_) | refine c_ret ?_ | refine c_skip ?_ | refine e_then_ret ?_ | refine c_block ?_ | refine c_exit ?_ | refine e_then_exit ?_ | refine e_block_exit ?_ | refine e_block_normal ?_ | refine e_block_ret ?_ | refine o_box (k := fun _ => ?_) | refine o_alloc (k := fun _ => ?_) | refine e_norm ?_ | refine o_ung (k := ?_) | refine o_k (k := ?_) | refine s_v (k := ?_) | refine s_w (k := ?_) | refine s_k (k := ?_) | refine s_nil ?_ | refine e_block_exit_ne rfl ?_)
    simp only [Nat.mul_one, bys_drop]
    refine e_fold (rdA b 0 (l'.drop (n + padN n))) (q', c') (hx := by exact ⟨hc', hm'⟩) (k := ?_)
    have hs' : ¬ l'.length < n + padN n := by omega
    exact e_1 (H' := [bufA v (l'.take n), rdA b 0 (l'.drop (n + padN n))]) (h1 := rs_tmp rfl) (hT := by simp [rdText, hr, Int.not_lt.2 hn, hs', hany])
end Go.Proofs.YtlkgdidmhmaneaaGreatDoor
/- slices.Index, slices.Contains, rpc: what they leave. -/
namespace Go.Proofs.YtlkgdidmhmaneaaGreatDoor
open Go Go.RowKit
attribute [local irreducible] Yl OG CG EG SG AG  CellIn CellsIn BlkIn InA TakeA SplitA SubA Ct ResOk Good Held blk cellsA exA

/-- cells of numbers of one kind -/
def nums (k : IntKind) (l : List Int) : List Value := l.map (Value.int k)
@[simp] theorem nums_length (k : IntKind) (l : List Int) : (nums k l).length = l.length := by simp [nums]
theorem nums_get {k : IntKind} {l : List Int} {j : Nat} {c : Int} (h : l[j]? = some c) : (nums k l)[j]? = some (.int k c) := by simp [nums, h]
theorem nums_ne {k : IntKind} {l : List Int} (h : l ≠ []) : nums k l ≠ [] := by cases l <;> simp_all [nums]
theorem not_mem_of_none {l : List Int} {x : Int} (h : ∀ j, j < l.length → l[j]? ≠ some x) : x ∉ l := fun hm => by
  obtain ⟨j, hj⟩ := List.mem_iff_getElem?.1 hm
  exact h j (List.getElem?_eq_some_iff.1 hj).1 hj

set_option maxRecDepth 20000 in
set_option maxHeartbeats 4000000 in
theorem indexU_ok (own : Bool) (q : Option Addr) (l : List Int) (c : Nat) (x : Int) (hl : l.length ≤ 1000000) : Ct Tryz.prog 143 [.slice q l.length c, .int .u32 x] [cellsA own q (nums .u32 l)] (Ret fun u H => ∃ i : Int, (0 ≤ i ↔ x ∈ l) ∧ u = .int .i64 i ∧ H = [cellsA own q (nums .u32 l)]) := by
  refine fn_enter Tryz.func143 rfl Tryz.ntmps143 rfl fun _ _ _ => ?_
  repeat (first | refine o_v (k := ?_) | refine c_seq ?_ | refine c_region ?_ | refine o_nil ?_ | refine e_then_normal ?_ | refine o_store (k := ?_) | refine c_true (h1 := ?_) | refine c_false (h1 := ?_) | refine c_ret ?_ | refine c_skip ?_ | refine e_then_ret ?_ | refine c_block ?_ | refine c_exit ?_ | refine e_then_exit ?_ | refine e_block_exit ?_ | refine e_block_normal ?_ | refine e_block_ret ?_ | refine o_box (k := fun _ => ?_) | refine o_alloc (k := fun _ => ?_) | refine e_norm ?_ | refine o_ung (k := ?_) | refine o_k (k := ?_) | refine s_v (k := ?_) | refine s_w (k := ?_) | refine s_k (k := ?_) | refine s_nil ?_ | refine e_block_exit_ne rfl ?_)
  refine c_loop (α := Nat) (fun k => [(8, .int .i64 k), (0, .slice q l.length c), (7, .int .i64 l.length), (1, .int .u32 x)]) (fun _ => [cellsA own q (nums .u32 l)]) (fun k => k ≤ l.length ∧ ∀ j, j < k → l[j]? ≠ some x) (fun k => l.length - k) 0 ⟨by omega, by omega⟩ ⟨rfl, rfl, rfl, rfl, trivial⟩ (fun _ h => h) ?_
  rintro k ⟨hk, hz⟩
  (try dsimp only at hk ⊢)
  repeat (first | refine o_v (k := ?_) | refine c_seq ?_ | refine c_region ?_ | refine o_nil ?_ | refine e_then_normal ?_ | refine o_store (k := ?_) | refine c_true (h1 := ?_) | refine c_false (h1 := ?_) | refine c_ret ?_ | refine c_skip ?_ | refine e_then_ret ?_ | refine c_block ?_ | refine c_exit ?_ | refine e_then_exit ?_ | refine e_block_exit ?_ | refine e_block_normal ?_ | refine e_block_ret ?_ | refine o_box (k := fun _ => ?_) | refine o_alloc (k := fun _ => ?_) | refine e_norm ?_ | refine o_ung (k := ?_) | refine o_k (k := ?_) | refine s_v (k := ?_) | refine s_w (k := ?_) | refine s_k (k := ?_) | refine s_nil ?_ | refine e_block_exit_ne rfl ?_)
  refine c_if (h1 := fun hl2 => ?_) (h2 := fun hl2 => ?_)
  · simp at hl2
    have hget : l[k]? = some l[k] := List.getElem?_eq_getElem hl2
    repeat (first | refine o_v (k := ?_) | refine c_seq ?_ | refine c_region ?_ | refine o_nil ?_ | refine e_then_normal ?_ | refine o_store (k := ?_) | refine c_true (h1 := ?_) | refine c_false (h1 := ?_) | refine c_ret ?_ | refine c_skip ?_ | refine e_then_ret ?_ | refine c_block ?_ | refine c_exit ?_ | refine e_then_exit ?_ | refine e_block_exit ?_ | refine e_block_normal ?_ | refine e_block_ret ?_ | refine o_box (k := fun _ => ?_) | refine o_alloc (k := fun _ => ?_) | refine e_norm ?_ | refine o_ung (k := ?_) | refine o_k (k := ?_) | refine s_v (k := ?_) | refine s_w (k := ?_) | refine s_k (k := ?_) | refine s_nil ?_ | refine e_block_exit_ne rfl ?_)
    refine o_at own q (nums .u32 l) (nums_ne (by intro h; simp [h] at hl2)) (k := ?_)
    rintro pb po rfl
    repeat (first | refine o_v (k := ?_) | refine c_seq ?_ | refine c_region ?_ | refine o_nil ?_ | refine e_then_normal ?_ | refine o_store (k := ?_) | refine c_true (h1 := ?_) | refine c_false (h1 := ?_) | refine c_ret ?_ | refine c_skip ?_ | refine e_then_ret ?_ | refine c_block ?_ | refine c_exit ?_ | refine e_then_exit ?_ | refine e_block_exit ?_ | refine e_block_normal ?_ | refine e_block_ret ?_ | refine o_box (k := fun _ => ?_) | refine o_alloc (k := fun _ => ?_) | refine e_norm ?_ | refine o_ung (k := ?_) | refine o_k (k := ?_) | refine s_v (k := ?_) | refine s_w (k := ?_) | refine s_k (k := ?_) | refine s_nil ?_ | refine e_block_exit_ne rfl ?_)
    refine o_y (y_load rfl (CellIn.cells InA.here (nums_get hget) (by omega))) rfl ?_
    repeat (first | refine o_v (k := ?_) | refine c_seq ?_ | refine c_region ?_ | refine o_nil ?_ | refine e_then_normal ?_ | refine o_store (k := ?_) | refine c_true (h1 := ?_) | refine c_false (h1 := ?_) | refine c_ret ?_ | refine c_skip ?_ | refine e_then_ret ?_ | refine c_block ?_ | refine c_exit ?_ | refine e_then_exit ?_ | refine e_block_exit ?_ | refine e_block_normal ?_ | refine e_block_ret ?_ | refine o_box (k := fun _ => ?_) | refine o_alloc (k := fun _ => ?_) | refine e_norm ?_ | refine o_ung (k := ?_) | refine o_k (k := ?_) | refine s_v (k := ?_) | refine s_w (k := ?_) | refine s_k (k := ?_) | refine s_nil ?_ | refine e_block_exit_ne rfl ?_)
    refine c_if (h1 := fun hc => ?_) (h2 := fun hc => ?_)
    · repeat (first | refine o_v (k := ?_) | refine c_seq ?_ | refine c_region ?_ | refine o_nil ?_ | refine e_then_normal ?_ | refine o_store (k := ?_) | refine c_true (h1 := ?_) | refine c_false (h1 := ?_) | refine c_ret ?_ | refine c_skip ?_ | refine e_then_ret ?_ | refine c_block ?_ | refine c_exit ?_ | refine e_then_exit ?_ | refine e_block_exit ?_ | refine e_block_normal ?_ | refine e_block_ret ?_ | refine o_box (k := fun _ => ?_) | refine o_alloc (k := fun _ => ?_) | refine e_norm ?_ | refine o_ung (k := ?_) | refine o_k (k := ?_) | refine s_v (k := ?_) | refine s_w (k := ?_) | refine s_k (k := ?_) | refine s_nil ?_ | refine e_block_exit_ne rfl ?_)
      simp at hc
      exact e_1 (H' := [cellsA own (some ⟨pb, po, none⟩) (nums .u32 l)]) (h1 := rs_tmp rfl) (hT := ⟨k, ⟨fun _ => by rw [hc]; exact List.getElem_mem hl2, fun _ => by omega⟩, rfl, rfl⟩)
    · repeat (first | refine o_v (k := ?_) | refine c_seq ?_ | refine c_region ?_ | refine o_nil ?_ | refine e_then_normal ?_ | refine o_store (k := ?_) | refine c_true (h1 := ?_) | refine c_false (h1 := ?_) | refine c_ret ?_ | refine c_skip ?_ | refine e_then_ret ?_ | refine c_block ?_ | refine c_exit ?_ | refine e_then_exit ?_ | refine e_block_exit ?_ | refine e_block_normal ?_ | refine e_block_ret ?_ | refine o_box (k := fun _ => ?_) | refine o_alloc (k := fun _ => ?_) | refine e_norm ?_ | refine o_ung (k := ?_) | refine o_k (k := ?_) | refine s_v (k := ?_) | refine s_w (k := ?_) | refine s_k (k := ?_) | refine s_nil ?_ | refine e_block_exit_ne rfl ?_)
      simp at hc
      refine e_loop (k + 1) ?_ ?_ ?_ ?_
      · refine ⟨by omega, fun j hj => ?_⟩
        by_cases hjk : j < k
        · exact hz j hjk
        · have : j = k := by omega
          subst this
          rw [hget]; intro h; simp only [Option.some.injEq] at h; exact hc h.symm
      · show _ - (k + 1) < _ - k; omega
      · exact ⟨rfl, rfl, rfl, rfl, trivial⟩
      · exact fun _ h => h
  · repeat (first | refine o_v (k := ?_) | refine c_seq ?_ | refine c_region ?_ | refine o_nil ?_ | refine e_then_normal ?_ | refine o_store (k := ?_) | refine c_true (h1 := ?_) | refine c_false (h1 := ?_) | refine c_ret ?_ | refine c_skip ?_ | refine e_then_ret ?_ | refine c_block ?_ | refine c_exit ?_ | refine e_then_exit ?_ | refine e_block_exit ?_ | refine e_block_normal ?_ | refine e_block_ret ?_ | refine o_box (k := fun _ => ?_) | refine o_alloc (k := fun _ => ?_) | refine e_norm ?_ | refine o_ung (k := ?_) | refine o_k (k := ?_) | refine s_v (k := ?_) | refine s_w (k := ?_) | refine s_k (k := ?_) | refine s_nil ?_ | refine e_block_exit_ne rfl ?_)
    simp at hl2
    refine e_1 (H' := [cellsA own q (nums .u32 l)]) (h1 := rs_tmp rfl) (hT := ⟨-1, ⟨fun h => by omega, fun h => ?_⟩, rfl, rfl⟩)
    exact absurd h (not_mem_of_none (fun j hj => hz j (by omega)))

set_option maxRecDepth 20000 in
set_option maxHeartbeats 4000000 in
theorem containsU_ok (own : Bool) (q : Option Addr) (l : List Int) (c : Nat) (x : Int) (hl : l.length ≤ 1000000) : Ct Tryz.prog 110 [.slice q l.length c, .int .u32 x] [cellsA own q (nums .u32 l)] (Ret fun u H => u = .bool (decide (x ∈ l)) ∧ H = [cellsA own q (nums .u32 l)]) := by
  refine fn_enter Tryz.func110 rfl Tryz.ntmps110 rfl fun _ _ _ => ?_
  repeat (first | refine o_v (k := ?_) | refine c_seq ?_ | refine c_region ?_ | refine o_nil ?_ | refine e_then_normal ?_ | refine o_store (k := ?_) | refine c_true (h1 := ?_) | refine c_false (h1 := ?_) | refine c_ret ?_ | refine c_skip ?_ | refine e_then_ret ?_ | refine c_block ?_ | refine c_exit ?_ | refine e_then_exit ?_ | refine e_block_exit ?_ | refine e_block_normal ?_ | refine e_block_ret ?_ | refine o_box (k := fun _ => ?_) | refine o_alloc (k := fun _ => ?_) | refine e_norm ?_ | refine o_ung (k := ?_) | refine o_k (k := ?_) | refine s_v (k := ?_) | refine s_w (k := ?_) | refine s_k (k := ?_) | refine s_nil ?_ | refine e_block_exit_ne rfl ?_)
  refine o_call (indexU_ok own q l c x hl) (k := ?_)
  rintro _ _ ⟨i, hi, rfl, rfl⟩
  dsimp only [List.cons_append, List.nil_append]
  repeat (first | refine o_v (k := ?_) | refine c_seq ?_ | refine c_region ?_ | refine o_nil ?_ | refine e_then_normal ?_ | refine o_store (k := ?_) | refine c_true (h1 := ?_) | refine c_false (h1 := ?_) | refine c_ret ?_ | refine c_skip ?_ | refine e_then_ret ?_ | refine c_block ?_ | refine c_exit ?_ | refine e_then_exit ?_ | refine e_block_exit ?_ | refine e_block_normal ?_ | refine e_block_ret ?_ | refine o_box (k := fun _ => ?_) | refine o_alloc (k := fun _ => ?_) | refine e_norm ?_ | refine o_ung (k := ?_) | refine o_k (k := ?_) | refine s_v (k := ?_) | refine s_w (k := ?_) | refine s_k (k := ?_) | refine s_nil ?_ | refine e_block_exit_ne rfl ?_)
  exact e_1 (H' := [cellsA own q (nums .u32 l)]) (h1 := rs_tmp rfl) (hT := ⟨by rw [decide_eq_decide.2 hi], rfl⟩)
set_option maxRecDepth 20000 in
set_option maxHeartbeats 4000000 in
theorem indexI_ok (own : Bool) (q : Option Addr) (l : List Int) (c : Nat) (x : Int) (hl : l.length ≤ 1000000) : Ct Tryz.prog 71 [.slice q l.length c, .int .i64 x] [cellsA own q (nums .i64 l)] (Ret fun u H => ∃ i : Int, (0 ≤ i ↔ x ∈ l) ∧ u = .int .i64 i ∧ H = [cellsA own q (nums .i64 l)]) := by
  refine fn_enter Tryz.func71 rfl Tryz.ntmps71 rfl fun _ _ _ => ?_
  repeat (first | refine o_v (k := ?_) | refine c_seq ?_ | refine c_region ?_ | refine o_nil ?_ | refine e_then_normal ?_ | refine o_store (k := ?_) | refine c_true (h1 := ?_) | refine c_false (h1 := ?_) | refine c_ret ?_ | refine c_skip ?_ | refine e_then_ret ?_ | refine c_block ?_ | refine c_exit ?_ | refine e_then_exit ?_ | refine e_block_exit ?_ | refine e_block_normal ?_ | refine e_block_ret ?_ | refine o_box (k := fun _ => ?_) | refine o_alloc (k := fun _ => ?_) | refine e_norm ?_ | refine o_ung (k := ?_) | refine o_k (k := ?_) | refine s_v (k := ?_) | refine s_w (k := ?_) | refine s_k (k := ?_) | refine s_nil ?_ | refine e_block_exit_ne rfl ?_)
  refine c_loop (α := Nat) (fun k => [(8, .int .i64 k), (0, .slice q l.length c), (7, .int .i64 l.length), (1, .int .i64 x)]) (fun _ => [cellsA own q (nums .i64 l)]) (fun k => k ≤ l.length ∧ ∀ j, j < k → l[j]? ≠ some x) (fun k => l.length - k) 0 ⟨by omega, by omega⟩ ⟨rfl, rfl, rfl, rfl, trivial⟩ (fun _ h => h) ?_
  rintro k ⟨hk, hz⟩
  (try dsimp only at hk ⊢)
  repeat (first | refine o_v (k := ?_) | refine c_seq ?_ | refine c_region ?_ | refine o_nil ?_ | refine e_then_normal ?_ | refine o_store (k := ?_) | refine c_true (h1 := ?_) | refine c_false (h1 := ?_) | refine c_ret ?_ | refine c_skip ?_ | refine e_then_ret ?_ | refine c_block ?_ | refine c_exit ?_ | refine e_then_exit ?_ | refine e_block_exit ?_ | refine e_block_normal ?_ | refine e_block_ret ?_ | refine o_box (k := fun _ => ?_) | refine o_alloc (k := fun _ => ?_) | refine e_norm ?_ | refine o_ung (k := ?_) | refine o_k (k := ?_) | refine s_v (k := ?_) | refine s_w (k := ?_) | refine s_k (k := ?_) | refine s_nil ?_ | refine e_block_exit_ne rfl ?_)
  refine c_if (h1 := fun hl2 => ?_) (h2 := fun hl2 => ?_)
  · simp at hl2
    have hget : l[k]? = some l[k] := List.getElem?_eq_getElem hl2
    repeat (first | refine o_v (k := ?_) | refine c_seq ?_ | refine c_region ?_ | refine o_nil ?_ | refine e_then_normal ?_ | refine o_store (k := ?_) | refine c_true (h1 := ?_) | refine c_false (h1 := ?_) | refine c_ret ?_ | refine c_skip ?_ | refine e_then_ret ?_ | refine c_block ?_ | refine c_exit ?_ | refine e_then_exit ?_ | refine e_block_exit ?_ | refine e_block_normal ?_ | refine e_block_ret ?_ | refine o_box (k := fun _ => ?_) | refine o_alloc (k := fun _ => ?_) | refine e_norm ?_ | refine o_ung (k := ?_) | refine o_k (k := ?_) | refine s_v (k := ?_) | refine s_w (k := ?_) | refine s_k (k := ?_) | refine s_nil ?_ | refine e_block_exit_ne rfl ?_)
    refine o_at own q (nums .i64 l) (nums_ne (by intro h; simp [h] at hl2)) (k := ?_)
    rintro pb po rfl
    repeat (first | refine o_v (k := ?_) | refine c_seq ?_ | refine c_region ?_ | refine o_nil ?_ | refine e_then_normal ?_ | refine o_store (k := ?_) | refine c_true (h1 := ?_) | refine c_false (h1 := ?_) | refine c_ret ?_ | refine c_skip ?_ | refine e_then_ret ?_ | refine c_block ?_ | refine c_exit ?_ | refine e_then_exit ?_ | refine e_block_exit ?_ | refine e_block_normal ?_ | refine e_block_ret ?_ | refine o_box (k := fun _ => ?_) | refine o_alloc (k := fun _ => ?_) | refine e_norm ?_ | refine o_ung (k := ?_) | refine o_k (k := ?_) | refine s_v (k := ?_) | refine s_w (k := ?_) | refine s_k (k := ?_) | refine s_nil ?_ | refine e_block_exit_ne rfl ?_)
    refine o_y (y_load rfl (CellIn.cells InA.here (nums_get hget) (by omega))) rfl ?_
    repeat (first | refine o_v (k := ?_) | refine c_seq ?_ | refine c_region ?_ | refine o_nil ?_ | refine e_then_normal ?_ | refine o_store (k := ?_) | refine c_true (h1 := ?_) | refine c_false (h1 := ?_) | refine c_ret ?_ | refine c_skip ?_ | refine e_then_ret ?_ | refine c_block ?_ | refine c_exit ?_ | refine e_then_exit ?_ | refine e_block_exit ?_ | refine e_block_normal ?_ | refine e_block_ret ?_ | refine o_box (k := fun _ => ?_) | refine o_alloc (k := fun _ => ?_) | refine e_norm ?_ | refine o_ung (k := ?_) | refine o_k (k := ?_) | refine s_v (k := ?_) | refine s_w (k := ?_) | refine s_k (k := ?_) | refine s_nil ?_ | refine e_block_exit_ne rfl ?_)
    refine c_if (h1 := fun hc => ?_) (h2 := fun hc => ?_)
    · repeat (first | refine o_v (k := ?_) | refine c_seq ?_ | refine c_region ?_ | refine o_nil ?_ | refine e_then_normal ?_ | refine o_store (k := ?_) | refine c_true (h1 := ?_) | refine c_false (h1 := ?_) | refine c_ret ?_ | refine c_skip ?_ | refine e_then_ret ?_ | refine c_block ?_ | refine c_exit ?_ | refine e_then_exit ?_ | refine e_block_exit ?_ | refine e_block_normal ?_ | refine e_block_ret ?_ | refine o_box (k := fun _ => ?_) | refine o_alloc (k := fun _ => ?_) | refine e_norm ?_ | refine o_ung (k := ?_) | refine o_k (k := ?_) | refine s_v (k := ?_) | refine s_w (k := ?_) | refine s_k (k := ?_) | refine s_nil ?_ | refine e_block_exit_ne rfl ?_)
      simp at hc
      exact e_1 (H' := [cellsA own (some ⟨pb, po, none⟩) (nums .i64 l)]) (h1 := rs_tmp rfl) (hT := ⟨k, ⟨fun _ => by rw [hc]; exact List.getElem_mem hl2, fun _ => by omega⟩, rfl, rfl⟩)
    · repeat (first | refine o_v (k := ?_) | refine c_seq ?_ | refine c_region ?_ | refine o_nil ?_ | refine e_then_normal ?_ | refine o_store (k := ?_) | refine c_true (h1 := ?_) | refine c_false (h1 := ?_) | refine c_ret ?_ | refine c_skip ?_ | refine e_then_ret ?_ | refine c_block ?_ | refine c_exit ?_ | refine e_then_exit ?_ | refine e_block_exit ?_ | refine e_block_normal ?_ | refine e_block_ret ?_ | refine o_box (k := fun _ => ?_) | refine o_alloc (k := fun _ => ?_) | refine e_norm ?_ | refine o_ung (k := ?_) | refine o_k (k := ?_) | refine s_v (k := ?_) | refine s_w (k := ?_) | refine s_k (k := ?_) | refine s_nil ?_ | refine e_block_exit_ne rfl ?_)
      simp at hc
      refine e_loop (k + 1) ?_ ?_ ?_ ?_
      · refine ⟨by omega, fun j hj => ?_⟩
        by_cases hjk : j < k
        · exact hz j hjk
        · have : j = k := by omega
          subst this
          rw [hget]; intro h; simp only [Option.some.injEq] at h; exact hc h.symm
      · show _ - (k + 1) < _ - k; omega
      · exact ⟨rfl, rfl, rfl, rfl, trivial⟩
      · exact fun _ h => h
  · repeat (first | refine o_v (k := ?_) | refine c_seq ?_ | refine c_region ?_ | refine o_nil ?_ | refine e_then_normal ?_ | refine o_store (k := ?_) | refine c_true (h1 := ?_) | refine c_false (h1 := ?_) | refine c_ret ?_ | refine c_skip ?_ | refine e_then_ret ?_ | refine c_block ?_ | refine c_exit ?_ | refine e_then_exit ?_ | refine e_block_exit ?_ | refine e_block_normal ?_ | refine e_block_ret ?_ | refine o_box (k := fun _ => ?_) | refine o_alloc (k := fun _ => ?_) | refine e_norm ?_ | refine o_ung (k := ?_) | refine o_k (k := ?_) | refine s_v (k := ?_) | refine s_w (k := ?_) | refine s_k (k := ?_) | refine s_nil ?_ | refine e_block_exit_ne rfl ?_)
    simp at hl2
    refine e_1 (H' := [cellsA own q (nums .i64 l)]) (h1 := rs_tmp rfl) (hT := ⟨-1, ⟨fun h => by omega, fun h => ?_⟩, rfl, rfl⟩)
    exact absurd h (not_mem_of_none (fun j hj => hz j (by omega)))

set_option maxRecDepth 20000 in
set_option maxHeartbeats 4000000 in
theorem containsI_ok (own : Bool) (q : Option Addr) (l : List Int) (c : Nat) (x : Int) (hl : l.length ≤ 1000000) : Ct Tryz.prog 38 [.slice q l.length c, .int .i64 x] [cellsA own q (nums .i64 l)] (Ret fun u H => u = .bool (decide (x ∈ l)) ∧ H = [cellsA own q (nums .i64 l)]) := by
  refine fn_enter Tryz.func38 rfl Tryz.ntmps38 rfl fun _ _ _ => ?_
  repeat (first | refine o_v (k := ?_) | refine c_seq ?_ | refine c_region ?_ | refine o_nil ?_ | refine e_then_normal ?_ | refine o_store (k := ?_) | refine c_true (h1 := ?_) | refine c_false (h1 := ?_) | refine c_ret ?_ | refine c_skip ?_ | refine e_then_ret ?_ | refine c_block ?_ | refine c_exit ?_ | refine e_then_exit ?_ | refine e_block_exit ?_ | refine e_block_normal ?_ | refine e_block_ret ?_ | refine o_box (k := fun _ => ?_) | refine o_alloc (k := fun _ => ?_) | refine e_norm ?_ | refine o_ung (k := ?_) | refine o_k (k := ?_) | refine s_v (k := ?_) | refine s_w (k := ?_) | refine s_k (k := ?_) | refine s_nil ?_ | refine e_block_exit_ne rfl ?_)
  refine o_call (indexI_ok own q l c x hl) (k := ?_)
  rintro _ _ ⟨i, hi, rfl, rfl⟩
  dsimp only [List.cons_append, List.nil_append]
  repeat (first | refine o_v (k := ?_) | refine c_seq ?_ | refine c_region ?_ | refine o_nil ?_ | refine e_then_normal ?_ | refine o_store (k := ?_) | refine c_true (h1 := ?_) | refine c_false (h1 := ?_) | refine c_ret ?_ | refine c_skip ?_ | refine e_then_ret ?_ | refine c_block ?_ | refine c_exit ?_ | refine e_then_exit ?_ | refine e_block_exit ?_ | refine e_block_normal ?_ | refine e_block_ret ?_ | refine o_box (k := fun _ => ?_) | refine o_alloc (k := fun _ => ?_) | refine e_norm ?_ | refine o_ung (k := ?_) | refine o_k (k := ?_) | refine s_v (k := ?_) | refine s_w (k := ?_) | refine s_k (k := ?_) | refine s_nil ?_ | refine e_block_exit_ne rfl ?_)
  exact e_1 (H' := [cellsA own q (nums .i64 l)]) (h1 := rs_tmp rfl) (hT := ⟨by rw [decide_eq_decide.2 hi], rfl⟩)
set_option maxRecDepth 20000 in
set_option maxHeartbeats 4000000 in
theorem indexE_ok (own : Bool) (q : Option Addr) (l : List Int) (c : Nat) (x : Int) (hl : l.length ≤ 1000000) : Ct Tryz.prog 144 [.slice q l.length c, .int .i64 x] [cellsA own q (nums .i64 l)] (Ret fun u H => ∃ i : Int, (0 ≤ i ↔ x ∈ l) ∧ u = .int .i64 i ∧ H = [cellsA own q (nums .i64 l)]) := by
  refine fn_enter Tryz.func144 rfl Tryz.ntmps144 rfl fun _ _ _ => ?_
  repeat (first | refine o_v (k := ?_) | refine c_seq ?_ | refine c_region ?_ | refine o_nil ?_ | refine e_then_normal ?_ | refine o_store (k := ?_) | refine c_true (h1 := ?_) | refine c_false (h1 := ?_) | refine c_ret ?_ | refine c_skip ?_ | refine e_then_ret ?_ | refine c_block ?_ | refine c_exit ?_ | refine e_then_exit ?_ | refine e_block_exit ?_ | refine e_block_normal ?_ | refine e_block_ret ?_ | refine o_box (k := fun _ => ?_) | refine o_alloc (k := fun _ => ?_) | refine e_norm ?_ | refine o_ung (k := ?_) | refine o_k (k := ?_) | refine s_v (k := ?_) | refine s_w (k := ?_) | refine s_k (k := ?_) | refine s_nil ?_ | refine e_block_exit_ne rfl ?_)
  refine c_loop (α := Nat) (fun k => [(8, .int .i64 k), (0, .slice q l.length c), (7, .int .i64 l.length), (1, .int .i64 x)]) (fun _ => [cellsA own q (nums .i64 l)]) (fun k => k ≤ l.length ∧ ∀ j, j < k → l[j]? ≠ some x) (fun k => l.length - k) 0 ⟨by omega, by omega⟩ ⟨rfl, rfl, rfl, rfl, trivial⟩ (fun _ h => h) ?_
  rintro k ⟨hk, hz⟩
  (try dsimp only at hk ⊢)
  repeat (first | refine o_v (k := ?_) | refine c_seq ?_ | refine c_region ?_ | refine o_nil ?_ | refine e_then_normal ?_ | refine o_store (k := ?_) | refine c_true (h1 := ?_) | refine c_false (h1 := ?_) | refine c_ret ?_ | refine c_skip ?_ | refine e_then_ret ?_ | refine c_block ?_ | refine c_exit ?_ | refine e_then_exit ?_ | refine e_block_exit ?_ | refine e_block_normal ?_ | refine e_block_ret ?_ | refine o_box (k := fun _ => ?_) | refine o_alloc (k := fun _ => ?_) | refine e_norm ?_ | refine o_ung (k := ?_) | refine o_k (k := ?_) | refine s_v (k := ?_) | refine s_w (k := ?_) | refine s_k (k := ?_) | refine s_nil ?_ | refine e_block_exit_ne rfl ?_)
  refine c_if (h1 := fun hl2 => ?_) (h2 := fun hl2 => ?_)
  · simp at hl2
    have hget : l[k]? = some l[k] := List.getElem?_eq_getElem hl2
    repeat (first | refine o_v (k := ?_) | refine c_seq ?_ | refine c_region ?_ | refine o_nil ?_ | refine e_then_normal ?_ | refine o_store (k := ?_) | refine c_true (h1 := ?_) | refine c_false (h1 := ?_) | refine c_ret ?_ | refine c_skip ?_ | refine e_then_ret ?_ | refine c_block ?_ | refine c_exit ?_ | refine e_then_exit ?_ | refine e_block_exit ?_ | refine e_block_normal ?_ | refine e_block_ret ?_ | refine o_box (k := fun _ => ?_) | refine o_alloc (k := fun _ => ?_) | refine e_norm ?_ | refine o_ung (k := ?_) | refine o_k (k := ?_) | refine s_v (k := ?_) | refine s_w (k := ?_) | refine s_k (k := ?_) | refine s_nil ?_ | refine e_block_exit_ne rfl ?_)
    refine o_at own q (nums .i64 l) (nums_ne (by intro h; simp [h] at hl2)) (k := ?_)
    rintro pb po rfl
    repeat (first | refine o_v (k := ?_) | refine c_seq ?_ | refine c_region ?_ | refine o_nil ?_ | refine e_then_normal ?_ | refine o_store (k := ?_) | refine c_true (h1 := ?_) | refine c_false (h1 := ?_) | refine c_ret ?_ | refine c_skip ?_ | refine e_then_ret ?_ | refine c_block ?_ | refine c_exit ?_ | refine e_then_exit ?_ | refine e_block_exit ?_ | refine e_block_normal ?_ | refine e_block_ret ?_ | refine o_box (k := fun _ => ?_) | refine o_alloc (k := fun _ => ?_) | refine e_norm ?_ | refine o_ung (k := ?_) | refine o_k (k := ?_) | refine s_v (k := ?_) | refine s_w (k := ?_) | refine s_k (k := ?_) | refine s_nil ?_ | refine e_block_exit_ne rfl ?_)
    refine o_y (y_load rfl (CellIn.cells InA.here (nums_get hget) (by omega))) rfl ?_
    repeat (first | refine o_v (k := ?_) | refine c_seq ?_ | refine c_region ?_ | refine o_nil ?_ | refine e_then_normal ?_ | refine o_store (k := ?_) | refine c_true (h1 := ?_) | refine c_false (h1 := ?_) | refine c_ret ?_ | refine c_skip ?_ | refine e_then_ret ?_ | refine c_block ?_ | refine c_exit ?_ | refine e_then_exit ?_ | refine e_block_exit ?_ | refine e_block_normal ?_ | refine e_block_ret ?_ | refine o_box (k := fun _ => ?_) | refine o_alloc (k := fun _ => ?_) | refine e_norm ?_ | refine o_ung (k := ?_) | refine o_k (k := ?_) | refine s_v (k := ?_) | refine s_w (k := ?_) | refine s_k (k := ?_) | refine s_nil ?_ | refine e_block_exit_ne rfl ?_)
    refine c_if (h1 := fun hc => ?_) (h2 := fun hc => ?_)
    · repeat (first | refine o_v (k := ?_) | refine c_seq ?_ | refine c_region ?_ | refine o_nil ?_ | refine e_then_normal ?_ | refine o_store (k := ?_) | refine c_true (h1 := ?_) | refine c_false (h1 := ?_) | refine c_ret ?_ | refine c_skip ?_ | refine e_then_ret ?_ | refine c_block ?_ | refine c_exit ?_ | refine e_then_exit ?_ | refine e_block_exit ?_ | refine e_block_normal ?_ | refine e_block_ret ?_ | refine o_box (k := fun _ => ?_) | refine o_alloc (k := fun _ => ?_) | refine e_norm ?_ | refine o_ung (k := ?_) | refine o_k (k := ?_) | refine s_v (k := ?_) | refine s_w (k := ?_) | refine s_k (k := ?_) | refine s_nil ?_ | refine e_block_exit_ne rfl ?_)
      simp at hc
      exact e_1 (H' := [cellsA own (some ⟨pb, po, none⟩) (nums .i64 l)]) (h1 := rs_tmp rfl) (hT := ⟨k, ⟨fun _ => by rw [hc]; exact List.getElem_mem hl2, fun _ => by omega⟩, rfl, rfl⟩)
    · repeat (first | refine o_v (k := ?_) | refine c_seq ?_ | refine c_region ?_ | refine o_nil ?_ | refine e_then_normal ?_ | refine o_store (k := ?_) | refine c_true (h1 := ?_) | refine c_false (h1 := ?_) | refine c_ret ?_ | refine c_skip ?_ | refine e_then_ret ?_ | refine c_block ?_ | refine c_exit ?_ | refine e_then_exit ?_ | refine e_block_exit ?_ | refine e_block_normal ?_ | refine e_block_ret ?_ | refine o_box (k := fun _ => ?_) | refine o_alloc (k := fun _ => ?_) | refine e_norm ?_ | refine o_ung (k := ?_) | refine o_k (k := ?_) | refine s_v (k := ?_) | refine s_w (k := ?_) | refine s_k (k := ?_) | refine s_nil ?_ | refine e_block_exit_ne rfl ?_)
      simp at hc
      refine e_loop (k + 1) ?_ ?_ ?_ ?_
      · refine ⟨by omega, fun j hj => ?_⟩
        by_cases hjk : j < k
        · exact hz j hjk
        · have : j = k := by omega
          subst this
          rw [hget]; intro h; simp only [Option.some.injEq] at h; exact hc h.symm
      · show _ - (k + 1) < _ - k; omega
      · exact ⟨rfl, rfl, rfl, rfl, trivial⟩
      · exact fun _ h => h
  · repeat (first | refine o_v (k := ?_) | refine c_seq ?_ | refine c_region ?_ | refine o_nil ?_ | refine e_then_normal ?_ | refine o_store (k := ?_) | refine c_true (h1 := ?_) | refine c_false (h1 := ?_) | refine c_ret ?_ | refine c_skip ?_ | refine e_then_ret ?_ | refine c_block ?_ | refine c_exit ?_ | refine e_then_exit ?_ | refine e_block_exit ?_ | refine e_block_normal ?_ | refine e_block_ret ?_ | refine o_box (k := fun _ => ?_) | refine o_alloc (k := fun _ => ?_) | refine e_norm ?_ | refine o_ung (k := ?_) | refine o_k (k := ?_) | refine s_v (k := ?_) | refine s_w (k := ?_) | refine s_k (k := ?_) | refine s_nil ?_ | refine e_block_exit_ne rfl ?_)
    simp at hl2
    refine e_1 (H' := [cellsA own q (nums .i64 l)]) (h1 := rs_tmp rfl) (hT := ⟨-1, ⟨fun h => by omega, fun h => ?_⟩, rfl, rfl⟩)
    exact absurd h (not_mem_of_none (fun j hj => hz j (by omega)))

set_option maxRecDepth 20000 in
set_option maxHeartbeats 4000000 in
theorem containsE_ok (own : Bool) (q : Option Addr) (l : List Int) (c : Nat) (x : Int) (hl : l.length ≤ 1000000) : Ct Tryz.prog 112 [.slice q l.length c, .int .i64 x] [cellsA own q (nums .i64 l)] (Ret fun u H => u = .bool (decide (x ∈ l)) ∧ H = [cellsA own q (nums .i64 l)]) := by
  refine fn_enter Tryz.func112 rfl Tryz.ntmps112 rfl fun _ _ _ => ?_
  repeat (first | refine o_v (k := ?_) | refine c_seq ?_ | refine c_region ?_ | refine o_nil ?_ | refine e_then_normal ?_ | refine o_store (k := ?_) | refine c_true (h1 := ?_) | refine c_false (h1 := ?_) | refine c_ret ?_ | refine c_skip ?_ | refine e_then_ret ?_ | refine c_block ?_ | refine c_exit ?_ | refine e_then_exit ?_ | refine e_block_exit ?_ | refine e_block_normal ?_ | refine e_block_ret ?_ | refine o_box (k := fun _ => ?_) | refine o_alloc (k := fun _ => ?_) | refine e_norm ?_ | refine o_ung (k := ?_) | refine o_k (k := ?_) | refine s_v (k := ?_) | refine s_w (k := ?_) | refine s_k (k := ?_) | refine s_nil ?_ | refine e_block_exit_ne rfl ?_)
  refine o_call (indexE_ok own q l c x hl) (k := ?_)
  rintro _ _ ⟨i, hi, rfl, rfl⟩
  dsimp only [List.cons_append, List.nil_append]
  repeat (first | refine o_v (k := ?_) | refine c_seq ?_ | refine c_region ?_ | refine o_nil ?_ | refine e_then_normal ?_ | refine o_store (k := ?_) | refine c_true (h1 := ?_) | refine c_false (h1 := ?_) | refine c_ret ?_ | refine c_skip ?_ | refine e_then_ret ?_ | refine c_block ?_ | refine c_exit ?_ | refine e_then_exit ?_ | refine e_block_exit ?_ | refine e_block_normal ?_ | refine e_block_ret ?_ | refine o_box (k := fun _ => ?_) | refine o_alloc (k := fun _ => ?_) | refine e_norm ?_ | refine o_ung (k := ?_) | refine o_k (k := ?_) | refine s_v (k := ?_) | refine s_w (k := ?_) | refine s_k (k := ?_) | refine s_nil ?_ | refine e_block_exit_ne rfl ?_)
  exact e_1 (H' := [cellsA own q (nums .i64 l)]) (h1 := rs_tmp rfl) (hT := ⟨by rw [decide_eq_decide.2 hi], rfl⟩)

/-! ### rpc -/
/-- a reading: where, whether something is wrong, the reader's error, what is left -/
structure RdS where
  at_ : Nat
  wrong : Bool
  e : Int
  l : List UInt8
def nextS (s : RdS) (may : List Int) : Nat × RdS :=
  if s.wrong then (0, s)
  else if (rdNum s.e s.l 4).2.1 ≠ 0 then (0, ⟨s.at_, true, (rdNum s.e s.l 4).2.1, (rdNum s.e s.l 4).2.2⟩)
  else if may ≠ [] ∧ ((rdNum s.e s.l 4).1 : Int) ∉ may then (0, ⟨s.at_, true, (rdNum s.e s.l 4).2.1, (rdNum s.e s.l 4).2.2⟩)
  else ((rdNum s.e s.l 4).1, ⟨s.at_ + 4, false, (rdNum s.e s.l 4).2.1, (rdNum s.e s.l 4).2.2⟩)
/-- a reading's block and its reader -/
def rgL (g b : Nat) (fq : Option Addr) (s : RdS) : List Ast := [blk g 148 [.pointer (some ⟨b, 0, none⟩), .int .i64 s.at_, .pointer fq] (0, 0), rdA b s.e s.l]

set_option maxRecDepth 20000 in
set_option maxHeartbeats 4000000 in
theorem next_ok (g b : Nat) (fq : Option Addr) (s : RdS) (hf : fq.isSome = s.wrong) (own : Bool) (q : Option Addr) (may : List Int) (c : Nat) (hl : may.length ≤ 1000000) (ha : s.at_ ≤ 1000000) : Ct Tryz.prog 69 [.pointer (some ⟨g, 0, none⟩), .slice q may.length c] [blk g 148 [.pointer (some ⟨b, 0, none⟩), .int .i64 s.at_, .pointer fq] (0, 0), rdA b s.e s.l, cellsA own q (nums .u32 may)]
    (Ret fun u H => ∃ x s' fq', nextS s may = (x, s') ∧ fq'.isSome = s'.wrong ∧ u = .int .u32 x ∧ H = [blk g 148 [.pointer (some ⟨b, 0, none⟩), .int .i64 s'.at_, .pointer fq'] (0, 0), rdA b s'.e s'.l]) := by
  refine fn_enter Tryz.func69 rfl Tryz.ntmps69 rfl fun _ _ _ => ?_
  obtain ⟨a, wr, e, l⟩ := s
  dsimp only at hf ha ⊢
  repeat (first | refine o_v (k := ?_) | refine c_seq ?_ | refine c_region ?_ | refine o_nil ?_ | refine e_then_normal ?_ | refine o_store (k := ?_) | refine c_true (h1 := ?_) | refine c_false (h1 := ?_) | refine c_ret ?_ | refine c_skip ?_ | refine e_then_ret ?_ | refine c_block ?_ | refine c_exit ?_ | refine e_then_exit ?_ | refine e_block_exit ?_ | refine e_block_normal ?_ | refine e_block_ret ?_ | refine o_box (k := fun _ => ?_) | refine o_alloc (k := fun _ => ?_) | refine e_norm ?_ | refine o_ung (k := ?_) | refine o_k (k := ?_) | refine s_v (k := ?_) | refine s_w (k := ?_) | refine s_k (k := ?_) | refine s_nil ?_ | refine e_block_exit_ne rfl ?_)
  refine c_if (h1 := fun hw => ?_) (h2 := fun hw => ?_)
  · repeat (first | refine o_v (k := ?_) | refine c_seq ?_ | refine c_region ?_ | refine o_nil ?_ | refine e_then_normal ?_ | refine o_store (k := ?_) | refine c_true (h1 := ?_) | refine c_false (h1 := ?_) | refine c_ret ?_ | refine c_skip ?_ | refine e_then_ret ?_ | refine c_block ?_ | refine c_exit ?_ | refine e_then_exit ?_ | refine e_block_exit ?_ | refine e_block_normal ?_ | refine e_block_ret ?_ | refine o_box (k := fun _ => ?_) | refine o_alloc (k := fun _ => ?_) | refine e_norm ?_ | refine o_ung (k := ?_) | refine o_k (k := ?_) | refine s_v (k := ?_) | refine s_w (k := ?_) | refine s_k (k := ?_) | refine s_nil ?_ | refine e_block_exit_ne rfl ?_)
    have : wr = true := by rw [← hf]; exact hw
    subst this
    exact e_1 (h1 := rs_tmp rfl) (hT := ⟨0, ⟨a, true, e, l⟩, fq, by simp [nextS], hf, rfl, rfl⟩)
  have : wr = false := by rw [← hf]; exact hw
  subst this
  repeat (first | refine o_v (k := ?_) | refine c_seq ?_ | refine c_region ?_ | refine o_nil ?_ | refine e_then_normal ?_ | refine o_store (k := ?_) | refine c_true (h1 := ?_) | refine c_false (h1 := ?_) | refine c_ret ?_ | refine c_skip ?_ | refine e_then_ret ?_ | refine c_block ?_ | refine c_exit ?_ | refine e_then_exit ?_ | refine e_block_exit ?_ | refine e_block_normal ?_ | refine e_block_ret ?_ | refine o_box (k := fun _ => ?_) | refine o_alloc (k := fun _ => ?_) | refine e_norm ?_ | refine o_ung (k := ?_) | refine o_k (k := ?_) | refine s_v (k := ?_) | refine s_w (k := ?_) | refine s_k (k := ?_) | refine s_nil ?_ | refine e_block_exit_ne rfl ?_ | (refine o_call (rdU32_ok _ _ _) (k := ?_); rintro _ _ ⟨rfl, rfl⟩; dsimp only [List.cons_append, List.nil_append]) | (refine o_call (errno_ok _ _ _) (k := ?_); rintro _ _ ⟨rfl, rfl⟩; dsimp only [List.cons_append, List.nil_append]))
  obtain ⟨n, e', l', hr⟩ : ∃ n e' l', rdNum e l 4 = (n, e', l') := ⟨_, _, _, rfl⟩
  simp only [hr]
  refine c_if (h1 := fun he => ?_) (h2 := fun he => ?_)
  · repeat (first | refine o_v (k := ?_) | refine c_seq ?_ | refine c_region ?_ | refine o_nil ?_ | refine e_then_normal ?_ | refine o_store (k := ?_) | refine c_true (h1 := ?_) | refine c_false (h1 := ?_) | refine c_ret ?_ | refine c_skip ?_ | refine e_then_ret ?_ | refine c_block ?_ | refine c_exit ?_ | refine e_then_exit ?_ | refine e_block_exit ?_ | refine e_block_normal ?_ | refine e_block_ret ?_ | refine o_box (k := fun _ => ?_) | refine o_alloc (k := fun _ => ?_) | refine e_norm ?_ | refine o_ung (k := ?_) | refine o_k (k := ?_) | refine s_v (k := ?_) | refine s_w (k := ?_) | refine s_k (k := ?_) | refine s_nil ?_ | refine e_block_exit_ne rfl ?_)
    rename_i fb
    simp at he
    exact e_1 (h1 := rs_tmp rfl) (hT := ⟨0, ⟨a, true, e', l'⟩, some ⟨fb, 0, none⟩, by simp [nextS, hr, he], rfl, rfl, rfl⟩)
  simp at he
  subst he
  repeat (first | refine o_v (k := ?_) | refine c_seq ?_ | refine c_region ?_ | refine o_nil ?_ | refine e_then_normal ?_ | refine o_store (k := ?_) | refine c_true (h1 := ?_) | refine c_false (h1 := ?_) | refine c_ret ?_ | refine c_skip ?_ | refine e_then_ret ?_ | refine c_block ?_ | refine c_exit ?_ | refine e_then_exit ?_ | refine e_block_exit ?_ | refine e_block_normal ?_ | refine e_block_ret ?_ | refine o_box (k := fun _ => ?_) | refine o_alloc (k := fun _ => ?_) | refine e_norm ?_ | refine o_ung (k := ?_) | refine o_k (k := ?_) | refine s_v (k := ?_) | refine s_w (k := ?_) | refine s_k (k := ?_) | refine s_nil ?_ | refine e_block_exit_ne rfl ?_)
  refine o_bool 39 rfl (fun hm => ?_) (fun hm => ?_)
  · repeat (first | refine o_v (k := ?_) | refine c_seq ?_ | refine c_region ?_ | refine o_nil ?_ | refine e_then_normal ?_ | refine o_store (k := ?_) | refine c_true (h1 := ?_) | refine c_false (h1 := ?_) | refine c_ret ?_ | refine c_skip ?_ | refine e_then_ret ?_ | refine c_block ?_ | refine c_exit ?_ | refine e_then_exit ?_ | refine e_block_exit ?_ | refine e_block_normal ?_ | refine e_block_ret ?_ | refine o_box (k := fun _ => ?_) | refine o_alloc (k := fun _ => ?_) | refine e_norm ?_ | refine o_ung (k := ?_) | refine o_k (k := ?_) | refine s_v (k := ?_) | refine s_w (k := ?_) | refine s_k (k := ?_) | refine s_nil ?_ | refine e_block_exit_ne rfl ?_ | (refine o_call (containsU_ok own q may c _ hl) (k := ?_); rintro _ _ ⟨rfl, rfl⟩; dsimp only [List.cons_append, List.nil_append]))
    simp at hm
    refine c_if (h1 := fun hc => ?_) (h2 := fun hc => ?_)
    · repeat (first | refine o_v (k := ?_) | refine c_seq ?_ | refine c_region ?_ | refine o_nil ?_ | refine e_then_normal ?_ | refine o_store (k := ?_) | refine c_true (h1 := ?_) | refine c_false (h1 := ?_) | refine c_ret ?_ | refine c_skip ?_ | refine e_then_ret ?_ | refine c_block ?_ | refine c_exit ?_ | refine e_then_exit ?_ | refine e_block_exit ?_ | refine e_block_normal ?_ | refine e_block_ret ?_ | refine o_box (k := fun _ => ?_) | refine o_alloc (k := fun _ => ?_) | refine e_norm ?_ | refine o_ung (k := ?_) | refine o_k (k := ?_) | refine s_v (k := ?_) | refine s_w (k := ?_) | refine s_k (k := ?_) | refine s_nil ?_ | refine e_block_exit_ne rfl ?_)
      rename_i fb
      simp at hc
      exact e_1 (h1 := rs_tmp rfl) (hT := ⟨0, ⟨a, true, 0, l'⟩, some ⟨fb, 0, none⟩, by simp [nextS, hr, hc, List.ne_nil_of_length_pos hm], rfl, rfl, rfl⟩)
    · repeat (first | refine o_v (k := ?_) | refine c_seq ?_ | refine c_region ?_ | refine o_nil ?_ | refine e_then_normal ?_ | refine o_store (k := ?_) | refine c_true (h1 := ?_) | refine c_false (h1 := ?_) | refine c_ret ?_ | refine c_skip ?_ | refine e_then_ret ?_ | refine c_block ?_ | refine c_exit ?_ | refine e_then_exit ?_ | refine e_block_exit ?_ | refine e_block_normal ?_ | refine e_block_ret ?_ | refine o_box (k := fun _ => ?_) | refine o_alloc (k := fun _ => ?_) | refine e_norm ?_ | refine o_ung (k := ?_) | refine o_k (k := ?_) | refine s_v (k := ?_) | refine s_w (k := ?_) | refine s_k (k := ?_) | refine s_nil ?_ | refine e_block_exit_ne rfl ?_)
      simp at hc
      exact e_1 (h1 := rs_tmp rfl) (hT := ⟨n, ⟨a + 4, false, 0, l'⟩, fq, by simp [nextS, hr, hc], hf, rfl, rfl⟩)
  · repeat (first | refine o_v (k := ?_) | refine c_seq ?_ | refine c_region ?_ | refine o_nil ?_ | refine e_then_normal ?_ | refine o_store (k := ?_) | refine c_true (h1 := ?_) | refine c_false (h1 := ?_) | refine c_ret ?_ | refine c_skip ?_ | refine e_then_ret ?_ | refine c_block ?_ | refine c_exit ?_ | refine e_then_exit ?_ | refine e_block_exit ?_ | refine e_block_normal ?_ | refine e_block_ret ?_ | refine o_box (k := fun _ => ?_) | refine o_alloc (k := fun _ => ?_) | refine e_norm ?_ | refine o_ung (k := ?_) | refine o_k (k := ?_) | refine s_v (k := ?_) | refine s_w (k := ?_) | refine s_k (k := ?_) | refine s_nil ?_ | refine e_block_exit_ne rfl ?_)
    simp at hm
    subst hm
    exact e_1 (h1 := rs_tmp rfl) (hT := ⟨n, ⟨a + 4, false, 0, l'⟩, fq, by simp [nextS, hr], hf, rfl, rfl⟩)
end Go.Proofs.YtlkgdidmhmaneaaGreatDoor
/- rpc: what it leaves. -/
namespace Go.Proofs.YtlkgdidmhmaneaaGreatDoor
open Go Go.RowKit
attribute [local irreducible] Yl OG CG EG SG AG  CellIn CellsIn BlkIn InA TakeA SplitA SubA Ct ResOk Good Held blk cellsA exA

def flatB (L : List Nat) : List UInt8 := L.flatMap w32
theorem flatB_length (L : List Nat) : (flatB L).length = 4 * L.length := by
  induction L with
  | nil => rfl
  | cons x L ih => simp only [flatB, List.flatMap_cons, List.length_append, w32_length, List.length_cons] at ih ⊢; rw [ih]; omega
theorem flatB_take (L : List Nat) (k : Nat) (h : k < L.length) : flatB (L.take (k + 1)) = flatB (L.take k) ++ w32 L[k] := by
  rw [flatB, flatB, List.take_succ_eq_append_getElem h, List.flatMap_append]; simp
def msgL (r : Bool) (xid proc : Nat) : List Nat := if r = true then [xid, 1, 0, proc] else [xid, 0, 2, 536870913, 1, proc]
def msgB (r : Bool) (xid proc : Nat) (body : List UInt8) : List UInt8 := flatB (msgL r xid proc) ++ body
def natI (L : List Nat) : List Int := L.map (fun n : Nat => (n : Int))
@[simp] theorem natI_length (L : List Nat) : (natI L).length = L.length := by simp [natI]

set_option maxRecDepth 20000 in
set_option maxHeartbeats 4000000 in
theorem rpcWrite_ok (own : Bool) (q : Option Addr) (r : Bool) (xid proc : Nat) (body : List UInt8) (c : Nat) (hx : xid < 4294967296) (hp : proc < 4294967296) (hb : body.length ≤ 100000) : Ct Tryz.prog 42 [.agg #[.bool r, .int .u32 xid, .int .u32 proc, .slice q body.length c]] [bytesA own q body] (Ret fun u H => H = [bufA u (msgB r xid proc body), bytesA own q body]) := by
  refine fn_enter Tryz.func42 rfl Tryz.ntmps42 rfl fun _ _ _ => ?_
  repeat (first | refine o_v (k := ?_) | refine c_seq ?_ | refine c_region ?_ | refine o_nil ?_ | refine e_then_normal ?_ | refine o_store (k := ?_) | refine c_true (h1 := ?_) | refine c_false (h1 := ?_) | refine c_ret ?_ | refine c_skip ?_ | refine e_then_ret ?_ | refine c_block ?_ | refine c_exit ?_ | refine e_then_exit ?_ | refine e_block_exit ?_ | refine e_block_normal ?_ | refine e_block_ret ?_ | refine o_box (k := fun _ => ?_) | refine o_alloc (k := fun _ => ?_) | refine e_norm ?_ | refine o_ung (k := ?_) | refine o_k (k := ?_) | refine s_v (k := ?_) | refine s_w (k := ?_) | refine s_k (k := ?_) | refine s_nil ?_ | refine e_block_exit_ne rfl ?_)
  rename_i m
  refine o_lit (k := fun a1 => ?_)
  repeat (first | refine o_v (k := ?_) | refine c_seq ?_ | refine c_region ?_ | refine o_nil ?_ | refine e_then_normal ?_ | refine o_store (k := ?_) | refine c_true (h1 := ?_) | refine c_false (h1 := ?_) | refine c_ret ?_ | refine c_skip ?_ | refine e_then_ret ?_ | refine c_block ?_ | refine c_exit ?_ | refine e_then_exit ?_ | refine e_block_exit ?_ | refine e_block_normal ?_ | refine e_block_ret ?_ | refine o_box (k := fun _ => ?_) | refine o_alloc (k := fun _ => ?_) | refine e_norm ?_ | refine o_ung (k := ?_) | refine o_k (k := ?_) | refine s_v (k := ?_) | refine s_w (k := ?_) | refine s_k (k := ?_) | refine s_nil ?_ | refine e_block_exit_ne rfl ?_)
  refine c_mid (α := Nat) (fun a => [(1, .pointer (some ⟨m, 0, none⟩)), (3, .slice (some ⟨a, 0, none⟩) (msgL r xid proc).length (msgL r xid proc).length)]) (fun a => [cellsA true (some ⟨a, 0, none⟩) (nums .u32 (natI (msgL r xid proc))), blk m 100 [.bool r, .int .u32 xid, .int .u32 proc, .slice q body.length c] (0, 0), bytesA own q body]) (fun _ => True) ?_ ?_
  · refine c_if (h1 := fun hr => ?_) (h2 := fun hr => ?_)
    · repeat (first | refine o_v (k := ?_) | refine c_seq ?_ | refine c_region ?_ | refine o_nil ?_ | refine e_then_normal ?_ | refine o_store (k := ?_) | refine c_true (h1 := ?_) | refine c_false (h1 := ?_) | refine c_ret ?_ | refine c_skip ?_ | refine e_then_ret ?_ | refine c_block ?_ | refine c_exit ?_ | refine e_then_exit ?_ | refine e_block_exit ?_ | refine e_block_normal ?_ | refine e_block_ret ?_ | refine o_box (k := fun _ => ?_) | refine o_alloc (k := fun _ => ?_) | refine e_norm ?_ | refine o_ung (k := ?_) | refine o_k (k := ?_) | refine s_v (k := ?_) | refine s_w (k := ?_) | refine s_k (k := ?_) | refine s_nil ?_ | refine e_block_exit_ne rfl ?_)
      refine o_lit (k := fun a2 => ?_)
      repeat (first | refine o_v (k := ?_) | refine c_seq ?_ | refine c_region ?_ | refine o_nil ?_ | refine e_then_normal ?_ | refine o_store (k := ?_) | refine c_true (h1 := ?_) | refine c_false (h1 := ?_) | refine c_ret ?_ | refine c_skip ?_ | refine e_then_ret ?_ | refine c_block ?_ | refine c_exit ?_ | refine e_then_exit ?_ | refine e_block_exit ?_ | refine e_block_normal ?_ | refine e_block_ret ?_ | refine o_box (k := fun _ => ?_) | refine o_alloc (k := fun _ => ?_) | refine e_norm ?_ | refine o_ung (k := ?_) | refine o_k (k := ?_) | refine s_v (k := ?_) | refine s_w (k := ?_) | refine s_k (k := ?_) | refine s_nil ?_ | refine e_block_exit_ne rfl ?_)
      subst hr
      refine e_mid a2 trivial ⟨rfl, rfl, trivial⟩ (fun w hw => ?_)
      have := hw.take (A := blk a2 32 (nums .u32 (natI (msgL true xid proc))) (0, 0)) (by first | exact TakeA.here | exact TakeA.there TakeA.here)
      exact to_keep _ this.blkCells
    · repeat (first | refine o_v (k := ?_) | refine c_seq ?_ | refine c_region ?_ | refine o_nil ?_ | refine e_then_normal ?_ | refine o_store (k := ?_) | refine c_true (h1 := ?_) | refine c_false (h1 := ?_) | refine c_ret ?_ | refine c_skip ?_ | refine e_then_ret ?_ | refine c_block ?_ | refine c_exit ?_ | refine e_then_exit ?_ | refine e_block_exit ?_ | refine e_block_normal ?_ | refine e_block_ret ?_ | refine o_box (k := fun _ => ?_) | refine o_alloc (k := fun _ => ?_) | refine e_norm ?_ | refine o_ung (k := ?_) | refine o_k (k := ?_) | refine s_v (k := ?_) | refine s_w (k := ?_) | refine s_k (k := ?_) | refine s_nil ?_ | refine e_block_exit_ne rfl ?_)
      subst hr
      refine e_mid a1 trivial ⟨rfl, rfl, trivial⟩ (fun w hw => ?_)
      have := hw.take (A := blk a1 32 (nums .u32 (natI (msgL false xid proc))) (0, 0)) (by first | exact TakeA.here | exact TakeA.there TakeA.here)
      exact to_keep _ this.blkCells
  intro a _
  have hlen : (msgL r xid proc).length ≤ 6 := by unfold msgL; split <;> simp
  have hrange : ∀ x ∈ msgL r xid proc, x < 4294967296 := by unfold msgL; split <;> simp <;> omega
  unfold msgB
  generalize msgL r xid proc = L at hlen hrange ⊢
  repeat (first | refine o_v (k := ?_) | refine c_seq ?_ | refine c_region ?_ | refine o_nil ?_ | refine e_then_normal ?_ | refine o_store (k := ?_) | refine c_true (h1 := ?_) | refine c_false (h1 := ?_) | refine c_ret ?_ | refine c_skip ?_ | refine e_then_ret ?_ | refine c_block ?_ | refine c_exit ?_ | refine e_then_exit ?_ | refine e_block_exit ?_ | refine e_block_normal ?_ | refine e_block_ret ?_ | refine o_box (k := fun _ => ?_) | refine o_alloc (k := fun _ => ?_) | refine e_norm ?_ | refine o_ung (k := ?_) | refine o_k (k := ?_) | refine s_v (k := ?_) | refine s_w (k := ?_) | refine s_k (k := ?_) | refine s_nil ?_ | refine e_block_exit_ne rfl ?_)
  refine c_buf0 ?_
  refine c_loop (α := Value × Nat) (fun x => [(21, .int .i64 x.2), (20, .int .i64 L.length), (19, .slice (some ⟨a, 0, none⟩) L.length L.length), (4, x.1), (1, .pointer (some ⟨m, 0, none⟩))]) (fun x => [bufA x.1 (flatB (L.take x.2)), cellsA true (some ⟨a, 0, none⟩) (nums .u32 (natI L)), blk m 100 [.bool r, .int .u32 xid, .int .u32 proc, .slice q body.length c] (0, 0), bytesA own q body]) (fun x => x.2 ≤ L.length) (fun x => L.length - x.2) (.slice none 0 0, 0) (by simp) ⟨rfl, rfl, rfl, rfl, rfl, trivial⟩ (fun _ h => h) ?_
  rintro ⟨v, k⟩ hk
  (try dsimp only at hk ⊢)
  repeat (first | refine o_v (k := ?_) | refine c_seq ?_ | refine c_region ?_ | refine o_nil ?_ | refine e_then_normal ?_ | refine o_store (k := ?_) | refine c_true (h1 := ?_) | refine c_false (h1 := ?_) | refine c_ret ?_ | refine c_skip ?_ | refine e_then_ret ?_ | refine c_block ?_ | refine c_exit ?_ | refine e_then_exit ?_ | refine e_block_exit ?_ | refine e_block_normal ?_ | refine e_block_ret ?_ | refine o_box (k := fun _ => ?_) | refine o_alloc (k := fun _ => ?_) | refine e_norm ?_ | refine o_ung (k := ?_) | refine o_k (k := ?_) | refine s_v (k := ?_) | refine s_w (k := ?_) | refine s_k (k := ?_) | refine s_nil ?_ | refine e_block_exit_ne rfl ?_)
  refine c_if (h1 := fun h => ?_) (h2 := fun h => ?_)
  · simp at h
    have hget : (natI L)[k]? = some (L[k] : Int) := by simp [natI, h]
    have hr := hrange L[k] (List.getElem_mem h)
    have hfl := flatB_length (L.take k)
    rw [List.length_take] at hfl
    repeat (first | refine o_v (k := ?_) | refine c_seq ?_ | refine c_region ?_ | refine o_nil ?_ | refine e_then_normal ?_ | refine o_store (k := ?_) | refine c_true (h1 := ?_) | refine c_false (h1 := ?_) | refine c_ret ?_ | refine c_skip ?_ | refine e_then_ret ?_ | refine c_block ?_ | refine c_exit ?_ | refine e_then_exit ?_ | refine e_block_exit ?_ | refine e_block_normal ?_ | refine e_block_ret ?_ | refine o_box (k := fun _ => ?_) | refine o_alloc (k := fun _ => ?_) | refine e_norm ?_ | refine o_ung (k := ?_) | refine o_k (k := ?_) | refine s_v (k := ?_) | refine s_w (k := ?_) | refine s_k (k := ?_) | refine s_nil ?_ | refine e_block_exit_ne rfl ?_)
    refine o_y (y_load rfl (CellIn.cells (InA.there InA.here) (nums_get hget) (by omega))) rfl ?_
    repeat (first | refine o_v (k := ?_) | refine c_seq ?_ | refine c_region ?_ | refine o_nil ?_ | refine e_then_normal ?_ | refine o_store (k := ?_) | refine c_true (h1 := ?_) | refine c_false (h1 := ?_) | refine c_ret ?_ | refine c_skip ?_ | refine e_then_ret ?_ | refine c_block ?_ | refine c_exit ?_ | refine e_then_exit ?_ | refine e_block_exit ?_ | refine e_block_normal ?_ | refine e_block_ret ?_ | refine o_box (k := fun _ => ?_) | refine o_alloc (k := fun _ => ?_) | refine e_norm ?_ | refine o_ung (k := ?_) | refine o_k (k := ?_) | refine s_v (k := ?_) | refine s_w (k := ?_) | refine s_k (k := ?_) | refine s_nil ?_ | refine e_block_exit_ne rfl ?_)
    refine o_buf true v (k := ?_)
    rintro q' c' rfl hc hm
    refine o_call (u32_ok true q' (flatB (List.take k L)) c' L[k] (by omega) (by omega) hr) (k := ?_)
    rintro v _ rfl
    dsimp only [List.cons_append, List.nil_append]
    repeat (first | refine o_v (k := ?_) | refine c_seq ?_ | refine c_region ?_ | refine o_nil ?_ | refine e_then_normal ?_ | refine o_store (k := ?_) | refine c_true (h1 := ?_) | refine c_false (h1 := ?_) | refine c_ret ?_ | refine c_skip ?_ | refine e_then_ret ?_ | refine c_block ?_ | refine c_exit ?_ | refine e_then_exit ?_ | refine e_block_exit ?_ | refine e_block_normal ?_ | refine e_block_ret ?_ | refine o_box (k := fun _ => ?_) | refine o_alloc (k := fun _ => ?_) | refine e_norm ?_ | refine o_ung (k := ?_) | refine o_k (k := ?_) | refine s_v (k := ?_) | refine s_w (k := ?_) | refine s_k (k := ?_) | refine s_nil ?_ | refine e_block_exit_ne rfl ?_)
    refine e_loop (v, k + 1) ?_ ?_ ?_ ?_
    · show k + 1 ≤ _; omega
    · show _ - (k + 1) < _ - k; omega
    · exact ⟨rfl, rfl, rfl, rfl, rfl, trivial⟩
    · intro w hw
      simp only [flatB_take L k h]
      exact to_keep _ hw
  · simp at h
    have hkn : k = L.length := by omega
    subst hkn
    have hfl := flatB_length L
    repeat (first | refine o_v (k := ?_) | refine c_seq ?_ | refine c_region ?_ | refine o_nil ?_ | refine e_then_normal ?_ | refine o_store (k := ?_) | refine c_true (h1 := ?_) | refine c_false (h1 := ?_) | refine c_ret ?_ | refine c_skip ?_ | refine e_then_ret ?_ | refine c_block ?_ | refine c_exit ?_ | refine e_then_exit ?_ | refine e_block_exit ?_ | refine e_block_normal ?_ | refine e_block_ret ?_ | refine o_box (k := fun _ => ?_) | refine o_alloc (k := fun _ => ?_) | refine e_norm ?_ | refine o_ung (k := ?_) | refine o_k (k := ?_) | refine s_v (k := ?_) | refine s_w (k := ?_) | refine s_k (k := ?_) | refine s_nil ?_ | refine e_block_exit_ne rfl ?_)
    refine o_appb own q body (hb := by rw [List.take_length, hfl]; omega) (k := fun v => ?_)
    repeat (first | refine o_v (k := ?_) | refine c_seq ?_ | refine c_region ?_ | refine o_nil ?_ | refine e_then_normal ?_ | refine o_store (k := ?_) | refine c_true (h1 := ?_) | refine c_false (h1 := ?_) | refine c_ret ?_ | refine c_skip ?_ | refine e_then_ret ?_ | refine c_block ?_ | refine c_exit ?_ | refine e_then_exit ?_ | refine e_block_exit ?_ | refine e_block_normal ?_ | refine e_block_ret ?_ | refine o_box (k := fun _ => ?_) | refine o_alloc (k := fun _ => ?_) | refine e_norm ?_ | refine o_ung (k := ?_) | refine o_k (k := ?_) | refine s_v (k := ?_) | refine s_w (k := ?_) | refine s_k (k := ?_) | refine s_nil ?_ | refine e_block_exit_ne rfl ?_)
    exact e_1 (H' := [bufA v (flatB (L.take L.length) ++ body), bytesA own q body]) (h1 := rs_tmp rfl) (hT := by simp)
end Go.Proofs.YtlkgdidmhmaneaaGreatDoor
/- The engine, part 11: regions in which a store may come up between reads. -/
namespace Go.Proofs.YtlkgdidmhmaneaaGreatDoor
open Go Go.RowKit
section
variable {P : Program} {Q : Exit → Act → World → Prop} {G : Ctx} {F : Fr} {H : List Ast} {ops : Array Oper} {rest : List Oper}
variable {d : Nat} {op : Op} {ty : TypeId} {pos : String} {aft : Array Edge}
theorem wp_then {K N : Act → World → Prop} {o : Oper} {a : Act} {w : World} (h : o.wp P a w N (Exit.then K Q)) : o.wp P a w N Q := by
  unfold Oper.wp at *
  generalize (execOp a.eval o).run P w = r at *
  cases r with
  | ok n w' => cases n <;> exact h
  | halt e w' => cases e <;> exact h
def AgK (P : Program) (ops : Array Oper) (Q : Exit → Act → World → Prop) (G : Ctx) (Hf : List Ast) (fuel : Nat) (listed : Array Bool) : Act → World → Prop := fun a w => ∃ F' H', AG P ops Q G Hf fuel listed F' H' ∧ FrOk G.n F' a ∧ Good G H' w
theorem a_og {Hf : List Ast} {fuel : Nat} {listed : Array Bool} (i : Nat) {o : Oper} (hi : ops[i]? = some o) (hr : Region.ready .any ops listed = [i]) (hh : ∀ w, Good G H w → Held Hf w) (k : OG P ops (Exit.then (AgK P ops Q G Hf fuel (listed.setIfInBounds i true)) Q) G [o] F H) : AG P ops Q G Hf (fuel + 1) listed F H := by
  intro a w ha hw
  refine ⟨hh w hw, wpAnyH_all hr (by simp) ?_⟩
  intro j hj
  have : j = i := by simpa using hj
  subst this
  have h := k a w ha hw
  unfold wpList at h
  unfold wpOp
  simp only [hi]
  split at h
  · rename_i hw'
    rw [if_pos hw']
    rcases h with h | ⟨h1, h2⟩
    · left
      refine wp_then (Oper.wp_mono ?_ h)
      rintro a' w' ⟨F', H', hag, hf, hg⟩
      exact hag a' w' hf hg
    · exact .inr ⟨h1, h2⟩
  · rename_i hw'
    rw [if_neg hw']
    obtain ⟨F', H', hag, hf, hg⟩ := h
    exact hag _ _ hf hg
theorem e_ag {Hf : List Ast} {fuel : Nat} {listed : Array Bool} (k : AG P ops Q G Hf fuel listed F H) : EG (Exit.then (AgK P ops Q G Hf fuel listed) Q) .normal G F H := fun _ _ ha hw => ⟨F, H, k, ha, hw⟩
theorem held_of {Hf Hr : List Ast} (hs : SplitA H Hf Hr) : ∀ w, Good G H w → Held Hf w := fun _ hw => (hw.drop hs).held
end
section
variable {P : Program} {Q : Exit → Act → World → Prop} {G : Ctx} {F : Fr} {H : List Ast} {ops : Array Oper} {rest : List Oper}
variable {d : Nat} {op : Op} {ty : TypeId} {pos : String} {aft : Array Edge}
theorem sub_all : ∀ us : List Value, sub us 0 us.length = some us
  | [] => rfl
  | v :: us => by simp [sub, sub_all us]
theorem rs_blk {n c m b : Nat} {t t' : TypeId} {us : List Value} {fz : Nat × Nat} [hg : PAgg P t true] [hs : PSize P t m] (h : look F c = some (.pointer (some ⟨b, 0, none⟩)) := by rfl) (hb : BlkIn H b t' us fz := by repeat (first | exact BlkIn.here | apply BlkIn.there)) (hl : us.length = m := by rfl) : ResOk P n F H (.cell c t) (.agg us.toArray) := rs_agg h (CellsIn.blk hb (sub_all us)) hl
theorem rs_blk1 {n c b : Nat} {t t' : TypeId} {v : Value} {fz : Nat × Nat} [hg : PAgg P t false] (h : look F c = some (.pointer (some ⟨b, 0, none⟩)) := by rfl) (hb : BlkIn H b t' [v] fz := by repeat (first | exact BlkIn.here | apply BlkIn.there)) : ResOk P n F H (.cell c t) v := rs_one h (CellIn.blk hb rfl)
attribute [local irreducible] Yl OG CG EG SG AG CellIn CellsIn BlkIn TakeA SplitA Ct ResOk Good Held blk
theorem y_ifp {n : Nat} {t e : TypeId} {x : Operand} {v : Value} [h1 : PUnd P t (.pointer e)] (hx : ev F x = some v) : Yl P n F H (.makeInterface t x) (.iface t v) := y_iface (ud := .pointer e) (by intro ms h; cases h) hx
theorem a_one {Hf Hr : List Ast} {fuel : Nat} {listed : Array Bool} (i : Nat) {o : Oper} (hi : ops[i]? = some o := by rfl) (hr : Region.ready .any ops listed = [i] := by kernel_rfl) (hs : SplitA H Hf Hr := by (repeat (apply SplitA.cons; (repeat (first | exact TakeA.keepI | exact TakeA.here | apply TakeA.there)))); exact SplitA.nil) (k : OG P ops (Exit.then (AgK P ops Q G Hf fuel (listed.setIfInBounds i true)) Q) G [o] F H) : AG P ops Q G Hf (fuel + 1) listed F H := a_og i hi hr (held_of hs) k
theorem a_end {Hf Hr : List Ast} {fuel : Nat} {listed : Array Bool} (hr : Region.ready .any ops listed = [] := by kernel_rfl) (hs : SplitA H Hf Hr := by (repeat (apply SplitA.cons; (repeat (first | exact TakeA.keepI | exact TakeA.here | apply TakeA.there)))); exact SplitA.nil) (k : EG Q .normal G F H) : AG P ops Q G Hf fuel listed F H := a_done hr (held_of hs) k
/-- a read that may come up is taken first -/
theorem a_v (Hf : List Ast) {Hr : List Ast} {fuel : Nat} {listed listed' : Array Bool} (i : Nat) {v : Value} (hi : ops[i]? = some ⟨some d, op, ty, pos, aft, none⟩ := by rfl) (hs : SplitA H Hf Hr := by (repeat (apply SplitA.cons; (repeat (first | exact TakeA.keepI | exact TakeA.here | apply TakeA.there)))); exact SplitA.nil) (hsel : Region.noSelect ops = true := by kernel_rfl) (hf : Region.free .any ops listed i = true := by kernel_rfl) (hr : (Region.ready .any ops listed).contains i = true := by kernel_rfl)
    (hQ : ∀ c a w, Q (.panic c) (a.put (some d) v) w → Q (.panic c) a w := by intro c a w h; exact h) (hy : Yl P G.n F Hf op v := by exact ylA) (hd : Nat.ble (d + 1) G.n = true := by rfl) (hl : listed.setIfInBounds i true = listed' := by rfl) (k : AG P ops Q G Hf fuel listed' ((d, v) :: F) H) : AG P ops Q G Hf (fuel + 1) listed F H := a_take i hi hs hsel hf hr hQ hy hd (hl ▸ k)
end
end Go.Proofs.YtlkgdidmhmaneaaGreatDoor
/- rpc.Read: what it leaves. -/
namespace Go.Proofs.YtlkgdidmhmaneaaGreatDoor
open Go Go.RowKit
attribute [local irreducible] Yl OG CG EG SG AG  CellIn CellsIn BlkIn InA TakeA SplitA SubA Ct ResOk Good Held blk cellsA exA

def readS3 (s2 : RdS) (k : Nat) : RdS := if k = 1 then (nextS s2 [0]).2 else (nextS (nextS (nextS s2 [2]).2 [536870913]).2 [1]).2
def rpcS (b : List UInt8) : Nat × Nat × Nat × RdS :=
  let x1 := nextS ⟨0, false, 0, b⟩ []
  let x2 := nextS x1.2 [0, 1]
  let x4 := nextS (readS3 x2.2 x2.1) []
  (x1.1, x2.1, x4.1, x4.2)
def rpcRead (b : List UInt8) : Option (Bool × Nat × Nat × List UInt8) :=
  if (rpcS b).2.2.2.wrong then none else some (decide ((rpcS b).2.1 = 1), (rpcS b).1, (rpcS b).2.2.1, b.drop (rpcS b).2.2.2.at_)
theorem nextS_at (s : RdS) (may : List Int) : (nextS s may).2.at_ ≤ s.at_ + 4 := by unfold nextS; split <;> (try simp) <;> (split <;> (try simp) <;> (split <;> simp))
theorem nextS_lt (s : RdS) (may : List Int) : (nextS s may).1 < 4294967296 := by
  have := rdNum_lt s.e s.l 4
  unfold nextS
  split
  · simp
  · split
    · simp
    · split
      · simp
      · exact this
/-- where it is, and what is left -/
def RdS.okOf (s : RdS) (b : List UInt8) : Prop := s.wrong = false → s.e = 0 ∧ s.l = b.drop s.at_ ∧ s.at_ ≤ b.length
theorem nextS_okOf {s : RdS} {b : List UInt8} (h : s.okOf b) (may : List Int) : (nextS s may).2.okOf b := by
  unfold nextS
  split
  · exact h
  · rename_i hw
    obtain ⟨h1, h2, h3⟩ := h (by simpa using hw)
    split
    · intro h; cases h
    · split
      · intro h; cases h
      · rename_i h4 _
        intro _
        simp only [rdNum, h1, h2] at h4 ⊢
        simp only [ne_eq, not_true, if_false] at h4 ⊢
        split at h4
        · simp at h4
        · rename_i h5
          rw [if_neg h5]
          simp only [List.length_drop] at h5
          refine ⟨rfl, by simp [List.drop_drop], by show s.at_ + 4 ≤ b.length; omega⟩

set_option maxRecDepth 20000 in
set_option maxHeartbeats 4000000 in
theorem rpcRead_ok (own : Bool) (q : Option Addr) (l : List UInt8) (c : Nat) (hc : l.length ≤ c) (hm : c ≤ 9223372036854775807) (hl : l.length ≤ 1000000) : Ct Tryz.prog 37 [.slice q l.length c] [bytesA own q l]
    (Ret fun u H => match rpcRead l with
      | none => ∃ p, u = .tuple #[.agg #[.bool false, .int .u32 0, .int .u32 0, .slice none 0 0], .iface 146 p] ∧ H = [bytesA own q l]
      | some (r, xid, proc, body) => ∃ q' c', body.length ≤ c' ∧ c' ≤ 9223372036854775807 ∧ u = .tuple #[.agg #[.bool r, .int .u32 xid, .int .u32 proc, .slice q' body.length c'], .nilIface] ∧ H = [bytesA true q' body, bytesA own q l]) := by
  refine fn_enter Tryz.func37 rfl Tryz.ntmps37 rfl fun _ _ _ => ?_
  repeat (first | refine o_v (k := ?_) | refine c_seq ?_ | refine c_region ?_ | refine o_nil ?_ | refine e_then_normal ?_ | refine o_store (k := ?_) | refine c_true (h1 := ?_) | refine c_false (h1 := ?_) | refine c_ret ?_ | refine c_skip ?_ | refine e_then_ret ?_ | refine c_block ?_ | refine c_exit ?_ | refine e_then_exit ?_ | refine e_block_exit ?_ | refine e_block_normal ?_ | refine e_block_ret ?_ | refine o_box (k := fun _ => ?_) | refine o_alloc (k := fun _ => ?_) | refine e_norm ?_ | refine o_ung (k := ?_) | refine o_k (k := ?_) | refine s_v (k := ?_) | refine s_w (k := ?_) | refine s_k (k := ?_) | refine s_nil ?_ | refine e_block_exit_ne rfl ?_)
  refine o_call (rdNew_ok own q l c hl) (k := ?_)
  rintro _ _ ⟨b, rfl, rfl⟩
  dsimp only [List.cons_append, List.nil_append]
  repeat (first | refine o_v (k := ?_) | refine c_seq ?_ | refine c_region ?_ | refine o_nil ?_ | refine e_then_normal ?_ | refine o_store (k := ?_) | refine c_true (h1 := ?_) | refine c_false (h1 := ?_) | refine c_ret ?_ | refine c_skip ?_ | refine e_then_ret ?_ | refine c_block ?_ | refine c_exit ?_ | refine e_then_exit ?_ | refine e_block_exit ?_ | refine e_block_normal ?_ | refine e_block_ret ?_ | refine o_box (k := fun _ => ?_) | refine o_alloc (k := fun _ => ?_) | refine e_norm ?_ | refine o_ung (k := ?_) | refine o_k (k := ?_) | refine s_v (k := ?_) | refine s_w (k := ?_) | refine s_k (k := ?_) | refine s_nil ?_ | refine e_block_exit_ne rfl ?_)
  rename_i rb g mb
  refine o_add0 (cellsA true none (nums .u32 [])) (fun w => cellsA_nil _ w) (k := ?_)
  refine o_call (next_ok g b none ⟨0, false, 0, l⟩ rfl true none [] 0 (by simp) (by simp)) (k := ?_)
  rintro _ _ ⟨x1, s1, f1, h1, hf1, rfl, rfl⟩
  dsimp only [List.cons_append, List.nil_append]
  have a1 := nextS_at ⟨0, false, 0, l⟩ []
  rw [h1] at a1
  dsimp only at a1
  repeat (first | refine o_v (k := ?_) | refine c_seq ?_ | refine c_region ?_ | refine o_nil ?_ | refine e_then_normal ?_ | refine o_store (k := ?_) | refine c_true (h1 := ?_) | refine c_false (h1 := ?_) | refine c_ret ?_ | refine c_skip ?_ | refine e_then_ret ?_ | refine c_block ?_ | refine c_exit ?_ | refine e_then_exit ?_ | refine e_block_exit ?_ | refine e_block_normal ?_ | refine e_block_ret ?_ | refine o_box (k := fun _ => ?_) | refine o_alloc (k := fun _ => ?_) | refine e_norm ?_ | refine o_ung (k := ?_) | refine o_k (k := ?_) | refine s_v (k := ?_) | refine s_w (k := ?_) | refine s_k (k := ?_) | refine s_nil ?_ | refine e_block_exit_ne rfl ?_)
  refine o_lit (k := fun z1 => ?_)
  repeat (first | refine o_v (k := ?_) | refine c_seq ?_ | refine c_region ?_ | refine o_nil ?_ | refine e_then_normal ?_ | refine o_store (k := ?_) | refine c_true (h1 := ?_) | refine c_false (h1 := ?_) | refine c_ret ?_ | refine c_skip ?_ | refine e_then_ret ?_ | refine c_block ?_ | refine c_exit ?_ | refine e_then_exit ?_ | refine e_block_exit ?_ | refine e_block_normal ?_ | refine e_block_ret ?_ | refine o_box (k := fun _ => ?_) | refine o_alloc (k := fun _ => ?_) | refine e_norm ?_ | refine o_ung (k := ?_) | refine o_k (k := ?_) | refine s_v (k := ?_) | refine s_w (k := ?_) | refine s_k (k := ?_) | refine s_nil ?_ | refine e_block_exit_ne rfl ?_)
  refine o_conv (fun w hw => (hw.take (A := blk z1 32 (nums .u32 [0, 1]) (0, 0)) (by repeat (first | exact TakeA.here | apply TakeA.there))).blkCells) ?_
  refine o_call (next_ok g b f1 s1 hf1 true (some ⟨z1, 0, none⟩) [0, 1] 2 (by simp) (by omega)) (k := ?_)
  rintro _ _ ⟨x2, s2, f2, h2, hf2, rfl, rfl⟩
  dsimp only [List.cons_append, List.nil_append]
  have a2 := nextS_at s1 [0, 1]
  rw [h2] at a2
  dsimp only at a2
  repeat (first | refine o_v (k := ?_) | refine c_seq ?_ | refine c_region ?_ | refine o_nil ?_ | refine e_then_normal ?_ | refine o_store (k := ?_) | refine c_true (h1 := ?_) | refine c_false (h1 := ?_) | refine c_ret ?_ | refine c_skip ?_ | refine e_then_ret ?_ | refine c_block ?_ | refine c_exit ?_ | refine e_then_exit ?_ | refine e_block_exit ?_ | refine e_block_normal ?_ | refine e_block_ret ?_ | refine o_box (k := fun _ => ?_) | refine o_alloc (k := fun _ => ?_) | refine e_norm ?_ | refine o_ung (k := ?_) | refine o_k (k := ?_) | refine s_v (k := ?_) | refine s_w (k := ?_) | refine s_k (k := ?_) | refine s_nil ?_ | refine e_block_exit_ne rfl ?_)
  refine c_mid (α := RdS × Option Addr) (fun _ => [(0, .slice q l.length c), (4, .pointer (some ⟨g, 0, none⟩)), (5, .pointer (some ⟨mb, 0, none⟩)), (2, .pointer (some ⟨rb, 0, none⟩))]) (fun y => [blk mb 100 [.bool (decide (x2 = 1)), .int .u32 x1, .int .u32 0, .slice none 0 0] (0, 0), blk g 148 [.pointer (some ⟨b, 0, none⟩), .int .i64 y.1.at_, .pointer y.2] (0, 0), rdA b y.1.e y.1.l, bytesA own q l, blk rb 100 [.bool false, .int .u32 0, .int .u32 0, .slice none 0 0] (0, 0)]) (fun y => y.1 = readS3 s2 x2 ∧ y.2.isSome = y.1.wrong ∧ y.1.at_ ≤ 20) ?_ ?_
  · have he : (decide ((x2 : Int) = 1)) = decide (x2 = 1) := decide_eq_decide.2 (by omega)
    rw [he]
    refine c_if (h1 := fun hr => ?_) (h2 := fun hr => ?_)
    · have hx : x2 = 1 := by simpa using hr
      repeat (first | refine o_v (k := ?_) | refine c_seq ?_ | refine c_region ?_ | refine o_nil ?_ | refine e_then_normal ?_ | refine o_store (k := ?_) | refine c_true (h1 := ?_) | refine c_false (h1 := ?_) | refine c_ret ?_ | refine c_skip ?_ | refine e_then_ret ?_ | refine c_block ?_ | refine c_exit ?_ | refine e_then_exit ?_ | refine e_block_exit ?_ | refine e_block_normal ?_ | refine e_block_ret ?_ | refine o_box (k := fun _ => ?_) | refine o_alloc (k := fun _ => ?_) | refine e_norm ?_ | refine o_ung (k := ?_) | refine o_k (k := ?_) | refine s_v (k := ?_) | refine s_w (k := ?_) | refine s_k (k := ?_) | refine s_nil ?_ | refine e_block_exit_ne rfl ?_)
      refine o_lit (k := fun z2 => ?_)
      repeat (first | refine o_v (k := ?_) | refine c_seq ?_ | refine c_region ?_ | refine o_nil ?_ | refine e_then_normal ?_ | refine o_store (k := ?_) | refine c_true (h1 := ?_) | refine c_false (h1 := ?_) | refine c_ret ?_ | refine c_skip ?_ | refine e_then_ret ?_ | refine c_block ?_ | refine c_exit ?_ | refine e_then_exit ?_ | refine e_block_exit ?_ | refine e_block_normal ?_ | refine e_block_ret ?_ | refine o_box (k := fun _ => ?_) | refine o_alloc (k := fun _ => ?_) | refine e_norm ?_ | refine o_ung (k := ?_) | refine o_k (k := ?_) | refine s_v (k := ?_) | refine s_w (k := ?_) | refine s_k (k := ?_) | refine s_nil ?_ | refine e_block_exit_ne rfl ?_)
      refine o_conv (fun w hw => (hw.take (A := blk z2 32 (nums .u32 [0]) (0, 0)) (by repeat (first | exact TakeA.here | apply TakeA.there))).blkCells) ?_
      refine o_call (next_ok g b f2 s2 hf2 true (some ⟨z2, 0, none⟩) [0] 1 (by simp) (by omega)) (k := ?_)
      rintro _ _ ⟨x3, s3, f3, h3, hf3, rfl, rfl⟩
      dsimp only [List.cons_append, List.nil_append]
      have a3 := nextS_at s2 [0]
      rw [h3] at a3
      dsimp only at a3
      repeat (first | refine o_v (k := ?_) | refine c_seq ?_ | refine c_region ?_ | refine o_nil ?_ | refine e_then_normal ?_ | refine o_store (k := ?_) | refine c_true (h1 := ?_) | refine c_false (h1 := ?_) | refine c_ret ?_ | refine c_skip ?_ | refine e_then_ret ?_ | refine c_block ?_ | refine c_exit ?_ | refine e_then_exit ?_ | refine e_block_exit ?_ | refine e_block_normal ?_ | refine e_block_ret ?_ | refine o_box (k := fun _ => ?_) | refine o_alloc (k := fun _ => ?_) | refine e_norm ?_ | refine o_ung (k := ?_) | refine o_k (k := ?_) | refine s_v (k := ?_) | refine s_w (k := ?_) | refine s_k (k := ?_) | refine s_nil ?_ | refine e_block_exit_ne rfl ?_)
      refine e_mid (s3, f3) ⟨?_, hf3, by show s3.at_ ≤ 20; omega⟩ ⟨rfl, rfl, rfl, rfl, trivial⟩ (fun w hw => to_keep _ hw)
      show s3 = _
      simp [readS3, hx, h3]
    · have hx : ¬ x2 = 1 := by simpa using hr
      repeat (first | refine o_v (k := ?_) | refine c_seq ?_ | refine c_region ?_ | refine o_nil ?_ | refine e_then_normal ?_ | refine o_store (k := ?_) | refine c_true (h1 := ?_) | refine c_false (h1 := ?_) | refine c_ret ?_ | refine c_skip ?_ | refine e_then_ret ?_ | refine c_block ?_ | refine c_exit ?_ | refine e_then_exit ?_ | refine e_block_exit ?_ | refine e_block_normal ?_ | refine e_block_ret ?_ | refine o_box (k := fun _ => ?_) | refine o_alloc (k := fun _ => ?_) | refine e_norm ?_ | refine o_ung (k := ?_) | refine o_k (k := ?_) | refine s_v (k := ?_) | refine s_w (k := ?_) | refine s_k (k := ?_) | refine s_nil ?_ | refine e_block_exit_ne rfl ?_)
      refine o_lit (k := fun z2 => ?_)
      repeat (first | refine o_v (k := ?_) | refine c_seq ?_ | refine c_region ?_ | refine o_nil ?_ | refine e_then_normal ?_ | refine o_store (k := ?_) | refine c_true (h1 := ?_) | refine c_false (h1 := ?_) | refine c_ret ?_ | refine c_skip ?_ | refine e_then_ret ?_ | refine c_block ?_ | refine c_exit ?_ | refine e_then_exit ?_ | refine e_block_exit ?_ | refine e_block_normal ?_ | refine e_block_ret ?_ | refine o_box (k := fun _ => ?_) | refine o_alloc (k := fun _ => ?_) | refine e_norm ?_ | refine o_ung (k := ?_) | refine o_k (k := ?_) | refine s_v (k := ?_) | refine s_w (k := ?_) | refine s_k (k := ?_) | refine s_nil ?_ | refine e_block_exit_ne rfl ?_)
      refine o_conv (fun w hw => (hw.take (A := blk z2 32 (nums .u32 [2]) (0, 0)) (by repeat (first | exact TakeA.here | apply TakeA.there))).blkCells) ?_
      refine o_call (next_ok g b f2 s2 hf2 true (some ⟨z2, 0, none⟩) [2] 1 (by simp) (by omega)) (k := ?_)
      rintro _ _ ⟨x3, s3, f3, h3, hf3, rfl, rfl⟩
      dsimp only [List.cons_append, List.nil_append]
      have a3 := nextS_at s2 [2]
      rw [h3] at a3
      dsimp only at a3
      repeat (first | refine o_v (k := ?_) | refine c_seq ?_ | refine c_region ?_ | refine o_nil ?_ | refine e_then_normal ?_ | refine o_store (k := ?_) | refine c_true (h1 := ?_) | refine c_false (h1 := ?_) | refine c_ret ?_ | refine c_skip ?_ | refine e_then_ret ?_ | refine c_block ?_ | refine c_exit ?_ | refine e_then_exit ?_ | refine e_block_exit ?_ | refine e_block_normal ?_ | refine e_block_ret ?_ | refine o_box (k := fun _ => ?_) | refine o_alloc (k := fun _ => ?_) | refine e_norm ?_ | refine o_ung (k := ?_) | refine o_k (k := ?_) | refine s_v (k := ?_) | refine s_w (k := ?_) | refine s_k (k := ?_) | refine s_nil ?_ | refine e_block_exit_ne rfl ?_)
      refine o_lit (k := fun z3 => ?_)
      repeat (first | refine o_v (k := ?_) | refine c_seq ?_ | refine c_region ?_ | refine o_nil ?_ | refine e_then_normal ?_ | refine o_store (k := ?_) | refine c_true (h1 := ?_) | refine c_false (h1 := ?_) | refine c_ret ?_ | refine c_skip ?_ | refine e_then_ret ?_ | refine c_block ?_ | refine c_exit ?_ | refine e_then_exit ?_ | refine e_block_exit ?_ | refine e_block_normal ?_ | refine e_block_ret ?_ | refine o_box (k := fun _ => ?_) | refine o_alloc (k := fun _ => ?_) | refine e_norm ?_ | refine o_ung (k := ?_) | refine o_k (k := ?_) | refine s_v (k := ?_) | refine s_w (k := ?_) | refine s_k (k := ?_) | refine s_nil ?_ | refine e_block_exit_ne rfl ?_)
      refine o_conv (fun w hw => (hw.take (A := blk z3 32 (nums .u32 [536870913]) (0, 0)) (by repeat (first | exact TakeA.here | apply TakeA.there))).blkCells) ?_
      refine o_call (next_ok g b f3 s3 hf3 true (some ⟨z3, 0, none⟩) [536870913] 1 (by simp) (by omega)) (k := ?_)
      rintro _ _ ⟨x4, s4, f4, h4, hf4, rfl, rfl⟩
      dsimp only [List.cons_append, List.nil_append]
      have a4 := nextS_at s3 [536870913]
      rw [h4] at a4
      dsimp only at a4
      repeat (first | refine o_v (k := ?_) | refine c_seq ?_ | refine c_region ?_ | refine o_nil ?_ | refine e_then_normal ?_ | refine o_store (k := ?_) | refine c_true (h1 := ?_) | refine c_false (h1 := ?_) | refine c_ret ?_ | refine c_skip ?_ | refine e_then_ret ?_ | refine c_block ?_ | refine c_exit ?_ | refine e_then_exit ?_ | refine e_block_exit ?_ | refine e_block_normal ?_ | refine e_block_ret ?_ | refine o_box (k := fun _ => ?_) | refine o_alloc (k := fun _ => ?_) | refine e_norm ?_ | refine o_ung (k := ?_) | refine o_k (k := ?_) | refine s_v (k := ?_) | refine s_w (k := ?_) | refine s_k (k := ?_) | refine s_nil ?_ | refine e_block_exit_ne rfl ?_)
      refine o_lit (k := fun z4 => ?_)
      repeat (first | refine o_v (k := ?_) | refine c_seq ?_ | refine c_region ?_ | refine o_nil ?_ | refine e_then_normal ?_ | refine o_store (k := ?_) | refine c_true (h1 := ?_) | refine c_false (h1 := ?_) | refine c_ret ?_ | refine c_skip ?_ | refine e_then_ret ?_ | refine c_block ?_ | refine c_exit ?_ | refine e_then_exit ?_ | refine e_block_exit ?_ | refine e_block_normal ?_ | refine e_block_ret ?_ | refine o_box (k := fun _ => ?_) | refine o_alloc (k := fun _ => ?_) | refine e_norm ?_ | refine o_ung (k := ?_) | refine o_k (k := ?_) | refine s_v (k := ?_) | refine s_w (k := ?_) | refine s_k (k := ?_) | refine s_nil ?_ | refine e_block_exit_ne rfl ?_)
      refine o_conv (fun w hw => (hw.take (A := blk z4 32 (nums .u32 [1]) (0, 0)) (by repeat (first | exact TakeA.here | apply TakeA.there))).blkCells) ?_
      refine o_call (next_ok g b f4 s4 hf4 true (some ⟨z4, 0, none⟩) [1] 1 (by simp) (by omega)) (k := ?_)
      rintro _ _ ⟨x5, s5, f5, h5, hf5, rfl, rfl⟩
      dsimp only [List.cons_append, List.nil_append]
      have a5 := nextS_at s4 [1]
      rw [h5] at a5
      dsimp only at a5
      repeat (first | refine o_v (k := ?_) | refine c_seq ?_ | refine c_region ?_ | refine o_nil ?_ | refine e_then_normal ?_ | refine o_store (k := ?_) | refine c_true (h1 := ?_) | refine c_false (h1 := ?_) | refine c_ret ?_ | refine c_skip ?_ | refine e_then_ret ?_ | refine c_block ?_ | refine c_exit ?_ | refine e_then_exit ?_ | refine e_block_exit ?_ | refine e_block_normal ?_ | refine e_block_ret ?_ | refine o_box (k := fun _ => ?_) | refine o_alloc (k := fun _ => ?_) | refine e_norm ?_ | refine o_ung (k := ?_) | refine o_k (k := ?_) | refine s_v (k := ?_) | refine s_w (k := ?_) | refine s_k (k := ?_) | refine s_nil ?_ | refine e_block_exit_ne rfl ?_)
      refine e_mid (s5, f5) ⟨?_, hf5, by show s5.at_ ≤ 20; omega⟩ ⟨rfl, rfl, rfl, rfl, trivial⟩ (fun w hw => to_keep _ hw)
      show s5 = _
      simp [readS3, hx, h3, h4, h5]
  rintro ⟨s5, f5⟩ ⟨h5, hf5, a5⟩
  dsimp only at h5 hf5 a5 ⊢
  repeat (first | refine o_v (k := ?_) | refine c_seq ?_ | refine c_region ?_ | refine o_nil ?_ | refine e_then_normal ?_ | refine o_store (k := ?_) | refine c_true (h1 := ?_) | refine c_false (h1 := ?_) | refine c_ret ?_ | refine c_skip ?_ | refine e_then_ret ?_ | refine c_block ?_ | refine c_exit ?_ | refine e_then_exit ?_ | refine e_block_exit ?_ | refine e_block_normal ?_ | refine e_block_ret ?_ | refine o_box (k := fun _ => ?_) | refine o_alloc (k := fun _ => ?_) | refine e_norm ?_ | refine o_ung (k := ?_) | refine o_k (k := ?_) | refine s_v (k := ?_) | refine s_w (k := ?_) | refine s_k (k := ?_) | refine s_nil ?_ | refine e_block_exit_ne rfl ?_)
  refine o_add0 (cellsA true none (nums .u32 [])) (fun w => cellsA_nil _ w) (k := ?_)
  refine o_call (next_ok g b f5 s5 hf5 true none [] 0 (by simp) (by omega)) (k := ?_)
  rintro _ _ ⟨x6, s6, f6, h6, hf6, rfl, rfl⟩
  dsimp only [List.cons_append, List.nil_append]
  have a6 := nextS_at s5 []
  rw [h6] at a6
  dsimp only at a6
  have hS : rpcS l = (x1, x2, x6, s6) := by simp only [rpcS, h1, h2, ← h5, h6]
  have hok : s6.okOf l := by
    have o0 : (⟨0, false, 0, l⟩ : RdS).okOf l := fun _ => ⟨rfl, by simp, by simp⟩
    have o1 := nextS_okOf o0 []
    rw [h1] at o1
    have o2 := nextS_okOf o1 [0, 1]
    rw [h2] at o2
    have o5 : s5.okOf l := by
      rw [h5]; unfold readS3; split
      · exact nextS_okOf o2 _
      · exact nextS_okOf (nextS_okOf (nextS_okOf o2 _) _) _
    have o6 := nextS_okOf o5 []
    rw [h6] at o6
    exact o6
  repeat (first | refine o_v (k := ?_) | refine c_seq ?_ | refine c_region ?_ | refine o_nil ?_ | refine e_then_normal ?_ | refine o_store (k := ?_) | refine c_true (h1 := ?_) | refine c_false (h1 := ?_) | refine c_ret ?_ | refine c_skip ?_ | refine e_then_ret ?_ | refine c_block ?_ | refine c_exit ?_ | refine e_then_exit ?_ | refine e_block_exit ?_ | refine e_block_normal ?_ | refine e_block_ret ?_ | refine o_box (k := fun _ => ?_) | refine o_alloc (k := fun _ => ?_) | refine e_norm ?_ | refine o_ung (k := ?_) | refine o_k (k := ?_) | refine s_v (k := ?_) | refine s_w (k := ?_) | refine s_k (k := ?_) | refine s_nil ?_ | refine e_block_exit_ne rfl ?_)
  refine c_if (h1 := fun hw => ?_) (h2 := fun hw => ?_)
  · have hwr : s6.wrong = true := by rw [← hf6]; exact hw
    repeat (first | refine o_v (k := ?_) | refine c_seq ?_ | refine c_region ?_ | refine o_nil ?_ | refine e_then_normal ?_ | refine o_store (k := ?_) | refine c_true (h1 := ?_) | refine c_false (h1 := ?_) | refine c_ret ?_ | refine c_skip ?_ | refine e_then_ret ?_ | refine c_block ?_ | refine c_exit ?_ | refine e_then_exit ?_ | refine e_block_exit ?_ | refine e_block_normal ?_ | refine e_block_ret ?_ | refine o_box (k := fun _ => ?_) | refine o_alloc (k := fun _ => ?_) | refine e_norm ?_ | refine o_ung (k := ?_) | refine o_k (k := ?_) | refine s_v (k := ?_) | refine s_w (k := ?_) | refine s_k (k := ?_) | refine s_nil ?_ | refine e_block_exit_ne rfl ?_)
    refine c_held (Hf := [blk g 148 [.pointer (some ⟨b, 0, none⟩), .int .i64 s6.at_, .pointer f6] (0, 0)]) ?_
    refine a_v _ 0 (k := ?_)
    refine a_v _ 1 (k := ?_)
    refine a_v _ 2 (k := ?_)
    refine a_v _ 3 (k := ?_)
    refine a_v _ 4 (k := ?_)
    refine a_v _ 5 (hy := y_ifp rfl) (k := ?_)
    refine a_one 6 (k := ?_)
    repeat (first | refine o_v (k := ?_) | refine c_seq ?_ | refine c_region ?_ | refine o_nil ?_ | refine e_then_normal ?_ | refine o_store (k := ?_) | refine c_true (h1 := ?_) | refine c_false (h1 := ?_) | refine c_ret ?_ | refine c_skip ?_ | refine e_then_ret ?_ | refine c_block ?_ | refine c_exit ?_ | refine e_then_exit ?_ | refine e_block_exit ?_ | refine e_block_normal ?_ | refine e_block_ret ?_ | refine o_box (k := fun _ => ?_) | refine o_alloc (k := fun _ => ?_) | refine e_norm ?_ | refine o_ung (k := ?_) | refine o_k (k := ?_) | refine s_v (k := ?_) | refine s_w (k := ?_) | refine s_k (k := ?_) | refine s_nil ?_ | refine e_block_exit_ne rfl ?_)
    refine e_ag ?_
    refine a_v _ 7 (k := ?_)
    refine a_end (k := ?_)
    repeat (first | refine o_v (k := ?_) | refine c_seq ?_ | refine c_region ?_ | refine o_nil ?_ | refine e_then_normal ?_ | refine o_store (k := ?_) | refine c_true (h1 := ?_) | refine c_false (h1 := ?_) | refine c_ret ?_ | refine c_skip ?_ | refine e_then_ret ?_ | refine c_block ?_ | refine c_exit ?_ | refine e_then_exit ?_ | refine e_block_exit ?_ | refine e_block_normal ?_ | refine e_block_ret ?_ | refine o_box (k := fun _ => ?_) | refine o_alloc (k := fun _ => ?_) | refine e_norm ?_ | refine o_ung (k := ?_) | refine o_k (k := ?_) | refine s_v (k := ?_) | refine s_w (k := ?_) | refine s_k (k := ?_) | refine s_nil ?_ | refine e_block_exit_ne rfl ?_)
    refine e_2 (h1 := rs_blk) (h2 := rs_tmp rfl) (H' := [bytesA own q l]) (hT := ?_)
    have hN : rpcRead l = none := by simp [rpcRead, hS, hwr]
    rw [hN]
    exact ⟨_, rfl, rfl⟩
  · have hwr : s6.wrong = false := by rw [← hf6]; exact hw
    obtain ⟨_, hl6, hlt⟩ := hok hwr
    have hSo : rpcRead l = some (decide (x2 = 1), x1, x6, l.drop s6.at_) := by simp [rpcRead, hS, hwr]
    repeat (first | refine o_v (k := ?_) | refine c_seq ?_ | refine c_region ?_ | refine o_nil ?_ | refine e_then_normal ?_ | refine o_store (k := ?_) | refine c_true (h1 := ?_) | refine c_false (h1 := ?_) | refine c_ret ?_ | refine c_skip ?_ | refine e_then_ret ?_ | refine c_block ?_ | refine c_exit ?_ | refine e_then_exit ?_ | refine e_block_exit ?_ | refine e_block_normal ?_ | refine e_block_ret ?_ | refine o_box (k := fun _ => ?_) | refine o_alloc (k := fun _ => ?_) | refine e_norm ?_ | refine o_ung (k := ?_) | refine o_k (k := ?_) | refine s_v (k := ?_) | refine s_w (k := ?_) | refine s_k (k := ?_) | refine s_nil ?_ | refine e_block_exit_ne rfl ?_)
    refine o_cutlov s6.at_ (l.drop s6.at_).length (hm := by simp; omega) (k := fun q1 c1 hq1 hc1 => ?_)
    have hcl := clone_sub own q q1 l s6.at_ (l.drop s6.at_).length c1 hl (by simp; omega) (fun b o h hn => by
      have := hq1 b o h (by simp at hn; omega)
      simpa using this)
    rw [List.take_length] at hcl
    repeat (first | refine o_v (k := ?_) | refine c_seq ?_ | refine c_region ?_ | refine o_nil ?_ | refine e_then_normal ?_ | refine o_store (k := ?_) | refine c_true (h1 := ?_) | refine c_false (h1 := ?_) | refine c_ret ?_ | refine c_skip ?_ | refine e_then_ret ?_ | refine c_block ?_ | refine c_exit ?_ | refine e_then_exit ?_ | refine e_block_exit ?_ | refine e_block_normal ?_ | refine e_block_ret ?_ | refine o_box (k := fun _ => ?_) | refine o_alloc (k := fun _ => ?_) | refine e_norm ?_ | refine o_ung (k := ?_) | refine o_k (k := ?_) | refine s_v (k := ?_) | refine s_w (k := ?_) | refine s_k (k := ?_) | refine s_nil ?_ | refine e_block_exit_ne rfl ?_)
    refine o_call hcl (k := ?_)
    rintro v _ rfl
    dsimp only [List.cons_append, List.nil_append]
    refine o_buf true v (k := ?_)
    rintro q2 c2 rfl hc2 hm2
    repeat (first | refine o_v (k := ?_) | refine c_seq ?_ | refine c_region ?_ | refine o_nil ?_ | refine e_then_normal ?_ | refine o_store (k := ?_) | refine c_true (h1 := ?_) | refine c_false (h1 := ?_) | refine c_ret ?_ | refine c_skip ?_ | refine e_then_ret ?_ | refine c_block ?_ | refine c_exit ?_ | refine e_then_exit ?_ | refine e_block_exit ?_ | refine e_block_normal ?_ | refine e_block_ret ?_ | refine o_box (k := fun _ => ?_) | refine o_alloc (k := fun _ => ?_) | refine e_norm ?_ | refine o_ung (k := ?_) | refine o_k (k := ?_) | refine s_v (k := ?_) | refine s_w (k := ?_) | refine s_k (k := ?_) | refine s_nil ?_ | refine e_block_exit_ne rfl ?_)
    refine e_2 (h1 := rs_blk) (h2 := rs_tmp rfl) (H' := [bytesA true q2 (l.drop s6.at_), bytesA own q l]) (hT := ?_)
    rw [hSo]
    exact ⟨q2, c2, hc2, hm2, rfl, rfl⟩
end Go.Proofs.YtlkgdidmhmaneaaGreatDoor
