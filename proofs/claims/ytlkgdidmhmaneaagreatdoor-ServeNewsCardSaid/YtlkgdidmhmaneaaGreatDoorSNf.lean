/- A part of the proof: walks and laws that the last part joins. -/
import Derived.Test.YtlkgdidmhmaneaaGreatDoorSNe
import Derived.Lib.Overlaps
import Derived.Lib.Bytealg
import Derived.Defers
import Derived.Conc.MuLone
import Derived.MapKept
/- The engine, part 14: copy, clear, append of zeros, overlaps, comparing texts, cuts with three indexes. -/
namespace Go.Proofs.YtlkgdidmhmaneaaGreatDoor
open Go Go.RowKit
section
variable {P : Program} {Q : Exit → Act → World → Prop} {G : Ctx} {F : Fr} {H H1 : List Ast} {ops : Array Oper} {rest : List Oper} {c : Code} {ex : Exit}
variable {d : Nat} {ty : TypeId} {pos : String} {aft : Array Edge}
/-- copy(dst, src): dst lies in a block of the call's own -/
theorem o_copy {x y : Operand} {t tx e e' t' : TypeId} {sz bytes sz' bytes' g o dLen dCap sLen sCap m : Nat} {z z' cs news : List Value} {q : Option Addr} {fz : Nat × Nat} [he : PElem P t e sz bytes z] [hx' : PElem P tx e' sz' bytes' z'] (hx : ev F x = some (.slice (some ⟨g, o, none⟩) dLen dCap) := by rfl) (hy : ev F y = some (.slice q sLen sCap) := by rfl)
    (ht : TakeA H (blk g t' cs fz) H1 := by repeat (first | exact TakeA.here | apply TakeA.there)) (hm : m = min sLen dLen) (hl : news.length = m * sz) (hc : news = [] ∨ ∃ p, q = some p ∧ CellsIn H p news) (h1 : ∀ u ∈ news, u.oneCell' = true) (hfz : fzOk fz cs.length) (hfit : o + news.length ≤ cs.length) (hd : Nat.ble (d + 1) G.n = true := by rfl)
    (k : OG P ops Q G rest ((d, .int .i64 m) :: F) (blk g t' (cs.take o ++ news ++ cs.drop (o + news.length)) fz :: H1)) : OG P ops Q G (⟨some d, .call ⟨.builtin .copy, #[x, y], #[t, tx]⟩, ty, pos, aft, none⟩ :: rest) F H := by
  intro a w ha hw
  have hw' := hw.take ht
  have hb := hw'.blk_heap
  refine wpList_plain rfl fun K hK => ?_
  unfold Oper.wp
  obtain ⟨i, zv, g1, g2, g3, g4, g5⟩ := he.hi
  have hst := run_storeCells_fz P g o t' fz news 0 cs.toArray w hb (by simpa using hfz) (by simpa using hfit) h1
  simp only [Nat.add_zero] at hst
  have hfc : (Builtin.firstCells sz m (.slice q sLen sCap)).run P w = .ok news.toArray w := by
    rcases hc with rfl | ⟨p, rfl, hc⟩
    · have hm0 : m = 0 := by
        have := he.h0
        rcases Nat.mul_eq_zero.1 (show m * sz = 0 from by simpa using hl.symm) with h | h <;> omega
      subst hm0
      cases q with
      | none => exact run_firstCells_none (P := P) w sz 0 sLen sCap
      | some p => exact run_firstCells_some (P := P) w sz 0 p sLen sCap [] (by simp) (fun j u hu => by simp at hu)
    · exact run_firstCells_some (P := P) w sz m p sLen sCap news hl (fun j u hu => hc w hw.held j u hu)
  have hrun : (execOp a.eval ⟨some d, .call ⟨.builtin .copy, #[x, y], #[t, tx]⟩, ty, pos, aft, none⟩).run P w = .ok (.value (.int .i64 m)) (w.setRow g (cs.take o ++ news ++ cs.drop (o + news.length)).toArray) := by
    have : (Builtin.copy_ #[t, tx] ty #[.slice (some ⟨g, o, none⟩) dLen dCap, .slice q sLen sCap]).run P w = .ok (.int .i64 m) (w.setRow g (cs.take o ++ news ++ cs.drop (o + news.length)).toArray) := by
      have hmm : Nat.min sLen dLen = m := hm.symm
      subst g4
      simp [Builtin.copy_, run_underlying he.hu, Builtin.lenOf, sizeOf, typeInfo, g1, hmm, hfc, hst, goInt]
    simp [execOp, resolve, invoke, builtin, ha.ev hx, ha.ev hy, this]
  rw [hrun]
  exact hK _ _ (k _ _ (ha.put hd _) (hw'.setRowF _))
/-- clear(s): s lies in a block of the call's own -/
theorem o_clear {x : Operand} {t e t' : TypeId} {sz bytes g o n cap : Nat} {z cs : List Value} {fz : Nat × Nat} [he : PElem P t e sz bytes z] (hx : ev F x = some (.slice (some ⟨g, o, none⟩) n cap) := by rfl)
    (ht : TakeA H (blk g t' cs fz) H1 := by repeat (first | exact TakeA.here | apply TakeA.there)) (h1 : allOne z = true := by rfl) (hfz : fzOk fz cs.length) (hfit : o + n * sz ≤ cs.length)
    (k : ∀ zs : List Value, zs.length = n * sz → OG P ops Q G rest F (blk g t' (cs.take o ++ zs ++ cs.drop (o + n * sz)) fz :: H1)) : OG P ops Q G (⟨none, .call ⟨.builtin .clear, #[x], #[t]⟩, ty, pos, aft, none⟩ :: rest) F H := by
  intro a w ha hw
  have hw' := hw.take ht
  have hb := hw'.blk_heap
  refine wpList_plain rfl fun K hK => ?_
  unfold Oper.wp
  obtain ⟨i, zv, g1, g2, g3, g4, g5⟩ := he.hi
  have hzs : zv.cells.size = sz := by rw [g3]; simpa using he.hz
  have hone : ∀ u ∈ (Builtin.zeroCells zv.cells n).toList, u.oneCell' = true := by
    intro u hu
    simp only [Builtin.zeroCells, Array.toList_map, List.mem_map] at hu
    obtain ⟨j, hj, rfl⟩ := hu
    have hj' : j < n * zv.cells.size := by simpa using hj
    have hpos : 0 < zv.cells.size := by rw [hzs]; exact he.h0
    have hlt := Nat.mod_lt j hpos
    refine allOne_spec h1 _ ?_
    rw [getElem!_pos zv.cells _ hlt]
    have : zv.cells[j % zv.cells.size] ∈ zv.cells.toList := by simp
    have hzl : zv.cells.toList = z := by rw [g3]
    rw [hzl] at this
    exact this
  have hlen : (Builtin.zeroCells zv.cells n).toList.length = n * sz := by rw [Array.length_toList, size_zeroCells, hzs]
  by_cases hn : n = 0
  · subst hn
    have hrun : (execOp a.eval ⟨none, .call ⟨.builtin .clear, #[x], #[t]⟩, ty, pos, aft, none⟩).run P w = .ok (.value (.tuple #[])) w := by
      simp [execOp, resolve, invoke, builtin, ha.ev hx, Builtin.clear_, run_underlying he.hu]
    rw [hrun]
    refine hK _ _ ?_
    have := k [] (by simp) a w ha (by simpa using hw')
    simpa [Act.put] using this
  · have hst := run_storeCells_fz P g o t' fz (Builtin.zeroCells zv.cells n).toList 0 cs.toArray w hb (by simpa using hfz) (by simp only [Nat.add_zero, hlen]; simpa using hfit) hone
    simp only [Nat.add_zero, hlen] at hst
    have hrun : (execOp a.eval ⟨none, .call ⟨.builtin .clear, #[x], #[t]⟩, ty, pos, aft, none⟩).run P w = .ok (.value (.tuple #[])) (w.setRow g (cs.take o ++ (Builtin.zeroCells zv.cells n).toList ++ cs.drop (o + n * sz)).toArray) := by
      have : (Builtin.clear_ #[t] ty #[.slice (some ⟨g, o, none⟩) n cap]).run P w = .ok (.tuple #[]) (w.setRow g (cs.take o ++ (Builtin.zeroCells zv.cells n).toList ++ cs.drop (o + n * sz)).toArray) := by
        obtain ⟨n, rfl⟩ := Nat.exists_eq_succ_of_ne_zero hn
        simp [Builtin.clear_, run_underlying he.hu, zeroValue, typeInfo, g1, g2, hst]
      simp [execOp, resolve, invoke, builtin, ha.ev hx, this]
    rw [hrun]
    refine hK _ _ ?_
    have := k _ hlen a _ ha (hw'.setRowF _)
    simpa [Act.put] using this

theorem run_append_grow_zeros (w : World) (t tx ty e : TypeId) (i : TypeInfo) (z : Value) (kk : IntKind) (ht : P.underlying t = some (.slice e)) (hk : P.underlying tx = some (.int kk)) (hi : P.info? e = some i) (hz : i.zero = some z) (base : Option Addr) (sLen sCap : Nat) (olds : List Value)
    (hold : (Builtin.firstCells i.size sLen (.slice base sLen sCap)).run P w.drew = .ok olds.toArray w.drew) (n : Nat) (hn0 : 0 < n * i.size)
    (hg : sCap < sLen + n) (h63 : ((sLen + n : Nat) : Int) ≤ 9223372036854775807) (h48 : n * i.bytes ≤ 281474976710656) (hfit : Builtin.nextslicecap (sLen + n) sCap * i.bytes ≤ 281474976710656) :
    (Builtin.append_ #[t, tx] ty #[.slice base sLen sCap, .int .i64 n]).run P w =
      .ok (.slice (some ⟨w.heap.size, 0, none⟩) (sLen + n) (grownCap w (sLen + n) sCap e))
        (w.drew.alloc (.cells ((olds ++ (Builtin.zeroCells z.cells n).toList).toArray ++ Builtin.zeroCells z.cells (grownCap w (sLen + n) sCap e - (sLen + n))) e)) := by
  have hn : ¬ (sLen + n ≤ sCap) := by omega
  have h63' : ¬ (9223372036854775807 < ((sLen : Int) + (n : Int))) := by omega
  have h48' : ¬ (281474976710656 < Builtin.nextslicecap (sLen + n) sCap * i.bytes) := by omega
  have hw : IntKind.i64.wrap (n : Int) = n := Go.IntWalk.i64_in n (by omega)
  have hne : ¬ ((n : Int) < 0) := by omega
  have h48'' : ¬ ((n : Int) * i.bytes > 2 ^ 48) := by
    have : (n : Int) * i.bytes = ((n * i.bytes : Nat) : Int) := by simp
    rw [this]; omega
  have hns : ¬ (n * i.size = 0) := by omega
  have h48s : ¬ (281474976710656 < (n : Int) * i.bytes) := by
    have : (n : Int) * i.bytes = ((n * i.bytes : Nat) : Int) := by simp
    rw [this]; omega
  have hns' : ¬ (n = 0 ∨ i.size = 0) := fun h => hns (Nat.mul_eq_zero.2 h)
  simp [Builtin.append_, run_underlying ht, run_underlying hk, sizeOf, typeInfo, zeroValue, hi, hz, asInt, asIntOf, hw, hne, h48s, hn, h63', h48', hns', Question.forced, hold, newRow, grownCap]
  rw [if_neg hns]
  congr 3
  apply Array.ext'
  simp [List.append_assoc]
/-- append(s[:n], make(S, m)...): where there is no room -/
theorem o_append_zeros {s x : Operand} {t tx e : TypeId} {kk : IntKind} {sz bytes n m cap : Nat} {mi : Int} {z xs : List Value} {p : Addr} [he : PElem P t e sz bytes z] [hk : PUnd P tx (.int kk)] (hk2 : P.underlying tx = some (.int kk)) (hs : ev F s = some (.slice (some p) n cap) := by rfl) (hx : ev F x = some (.int .i64 mi) := by rfl) (hmi : mi = m) (hm0 : 0 < m)
    (hold : CellsIn H p xs) (hl : xs.length = n * sz) (hcap : cap < n + m) (hb : n + m ≤ 9223372036854775807 ∧ (n + m) * bytes ≤ 140737488355328) (hd : Nat.ble (d + 1) G.n = true := by rfl)
    (k : ∀ g cap' zs tl, zs.length = m * sz → n + m ≤ cap' → cap' ≤ 9223372036854775807 → (xs ++ zs).length + tl.length = cap' * sz → OG P ops Q G rest ((d, .slice (some ⟨g, 0, none⟩) (n + m) cap') :: F) (blk g e (xs ++ zs ++ tl) (0, 0) :: H)) : OG P ops Q G (⟨some d, .call ⟨.builtin .append, #[s, x], #[t, tx]⟩, ty, pos, aft, none⟩ :: rest) F H := by
  subst hmi
  intro a w ha hw
  refine wpList_plain rfl fun K hK => ?_
  unfold Oper.wp
  obtain ⟨i, zv, h1, h2, h3, h4, h5⟩ := he.hi
  subst h4
  have hfirst : (Builtin.firstCells i.size n (.slice (some p) n cap)).run P w.drew = .ok xs.toArray w.drew := run_firstCells_some (P := P) w.drew i.size n p n cap xs hl (fun j u hu => hold w hw.held j u hu)
  have h48 : m * i.bytes ≤ 281474976710656 := by
    have : m * i.bytes ≤ (n + m) * i.bytes := Nat.mul_le_mul_right _ (by omega)
    rw [h5] at this ⊢; omega
  have hr := run_append_grow_zeros (P := P) w t tx ty e i zv kk he.hu hk2 h1 h2 (some p) n cap xs hfirst m (Nat.mul_pos hm0 he.h0) hcap (by omega) h48 (by rw [h5]; exact growslice_fits hcap hb.2)
  have hrun : (execOp a.eval ⟨some d, .call ⟨.builtin .append, #[s, x], #[t, tx]⟩, ty, pos, aft, none⟩).run P w = .ok (.value (.slice (some ⟨w.heap.size, 0, none⟩) (n + m) (grownCap w (n + m) cap e))) (w.drew.alloc (.cells ((xs ++ (Builtin.zeroCells zv.cells m).toList).toArray ++ Builtin.zeroCells zv.cells (grownCap w (n + m) cap e - (n + m))) e)) := by
    simp [execOp, resolve, invoke, builtin, ha.ev hs, ha.ev hx, hr]
  rw [hrun]
  have hge := grownCap_ge w (n + m) cap e
  have hcm : grownCap w (n + m) cap e ≤ 9223372036854775807 := grownCap_le_maxLen w (n + m) cap e (by unfold maxLen; omega)
  have hzs : zv.cells.size = i.size := by rw [h3]; simpa using he.hz
  have hg := (hw.drew).alloc e (xs ++ (Builtin.zeroCells zv.cells m).toList ++ (Builtin.zeroCells zv.cells (grownCap w (n + m) cap e - (n + m))).toList)
  have hzl : (Builtin.zeroCells zv.cells m).toList.length = m * i.size := by rw [Array.length_toList, size_zeroCells, hzs]
  have e1 : (xs ++ (Builtin.zeroCells zv.cells m).toList ++ (Builtin.zeroCells zv.cells (grownCap w (n + m) cap e - (n + m))).toList).toArray = (xs ++ (Builtin.zeroCells zv.cells m).toList).toArray ++ Builtin.zeroCells zv.cells (grownCap w (n + m) cap e - (n + m)) := by
    apply Array.toList_inj.1; simp
  rw [e1] at hg
  have e2 : ({ w with drawn := w.drawn + 1 } : World) = w.drew := rfl
  rw [e2] at hg
  refine hK _ _ (k w.heap.size (grownCap w (n + m) cap e) _ _ hzl hge hcm ?_ _ _ (ha.put hd _) hg)
  rw [List.length_append, hl, hzl, Array.length_toList, size_zeroCells, hzs, ← Nat.add_mul, ← Nat.add_mul]
  congr 1; omega
/-- append into the block that the slice lies in, where there is room -/
theorem o_append_in {s x : Operand} {t tx e : TypeId} {sz bytes n m cap g : Nat} {z xs tl news : List Value} {fz : Nat × Nat} {xv : Value} [he : PElem P t e sz bytes z] (hs : ev F s = some (.slice (some ⟨g, 0, none⟩) n cap) := by rfl) (hx : ev F x = some xv := by rfl)
    (ht : TakeA H (blk g e (xs ++ tl) fz) H1 := by repeat (first | exact TakeA.here | apply TakeA.there)) (hsrc : SrcIn P H sz tx xv m news) (hfz : fzOk fz (xs.length + tl.length)) (hl : xs.length = n * sz) (hc : xs.length + tl.length = cap * sz) (hroom : n + m ≤ cap) (hd : Nat.ble (d + 1) G.n = true := by rfl)
    (k : OG P ops Q G rest ((d, .slice (some ⟨g, 0, none⟩) (n + m) cap) :: F) (blk g e (xs ++ news ++ tl.drop news.length) fz :: H1)) : OG P ops Q G (⟨some d, .call ⟨.builtin .append, #[s, x], #[t, tx]⟩, ty, pos, aft, none⟩ :: rest) F H := by
  intro a w ha hw
  have hw' := hw.take ht
  have hb := hw'.blk_heap
  refine wpList_plain rfl fun K hK => ?_
  unfold Oper.wp
  have hr := run_append_row (P := P) (t := t) (tx := tx) (ty := ty) g cap tl fz hb hfz hl hc (hsrc w hw.held) hroom
  have hrun : (execOp a.eval ⟨some d, .call ⟨.builtin .append, #[s, x], #[t, tx]⟩, ty, pos, aft, none⟩).run P w = .ok (.value (.slice (some ⟨g, 0, none⟩) (n + m) cap)) (w.setRow g (xs ++ news ++ tl.drop news.length).toArray) := by
    simp [execOp, resolve, invoke, builtin, ha.ev hs, ha.ev hx, hr]
  rw [hrun]
  exact hK _ _ (k _ _ (ha.put hd _) (hw'.setRowF _))
section
variable {n : Nat} {t e : TypeId} {q : Option Addr} {m c' sz : Nat} {x y : Operand} {k : IntKind}
theorem y_cap [h1 : PUnd P t (.slice e)] (hx : ev F x = some (.slice q m c')) : Yl P n F H (.call { callee := .builtin .cap, args := #[x], argTypes := #[t] }) (.int .i64 c') := fun _ w _ _ _ _ _ ha _ => by
  simp [execOp, ha.ev hx, resolve, invoke, builtin, Builtin.cap_, h1.h, goInt]
theorem y_cut4 [h1 : PUnd P t (.slice e)] [h2 : PSize P e sz] {z u : Operand} {i j l : Int} {k2 k3 : IntKind} (hx : ev F x = some (.slice q m c')) (hy : ev F y = some (.int k i)) (hz : ev F z = some (.int k2 j)) (hu : ev F u = some (.int k3 l)) (h : 0 ≤ i ∧ i ≤ j ∧ j ≤ l ∧ l ≤ c') :
    Yl P n F H (.slice t x (some y) (some z) (some u)) (.slice (if l.toNat = i.toNat then q else q.map (·.add (i.toNat * sz))) (j.toNat - i.toNat) (l.toNat - i.toNat)) := fun _ w _ _ _ _ _ ha _ => by
  obtain ⟨jn, rfl⟩ := Int.eq_ofNat_of_zero_le (show 0 ≤ j by omega)
  obtain ⟨ln, rfl⟩ := Int.eq_ofNat_of_zero_le (show 0 ≤ l by omega)
  have h4 := h.2.1
  have h7 := Int.ofNat_le.1 h.2.2.1
  have h8 := Int.ofNat_le.1 h.2.2.2
  simp [execOp, ha.ev hx, ha.ev hy, ha.ev hz, ha.ev hu, Instr.sliceAt, Instr.slice, Instr.sliceBounds, Instr.sliceBound, asIntOf, h1.h, h2.h, h.1, h7, h4, h8]
/-- comparing two texts -/
theorem y_cmp {f : FuncId} {fn : Func} {ats : Array TypeId} {l1 l2 : List UInt8} {g : Operand} (hf : P.funcs[f]? = some fn) (hname : (fn.name == "runtime.NumGoroutine") = false) (hb : fn.body.isNone = true) (hn : Extern.findNext fn = none) (he : Extern.find fn = some Extern.BytealgCompare.compare)
    (hg : ev F g = some (.func (.func f) #[] #[])) (hx : ev F x = some (str l1)) (hy : ev F y = some (str l2)) : Yl P n F H (.call ⟨.value g, #[x, y], ats⟩) (.int .i64 (Lib.compareBytes l1 l2)) := fun a w _ _ _ _ _ ha _ => by
  have h1 := run_callFunc_extern hf hname hb hn he #[str l1, str l2] w
  rw [Lib.run_compareString] at h1
  simp only [Result.andThen, str_data] at h1
  simp [execOp, resolve, ha.ev hg, ha.ev hx, ha.ev hy, Deferred.ofValue, invoke, h1]
/-- two rows in two blocks of the call's own lie apart -/
theorem y_over {f : FuncId} {fn : Func} {tR : TypeId} {ats : Array TypeId} {g : Operand} {b1 o1 b2 o2 n1 c1 n2 c2 : Nat} {t1 t2 : TypeId} {cs1 cs2 : List Value} {fz2 : Nat × Nat} [h2 : PSize P e sz] (ht : P.underlying t = some (.slice e)) (hf : P.funcs[f]? = some fn) (hname : (fn.name == "runtime.NumGoroutine") = false) (hb : fn.body.isNone = true) (hn : Extern.findNext fn = none) (he : Extern.find fn = some (Extern.SlicesOverlaps.overlaps #[t, t] #[tR]))
    (hg : ev F g = some (.func (.func f) #[] #[])) (hx : ev F x = some (.slice (some ⟨b1, o1, none⟩) n1 c1)) (hy : ev F y = some (.slice (some ⟨b2, o2, none⟩) n2 c2)) (i1 : BlkIn H b1 t1 cs1 (0, 0)) (i2 : BlkIn H b2 t2 cs2 fz2) (hne : b1 ≠ b2) (h0 : cs2 ≠ []) : Yl P n F H (.call ⟨.value g, #[x, y], ats⟩) (.bool false) := fun a w _ _ _ _ _ ha hw => by
  have k1 := i1 w hw
  have k2 := i2 w hw
  have hr := Lib.run_overlaps_apart (P := P) w t tR e ht sz (fun w => h2.h w) ⟨b1, o1, none⟩ ⟨b2, o2, none⟩ n1 c1 n2 c2 hne t1 t2 cs1.length cs2.length (by simp [World.shape?, k1]) (by simp [World.shape?, k2]) (by cases cs2 <;> simp_all) (by simp [World.frozen?, k1]) (by simp [World.frozen?, k1])
  have h1 := run_callFunc_extern hf hname hb hn he #[.slice (some ⟨b1, o1, none⟩) n1 c1, .slice (some ⟨b2, o2, none⟩) n2 c2] w
  rw [hr] at h1
  simp only [Result.andThen] at h1
  simp [execOp, resolve, ha.ev hg, ha.ev hx, ha.ev hy, Deferred.ofValue, invoke, h1]
end
/-! ### what is known of a row that stays one -/
theorem InA.row {H : List Ast} {q : Option Addr} {n c : Nat} {e : TypeId} {sz : Nat} {xs : List Value} (own : Bool) (h : InA H (rowA (.slice q n c) e sz n xs)) : InA H (cellsA own q xs) := fun w hw => by
  obtain ⟨S, hs⟩ := h w hw
  obtain ⟨q', c', g1, _, _, _, g5⟩ := rowA_cells own hs
  cases g1
  exact ⟨S, g5⟩
theorem row_is {v : Value} {e : TypeId} {sz n : Nat} {xs : List Value} (h : InA H (rowA v e sz n xs)) {w : World} (hw : Held H w) : ∃ q c, v = .slice q n c ∧ n ≤ c ∧ c ≤ 9223372036854775807 ∧ xs.length = n * sz := by
  obtain ⟨S, hs⟩ := h w hw
  obtain ⟨q, c, h1, h2, h3, h4, _⟩ := rowA_cells true hs
  exact ⟨q, c, h1, h2, h3, h4⟩
theorem o_rowis (v : Value) {e : TypeId} {sz n : Nat} {xs : List Value} (h : InA H (rowA v e sz n xs) := by repeat (first | exact InA.here | apply InA.there)) (k : ∀ q cp, v = .slice q n cp → n ≤ cp → cp ≤ 9223372036854775807 → xs.length = n * sz → OG P ops Q G rest F H) : OG P ops Q G rest F H := by
  intro a w ha hw
  obtain ⟨q, c, h1, h2, h3, h4⟩ := row_is h hw.held
  exact k q c h1 h2 h3 h4 a w ha hw
theorem c_rowis (v : Value) {e : TypeId} {sz n : Nat} {xs : List Value} (h : InA H (rowA v e sz n xs) := by repeat (first | exact InA.here | apply InA.there)) (k : ∀ q cp, v = .slice q n cp → n ≤ cp → cp ≤ 9223372036854775807 → xs.length = n * sz → CG P c Q G F H) : CG P c Q G F H := by
  intro a w ha hw
  obtain ⟨q, cp, h1, h2, h3, h4⟩ := row_is h hw.held
  exact k q cp h1 h2 h3 h4 a w ha hw
theorem o_rowat (q : Option Addr) {n n' cp : Nat} {e : TypeId} {sz : Nat} {xs : List Value} (hne : xs ≠ []) (h : InA H (rowA (.slice q n cp) e sz n' xs) := by repeat (first | exact InA.here | apply InA.there)) (k : ∀ b, q = some ⟨b, 0, none⟩ → OG P ops Q G rest F H) : OG P ops Q G rest F H := by
  intro a w ha hw
  obtain ⟨S, o, ⟨hl, hp⟩, hs⟩ := h w hw.held
  cases o with
  | none => exact absurd (List.eq_nil_of_length_eq_zero (by rw [hl, hp.2]; simp)) hne
  | some x => exact k x.1 (by have := hp.1; simp only [Value.slice.injEq] at this; exact this.1) a w ha hw
theorem c_rowopen {e : TypeId} {sz : Nat} (v : Value) {n : Nat} {xs : List Value} (hne : xs ≠ []) (ht : TakeA H (rowA v e sz n xs) H1 := by repeat (first | exact TakeA.here | apply TakeA.there))
    (k : ∀ g cap tl fz, v = .slice (some ⟨g, 0, none⟩) n cap → xs.length = n * sz → n ≤ cap → cap ≤ 9223372036854775807 → xs.length + tl.length = cap * sz → fzOk fz (xs.length + tl.length) → CG P c Q G F (blk g e (xs ++ tl) fz :: H1)) : CG P c Q G F H := by
  intro a w ha hw
  rcases (hw.take ht).rowCases with ⟨_, _, h, _⟩ | ⟨g, cap, tl, fz, h1, h2, h3, h4, h5, h6, h7⟩
  · exact absurd h hne
  · exact k g cap tl fz h1 h2 h3 h4 h5 h6 a w ha h7
theorem e_rowshut {e : TypeId} {sz : Nat} (v : Value) {g cap n : Nat} {tl xs cs : List Value} {fz : Nat × Nat} (hcs : cs = xs ++ tl) (ht : TakeA H (blk g e cs fz) H1 := by repeat (first | exact TakeA.here | apply TakeA.there)) (h : v = .slice (some ⟨g, 0, none⟩) n cap ∧ xs.length = n * sz ∧ n ≤ cap ∧ cap ≤ 9223372036854775807 ∧ xs.length + tl.length = cap * sz ∧ fzOk fz (xs.length + tl.length))
    (k : EG Q ex G F (rowA v e sz n xs :: H1)) : EG Q ex G F H :=
  e_conv (fun _ hw => Good.fold rowA_bs (some (g, cap, tl, fz)) ⟨h.2.1, h.1, h.2.2⟩ (by subst hcs; simpa using hw.take ht)) k
/-- x[j:], where the address is known -/
theorem o_cutlo_g (j : Nat) {t e : TypeId} {x y : Operand} {b o m c' sz : Nat} {i : Int} {k' : IntKind} [g1 : PUnd P t (.slice e)] [g2 : PSize P e sz] (hx : ev F x = some (.slice (some ⟨b, o, none⟩) m c') := by rfl) (hy : ev F y = some (.int k' i) := by rfl) (hj : i = j := by omega) (hm : j ≤ m := by omega) (hc : j < c' := by omega) (hd : Nat.ble (d + 1) G.n = true := by rfl)
    (k : OG P ops Q G rest ((d, .slice (some ⟨b, o + j * sz, none⟩) (m - j) (c' - j)) :: F) H) : OG P ops Q G (⟨some d, .slice t x (some y) none none, ty, pos, aft, none⟩ :: rest) F H := by
  subst hj
  have h := y_cutlo (P := P) (n := G.n) (H := H) (t := t) hx hy (by omega)
  refine o_y h hd ?_
  rw [Int.toNat_natCast, if_neg (by omega)]
  simpa [Addr.add_lit] using k
theorem s_cutlo_g {tail : List Oper} (j : Nat) {t e : TypeId} {x y : Operand} {b o m c' sz : Nat} {i : Int} {k' : IntKind} [g1 : PUnd P t (.slice e)] [g2 : PSize P e sz] (hx : ev F x = some (.slice (some ⟨b, o, none⟩) m c') := by rfl) (hy : ev F y = some (.int k' i) := by rfl) (hj : i = j := by omega) (hm : j ≤ m := by omega) (hc : j < c' := by omega) (hd : Nat.ble (d + 1) G.n = true := by rfl)
    (k : SG P ops Q G tail rest ((d, .slice (some ⟨b, o + j * sz, none⟩) (m - j) (c' - j)) :: F) H) : SG P ops Q G tail (⟨some d, .slice t x (some y) none none, ty, pos, aft, none⟩ :: rest) F H := by
  subst hj
  have h := y_cutlo (P := P) (n := G.n) (H := H) (t := t) hx hy (by omega)
  refine s_y h hd ?_
  rw [Int.toNat_natCast, if_neg (by omega)]
  simpa [Addr.add_lit] using k
/-- x[j:j2], where the address is known -/
theorem o_cut_g (j j2 : Nat) {t e : TypeId} {x y z : Operand} {b o m c' sz : Nat} {i i2 : Int} {k' k2 : IntKind} [g1 : PUnd P t (.slice e)] [g2 : PSize P e sz] (hx : ev F x = some (.slice (some ⟨b, o, none⟩) m c') := by rfl) (hy : ev F y = some (.int k' i) := by rfl) (hz : ev F z = some (.int k2 i2) := by rfl) (hj : i = j := by omega) (hj2 : i2 = j2 := by omega) (hc : j ≤ j2 ∧ j2 ≤ c' ∧ j < c' := by omega) (hd : Nat.ble (d + 1) G.n = true := by rfl)
    (k : OG P ops Q G rest ((d, .slice (some ⟨b, o + j * sz, none⟩) (j2 - j) (c' - j)) :: F) H) : OG P ops Q G (⟨some d, .slice t x (some y) (some z) none, ty, pos, aft, none⟩ :: rest) F H := by
  subst hj hj2
  have h := y_cut (P := P) (n := G.n) (H := H) (t := t) hx hy hz (by omega)
  refine o_y h hd ?_
  rw [Int.toNat_natCast, if_neg (by omega)]
  simpa [Addr.add_lit] using k
/-- some cells in the midst of a row's element -/
theorem CellsIn.rowsub {H : List Ast} {own : Bool} {b o o' sz i j m : Nat} {rows : List (List Value)} {us vs : List Value} (h : InA H (cellsA own (some ⟨b, o, none⟩) rows.flatten)) (hl : ∀ r ∈ rows, r.length = sz) (hi : rows[i]? = some us) (hs : sub us j m = some vs) (ho : o' = o + i * sz + j) : CellsIn H ⟨b, o', none⟩ vs := fun w hw l v hv => by
  subst ho
  obtain ⟨h1, h2⟩ := sub_spec us j m vs hs
  have hlt : l < m := by have := (List.getElem?_eq_some_iff.1 hv).1; omega
  have := CellsIn.row h hl hi rfl w hw (j + l) v (by rw [← h2 l hlt]; exact hv)
  rw [Addr.add_lit] at this ⊢
  rw [← this]; congr 2; omega
/-- two blocks of the call's own are two -/
theorem blk_ne {w : World} {b1 b2 : Nat} {t1 t2 : TypeId} {cs1 cs2 : List Value} {f1 f2 : Nat × Nat} (h : Good G (blk b1 t1 cs1 f1 :: blk b2 t2 cs2 f2 :: H1) w) : b1 ≠ b2 := by
  obtain ⟨M, T, h1, _⟩ := h
  obtain ⟨S, g1, g2, g3⟩ := (SepL.cons_own (blk_own _ _ _ _)).1 h1
  obtain ⟨S', k1, k2, _⟩ := (SepL.cons_own (blk_own _ _ _ _)).1 g3
  rintro rfl
  exact (k1 _ k2.1).2 g2.1
theorem o_ne (b1 b2 : Nat) {t1 t2 : TypeId} {cs1 cs2 : List Value} {f1 f2 : Nat × Nat} (hs : SplitA H [blk b1 t1 cs1 f1, blk b2 t2 cs2 f2] H1 := by (repeat (apply SplitA.cons; (repeat (first | exact TakeA.keepI | exact TakeA.here | apply TakeA.there)))); exact SplitA.nil) (k : b1 ≠ b2 → OG P ops Q G rest F H) : OG P ops Q G rest F H := o_fact (fun _ hw => blk_ne (hw.split hs)) k
end
end Go.Proofs.YtlkgdidmhmaneaaGreatDoor
/- slices over entries, strings.Compare: what they leave. -/
namespace Go.Proofs.YtlkgdidmhmaneaaGreatDoor
open Go Go.RowKit
theorem cmp_eq (l m : Bts) : Lib.compareBytes l m = if ltB l m = true then -1 else if l = m then 0 else 1 := by
  induction l generalizing m with
  | nil => cases m <;> simp [Lib.compareBytes, ltB]
  | cons a l ih =>
    cases m with
    | nil => simp [Lib.compareBytes, ltB]
    | cons b m =>
      simp only [Lib.compareBytes, ltB]
      by_cases h : a < b
      · simp [h]
      · by_cases h2 : b < a
        · have : a ≠ b := fun e => by subst e; exact h h2
          simp [h, h2, this]
        · have : a = b := by
            simp only [UInt8.lt_iff_toNat_lt] at h h2
            exact UInt8.toNat_inj.1 (by omega)
          subst this
          simp [ih, UInt8.lt_irrefl]
theorem cmp_lt (l m : Bts) : decide (Lib.compareBytes l m < 0) = ltB l m := by
  rw [cmp_eq]
  cases h : ltB l m with
  | true => simp
  | false => simp only [Bool.false_eq_true, if_false]; split <;> decide
theorem cmp_zero (l m : Bts) : decide (Lib.compareBytes l m = 0) = decide (l = m) := by
  rw [cmp_eq]
  by_cases h2 : l = m
  · subst h2; simp [ltB_irrefl]
  · rw [if_neg h2]
    split <;> simp [h2]
/-- where a name's place is, by what stands around it -/
theorem idxE_of {l : List Ent} {s : Bts} {i : Nat} (hi : i ≤ l.length) (h1 : ∀ k e, k < i → l[k]? = some e → ltB e.1 s = true) (h2 : ∀ e, l[i]? = some e → ltB e.1 s = false) : idxE l s = i := by
  induction l generalizing i with
  | nil => simp at hi; subst hi; rfl
  | cons e l ih =>
    cases i with
    | zero => have := h2 e rfl; simp [idxE, this]
    | succ i =>
      have he := h1 0 e (by omega) rfl
      have := ih (i := i) (by simpa using hi) (fun k f hk hf => h1 (k + 1) f (by omega) (by simpa using hf)) (fun f hf => h2 f (by simpa using hf))
      simp only [idxE, List.takeWhile_cons, he, if_true, List.length_cons] at this ⊢
      rw [this]
theorem getE_idx {l : List Ent} (hr : Rising l) (s : Bts) : (getE l s).isSome = decide ((l[idxE l s]?).map (·.1) = some s) := by
  cases h : getE l s with
  | some x => rw [at_idxE hr h]; simp
  | none =>
    cases h2 : l[idxE l s]? with
    | none => simp
    | some e => simp [at_idxE_none h e h2]
theorem Rising.lt {l : List Ent} (hr : Rising l) {i j : Nat} {a b : Ent} (hij : i < j) (ha : l[i]? = some a) (hb : l[j]? = some b) : ltB a.1 b.1 = true := by
  obtain ⟨h1, rfl⟩ := List.getElem?_eq_some_iff.1 ha
  obtain ⟨h2, rfl⟩ := List.getElem?_eq_some_iff.1 hb
  exact List.pairwise_iff_getElem.1 hr i j h1 h2 hij
theorem entsC_get {l : List Ent} {i : Nat} {e : Ent} (h : l[i]? = some e) : (l.map entC)[i]? = some (entC e) := by rw [List.getElem?_map, h]; rfl
theorem entsC_append (l m : List Ent) : entsC (l ++ m) = entsC l ++ entsC m := by simp [entsC]
theorem entsC_cons (e : Ent) (m : List Ent) : entsC (e :: m) = entC e ++ entsC m := by simp [entsC]
theorem entsC_take (l : List Ent) (i : Nat) : (entsC l).take (i * 3) = entsC (l.take i) := by
  induction l generalizing i with
  | nil => simp [entsC]
  | cons e l ih =>
    cases i with
    | zero => simp [entsC]
    | succ i => rw [List.take_succ_cons, entsC_cons, entsC_cons, ← ih i, show (i + 1) * 3 = 3 + i * 3 from by omega, List.take_append, List.take_of_length_le (by simp [entC])]; simp [entC]
theorem entsC_drop (l : List Ent) (i : Nat) : (entsC l).drop (i * 3) = entsC (l.drop i) := by
  induction l generalizing i with
  | nil => simp [entsC]
  | cons e l ih =>
    cases i with
    | zero => simp
    | succ i => rw [List.drop_succ_cons, entsC_cons, ← ih i, show (i + 1) * 3 = 3 + i * 3 from by omega, ← List.drop_drop]; simp [entC]
theorem entsC_one (l : List Ent) : ∀ u ∈ entsC l, u.oneCell' = true := by
  intro u hu
  simp only [entsC, List.mem_flatten, List.mem_map] at hu
  obtain ⟨_, ⟨e, _, rfl⟩, hu⟩ := hu
  simp only [entC, List.mem_cons, List.not_mem_nil, or_false] at hu
  rcases hu with rfl | rfl | rfl <;> rfl
attribute [local irreducible] Yl OG CG EG SG AG  CellIn CellsIn BlkIn InA TakeA SplitA SubA Ct ResOk Good Held blk cellsA exA

set_option maxRecDepth 20000 in
set_option maxHeartbeats 4000000 in
theorem cmpStr_ok (l m : Bts) : Ct Tryz.prog 212 [str l, str m] [] (Ret fun u H => u = .int .i64 (Lib.compareBytes l m) ∧ H = []) := by
  have hc : Ct Tryz.prog 217 [str l, str m] [] (Ret fun u H => u = .int .i64 (Lib.compareBytes l m) ∧ H = []) := by
    refine fn_enter Tryz.func217 rfl Tryz.ntmps217 rfl fun _ _ _ => ?_
    repeat (first | refine o_v (k := ?_) | refine c_seq ?_ | refine c_region ?_ | refine o_nil ?_ | refine e_then_normal ?_ | refine o_store (k := ?_) | refine c_true (h1 := ?_) | refine c_false (h1 := ?_) | refine c_ret ?_ | refine c_skip ?_ | refine e_then_ret ?_ | refine c_block ?_ | refine c_exit ?_ | refine e_then_exit ?_ | refine e_block_exit ?_ | refine e_block_normal ?_ | refine e_block_ret ?_ | refine o_box (k := fun _ => ?_) | refine o_alloc (k := fun _ => ?_) | refine e_norm ?_ | refine o_ung (k := ?_) | refine o_k (k := ?_) | refine s_v (k := ?_) | refine s_w (k := ?_) | refine s_k (k := ?_) | refine s_nil ?_ | refine e_block_exit_ne rfl ?_)
    refine o_y (y_cmp Tryz.func219 (by kernel_rfl) (by kernel_rfl) (by kernel_rfl) (by kernel_rfl) rfl rfl rfl) rfl ?_
    repeat (first | refine o_v (k := ?_) | refine c_seq ?_ | refine c_region ?_ | refine o_nil ?_ | refine e_then_normal ?_ | refine o_store (k := ?_) | refine c_true (h1 := ?_) | refine c_false (h1 := ?_) | refine c_ret ?_ | refine c_skip ?_ | refine e_then_ret ?_ | refine c_block ?_ | refine c_exit ?_ | refine e_then_exit ?_ | refine e_block_exit ?_ | refine e_block_normal ?_ | refine e_block_ret ?_ | refine o_box (k := fun _ => ?_) | refine o_alloc (k := fun _ => ?_) | refine e_norm ?_ | refine o_ung (k := ?_) | refine o_k (k := ?_) | refine s_v (k := ?_) | refine s_w (k := ?_) | refine s_k (k := ?_) | refine s_nil ?_ | refine e_block_exit_ne rfl ?_)
    exact e_1 (h1 := rs_tmp rfl) (H' := []) (hT := ⟨rfl, rfl⟩)
  refine fn_enter Tryz.func212 rfl Tryz.ntmps212 rfl fun _ _ _ => ?_
  repeat (first | refine o_v (k := ?_) | refine c_seq ?_ | refine c_region ?_ | refine o_nil ?_ | refine e_then_normal ?_ | refine o_store (k := ?_) | refine c_true (h1 := ?_) | refine c_false (h1 := ?_) | refine c_ret ?_ | refine c_skip ?_ | refine e_then_ret ?_ | refine c_block ?_ | refine c_exit ?_ | refine e_then_exit ?_ | refine e_block_exit ?_ | refine e_block_normal ?_ | refine e_block_ret ?_ | refine o_box (k := fun _ => ?_) | refine o_alloc (k := fun _ => ?_) | refine e_norm ?_ | refine o_ung (k := ?_) | refine o_k (k := ?_) | refine s_v (k := ?_) | refine s_w (k := ?_) | refine s_k (k := ?_) | refine s_nil ?_ | refine e_block_exit_ne rfl ?_ | (refine o_call (hc) (k := ?_); rintro _ _ ⟨rfl, rfl⟩; dsimp only [List.cons_append, List.nil_append]))
  exact e_1 (h1 := rs_tmp rfl) (H' := []) (hT := ⟨rfl, rfl⟩)

set_option maxRecDepth 20000 in
set_option maxHeartbeats 4000000 in
theorem dirCmp_ok (e : Ent) (m : Bts) : Ct Tryz.prog 211 [.agg (entC e).toArray, str m] [] (Ret fun u H => u = .int .i64 (Lib.compareBytes e.1 m) ∧ H = []) := by
  refine fn_enter Tryz.func211 rfl Tryz.ntmps211 rfl fun _ _ _ => ?_
  repeat (first | refine o_v (k := ?_) | refine c_seq ?_ | refine c_region ?_ | refine o_nil ?_ | refine e_then_normal ?_ | refine o_store (k := ?_) | refine c_true (h1 := ?_) | refine c_false (h1 := ?_) | refine c_ret ?_ | refine c_skip ?_ | refine e_then_ret ?_ | refine c_block ?_ | refine c_exit ?_ | refine e_then_exit ?_ | refine e_block_exit ?_ | refine e_block_normal ?_ | refine e_block_ret ?_ | refine o_box (k := fun _ => ?_) | refine o_alloc (k := fun _ => ?_) | refine e_norm ?_ | refine o_ung (k := ?_) | refine o_k (k := ?_) | refine s_v (k := ?_) | refine s_w (k := ?_) | refine s_k (k := ?_) | refine s_nil ?_ | refine e_block_exit_ne rfl ?_ | (refine o_call (cmpStr_ok _ _) (k := ?_); rintro _ _ ⟨rfl, rfl⟩; dsimp only [List.cons_append, List.nil_append]))
  exact e_1 (h1 := rs_tmp rfl) (H' := []) (hT := ⟨rfl, rfl⟩)

set_option maxRecDepth 20000 in
set_option maxHeartbeats 4000000 in
theorem bsearch_ok (v : Value) (l : List Ent) (s : Bts) (hr : Rising l) (hl : l.length ≤ 1000000) : Ct Tryz.prog 210 [v, str s, .func (.func 211) #[] #[]] [rowA v 120 3 l.length (entsC l)] (Ret fun u H => u = .tuple #[.int .i64 (idxE l s), .bool (getE l s).isSome] ∧ H = [rowA v 120 3 l.length (entsC l)]) := by
  refine fn_enter Tryz.func210 rfl Tryz.ntmps210 rfl fun _ _ _ => ?_
  refine c_rowis v (k := ?_)
  rintro q cp rfl hcp hcm -
  repeat (first | refine o_v (k := ?_) | refine c_seq ?_ | refine c_region ?_ | refine o_nil ?_ | refine e_then_normal ?_ | refine o_store (k := ?_) | refine c_true (h1 := ?_) | refine c_false (h1 := ?_) | refine c_ret ?_ | refine c_skip ?_ | refine e_then_ret ?_ | refine c_block ?_ | refine c_exit ?_ | refine e_then_exit ?_ | refine e_block_exit ?_ | refine e_block_normal ?_ | refine e_block_ret ?_ | refine o_box (k := fun _ => ?_) | refine o_alloc (k := fun _ => ?_) | refine e_norm ?_ | refine o_ung (k := ?_) | refine o_k (k := ?_) | refine s_v (k := ?_) | refine s_w (k := ?_) | refine s_k (k := ?_) | refine s_nil ?_ | refine e_block_exit_ne rfl ?_)
  refine c_loop (α := Nat × Nat) (fun x => [(9, .int .i64 x.1), (10, .int .i64 x.2), (8, .int .i64 l.length), (0, .slice q l.length cp), (1, str s), (2, .func (.func 211) #[] #[])]) (fun _ => [rowA (.slice q l.length cp) 120 3 l.length (entsC l)]) (fun x => x.1 ≤ x.2 ∧ x.2 ≤ l.length ∧ (∀ k e, k < x.1 → l[k]? = some e → ltB e.1 s = true) ∧ (∀ k e, x.2 ≤ k → l[k]? = some e → ltB e.1 s = false)) (fun x => x.2 - x.1) (0, l.length) ⟨by omega, by simp, by omega, fun k e hk he => by have := (List.getElem?_eq_some_iff.1 he).1; simp at hk; omega⟩ ⟨rfl, rfl, rfl, rfl, rfl, rfl, trivial⟩ (fun _ h => h) ?_
  rintro ⟨i, j⟩ ⟨hij, hjl, hlo, hhi⟩
  (try dsimp only at hij hjl hlo hhi ⊢)
  repeat (first | refine o_v (k := ?_) | refine c_seq ?_ | refine c_region ?_ | refine o_nil ?_ | refine e_then_normal ?_ | refine o_store (k := ?_) | refine c_true (h1 := ?_) | refine c_false (h1 := ?_) | refine c_ret ?_ | refine c_skip ?_ | refine e_then_ret ?_ | refine c_block ?_ | refine c_exit ?_ | refine e_then_exit ?_ | refine e_block_exit ?_ | refine e_block_normal ?_ | refine e_block_ret ?_ | refine o_box (k := fun _ => ?_) | refine o_alloc (k := fun _ => ?_) | refine e_norm ?_ | refine o_ung (k := ?_) | refine o_k (k := ?_) | refine s_v (k := ?_) | refine s_w (k := ?_) | refine s_k (k := ?_) | refine s_nil ?_ | refine e_block_exit_ne rfl ?_)
  refine c_if (h1 := fun h => ?_) (h2 := fun h => ?_)
  · have hlt : i < j := by simp at h; omega
    obtain ⟨m, hm, hmi, hmj⟩ : ∃ m : Nat, ((i : Int) + (j : Int)).fdiv (2 ^ min (Int.toNat 1) IntKind.u64.bits) = (m : Int) ∧ i ≤ m ∧ m < j := by
      refine ⟨(i + j) / 2, ?_, by omega, by omega⟩
      simp [IntKind.bits, Int.fdiv_eq_ediv]
    have hml : m < l.length := by omega
    obtain ⟨e, he⟩ : ∃ e, l[m]? = some e := ⟨l[m], List.getElem?_eq_getElem hml⟩
    have hne : entsC l ≠ [] := entsC_ne (by intro h; simp [h] at hml)
    repeat (first | refine o_v (k := ?_) | refine c_seq ?_ | refine c_region ?_ | refine o_nil ?_ | refine e_then_normal ?_ | refine o_store (k := ?_) | refine c_true (h1 := ?_) | refine c_false (h1 := ?_) | refine c_ret ?_ | refine c_skip ?_ | refine e_then_ret ?_ | refine c_block ?_ | refine c_exit ?_ | refine e_then_exit ?_ | refine e_block_exit ?_ | refine e_block_normal ?_ | refine e_block_ret ?_ | refine o_box (k := fun _ => ?_) | refine o_alloc (k := fun _ => ?_) | refine e_norm ?_ | refine o_ung (k := ?_) | refine o_k (k := ?_) | refine s_v (k := ?_) | refine s_w (k := ?_) | refine s_k (k := ?_) | refine s_nil ?_ | refine e_block_exit_ne rfl ?_)
    rw [hm]
    repeat (first | refine o_v (k := ?_) | refine c_seq ?_ | refine c_region ?_ | refine o_nil ?_ | refine e_then_normal ?_ | refine o_store (k := ?_) | refine c_true (h1 := ?_) | refine c_false (h1 := ?_) | refine c_ret ?_ | refine c_skip ?_ | refine e_then_ret ?_ | refine c_block ?_ | refine c_exit ?_ | refine e_then_exit ?_ | refine e_block_exit ?_ | refine e_block_normal ?_ | refine e_block_ret ?_ | refine o_box (k := fun _ => ?_) | refine o_alloc (k := fun _ => ?_) | refine e_norm ?_ | refine o_ung (k := ?_) | refine o_k (k := ?_) | refine s_v (k := ?_) | refine s_w (k := ?_) | refine s_k (k := ?_) | refine s_nil ?_ | refine e_block_exit_ne rfl ?_)
    refine o_rowat q hne (k := ?_)
    rintro b rfl
    repeat (first | refine o_v (k := ?_) | refine c_seq ?_ | refine c_region ?_ | refine o_nil ?_ | refine e_then_normal ?_ | refine o_store (k := ?_) | refine c_true (h1 := ?_) | refine c_false (h1 := ?_) | refine c_ret ?_ | refine c_skip ?_ | refine e_then_ret ?_ | refine c_block ?_ | refine c_exit ?_ | refine e_then_exit ?_ | refine e_block_exit ?_ | refine e_block_normal ?_ | refine e_block_ret ?_ | refine o_box (k := fun _ => ?_) | refine o_alloc (k := fun _ => ?_) | refine e_norm ?_ | refine o_ung (k := ?_) | refine o_k (k := ?_) | refine s_v (k := ?_) | refine s_w (k := ?_) | refine s_k (k := ?_) | refine s_nil ?_ | refine e_block_exit_ne rfl ?_)
    refine o_y (y_loadA rfl (CellsIn.row (own := true) (rows := l.map entC) (InA.row true (by repeat (first | exact InA.here | apply InA.there))) (entC_len l) (entsC_get he) (by omega)) rfl) rfl ?_
    repeat (first | refine o_v (k := ?_) | refine c_seq ?_ | refine c_region ?_ | refine o_nil ?_ | refine e_then_normal ?_ | refine o_store (k := ?_) | refine c_true (h1 := ?_) | refine c_false (h1 := ?_) | refine c_ret ?_ | refine c_skip ?_ | refine e_then_ret ?_ | refine c_block ?_ | refine c_exit ?_ | refine e_then_exit ?_ | refine e_block_exit ?_ | refine e_block_normal ?_ | refine e_block_ret ?_ | refine o_box (k := fun _ => ?_) | refine o_alloc (k := fun _ => ?_) | refine e_norm ?_ | refine o_ung (k := ?_) | refine o_k (k := ?_) | refine s_v (k := ?_) | refine s_w (k := ?_) | refine s_k (k := ?_) | refine s_nil ?_ | refine e_block_exit_ne rfl ?_)
    refine o_callv (first := []) (vs := [.agg (entC e).toArray, str s]) (cap := []) rfl rfl (dirCmp_ok e s) (by (repeat (apply SplitA.cons; (repeat (first | exact TakeA.keepI | exact TakeA.here | apply TakeA.there)))); exact SplitA.nil) (k := ?_)
    rintro _ _ ⟨rfl, rfl⟩
    dsimp only [List.cons_append, List.nil_append]
    repeat (first | refine o_v (k := ?_) | refine c_seq ?_ | refine c_region ?_ | refine o_nil ?_ | refine e_then_normal ?_ | refine o_store (k := ?_) | refine c_true (h1 := ?_) | refine c_false (h1 := ?_) | refine c_ret ?_ | refine c_skip ?_ | refine e_then_ret ?_ | refine c_block ?_ | refine c_exit ?_ | refine e_then_exit ?_ | refine e_block_exit ?_ | refine e_block_normal ?_ | refine e_block_ret ?_ | refine o_box (k := fun _ => ?_) | refine o_alloc (k := fun _ => ?_) | refine e_norm ?_ | refine o_ung (k := ?_) | refine o_k (k := ?_) | refine s_v (k := ?_) | refine s_w (k := ?_) | refine s_k (k := ?_) | refine s_nil ?_ | refine e_block_exit_ne rfl ?_)
    have hcl := cmp_lt e.1 s
    refine c_if (h1 := fun h1 => ?_) (h2 := fun h1 => ?_)
    · rw [hcl] at h1
      repeat (first | refine o_v (k := ?_) | refine c_seq ?_ | refine c_region ?_ | refine o_nil ?_ | refine e_then_normal ?_ | refine o_store (k := ?_) | refine c_true (h1 := ?_) | refine c_false (h1 := ?_) | refine c_ret ?_ | refine c_skip ?_ | refine e_then_ret ?_ | refine c_block ?_ | refine c_exit ?_ | refine e_then_exit ?_ | refine e_block_exit ?_ | refine e_block_normal ?_ | refine e_block_ret ?_ | refine o_box (k := fun _ => ?_) | refine o_alloc (k := fun _ => ?_) | refine e_norm ?_ | refine o_ung (k := ?_) | refine o_k (k := ?_) | refine s_v (k := ?_) | refine s_w (k := ?_) | refine s_k (k := ?_) | refine s_nil ?_ | refine e_block_exit_ne rfl ?_)
      refine e_loop (m + 1, j) ?_ ?_ ?_ ?_
      · refine ⟨by dsimp only; omega, hjl, fun k f hk hf => ?_, hhi⟩
        by_cases hkm : k = m
        · subst hkm; rw [he] at hf; cases hf; exact h1
        · exact ltB_trans (hr.lt (show k < m by dsimp only at hk; omega) hf he) h1
      · show j - (m + 1) < j - i; omega
      · exact ⟨rfl, rfl, rfl, rfl, rfl, rfl, trivial⟩
      · exact fun _ h => h
    · rw [hcl] at h1
      repeat (first | refine o_v (k := ?_) | refine c_seq ?_ | refine c_region ?_ | refine o_nil ?_ | refine e_then_normal ?_ | refine o_store (k := ?_) | refine c_true (h1 := ?_) | refine c_false (h1 := ?_) | refine c_ret ?_ | refine c_skip ?_ | refine e_then_ret ?_ | refine c_block ?_ | refine c_exit ?_ | refine e_then_exit ?_ | refine e_block_exit ?_ | refine e_block_normal ?_ | refine e_block_ret ?_ | refine o_box (k := fun _ => ?_) | refine o_alloc (k := fun _ => ?_) | refine e_norm ?_ | refine o_ung (k := ?_) | refine o_k (k := ?_) | refine s_v (k := ?_) | refine s_w (k := ?_) | refine s_k (k := ?_) | refine s_nil ?_ | refine e_block_exit_ne rfl ?_)
      refine e_loop (i, m) ?_ ?_ ?_ ?_
      · refine ⟨hmi, by dsimp only; omega, hlo, fun k f hk hf => ?_⟩
        by_cases hkm : k = m
        · subst hkm; rw [he] at hf; cases hf; exact h1
        · have := hr.lt (show m < k by dsimp only at hk; omega) he hf
          cases h3 : ltB f.1 s with
          | false => rfl
          | true => rw [ltB_trans this h3] at h1; cases h1
      · show m - i < j - i; omega
      · exact ⟨rfl, rfl, rfl, rfl, rfl, rfl, trivial⟩
      · exact fun _ h => h
  · have hje : j = i := by simp at h; omega
    subst hje
    have hidx : idxE l s = j := idxE_of hjl hlo (fun e he => hhi j e (Nat.le_refl _) he)
    have hsm := getE_idx hr s
    rw [hidx] at hsm ⊢
    repeat (first | refine o_v (k := ?_) | refine c_seq ?_ | refine c_region ?_ | refine o_nil ?_ | refine e_then_normal ?_ | refine o_store (k := ?_) | refine c_true (h1 := ?_) | refine c_false (h1 := ?_) | refine c_ret ?_ | refine c_skip ?_ | refine e_then_ret ?_ | refine c_block ?_ | refine c_exit ?_ | refine e_then_exit ?_ | refine e_block_exit ?_ | refine e_block_normal ?_ | refine e_block_ret ?_ | refine o_box (k := fun _ => ?_) | refine o_alloc (k := fun _ => ?_) | refine e_norm ?_ | refine o_ung (k := ?_) | refine o_k (k := ?_) | refine s_v (k := ?_) | refine s_w (k := ?_) | refine s_k (k := ?_) | refine s_nil ?_ | refine e_block_exit_ne rfl ?_)
    refine o_bool 39 rfl (fun h2 => ?_) (fun h2 => ?_)
    · have hml : j < l.length := by simp at h2; omega
      obtain ⟨e, he⟩ : ∃ e, l[j]? = some e := ⟨l[j], List.getElem?_eq_getElem hml⟩
      have hne : entsC l ≠ [] := entsC_ne (by intro h; simp [h] at hml)
      refine o_rowat q hne (k := ?_)
      rintro b rfl
      repeat (first | refine o_v (k := ?_) | refine c_seq ?_ | refine c_region ?_ | refine o_nil ?_ | refine e_then_normal ?_ | refine o_store (k := ?_) | refine c_true (h1 := ?_) | refine c_false (h1 := ?_) | refine c_ret ?_ | refine c_skip ?_ | refine e_then_ret ?_ | refine c_block ?_ | refine c_exit ?_ | refine e_then_exit ?_ | refine e_block_exit ?_ | refine e_block_normal ?_ | refine e_block_ret ?_ | refine o_box (k := fun _ => ?_) | refine o_alloc (k := fun _ => ?_) | refine e_norm ?_ | refine o_ung (k := ?_) | refine o_k (k := ?_) | refine s_v (k := ?_) | refine s_w (k := ?_) | refine s_k (k := ?_) | refine s_nil ?_ | refine e_block_exit_ne rfl ?_)
      refine o_y (y_loadA rfl (CellsIn.row (own := true) (rows := l.map entC) (InA.row true (by repeat (first | exact InA.here | apply InA.there))) (entC_len l) (entsC_get he) (by omega)) rfl) rfl ?_
      repeat (first | refine o_v (k := ?_) | refine c_seq ?_ | refine c_region ?_ | refine o_nil ?_ | refine e_then_normal ?_ | refine o_store (k := ?_) | refine c_true (h1 := ?_) | refine c_false (h1 := ?_) | refine c_ret ?_ | refine c_skip ?_ | refine e_then_ret ?_ | refine c_block ?_ | refine c_exit ?_ | refine e_then_exit ?_ | refine e_block_exit ?_ | refine e_block_normal ?_ | refine e_block_ret ?_ | refine o_box (k := fun _ => ?_) | refine o_alloc (k := fun _ => ?_) | refine e_norm ?_ | refine o_ung (k := ?_) | refine o_k (k := ?_) | refine s_v (k := ?_) | refine s_w (k := ?_) | refine s_k (k := ?_) | refine s_nil ?_ | refine e_block_exit_ne rfl ?_)
      refine o_callv (first := []) (vs := [.agg (entC e).toArray, str s]) (cap := []) rfl rfl (dirCmp_ok e s) (by (repeat (apply SplitA.cons; (repeat (first | exact TakeA.keepI | exact TakeA.here | apply TakeA.there)))); exact SplitA.nil) (k := ?_)
      rintro _ _ ⟨rfl, rfl⟩
      dsimp only [List.cons_append, List.nil_append]
      repeat (first | refine o_v (k := ?_) | refine c_seq ?_ | refine c_region ?_ | refine o_nil ?_ | refine e_then_normal ?_ | refine o_store (k := ?_) | refine c_true (h1 := ?_) | refine c_false (h1 := ?_) | refine c_ret ?_ | refine c_skip ?_ | refine e_then_ret ?_ | refine c_block ?_ | refine c_exit ?_ | refine e_then_exit ?_ | refine e_block_exit ?_ | refine e_block_normal ?_ | refine e_block_ret ?_ | refine o_box (k := fun _ => ?_) | refine o_alloc (k := fun _ => ?_) | refine e_norm ?_ | refine o_ung (k := ?_) | refine o_k (k := ?_) | refine s_v (k := ?_) | refine s_w (k := ?_) | refine s_k (k := ?_) | refine s_nil ?_ | refine e_block_exit_ne rfl ?_)
      rw [cmp_zero]
      refine e_2 (h1 := rs_tmp rfl) (h2 := rs_tmp rfl) (H' := [rowA (.slice (some ⟨b, 0, none⟩) l.length cp) 120 3 l.length (entsC l)]) (hT := ⟨?_, rfl⟩)
      rw [hsm, he]
      simp
    · have hml : l[j]? = none := List.getElem?_eq_none (by simp at h2; omega)
      repeat (first | refine o_v (k := ?_) | refine c_seq ?_ | refine c_region ?_ | refine o_nil ?_ | refine e_then_normal ?_ | refine o_store (k := ?_) | refine c_true (h1 := ?_) | refine c_false (h1 := ?_) | refine c_ret ?_ | refine c_skip ?_ | refine e_then_ret ?_ | refine c_block ?_ | refine c_exit ?_ | refine e_then_exit ?_ | refine e_block_exit ?_ | refine e_block_normal ?_ | refine e_block_ret ?_ | refine o_box (k := fun _ => ?_) | refine o_alloc (k := fun _ => ?_) | refine e_norm ?_ | refine o_ung (k := ?_) | refine o_k (k := ?_) | refine s_v (k := ?_) | refine s_w (k := ?_) | refine s_k (k := ?_) | refine s_nil ?_ | refine e_block_exit_ne rfl ?_)
      refine e_2 (h1 := rs_tmp rfl) (h2 := rs_tmp rfl) (H' := [rowA (.slice q l.length cp) 120 3 l.length (entsC l)]) (hT := ⟨?_, rfl⟩)
      rw [hsm, hml]
      simp
end Go.Proofs.YtlkgdidmhmaneaaGreatDoor
/- slices.Delete, slices.Insert over entries: what they leave. -/
namespace Go.Proofs.YtlkgdidmhmaneaaGreatDoor
open Go Go.RowKit
theorem src_zero {P : Program} {H : List Ast} {sz : Nat} {tx : TypeId} {q : Option Addr} {c : Nat} {e' : TypeId} {sz' b' : Nat} {z' : List Value} [h : PElem P tx e' sz' b' z'] : SrcIn P H sz tx (.slice q 0 c) 0 [] := by
  cases q with
  | none => exact src_nil
  | some p => exact src_cells (fun w hw j v hj => by simp at hj) (by simp) (fun u hu => by cases hu)
theorem CellsIn.blkdrop {H : List Ast} {b k m : Nat} {t : TypeId} {cs us : List Value} {fz : Nat × Nat} (h : BlkIn H b t cs fz) (hk : us = (cs.drop k).take m) : CellsIn H ⟨b, k, none⟩ us := fun w hw j v hj => by
  rw [Addr.add_lit, cell_of_row w b (k + j) cs.toArray t fz (h w hw)]
  subst hk
  rw [List.getElem?_take] at hj
  split at hj
  · rw [List.getElem?_drop] at hj; simpa using hj
  · cases hj
/-- elements in the block itself are what is appended -/
theorem src_blk {P : Program} {H : List Ast} {tx t : TypeId} {q : Option Addr} {g k m c : Nat} {cs : List Value} {fz : Nat × Nat} {e' : TypeId} {sz' b' : Nat} {z' : List Value} {L : List Ent} [h : PElem P tx e' sz' b' z'] (hb : BlkIn H g t cs fz) (hL : entsC L = (cs.drop k).take (m * 3)) (hm : L.length = m) (hq : m = 0 ∨ q = some ⟨g, k, none⟩) : SrcIn P H 3 tx (.slice q m c) m (entsC L) := by
  rcases hq with rfl | rfl
  · have : L = [] := List.eq_nil_of_length_eq_zero hm
    subst this
    exact src_zero
  · exact src_cells (CellsIn.blkdrop hb hL) (by rw [entsC_length, hm]) (entsC_one L)
attribute [local irreducible] Yl OG CG EG SG AG  CellIn CellsIn BlkIn InA TakeA SplitA SubA Ct ResOk Good Held blk cellsA exA

set_option maxRecDepth 20000 in
set_option maxHeartbeats 4000000 in
theorem delete_ok (v : Value) (l : List Ent) (i : Nat) (hi : i < l.length) (hl : l.length ≤ 1000000) : Ct Tryz.prog 206 [v, .int .i64 i, .int .i64 (i + 1)] [rowA v 120 3 l.length (entsC l)] (Ret fun u H => H = [rowA u 120 3 (l.take i ++ l.drop (i + 1)).length (entsC (l.take i ++ l.drop (i + 1)))]) := by
  refine fn_enter Tryz.func206 rfl Tryz.ntmps206 rfl fun _ _ _ => ?_
  have hne : entsC l ≠ [] := entsC_ne (by intro h; simp [h] at hi)
  refine c_rowopen v hne (k := ?_)
  rintro g cap tl fz rfl hxl hcp hcm htl hfz
  have hlen := entsC_length l
  repeat (first | refine o_v (k := ?_) | refine c_seq ?_ | refine c_region ?_ | refine o_nil ?_ | refine e_then_normal ?_ | refine o_store (k := ?_) | refine c_true (h1 := ?_) | refine c_false (h1 := ?_) | refine c_ret ?_ | refine c_skip ?_ | refine e_then_ret ?_ | refine c_block ?_ | refine c_exit ?_ | refine e_then_exit ?_ | refine e_block_exit ?_ | refine e_block_normal ?_ | refine e_block_ret ?_ | refine o_box (k := fun _ => ?_) | refine o_alloc (k := fun _ => ?_) | refine e_norm ?_ | refine o_ung (k := ?_) | refine o_k (k := ?_) | refine s_v (k := ?_) | refine s_w (k := ?_) | refine s_k (k := ?_) | refine s_nil ?_ | refine e_block_exit_ne rfl ?_)
  refine o_y (y_cut4 rfl rfl rfl rfl (by omega)) rfl ?_
  repeat (first | refine o_v (k := ?_) | refine c_seq ?_ | refine c_region ?_ | refine o_nil ?_ | refine e_then_normal ?_ | refine o_store (k := ?_) | refine c_true (h1 := ?_) | refine c_false (h1 := ?_) | refine c_ret ?_ | refine c_skip ?_ | refine e_then_ret ?_ | refine c_block ?_ | refine c_exit ?_ | refine e_then_exit ?_ | refine e_block_exit ?_ | refine e_block_normal ?_ | refine e_block_ret ?_ | refine o_box (k := fun _ => ?_) | refine o_alloc (k := fun _ => ?_) | refine e_norm ?_ | refine o_ung (k := ?_) | refine o_k (k := ?_) | refine s_v (k := ?_) | refine s_w (k := ?_) | refine s_k (k := ?_) | refine s_nil ?_ | refine e_block_exit_ne rfl ?_)
  simp only [show decide ((i : Int) = (i : Int) + 1) = false from by simp; omega]
  repeat (first | refine o_v (k := ?_) | refine c_seq ?_ | refine c_region ?_ | refine o_nil ?_ | refine e_then_normal ?_ | refine o_store (k := ?_) | refine c_true (h1 := ?_) | refine c_false (h1 := ?_) | refine c_ret ?_ | refine c_skip ?_ | refine e_then_ret ?_ | refine c_block ?_ | refine c_exit ?_ | refine e_then_exit ?_ | refine e_block_exit ?_ | refine e_block_normal ?_ | refine e_block_ret ?_ | refine o_box (k := fun _ => ?_) | refine o_alloc (k := fun _ => ?_) | refine e_norm ?_ | refine o_ung (k := ?_) | refine o_k (k := ?_) | refine s_v (k := ?_) | refine s_w (k := ?_) | refine s_k (k := ?_) | refine s_nil ?_ | refine e_block_exit_ne rfl ?_)
  refine c_still (P := Tryz.prog) 6 (by kernel_rfl) ?_
  repeat (first | refine o_v (k := ?_) | refine c_seq ?_ | refine c_region ?_ | refine o_nil ?_ | refine e_then_normal ?_ | refine o_store (k := ?_) | refine c_true (h1 := ?_) | refine c_false (h1 := ?_) | refine c_ret ?_ | refine c_skip ?_ | refine e_then_ret ?_ | refine c_block ?_ | refine c_exit ?_ | refine e_then_exit ?_ | refine e_block_exit ?_ | refine e_block_normal ?_ | refine e_block_ret ?_ | refine o_box (k := fun _ => ?_) | refine o_alloc (k := fun _ => ?_) | refine e_norm ?_ | refine o_ung (k := ?_) | refine o_k (k := ?_) | refine s_v (k := ?_) | refine s_w (k := ?_) | refine s_k (k := ?_) | refine s_nil ?_ | refine e_block_exit_ne rfl ?_)
  refine s_y (y_cuthi rfl rfl (by omega)) rfl ?_
  repeat (first | refine o_v (k := ?_) | refine c_seq ?_ | refine c_region ?_ | refine o_nil ?_ | refine e_then_normal ?_ | refine o_store (k := ?_) | refine c_true (h1 := ?_) | refine c_false (h1 := ?_) | refine c_ret ?_ | refine c_skip ?_ | refine e_then_ret ?_ | refine c_block ?_ | refine c_exit ?_ | refine e_then_exit ?_ | refine e_block_exit ?_ | refine e_block_normal ?_ | refine e_block_ret ?_ | refine o_box (k := fun _ => ?_) | refine o_alloc (k := fun _ => ?_) | refine e_norm ?_ | refine o_ung (k := ?_) | refine o_k (k := ?_) | refine s_v (k := ?_) | refine s_w (k := ?_) | refine s_k (k := ?_) | refine s_nil ?_ | refine e_block_exit_ne rfl ?_)
  have htk : (entsC l).take (i * 3) = entsC (l.take i) := entsC_take l i
  have htl2 : (entsC (l.take i)).length = i * 3 := by rw [entsC_length, List.length_take]; omega
  have hsplit : entsC l ++ tl = entsC (l.take i) ++ ((entsC l).drop (i * 3) ++ tl) := by rw [← htk, ← List.append_assoc, List.take_append_drop]
  have hdl : ((entsC l).drop (i * 3)).length = l.length * 3 - i * 3 := by rw [List.length_drop, hlen]
  refine s_y (y_cutlo rfl rfl (by omega)) rfl ?_
  obtain ⟨q', hq', hq2⟩ : ∃ q' : Option Addr, (if cap = ((i : Int) + 1).toNat then (some ⟨g, 0, none⟩ : Option Addr) else Option.map (fun x : Addr => x.add (((i : Int) + 1).toNat * 3)) (some (⟨g, 0, none⟩ : Addr))) = q' ∧ (l.length - (i + 1) = 0 ∨ q' = some ⟨g, (i + 1) * 3, none⟩) := by
    refine ⟨_, rfl, ?_⟩
    by_cases hc : cap = ((i : Int) + 1).toNat
    · left; omega
    · right; rw [if_neg hc, show ((i : Int) + 1).toNat = i + 1 from by omega]; simp [Addr.add_lit]
  rw [hq', show l.length - ((i : Int) + 1).toNat = l.length - (i + 1) from by omega]
  repeat (first | refine o_v (k := ?_) | refine c_seq ?_ | refine c_region ?_ | refine o_nil ?_ | refine e_then_normal ?_ | refine o_store (k := ?_) | refine c_true (h1 := ?_) | refine c_false (h1 := ?_) | refine c_ret ?_ | refine c_skip ?_ | refine e_then_ret ?_ | refine c_block ?_ | refine c_exit ?_ | refine e_then_exit ?_ | refine e_block_exit ?_ | refine e_block_normal ?_ | refine e_block_ret ?_ | refine o_box (k := fun _ => ?_) | refine o_alloc (k := fun _ => ?_) | refine e_norm ?_ | refine o_ung (k := ?_) | refine o_k (k := ?_) | refine s_v (k := ?_) | refine s_w (k := ?_) | refine s_k (k := ?_) | refine s_nil ?_ | refine e_block_exit_ne rfl ?_)
  rw [hsplit]
  have hdrop : (entsC (l.drop (i + 1))) = ((entsC (l.take i) ++ ((entsC l).drop (i * 3) ++ tl)).drop ((i + 1) * 3)).take ((l.length - (i + 1)) * 3) := by
    rw [← hsplit, List.drop_append_of_le_length (by rw [hlen]; omega), entsC_drop, List.take_append_of_le_length (by rw [entsC_length, List.length_drop]; exact Nat.le_refl _), List.take_of_length_le (by rw [entsC_length, List.length_drop]; exact Nat.le_refl _)]
  have hdrl : (entsC (l.drop (i + 1))).length = (l.length - (i + 1)) * 3 := by rw [entsC_length, List.length_drop]
  refine o_append_in (tx := 78) (sz := 3) (bytes := 32) (cap := cap) (n := ((i : Int)).toNat) (m := l.length - (i + 1)) (news := entsC (l.drop (i + 1))) (xs := entsC (l.take i)) (tl := (entsC l).drop (i * 3) ++ tl) (hsrc := src_blk BlkIn.here hdrop (by rw [List.length_drop]) hq2) (hfz := by rw [List.length_append, htl2, hdl]; rw [hlen] at hfz; rwa [show i * 3 + (l.length * 3 - i * 3 + tl.length) = l.length * 3 + tl.length from by omega]) (hl := by rw [htl2, Int.toNat_natCast]) (hc := by rw [List.length_append, htl2, hdl]; omega) (hroom := by omega) (k := ?_)
  repeat (first | refine o_v (k := ?_) | refine c_seq ?_ | refine c_region ?_ | refine o_nil ?_ | refine e_then_normal ?_ | refine o_store (k := ?_) | refine c_true (h1 := ?_) | refine c_false (h1 := ?_) | refine c_ret ?_ | refine c_skip ?_ | refine e_then_ret ?_ | refine c_block ?_ | refine c_exit ?_ | refine e_then_exit ?_ | refine e_block_exit ?_ | refine e_block_normal ?_ | refine e_block_ret ?_ | refine o_box (k := fun _ => ?_) | refine o_alloc (k := fun _ => ?_) | refine e_norm ?_ | refine o_ung (k := ?_) | refine o_k (k := ?_) | refine s_v (k := ?_) | refine s_w (k := ?_) | refine s_k (k := ?_) | refine s_nil ?_ | refine e_block_exit_ne rfl ?_)
  obtain ⟨T, hT⟩ : ∃ T, List.drop (entsC (l.drop (i + 1))).length ((entsC l).drop (i * 3) ++ tl) = T := ⟨_, rfl⟩
  have hTl : T.length = (cap - (l.length - 1)) * 3 := by rw [← hT, List.length_drop, List.length_append, hdl, hdrl]; omega
  rw [hT, show ((i : Int)).toNat + (l.length - (i + 1)) = l.length - 1 from by omega]
  refine o_cut_g (l.length - 1) l.length (k := ?_)
  refine o_clear (sz := 3) (h1 := rfl) (hfz := by simp only [List.length_append, htl2, hdrl, hTl]; rw [hlen] at hfz htl; rwa [show i * 3 + (l.length - (i + 1)) * 3 + (cap - (l.length - 1)) * 3 = l.length * 3 + tl.length from by omega]) (hfit := by simp only [List.length_append, htl2, hdrl, hTl]; omega) (k := fun zs hzs => ?_)
  repeat (first | refine o_v (k := ?_) | refine c_seq ?_ | refine c_region ?_ | refine o_nil ?_ | refine e_then_normal ?_ | refine o_store (k := ?_) | refine c_true (h1 := ?_) | refine c_false (h1 := ?_) | refine c_ret ?_ | refine c_skip ?_ | refine e_then_ret ?_ | refine c_block ?_ | refine c_exit ?_ | refine e_then_exit ?_ | refine e_block_exit ?_ | refine e_block_normal ?_ | refine e_block_ret ?_ | refine o_box (k := fun _ => ?_) | refine o_alloc (k := fun _ => ?_) | refine e_norm ?_ | refine o_ung (k := ?_) | refine o_k (k := ?_) | refine s_v (k := ?_) | refine s_w (k := ?_) | refine s_k (k := ?_) | refine s_nil ?_ | refine e_block_exit_ne rfl ?_)
  have hres : (l.take i ++ l.drop (i + 1)).length = l.length - 1 := by rw [List.length_append, List.length_take, List.length_drop]; omega
  have hxs : entsC (l.take i ++ l.drop (i + 1)) = entsC (l.take i) ++ entsC (l.drop (i + 1)) := entsC_append _ _
  have hxl : (entsC (l.take i ++ l.drop (i + 1))).length = (l.length - 1) * 3 := by rw [entsC_length, hres]
  rw [← hxs, show 0 + (l.length - 1) * 3 = (entsC (l.take i ++ l.drop (i + 1))).length from by rw [hxl]; omega]
  rw [List.take_left]
  refine e_rowshut (sz := 3) (.slice (some ⟨g, 0, none⟩) (l.length - 1) cap) (xs := entsC (l.take i ++ l.drop (i + 1))) (tl := zs ++ T.drop ((l.length - (l.length - 1)) * 3)) (hcs := ?_) (h := ⟨rfl, hxl, by omega, hcm, ?_, ?_⟩) (k := ?_)
  · rw [List.append_assoc, List.drop_append]; simp
  · rw [hxl, List.length_append, hzs, List.length_drop, hTl]; omega
  · rw [hxl, List.length_append, hzs, List.length_drop, hTl]
    rw [hlen] at hfz htl
    rwa [show (l.length - 1) * 3 + ((l.length - (l.length - 1)) * 3 + ((cap - (l.length - 1)) * 3 - (l.length - (l.length - 1)) * 3)) = l.length * 3 + tl.length from by omega]
  · rw [hres]
    exact e_1 (h1 := rs_tmp rfl) (H' := [rowA (.slice (some ⟨g, 0, none⟩) (l.length - 1) cap) 120 3 (l.length - 1) (entsC (l.take i ++ l.drop (i + 1)))]) (hT := rfl)
end Go.Proofs.YtlkgdidmhmaneaaGreatDoor
/- slices.Insert over entries: what it leaves. -/
namespace Go.Proofs.YtlkgdidmhmaneaaGreatDoor
open Go Go.RowKit
theorem entC_one (e : Ent) : ∀ u ∈ entC e, u.oneCell' = true := by
  intro u hu
  have := entsC_one [e] u
  simp only [entsC_cons, entsC, List.map_nil, List.flatten_nil, List.append_nil] at this
  exact this hu
theorem src_ent {P : Program} {H : List Ast} {tx t : TypeId} {g c : Nat} {fz : Nat × Nat} {e' : TypeId} {sz' b' : Nat} {z' : List Value} {e : Ent} [h : PElem P tx e' sz' b' z'] (hb : BlkIn H g t (entC e) fz) : SrcIn P H 3 tx (.slice (some ⟨g, 0, none⟩) 1 c) 1 (entC e) :=
  src_cells (CellsIn.blk (m := 3) (us := entC e) hb rfl) rfl (entC_one e)
attribute [local irreducible] Yl OG CG EG SG AG  CellIn CellsIn BlkIn InA TakeA SplitA SubA Ct ResOk Good Held blk cellsA exA

set_option maxRecDepth 20000 in
set_option maxHeartbeats 4000000 in
theorem insert_ok (v : Value) (l : List Ent) (i xb : Nat) (e : Ent) (hi : i ≤ l.length) (hl : l.length ≤ 1000000) : Ct Tryz.prog 208 [v, .int .i64 i, .slice (some ⟨xb, 0, none⟩) 1 1] [rowA v 120 3 l.length (entsC l), blk xb 120 (entC e) (0, 0)] (Ret fun u H => H = [rowA u 120 3 (l.take i ++ e :: l.drop i).length (entsC (l.take i ++ e :: l.drop i))]) := by
  refine fn_enter Tryz.func208 rfl Tryz.ntmps208 rfl fun _ _ _ => ?_
  have hlen := entsC_length l
  refine c_rowis v (k := ?_)
  rintro q cap rfl hcp hcm -
  repeat (first | refine o_v (k := ?_) | refine c_seq ?_ | refine c_region ?_ | refine o_nil ?_ | refine e_then_normal ?_ | refine o_store (k := ?_) | refine c_true (h1 := ?_) | refine c_false (h1 := ?_) | refine c_ret ?_ | refine c_skip ?_ | refine e_then_ret ?_ | refine c_block ?_ | refine c_exit ?_ | refine e_then_exit ?_ | refine e_block_exit ?_ | refine e_block_normal ?_ | refine e_block_ret ?_ | refine o_box (k := fun _ => ?_) | refine o_alloc (k := fun _ => ?_) | refine e_norm ?_ | refine o_ung (k := ?_) | refine o_k (k := ?_) | refine s_v (k := ?_) | refine s_w (k := ?_) | refine s_k (k := ?_) | refine s_nil ?_ | refine e_block_exit_ne rfl ?_)
  refine o_y (y_cutlo rfl rfl (by omega)) rfl ?_
  repeat (first | refine o_v (k := ?_) | refine c_seq ?_ | refine c_region ?_ | refine o_nil ?_ | refine e_then_normal ?_ | refine o_store (k := ?_) | refine c_true (h1 := ?_) | refine c_false (h1 := ?_) | refine c_ret ?_ | refine c_skip ?_ | refine e_then_ret ?_ | refine c_block ?_ | refine c_exit ?_ | refine e_then_exit ?_ | refine e_block_exit ?_ | refine e_block_normal ?_ | refine e_block_ret ?_ | refine o_box (k := fun _ => ?_) | refine o_alloc (k := fun _ => ?_) | refine e_norm ?_ | refine o_ung (k := ?_) | refine o_k (k := ?_) | refine s_v (k := ?_) | refine s_w (k := ?_) | refine s_k (k := ?_) | refine s_nil ?_ | refine e_block_exit_ne rfl ?_)
  refine c_if (h1 := fun h => ?_) (h2 := fun h => ?_)
  · have hil : i = l.length := by simp at h; omega
    subst hil
    repeat (first | refine o_v (k := ?_) | refine c_seq ?_ | refine c_region ?_ | refine o_nil ?_ | refine e_then_normal ?_ | refine o_store (k := ?_) | refine c_true (h1 := ?_) | refine c_false (h1 := ?_) | refine c_ret ?_ | refine c_skip ?_ | refine e_then_ret ?_ | refine c_block ?_ | refine c_exit ?_ | refine e_then_exit ?_ | refine e_block_exit ?_ | refine e_block_normal ?_ | refine e_block_ret ?_ | refine o_box (k := fun _ => ?_) | refine o_alloc (k := fun _ => ?_) | refine e_norm ?_ | refine o_ung (k := ?_) | refine o_k (k := ?_) | refine s_v (k := ?_) | refine s_w (k := ?_) | refine s_k (k := ?_) | refine s_nil ?_ | refine e_block_exit_ne rfl ?_)
    refine o_append (e := 120) (sz := 3) (bytes := 32) (m := 1) (news := entC e) (hsrc := src_ent (by repeat (first | exact BlkIn.here | apply BlkIn.there))) (hb := by omega) (k := fun v' => ?_)
    repeat (first | refine o_v (k := ?_) | refine c_seq ?_ | refine c_region ?_ | refine o_nil ?_ | refine e_then_normal ?_ | refine o_store (k := ?_) | refine c_true (h1 := ?_) | refine c_false (h1 := ?_) | refine c_ret ?_ | refine c_skip ?_ | refine e_then_ret ?_ | refine c_block ?_ | refine c_exit ?_ | refine e_then_exit ?_ | refine e_block_exit ?_ | refine e_block_normal ?_ | refine e_block_ret ?_ | refine o_box (k := fun _ => ?_) | refine o_alloc (k := fun _ => ?_) | refine e_norm ?_ | refine o_ung (k := ?_) | refine o_k (k := ?_) | refine s_v (k := ?_) | refine s_w (k := ?_) | refine s_k (k := ?_) | refine s_nil ?_ | refine e_block_exit_ne rfl ?_)
    have hr : l.take l.length ++ e :: l.drop l.length = l ++ [e] := by simp
    have hc : entsC (l ++ [e]) = entsC l ++ entC e := by rw [entsC_append]; simp [entsC]
    rw [hr, hc, show (l ++ [e]).length = l.length + 1 from by simp]
    exact e_1 (h1 := rs_tmp rfl) (H' := [rowA v' 120 3 (l.length + 1) (entsC l ++ entC e)]) (hT := rfl)
  have hil : i < l.length := by simp at h; omega
  have hne : entsC l ≠ [] := entsC_ne (by intro h; simp [h] at hil)
  have htk : (entsC l).take (i * 3) = entsC (l.take i) := entsC_take l i
  have hdp : (entsC l).drop (i * 3) = entsC (l.drop i) := entsC_drop l i
  have htkl : (entsC (l.take i)).length = i * 3 := by rw [entsC_length, List.length_take]; omega
  have hdpl : (entsC (l.drop i)).length = (l.length - i) * 3 := by rw [entsC_length, List.length_drop]
  have hrl : (l.take i ++ e :: l.drop i).length = l.length + 1 := by simp; omega
  have hrc : entsC (l.take i ++ e :: l.drop i) = entsC (l.take i) ++ (entC e ++ entsC (l.drop i)) := by rw [entsC_append, entsC_cons]
  have hrcl : (entsC (l.take i ++ e :: l.drop i)).length = (l.length + 1) * 3 := by rw [entsC_length, hrl]
  refine c_rowopen (.slice q l.length cap) hne (k := ?_)
  rintro g cap' tl fz hv hxl - - htl hfz
  obtain ⟨rfl, -, rfl⟩ : q = some ⟨g, 0, none⟩ ∧ l.length = l.length ∧ cap = cap' := by simpa using hv
  repeat (first | refine o_v (k := ?_) | refine c_seq ?_ | refine c_region ?_ | refine o_nil ?_ | refine e_then_normal ?_ | refine o_store (k := ?_) | refine c_true (h1 := ?_) | refine c_false (h1 := ?_) | refine c_ret ?_ | refine c_skip ?_ | refine e_then_ret ?_ | refine c_block ?_ | refine c_exit ?_ | refine e_then_exit ?_ | refine e_block_exit ?_ | refine e_block_normal ?_ | refine e_block_ret ?_ | refine o_box (k := fun _ => ?_) | refine o_alloc (k := fun _ => ?_) | refine e_norm ?_ | refine o_ung (k := ?_) | refine o_k (k := ?_) | refine s_v (k := ?_) | refine s_w (k := ?_) | refine s_k (k := ?_) | refine s_nil ?_ | refine e_block_exit_ne rfl ?_)
  refine o_y (y_cap rfl) rfl ?_
  repeat (first | refine o_v (k := ?_) | refine c_seq ?_ | refine c_region ?_ | refine o_nil ?_ | refine e_then_normal ?_ | refine o_store (k := ?_) | refine c_true (h1 := ?_) | refine c_false (h1 := ?_) | refine c_ret ?_ | refine c_skip ?_ | refine e_then_ret ?_ | refine c_block ?_ | refine c_exit ?_ | refine e_then_exit ?_ | refine e_block_exit ?_ | refine e_block_normal ?_ | refine e_block_ret ?_ | refine o_box (k := fun _ => ?_) | refine o_alloc (k := fun _ => ?_) | refine e_norm ?_ | refine o_ung (k := ?_) | refine o_k (k := ?_) | refine s_v (k := ?_) | refine s_w (k := ?_) | refine s_k (k := ?_) | refine s_nil ?_ | refine e_block_exit_ne rfl ?_)
  refine c_if (h1 := fun h2 => ?_) (h2 := fun h2 => ?_)
  · have hcap : cap = l.length := by simp at h2; omega
    subst hcap
    have htl0 : tl = [] := List.eq_nil_of_length_eq_zero (by rw [hlen] at htl; omega)
    subst htl0
    repeat (first | refine o_v (k := ?_) | refine c_seq ?_ | refine c_region ?_ | refine o_nil ?_ | refine e_then_normal ?_ | refine o_store (k := ?_) | refine c_true (h1 := ?_) | refine c_false (h1 := ?_) | refine c_ret ?_ | refine c_skip ?_ | refine e_then_ret ?_ | refine c_block ?_ | refine c_exit ?_ | refine e_then_exit ?_ | refine e_block_exit ?_ | refine e_block_normal ?_ | refine e_block_ret ?_ | refine o_box (k := fun _ => ?_) | refine o_alloc (k := fun _ => ?_) | refine e_norm ?_ | refine o_ung (k := ?_) | refine o_k (k := ?_) | refine s_v (k := ?_) | refine s_w (k := ?_) | refine s_k (k := ?_) | refine s_nil ?_ | refine e_block_exit_ne rfl ?_)
    refine o_y (y_cuthi rfl rfl (by omega)) rfl ?_
    repeat (first | refine o_v (k := ?_) | refine c_seq ?_ | refine c_region ?_ | refine o_nil ?_ | refine e_then_normal ?_ | refine o_store (k := ?_) | refine c_true (h1 := ?_) | refine c_false (h1 := ?_) | refine c_ret ?_ | refine c_skip ?_ | refine e_then_ret ?_ | refine c_block ?_ | refine c_exit ?_ | refine e_then_exit ?_ | refine e_block_exit ?_ | refine e_block_normal ?_ | refine e_block_ret ?_ | refine o_box (k := fun _ => ?_) | refine o_alloc (k := fun _ => ?_) | refine e_norm ?_ | refine o_ung (k := ?_) | refine o_k (k := ?_) | refine s_v (k := ?_) | refine s_w (k := ?_) | refine s_k (k := ?_) | refine s_nil ?_ | refine e_block_exit_ne rfl ?_)
    refine o_append_zeros (e := 120) (sz := 3) (bytes := 32) (kk := .i64) (hk2 := Tryz.underlying3) (n := ((i : Int)).toNat) (m := l.length + 1 - i) (xs := entsC (l.take i)) (hmi := by omega) (hm0 := by omega) (hold := CellsIn.blkdrop (k := 0) (m := i * 3) (by repeat (first | exact BlkIn.here | apply BlkIn.there)) (by rw [List.drop_zero, List.append_nil, htk])) (hl := by rw [htkl, Int.toNat_natCast]) (hcap := by omega) (hb := by omega) (k := fun g2 cap2 zs tl2 hzs hc2 hm2 hl2 => ?_)
    rw [show ((i : Int)).toNat + (l.length + 1 - i) = l.length + 1 from by omega]
    repeat (first | refine o_v (k := ?_) | refine c_seq ?_ | refine c_region ?_ | refine o_nil ?_ | refine e_then_normal ?_ | refine o_store (k := ?_) | refine c_true (h1 := ?_) | refine c_false (h1 := ?_) | refine c_ret ?_ | refine c_skip ?_ | refine e_then_ret ?_ | refine c_block ?_ | refine c_exit ?_ | refine e_then_exit ?_ | refine e_block_exit ?_ | refine e_block_normal ?_ | refine e_block_ret ?_ | refine o_box (k := fun _ => ?_) | refine o_alloc (k := fun _ => ?_) | refine e_norm ?_ | refine o_ung (k := ?_) | refine o_k (k := ?_) | refine s_v (k := ?_) | refine s_w (k := ?_) | refine s_k (k := ?_) | refine s_nil ?_ | refine e_block_exit_ne rfl ?_)
    refine o_cutlo_g i (k := ?_)
    repeat (first | refine o_v (k := ?_) | refine c_seq ?_ | refine c_region ?_ | refine o_nil ?_ | refine e_then_normal ?_ | refine o_store (k := ?_) | refine c_true (h1 := ?_) | refine c_false (h1 := ?_) | refine c_ret ?_ | refine c_skip ?_ | refine e_then_ret ?_ | refine c_block ?_ | refine c_exit ?_ | refine e_then_exit ?_ | refine e_block_exit ?_ | refine e_block_normal ?_ | refine e_block_ret ?_ | refine o_box (k := fun _ => ?_) | refine o_alloc (k := fun _ => ?_) | refine e_norm ?_ | refine o_ung (k := ?_) | refine o_k (k := ?_) | refine s_v (k := ?_) | refine s_w (k := ?_) | refine s_k (k := ?_) | refine s_nil ?_ | refine e_block_exit_ne rfl ?_)
    have hcs : (entsC (l.take i) ++ zs ++ tl2).length = cap2 * 3 := by rw [← hl2, List.length_append]
    refine o_copy (sz := 3) (bytes := 32) (sz' := 3) (bytes' := 32) (m := 1) (news := entC e) (hm := by omega) (hl := rfl) (hc := .inr ⟨_, rfl, CellsIn.blk (m := 3) (us := entC e) (by repeat (first | exact BlkIn.here | apply BlkIn.there)) rfl⟩) (h1 := entC_one e) (hfz := .inl rfl) (hfit := by rw [hcs]; simp only [entC, List.length_cons, List.length_nil]; omega) (k := ?_)
    obtain ⟨D, hD⟩ : ∃ D, List.drop (0 + i * 3 + (entC e).length) (entsC (l.take i) ++ zs ++ tl2) = D := ⟨_, rfl⟩
    have hDl : D.length = cap2 * 3 - (i + 1) * 3 := by rw [← hD, List.length_drop, hcs]; simp only [entC, List.length_cons, List.length_nil]; omega
    have htk2 : List.take (0 + i * 3) (entsC (l.take i) ++ zs ++ tl2) = entsC (l.take i) := by rw [List.append_assoc, show 0 + i * 3 = (entsC (l.take i)).length from by rw [htkl]; omega, List.take_left]
    rw [htk2, hD]
    repeat (first | refine o_v (k := ?_) | refine c_seq ?_ | refine c_region ?_ | refine o_nil ?_ | refine e_then_normal ?_ | refine o_store (k := ?_) | refine c_true (h1 := ?_) | refine c_false (h1 := ?_) | refine c_ret ?_ | refine c_skip ?_ | refine e_then_ret ?_ | refine c_block ?_ | refine c_exit ?_ | refine e_then_exit ?_ | refine e_block_exit ?_ | refine e_block_normal ?_ | refine e_block_ret ?_ | refine o_box (k := fun _ => ?_) | refine o_alloc (k := fun _ => ?_) | refine e_norm ?_ | refine o_ung (k := ?_) | refine o_k (k := ?_) | refine s_v (k := ?_) | refine s_w (k := ?_) | refine s_k (k := ?_) | refine s_nil ?_ | refine e_block_exit_ne rfl ?_)
    refine c_still (P := Tryz.prog) 8 (by kernel_rfl) ?_
    repeat (first | refine o_v (k := ?_) | refine c_seq ?_ | refine c_region ?_ | refine o_nil ?_ | refine e_then_normal ?_ | refine o_store (k := ?_) | refine c_true (h1 := ?_) | refine c_false (h1 := ?_) | refine c_ret ?_ | refine c_skip ?_ | refine e_then_ret ?_ | refine c_block ?_ | refine c_exit ?_ | refine e_then_exit ?_ | refine e_block_exit ?_ | refine e_block_normal ?_ | refine e_block_ret ?_ | refine o_box (k := fun _ => ?_) | refine o_alloc (k := fun _ => ?_) | refine e_norm ?_ | refine o_ung (k := ?_) | refine o_k (k := ?_) | refine s_v (k := ?_) | refine s_w (k := ?_) | refine s_k (k := ?_) | refine s_nil ?_ | refine e_block_exit_ne rfl ?_)
    refine s_cutlo_g (i + 1) (k := ?_)
    repeat (first | refine o_v (k := ?_) | refine c_seq ?_ | refine c_region ?_ | refine o_nil ?_ | refine e_then_normal ?_ | refine o_store (k := ?_) | refine c_true (h1 := ?_) | refine c_false (h1 := ?_) | refine c_ret ?_ | refine c_skip ?_ | refine e_then_ret ?_ | refine c_block ?_ | refine c_exit ?_ | refine e_then_exit ?_ | refine e_block_exit ?_ | refine e_block_normal ?_ | refine e_block_ret ?_ | refine o_box (k := fun _ => ?_) | refine o_alloc (k := fun _ => ?_) | refine e_norm ?_ | refine o_ung (k := ?_) | refine o_k (k := ?_) | refine s_v (k := ?_) | refine s_w (k := ?_) | refine s_k (k := ?_) | refine s_nil ?_ | refine e_block_exit_ne rfl ?_)
    refine s_cutlo_g i (k := ?_)
    repeat (first | refine o_v (k := ?_) | refine c_seq ?_ | refine c_region ?_ | refine o_nil ?_ | refine e_then_normal ?_ | refine o_store (k := ?_) | refine c_true (h1 := ?_) | refine c_false (h1 := ?_) | refine c_ret ?_ | refine c_skip ?_ | refine e_then_ret ?_ | refine c_block ?_ | refine c_exit ?_ | refine e_then_exit ?_ | refine e_block_exit ?_ | refine e_block_normal ?_ | refine e_block_ret ?_ | refine o_box (k := fun _ => ?_) | refine o_alloc (k := fun _ => ?_) | refine e_norm ?_ | refine o_ung (k := ?_) | refine o_k (k := ?_) | refine s_v (k := ?_) | refine s_w (k := ?_) | refine s_k (k := ?_) | refine s_nil ?_ | refine e_block_exit_ne rfl ?_)
    have hpre : (entsC (l.take i) ++ entC e).length = (i + 1) * 3 := by rw [List.length_append, htkl]; simp only [entC, List.length_cons, List.length_nil]; omega
    refine o_copy (sz := 3) (bytes := 32) (sz' := 3) (bytes' := 32) (m := l.length - i) (news := entsC (l.drop i)) (hm := by omega) (hl := hdpl) (hc := .inr ⟨_, rfl, CellsIn.blkdrop (k := 0 + i * 3) (m := (l.length - i) * 3) (by repeat (first | exact BlkIn.here | apply BlkIn.there)) (by rw [List.append_nil, Nat.zero_add, hdp, List.take_of_length_le (by rw [hdpl]; exact Nat.le_refl _)])⟩) (h1 := entsC_one _) (hfz := .inl rfl) (hfit := by rw [hdpl, List.length_append, hpre, hDl]; omega) (k := ?_)
    rw [show 0 + (i + 1) * 3 = (entsC (l.take i) ++ entC e).length from by rw [hpre]; omega, List.take_left]
    repeat (first | refine o_v (k := ?_) | refine c_seq ?_ | refine c_region ?_ | refine o_nil ?_ | refine e_then_normal ?_ | refine o_store (k := ?_) | refine c_true (h1 := ?_) | refine c_false (h1 := ?_) | refine c_ret ?_ | refine c_skip ?_ | refine e_then_ret ?_ | refine c_block ?_ | refine c_exit ?_ | refine e_then_exit ?_ | refine e_block_exit ?_ | refine e_block_normal ?_ | refine e_block_ret ?_ | refine o_box (k := fun _ => ?_) | refine o_alloc (k := fun _ => ?_) | refine e_norm ?_ | refine o_ung (k := ?_) | refine o_k (k := ?_) | refine s_v (k := ?_) | refine s_w (k := ?_) | refine s_k (k := ?_) | refine s_nil ?_ | refine e_block_exit_ne rfl ?_)
    rw [hrl]
    refine e_rowshut (sz := 3) (n := l.length + 1) (.slice (some ⟨g2, 0, none⟩) (l.length + 1) cap2) (xs := entsC (l.take i ++ e :: l.drop i)) (tl := D.drop ((l.length - i) * 3)) (hcs := ?_) (h := ⟨rfl, hrcl, by omega, hm2, ?_, .inl rfl⟩) (k := ?_)
    · rw [hrc, List.drop_append]
      simp [hdpl]
    · rw [hrcl, List.length_drop, hDl]; omega
    · exact e_1 (h1 := rs_tmp rfl) (H' := [rowA (.slice (some ⟨g2, 0, none⟩) (l.length + 1) cap2) 120 3 (l.length + 1) (entsC (l.take i ++ e :: l.drop i))]) (hT := rfl)
  · have hcap : l.length + 1 ≤ cap := by simp at h2; omega
    have hcs : (entsC l ++ tl).length = cap * 3 := by rw [List.length_append]; exact htl
    repeat (first | refine o_v (k := ?_) | refine c_seq ?_ | refine c_region ?_ | refine o_nil ?_ | refine e_then_normal ?_ | refine o_store (k := ?_) | refine c_true (h1 := ?_) | refine c_false (h1 := ?_) | refine c_ret ?_ | refine c_skip ?_ | refine e_then_ret ?_ | refine c_block ?_ | refine c_exit ?_ | refine e_then_exit ?_ | refine e_block_exit ?_ | refine e_block_normal ?_ | refine e_block_ret ?_ | refine o_box (k := fun _ => ?_) | refine o_alloc (k := fun _ => ?_) | refine e_norm ?_ | refine o_ung (k := ?_) | refine o_k (k := ?_) | refine s_v (k := ?_) | refine s_w (k := ?_) | refine s_k (k := ?_) | refine s_nil ?_ | refine e_block_exit_ne rfl ?_)
    refine o_y (y_cuthi rfl rfl (by omega)) rfl ?_
    rw [show ((l.length : Int) + ((1 : Nat) : Int)).toNat = l.length + 1 from by omega]
    repeat (first | refine o_v (k := ?_) | refine c_seq ?_ | refine c_region ?_ | refine o_nil ?_ | refine e_then_normal ?_ | refine o_store (k := ?_) | refine c_true (h1 := ?_) | refine c_false (h1 := ?_) | refine c_ret ?_ | refine c_skip ?_ | refine e_then_ret ?_ | refine c_block ?_ | refine c_exit ?_ | refine e_then_exit ?_ | refine e_block_exit ?_ | refine e_block_normal ?_ | refine e_block_ret ?_ | refine o_box (k := fun _ => ?_) | refine o_alloc (k := fun _ => ?_) | refine e_norm ?_ | refine o_ung (k := ?_) | refine o_k (k := ?_) | refine s_v (k := ?_) | refine s_w (k := ?_) | refine s_k (k := ?_) | refine s_nil ?_ | refine e_block_exit_ne rfl ?_)
    refine o_cutlo_g (i + 1) (k := ?_)
    repeat (first | refine o_v (k := ?_) | refine c_seq ?_ | refine c_region ?_ | refine o_nil ?_ | refine e_then_normal ?_ | refine o_store (k := ?_) | refine c_true (h1 := ?_) | refine c_false (h1 := ?_) | refine c_ret ?_ | refine c_skip ?_ | refine e_then_ret ?_ | refine c_block ?_ | refine c_exit ?_ | refine e_then_exit ?_ | refine e_block_exit ?_ | refine e_block_normal ?_ | refine e_block_ret ?_ | refine o_box (k := fun _ => ?_) | refine o_alloc (k := fun _ => ?_) | refine e_norm ?_ | refine o_ung (k := ?_) | refine o_k (k := ?_) | refine s_v (k := ?_) | refine s_w (k := ?_) | refine s_k (k := ?_) | refine s_nil ?_ | refine e_block_exit_ne rfl ?_)
    refine o_ne xb g (k := fun hxg => ?_)
    refine o_y (y_over (e := 120) (tR := 4) (t := 78) Tryz.underlying78 Tryz.func213 (by kernel_rfl) (by kernel_rfl) (by kernel_rfl) (by kernel_rfl) rfl rfl rfl (by repeat (first | exact BlkIn.here | apply BlkIn.there)) (by repeat (first | exact BlkIn.here | apply BlkIn.there)) hxg (by intro h; rw [h] at hcs; simp at hcs; omega)) rfl ?_
    repeat (first | refine o_v (k := ?_) | refine c_seq ?_ | refine c_region ?_ | refine o_nil ?_ | refine e_then_normal ?_ | refine o_store (k := ?_) | refine c_true (h1 := ?_) | refine c_false (h1 := ?_) | refine c_ret ?_ | refine c_skip ?_ | refine e_then_ret ?_ | refine c_block ?_ | refine c_exit ?_ | refine e_then_exit ?_ | refine e_block_exit ?_ | refine e_block_normal ?_ | refine e_block_ret ?_ | refine o_box (k := fun _ => ?_) | refine o_alloc (k := fun _ => ?_) | refine e_norm ?_ | refine o_ung (k := ?_) | refine o_k (k := ?_) | refine s_v (k := ?_) | refine s_w (k := ?_) | refine s_k (k := ?_) | refine s_nil ?_ | refine e_block_exit_ne rfl ?_)
    refine c_still (P := Tryz.prog) 8 (by kernel_rfl) ?_
    repeat (first | refine o_v (k := ?_) | refine c_seq ?_ | refine c_region ?_ | refine o_nil ?_ | refine e_then_normal ?_ | refine o_store (k := ?_) | refine c_true (h1 := ?_) | refine c_false (h1 := ?_) | refine c_ret ?_ | refine c_skip ?_ | refine e_then_ret ?_ | refine c_block ?_ | refine c_exit ?_ | refine e_then_exit ?_ | refine e_block_exit ?_ | refine e_block_normal ?_ | refine e_block_ret ?_ | refine o_box (k := fun _ => ?_) | refine o_alloc (k := fun _ => ?_) | refine e_norm ?_ | refine o_ung (k := ?_) | refine o_k (k := ?_) | refine s_v (k := ?_) | refine s_w (k := ?_) | refine s_k (k := ?_) | refine s_nil ?_ | refine e_block_exit_ne rfl ?_)
    refine s_cutlo_g (i + 1) (k := ?_)
    repeat (first | refine o_v (k := ?_) | refine c_seq ?_ | refine c_region ?_ | refine o_nil ?_ | refine e_then_normal ?_ | refine o_store (k := ?_) | refine c_true (h1 := ?_) | refine c_false (h1 := ?_) | refine c_ret ?_ | refine c_skip ?_ | refine e_then_ret ?_ | refine c_block ?_ | refine c_exit ?_ | refine e_then_exit ?_ | refine e_block_exit ?_ | refine e_block_normal ?_ | refine e_block_ret ?_ | refine o_box (k := fun _ => ?_) | refine o_alloc (k := fun _ => ?_) | refine e_norm ?_ | refine o_ung (k := ?_) | refine o_k (k := ?_) | refine s_v (k := ?_) | refine s_w (k := ?_) | refine s_k (k := ?_) | refine s_nil ?_ | refine e_block_exit_ne rfl ?_)
    refine s_cutlo_g i (k := ?_)
    repeat (first | refine o_v (k := ?_) | refine c_seq ?_ | refine c_region ?_ | refine o_nil ?_ | refine e_then_normal ?_ | refine o_store (k := ?_) | refine c_true (h1 := ?_) | refine c_false (h1 := ?_) | refine c_ret ?_ | refine c_skip ?_ | refine e_then_ret ?_ | refine c_block ?_ | refine c_exit ?_ | refine e_then_exit ?_ | refine e_block_exit ?_ | refine e_block_normal ?_ | refine e_block_ret ?_ | refine o_box (k := fun _ => ?_) | refine o_alloc (k := fun _ => ?_) | refine e_norm ?_ | refine o_ung (k := ?_) | refine o_k (k := ?_) | refine s_v (k := ?_) | refine s_w (k := ?_) | refine s_k (k := ?_) | refine s_nil ?_ | refine e_block_exit_ne rfl ?_)
    have hsplit : entsC l ++ tl = entsC (l.take i) ++ (entsC (l.drop i) ++ tl) := by rw [← htk, ← hdp, ← List.append_assoc, List.take_append_drop]
    have hfz2 : fzOk fz (entsC l ++ tl).length := by rw [List.length_append]; exact hfz
    refine o_copy (sz := 3) (bytes := 32) (sz' := 3) (bytes' := 32) (m := l.length - i) (news := entsC (l.drop i)) (hm := by omega) (hl := hdpl) (hc := .inr ⟨_, rfl, CellsIn.blkdrop (k := 0 + i * 3) (m := (l.length - i) * 3) (by repeat (first | exact BlkIn.here | apply BlkIn.there)) (by rw [Nat.zero_add, hsplit, show i * 3 = (entsC (l.take i)).length from htkl.symm, List.drop_left, List.take_append_of_le_length (by rw [hdpl]; exact Nat.le_refl _), List.take_of_length_le (by rw [hdpl]; exact Nat.le_refl _)])⟩) (h1 := entsC_one _) (hfz := hfz2) (hfit := by rw [hdpl, hcs]; omega) (k := ?_)
    obtain ⟨U, hU⟩ : ∃ U, List.take (0 + (i + 1) * 3) (entsC l ++ tl) = U := ⟨_, rfl⟩
    obtain ⟨D, hD⟩ : ∃ D, List.drop (0 + (i + 1) * 3 + (entsC (l.drop i)).length) (entsC l ++ tl) = D := ⟨_, rfl⟩
    have hUl : U.length = (i + 1) * 3 := by rw [← hU, List.length_take, hcs]; omega
    have hU1 : U.take (i * 3) = entsC (l.take i) := by rw [← hU, List.take_take, Nat.min_eq_left (by omega), List.take_append_of_le_length (by rw [hlen]; omega), htk]
    have hDl : D.length = cap * 3 - (l.length + 1) * 3 := by rw [← hD, List.length_drop, hcs, hdpl]; omega
    rw [hU, hD]
    repeat (first | refine o_v (k := ?_) | refine c_seq ?_ | refine c_region ?_ | refine o_nil ?_ | refine e_then_normal ?_ | refine o_store (k := ?_) | refine c_true (h1 := ?_) | refine c_false (h1 := ?_) | refine c_ret ?_ | refine c_skip ?_ | refine e_then_ret ?_ | refine c_block ?_ | refine c_exit ?_ | refine e_then_exit ?_ | refine e_block_exit ?_ | refine e_block_normal ?_ | refine e_block_ret ?_ | refine o_box (k := fun _ => ?_) | refine o_alloc (k := fun _ => ?_) | refine e_norm ?_ | refine o_ung (k := ?_) | refine o_k (k := ?_) | refine s_v (k := ?_) | refine s_w (k := ?_) | refine s_k (k := ?_) | refine s_nil ?_ | refine e_block_exit_ne rfl ?_)
    refine o_cutlo_g i (k := ?_)
    repeat (first | refine o_v (k := ?_) | refine c_seq ?_ | refine c_region ?_ | refine o_nil ?_ | refine e_then_normal ?_ | refine o_store (k := ?_) | refine c_true (h1 := ?_) | refine c_false (h1 := ?_) | refine c_ret ?_ | refine c_skip ?_ | refine e_then_ret ?_ | refine c_block ?_ | refine c_exit ?_ | refine e_then_exit ?_ | refine e_block_exit ?_ | refine e_block_normal ?_ | refine e_block_ret ?_ | refine o_box (k := fun _ => ?_) | refine o_alloc (k := fun _ => ?_) | refine e_norm ?_ | refine o_ung (k := ?_) | refine o_k (k := ?_) | refine s_v (k := ?_) | refine s_w (k := ?_) | refine s_k (k := ?_) | refine s_nil ?_ | refine e_block_exit_ne rfl ?_)
    have hcs2 : (U ++ entsC (l.drop i) ++ D).length = cap * 3 := by rw [List.length_append, List.length_append, hUl, hdpl, hDl]; omega
    refine o_copy (sz := 3) (bytes := 32) (sz' := 3) (bytes' := 32) (m := 1) (news := entC e) (hm := by omega) (hl := rfl) (hc := .inr ⟨_, rfl, CellsIn.blk (m := 3) (us := entC e) (by repeat (first | exact BlkIn.here | apply BlkIn.there)) rfl⟩) (h1 := entC_one e) (hfz := by rw [hcs2, ← hcs]; exact hfz2) (hfit := by rw [hcs2]; simp only [entC, List.length_cons, List.length_nil]; omega) (k := ?_)
    have hA : List.take (0 + i * 3) (U ++ entsC (l.drop i) ++ D) = entsC (l.take i) := by rw [List.append_assoc, List.take_append_of_le_length (by rw [hUl]; omega), Nat.zero_add, hU1]
    have hB : List.drop (0 + i * 3 + (entC e).length) (U ++ entsC (l.drop i) ++ D) = entsC (l.drop i) ++ D := by
      rw [List.append_assoc, show 0 + i * 3 + (entC e).length = U.length from by rw [hUl]; simp only [entC, List.length_cons, List.length_nil]; omega, List.drop_left]
    rw [hA, hB]
    repeat (first | refine o_v (k := ?_) | refine c_seq ?_ | refine c_region ?_ | refine o_nil ?_ | refine e_then_normal ?_ | refine o_store (k := ?_) | refine c_true (h1 := ?_) | refine c_false (h1 := ?_) | refine c_ret ?_ | refine c_skip ?_ | refine e_then_ret ?_ | refine c_block ?_ | refine c_exit ?_ | refine e_then_exit ?_ | refine e_block_exit ?_ | refine e_block_normal ?_ | refine e_block_ret ?_ | refine o_box (k := fun _ => ?_) | refine o_alloc (k := fun _ => ?_) | refine e_norm ?_ | refine o_ung (k := ?_) | refine o_k (k := ?_) | refine s_v (k := ?_) | refine s_w (k := ?_) | refine s_k (k := ?_) | refine s_nil ?_ | refine e_block_exit_ne rfl ?_)
    rw [hrl]
    refine e_rowshut (sz := 3) (n := l.length + 1) (.slice (some ⟨g, 0, none⟩) (l.length + 1) cap) (xs := entsC (l.take i ++ e :: l.drop i)) (tl := D) (hcs := ?_) (h := ⟨rfl, hrcl, hcap, hcm, ?_, ?_⟩) (k := ?_)
    · rw [hrc]; simp
    · rw [hrcl, hDl]; omega
    · rw [hrcl, hDl, show (l.length + 1) * 3 + (cap * 3 - (l.length + 1) * 3) = cap * 3 from by omega, ← hcs]; exact hfz2
    · exact e_1 (h1 := rs_tmp rfl) (H' := [rowA (.slice (some ⟨g, 0, none⟩) (l.length + 1) cap) 120 3 (l.length + 1) (entsC (l.take i ++ e :: l.drop i))]) (hT := rfl)
end Go.Proofs.YtlkgdidmhmaneaaGreatDoor
/- The engine, part 15: regions whose reads are taken first, though a store that waits for them turns what they read. -/
namespace Go.Proofs.YtlkgdidmhmaneaaGreatDoor
open Go Go.RowKit
/-- does operation j not wait for one of R? -/
def needs (R : List Nat) (ops : Array Oper) (j : Nat) : Bool := match ops[j]? with
  | none => true
  | some o => R.any fun r => o.after.all fun e => !(Region.binds .any e && Nat.beq e.on r)
theorem needs_of {R : List Nat} {ops : Array Oper} {i j : Nat} {oj : Oper} (hi : i ∈ R) (hj : ops[j]? = some oj) (h : ∀ e ∈ oj.after, Region.binds .any e = true → e.on ≠ i) : needs R ops j = true := by
  simp only [needs, hj, List.any_eq_true]
  refine ⟨i, hi, ?_⟩
  rw [Array.all_eq_true']
  intro e he
  cases hb : Region.binds .any e with
  | false => simp
  | true =>
    have := h e he hb
    have h2 : Nat.beq e.on i = false := by
      cases h3 : Nat.beq e.on i with
      | false => rfl
      | true => exact absurd (Nat.eq_of_beq_eq_true h3) this
    simp [h2]
section
variable {P : Program} {ops : Array Oper} {Q : Exit → Act → World → Prop} {S : World → Prop} {R : List Nat}
def wpAnyJ (P : Program) (ops : Array Oper) (Q : Exit → Act → World → Prop) (S : World → Prop) (R : List Nat) : Nat → Array Bool → Act → World → Prop
  | 0, listed, a, w => Region.ready .any ops listed = [] ∧ Q .normal a w
  | fuel + 1, listed, a, w =>
    (Region.ready .any ops listed = [] → Q .normal a w) ∧
    ∀ i ∈ Region.ready .any ops listed, wpOp P ops Q i (fun a' w' => (needs R ops i = true → S w') ∧ wpAnyJ P ops Q S R fuel (listed.setIfInBounds i true) a' w') a w
theorem wpAny_of_J : ∀ (fuel : Nat) (listed : Array Bool) (a : Act) (w : World), wpAnyJ P ops Q S R fuel listed a w → wpAny P .any ops Q fuel listed a w
  | 0, _, _, _, h => h
  | fuel + 1, _, _, _, h => ⟨h.1, fun i hi => wpOp_mono (fun a' w' h' => wpAny_of_J fuel _ a' w' h'.2) (h.2 i hi)⟩
theorem wpAnyJ_first {i : Nat} {oi : Oper} {v : Value} (hi : ops[i]? = some oi) (hiR : i ∈ R) (hsel : ∀ (j : Nat) (o : Oper) cs b, ops[j]? = some o → o.op ≠ .select cs b)
    (hQ : ∀ c a w, Q (.panic c) (a.put oi.dst v) w → Q (.panic c) a w) :
    ∀ (fuel : Nat) (listed : Array Bool) (a : Act) (w : World),
      (∀ j oj, ops[j]? = some oj → j ≠ i → listed.getD j true = false → (∀ e ∈ oj.after, Region.binds .any e = true → e.on ≠ i) → oi.apart ops oj = true) →
      i ∈ Region.ready .any ops listed → YieldsIf P ops S oi v a → S w →
      wpAnyJ P ops Q S R fuel (listed.setIfInBounds i true) (a.put oi.dst v) w → wpAnyJ P ops Q S R (fuel + 1) listed a w := by
  intro fuel
  induction fuel with
  | zero =>
    intro listed a w _ hr hy hS H
    refine ⟨fun h => (by rw [h] at hr; cases hr), fun j hj => ?_⟩
    by_cases hji : j = i
    · subst hji; exact hy.wpOp hi hS ⟨fun _ => hS, H⟩
    · have := ready_mono hj hji
      rw [H.1] at this
      cases this
  | succ fuel ih =>
    intro listed a w hfree hr hy hS H
    refine ⟨fun h => (by rw [h] at hr; cases hr), fun j hj => ?_⟩
    by_cases hji : j = i
    · subst hji; exact hy.wpOp hi hS ⟨fun _ => hS, H⟩
    · have h1 := H.2 j (ready_mono hj hji)
      obtain ⟨hjun, oj, hoj, hall⟩ := mem_ready.1 hj
      have hnot : ∀ e ∈ oj.after, Region.binds .any e = true → e.on ≠ i := fun e he hb heq => by
        have h1 := hall e he hb
        have h0 := (mem_ready.1 hr).1
        rw [heq] at h1
        rcases Nat.lt_or_ge i listed.size with h' | h'
        · simp [h'] at h0 h1; rw [h0] at h1; cases h1
        · simp [Array.getElem?_eq_none h'] at h1
      have hnd := needs_of hiR hoj hnot
      have h2 := wpOp_putIf hoj (hfree j oj hoj hji hjun hnot) (fun cs b => hsel i oi cs b hi) (fun cs b => hsel j oj cs b hoj) hQ hy h1
      have hfree' : ∀ k ok, ops[k]? = some ok → k ≠ i → (listed.setIfInBounds j true).getD k true = false →
          (∀ e ∈ ok.after, Region.binds .any e = true → e.on ≠ i) → oi.apart ops ok = true := fun k ok hk hki hun hno => by
        refine hfree k ok hk hki ?_ hno
        by_cases hjk : j = k
        · subst hjk; exact hjun
        · rw [getD_set_ne true hjk] at hun; exact hun
      refine wpOp_mono (fun a' w' h3 => ⟨h3.2.1, ih (listed.setIfInBounds j true) a' w' hfree' (ready_mono hr (Ne.symm hji)) h3.1 (h3.2.1 hnd) ?_⟩) h2
      rw [Array.setIfInBounds_comm _ _ hji]
      exact h3.2.2
end
section
variable {P : Program} {Q : Exit → Act → World → Prop} {G : Ctx} {F : Fr} {H : List Ast} {ops : Array Oper} {rest : List Oper} {R : List Nat}
variable {d : Nat} {op : Op} {ty : TypeId} {pos : String} {aft : Array Edge}
def JG (P : Program) (ops : Array Oper) (Q : Exit → Act → World → Prop) (G : Ctx) (Hf : List Ast) (R : List Nat) (fuel : Nat) (listed : Array Bool) (F : Fr) (H : List Ast) : Prop :=
  ∀ a w, FrOk G.n F a → Good G H w → wpAnyJ P ops Q (Held Hf) R fuel listed a w
theorem c_j (Hf : List Ast) (R : List Nat) {id : Nat} {ops : Array Oper} [hm : PWide P] (h : JG P ops Q G Hf R ops.size (Array.replicate ops.size false) F H) : CG P (.region id ops true) Q G F H :=
  fun a _ ha hw => wp_region_any hm.h (wpAny_of_J _ _ _ _ (h a _ ha hw.drew))
theorem j_take {Hf Hr : List Ast} {fuel : Nat} {listed : Array Bool} (i : Nat) {o : Oper} {v : Value} (hi : ops[i]? = some o) (hd0 : o.dst = some d) (hR : R.contains i = true) (hs : SplitA H Hf Hr) (hsel : Region.noSelect ops = true) (hf : Region.free .any ops listed i = true) (hr : (Region.ready .any ops listed).contains i = true)
    (hQ : ∀ c a w, Q (.panic c) (a.put (some d) v) w → Q (.panic c) a w) (hy : ∀ a, FrOk G.n F a → YieldsIf P ops (Held Hf) o v a) (hd : Nat.ble (d + 1) G.n = true) (k : JG P ops Q G Hf R fuel (listed.setIfInBounds i true) ((d, v) :: F) H) : JG P ops Q G Hf R (fuel + 1) listed F H := by
  intro a w ha hw
  refine wpAnyJ_first hi (by simpa using hR) (Region.noSelect_spec hsel) (by rw [hd0]; exact hQ) fuel listed a w (Region.free_spec hi hf) (by simpa using hr) (hy a ha) ((hw.drop hs).held) ?_
  rw [hd0]
  exact k _ _ (ha.put hd v) hw
def JgK (P : Program) (ops : Array Oper) (Q : Exit → Act → World → Prop) (G : Ctx) (Hf : List Ast) (R : List Nat) (fuel : Nat) (listed : Array Bool) (nd : Bool) : Act → World → Prop := fun a w => ∃ F' H', JG P ops Q G Hf R fuel listed F' H' ∧ FrOk G.n F' a ∧ Good G H' w ∧ (nd = true → Held Hf w)
theorem j_og {Hf : List Ast} {fuel : Nat} {listed : Array Bool} (i : Nat) {o : Oper} {nd : Bool} (hi : ops[i]? = some o) (hr : Region.ready .any ops listed = [i]) (hn : needs R ops i = nd) (k : OG P ops (Exit.then (JgK P ops Q G Hf R fuel (listed.setIfInBounds i true) nd) Q) G [o] F H) : JG P ops Q G Hf R (fuel + 1) listed F H := by
  intro a w ha hw
  refine ⟨fun h0 => absurd (hr ▸ h0) (by simp), ?_⟩
  rw [hr]
  intro j hj
  have : j = i := by simpa using hj
  subst this
  have h := k a w ha hw
  unfold wpList at h
  unfold wpOp
  simp only [hi]
  split at h
  · rename_i hw'
    rw [if_pos hw']
    rcases h with h | ⟨h1, h2⟩
    · left
      refine wp_then (Oper.wp_mono ?_ h)
      rintro a' w' ⟨F', H', hag, hf, hg, hh⟩
      exact ⟨fun h => hh (hn ▸ h), hag a' w' hf hg⟩
    · exact .inr ⟨h1, h2⟩
  · rename_i hw'
    rw [if_neg hw']
    obtain ⟨F', H', hag, hf, hg, hh⟩ := h
    exact ⟨fun h => hh (hn ▸ h), hag _ _ hf hg⟩
theorem e_jf {Hf : List Ast} {fuel : Nat} {listed : Array Bool} (k : JG P ops Q G Hf R fuel listed F H) : EG (Exit.then (JgK P ops Q G Hf R fuel listed false) Q) .normal G F H := fun _ _ ha hw => ⟨F, H, k, ha, hw, fun h => by cases h⟩
theorem e_jt {Hf Hr : List Ast} {fuel : Nat} {listed : Array Bool} (hs : SplitA H Hf Hr := by (repeat (apply SplitA.cons; (repeat (first | exact TakeA.keepI | exact TakeA.here | apply TakeA.there)))); exact SplitA.nil) (k : JG P ops Q G Hf R fuel listed F H) : EG (Exit.then (JgK P ops Q G Hf R fuel listed true) Q) .normal G F H := fun _ _ ha hw => ⟨F, H, k, ha, hw, fun _ => (hw.drop hs).held⟩
theorem j_end {Hf : List Ast} {fuel : Nat} {listed : Array Bool} (hr : Region.ready .any ops listed = [] := by kernel_rfl) (k : EG Q .normal G F H) : JG P ops Q G Hf R fuel listed F H := by
  intro a w ha hw
  have := k a w ha hw
  cases fuel with
  | zero => exact ⟨hr, this⟩
  | succ n => exact ⟨fun _ => this, by rw [hr]; simp⟩
attribute [local irreducible] Yl OG CG EG SG AG JG CellIn CellsIn BlkIn TakeA SplitA Ct ResOk Good Held blk
theorem j_one {Hf : List Ast} {fuel : Nat} {listed listed' : Array Bool} {nd : Bool} (i : Nat) {o : Oper} (hi : ops[i]? = some o := by rfl) (hr : Region.ready .any ops listed = [i] := by kernel_rfl) (hn : needs R ops i = nd := by kernel_rfl) (hl : listed.setIfInBounds i true = listed' := by rfl) (k : OG P ops (Exit.then (JgK P ops Q G Hf R fuel listed' nd) Q) G [o] F H) : JG P ops Q G Hf R (fuel + 1) listed F H := j_og i hi hr hn (hl ▸ k)
/-- a read that may come up is taken first -/
theorem j_v {Hf Hr : List Ast} {fuel : Nat} {listed listed' : Array Bool} (i : Nat) {v : Value} (hi : ops[i]? = some ⟨some d, op, ty, pos, aft, none⟩ := by rfl) (hR : R.contains i = true := by rfl) (hs : SplitA H Hf Hr := by (repeat (apply SplitA.cons; (repeat (first | exact TakeA.keepI | exact TakeA.here | apply TakeA.there)))); exact SplitA.nil) (hsel : Region.noSelect ops = true := by kernel_rfl) (hf : Region.free .any ops listed i = true := by kernel_rfl) (hr : (Region.ready .any ops listed).contains i = true := by kernel_rfl)
    (hQ : ∀ c a w, Q (.panic c) (a.put (some d) v) w → Q (.panic c) a w := by intro c a w h; exact h) (hy : Yl P G.n F Hf op v := by exact ylA) (hd : Nat.ble (d + 1) G.n = true := by rfl) (hl : listed.setIfInBounds i true = listed' := by rfl) (k : JG P ops Q G Hf R fuel listed' ((d, v) :: F) H) : JG P ops Q G Hf R (fuel + 1) listed F H :=
  j_take i hi rfl hR hs hsel hf hr hQ (fun a ha => .inl ⟨rfl, fun w hw => by unfold Yl at hy; exact hy a w _ _ _ _ _ ha hw⟩) hd (hl ▸ k)
/-- a guarded read that is wanted -/
theorem j_w {Hf Hr : List Ast} {fuel : Nat} {listed listed' : Array Bool} (i : Nat) {j dj : Nat} {b : Bool} {oj : Oper} {v : Value} (hi : ops[i]? = some ⟨some d, op, ty, pos, aft, some (j, b)⟩ := by rfl) (hj : ops[j]? = some oj := by rfl) (hdj : oj.dst = some dj := by rfl) (hv : look F dj = some (.bool b) := by rfl) (hR : R.contains i = true := by rfl) (hs : SplitA H Hf Hr := by (repeat (apply SplitA.cons; (repeat (first | exact TakeA.keepI | exact TakeA.here | apply TakeA.there)))); exact SplitA.nil) (hsel : Region.noSelect ops = true := by kernel_rfl) (hf : Region.free .any ops listed i = true := by kernel_rfl) (hr : (Region.ready .any ops listed).contains i = true := by kernel_rfl)
    (hQ : ∀ c a w, Q (.panic c) (a.put (some d) v) w → Q (.panic c) a w := by intro c a w h; exact h) (hy : Yl P G.n F Hf op v := by exact ylA) (hd : Nat.ble (d + 1) G.n = true := by rfl) (hl : listed.setIfInBounds i true = listed' := by rfl) (k : JG P ops Q G Hf R fuel listed' ((d, v) :: F) H) : JG P ops Q G Hf R (fuel + 1) listed F H :=
  j_take i hi rfl hR hs hsel hf hr hQ (fun a ha => .inl ⟨wanted_of rfl hj hdj hv ha, fun w hw => by unfold Yl at hy; exact hy a w _ _ _ _ _ ha hw⟩) hd (hl ▸ k)
/-- a guarded operation that is not wanted -/
theorem j_k {Hf Hr : List Ast} {fuel : Nat} {listed listed' : Array Bool} (i : Nat) {j dj : Nat} {b b' : Bool} {oj : Oper} (hi : ops[i]? = some ⟨some d, op, ty, pos, aft, some (j, b')⟩ := by rfl) (hj : ops[j]? = some oj := by rfl) (hdj : oj.dst = some dj := by rfl) (hv : look F dj = some (.bool b) := by rfl) (hne : b' = !b := by rfl) (hR : R.contains i = true := by rfl) (hs : SplitA H Hf Hr := by (repeat (apply SplitA.cons; (repeat (first | exact TakeA.keepI | exact TakeA.here | apply TakeA.there)))); exact SplitA.nil) (hsel : Region.noSelect ops = true := by kernel_rfl) (hf : Region.free .any ops listed i = true := by kernel_rfl) (hr : (Region.ready .any ops listed).contains i = true := by kernel_rfl)
    (hQ : ∀ c a w, Q (.panic c) (a.put (some d) undef) w → Q (.panic c) a w := by intro c a w h; exact h) (hd : Nat.ble (d + 1) G.n = true := by rfl) (hl : listed.setIfInBounds i true = listed' := by rfl) (k : JG P ops Q G Hf R fuel listed' ((d, undef) :: F) H) : JG P ops Q G Hf R (fuel + 1) listed F H :=
  j_take i hi rfl hR hs hsel hf hr hQ (fun a ha => .inr ⟨by
    subst hne
    simp only [Region.wanted, yielded, hj, Option.bind_some, hdj, ha.slot dj _ hv]
    cases b <;> rfl, rfl⟩) hd (hl ▸ k)
end
end Go.Proofs.YtlkgdidmhmaneaaGreatDoor
/- dir: what its functions leave. -/
namespace Go.Proofs.YtlkgdidmhmaneaaGreatDoor
open Go Go.RowKit
theorem entsC_set {l : List Ent} {i : Nat} {n : Bts} {x y : Int} (tl : List Value) (h : l[i]? = some (n, x, y)) (x' y' : Int) : (entsC l ++ tl).take (i * 3 + 1) ++ [.int .i64 x', .int .i64 y'] ++ (entsC l ++ tl).drop (i * 3 + 1 + 2) = entsC (l.set i (n, x', y')) ++ tl := by
  induction l generalizing i with
  | nil => simp at h
  | cons e l ih =>
    cases i with
    | zero =>
      simp only [List.getElem?_cons_zero, Option.some.injEq] at h
      subst h
      simp [entsC_cons, entC]
    | succ i =>
      have := ih (i := i) (by simpa using h)
      rw [List.set_cons_succ, entsC_cons, entsC_cons, List.append_assoc (entC e), List.append_assoc (entC e), ← this]
      rw [show (i + 1) * 3 + 1 = i * 3 + 1 + 3 from by omega, show i * 3 + 1 + 3 + 2 = i * 3 + 1 + 2 + 3 from by omega]
      simp [entC]
attribute [local irreducible] Yl OG CG EG SG AG JG CellIn CellsIn BlkIn InA TakeA SplitA SubA Ct ResOk Good Held blk cellsA exA
/-- a directory -/
def dirA (db : Nat) (l : List Ent) : Ast := exA (α := Value) (fun _ => True) fun v => [blk db 176 [v] (0, 0), rowA v 120 3 l.length (entsC l)]
@[simp] theorem dirA_own (db : Nat) (l : List Ent) : (dirA db l).own = true := by unfold dirA; exact exA_own _ _

set_option maxRecDepth 20000 in
set_option maxHeartbeats 4000000 in
theorem dirNew_ok : Ct Tryz.prog 55 [] [] (Ret fun u H => ∃ db, u = .pointer (some ⟨db, 0, none⟩) ∧ H = [dirA db []]) := by
  refine fn_enter Tryz.func55 rfl Tryz.ntmps55 rfl fun _ _ _ => ?_
  repeat (first | refine o_v (k := ?_) | refine c_seq ?_ | refine c_region ?_ | refine o_nil ?_ | refine e_then_normal ?_ | refine o_store (k := ?_) | refine c_true (h1 := ?_) | refine c_false (h1 := ?_) | refine c_ret ?_ | refine c_skip ?_ | refine e_then_ret ?_ | refine c_block ?_ | refine c_exit ?_ | refine e_then_exit ?_ | refine e_block_exit ?_ | refine e_block_normal ?_ | refine e_block_ret ?_ | refine o_box (k := fun _ => ?_) | refine o_alloc (k := fun _ => ?_) | refine e_norm ?_ | refine o_ung (k := ?_) | refine o_k (k := ?_) | refine s_v (k := ?_) | refine s_w (k := ?_) | refine s_k (k := ?_) | refine s_nil ?_ | refine e_block_exit_ne rfl ?_)
  rename_i db
  refine e_add0 (rowA (.slice none 0 0) 120 3 0 []) (fun w => rowA_nil0 _ 3 w) (k := ?_)
  refine e_fold (dirA db []) (Value.slice none 0 0) (hx := by trivial) (k := ?_)
  exact e_1 (h1 := rs_tmp rfl) (H' := [dirA db []]) (hT := ⟨db, rfl, rfl⟩)

set_option maxRecDepth 20000 in
set_option maxHeartbeats 4000000 in
theorem dirLen_ok (db : Nat) (l : List Ent) : Ct Tryz.prog 192 [.pointer (some ⟨db, 0, none⟩)] [dirA db l] (Ret fun u H => u = .int .i64 l.length ∧ H = [dirA db l]) := by
  refine fn_enter Tryz.func192 rfl Tryz.ntmps192 rfl fun _ _ _ => ?_
  refine c_unf (dirA db l) (k := ?_)
  rintro v -
  dsimp only [List.cons_append, List.nil_append]
  refine c_rowis v (k := ?_)
  rintro q cap rfl hcp hcm -
  repeat (first | refine o_v (k := ?_) | refine c_seq ?_ | refine c_region ?_ | refine o_nil ?_ | refine e_then_normal ?_ | refine o_store (k := ?_) | refine c_true (h1 := ?_) | refine c_false (h1 := ?_) | refine c_ret ?_ | refine c_skip ?_ | refine e_then_ret ?_ | refine c_block ?_ | refine c_exit ?_ | refine e_then_exit ?_ | refine e_block_exit ?_ | refine e_block_normal ?_ | refine e_block_ret ?_ | refine o_box (k := fun _ => ?_) | refine o_alloc (k := fun _ => ?_) | refine e_norm ?_ | refine o_ung (k := ?_) | refine o_k (k := ?_) | refine s_v (k := ?_) | refine s_w (k := ?_) | refine s_k (k := ?_) | refine s_nil ?_ | refine e_block_exit_ne rfl ?_)
  refine e_fold (dirA db l) (Value.slice q l.length cap) (hx := by trivial) (k := ?_)
  exact e_1 (h1 := rs_tmp rfl) (H' := [dirA db l]) (hT := ⟨rfl, rfl⟩)

set_option maxRecDepth 20000 in
set_option maxHeartbeats 4000000 in
theorem dirFind_ok (db : Nat) (v : Value) (l : List Ent) (s : Bts) (hr : Rising l) (hl : l.length ≤ 1000000) : Ct Tryz.prog 205 [.pointer (some ⟨db, 0, none⟩), str s] [blk db 176 [v] (0, 0), rowA v 120 3 l.length (entsC l)] (Ret fun u H => u = .tuple #[.int .i64 (idxE l s), .bool (getE l s).isSome] ∧ H = [blk db 176 [v] (0, 0), rowA v 120 3 l.length (entsC l)]) := by
  refine fn_enter Tryz.func205 rfl Tryz.ntmps205 rfl fun _ _ _ => ?_
  repeat (first | refine o_v (k := ?_) | refine c_seq ?_ | refine c_region ?_ | refine o_nil ?_ | refine e_then_normal ?_ | refine o_store (k := ?_) | refine c_true (h1 := ?_) | refine c_false (h1 := ?_) | refine c_ret ?_ | refine c_skip ?_ | refine e_then_ret ?_ | refine c_block ?_ | refine c_exit ?_ | refine e_then_exit ?_ | refine e_block_exit ?_ | refine e_block_normal ?_ | refine e_block_ret ?_ | refine o_box (k := fun _ => ?_) | refine o_alloc (k := fun _ => ?_) | refine e_norm ?_ | refine o_ung (k := ?_) | refine o_k (k := ?_) | refine s_v (k := ?_) | refine s_w (k := ?_) | refine s_k (k := ?_) | refine s_nil ?_ | refine e_block_exit_ne rfl ?_ | (refine o_call (bsearch_ok _ l s hr hl) (k := ?_); rintro _ _ ⟨rfl, rfl⟩; dsimp only [List.cons_append, List.nil_append]))
  exact e_2 (h1 := rs_tmp rfl) (h2 := rs_tmp rfl) (H' := [blk db 176 [v] (0, 0), rowA v 120 3 l.length (entsC l)]) (hT := ⟨rfl, rfl⟩)

set_option maxRecDepth 20000 in
set_option maxHeartbeats 4000000 in
theorem dirGet_ok (db : Nat) (l : List Ent) (s : Bts) (hr : Rising l) (hl : l.length ≤ 1000000) : Ct Tryz.prog 194 [.pointer (some ⟨db, 0, none⟩), str s] [dirA db l] (Ret fun u H => u = (match getE l s with | none => .tuple #[.agg #[.int .i64 0, .int .i64 0], .int .i64 9] | some h => .tuple #[.agg #[.int .i64 h.1, .int .i64 h.2], .int .i64 0]) ∧ H = [dirA db l]) := by
  refine fn_enter Tryz.func194 rfl Tryz.ntmps194 rfl fun _ _ _ => ?_
  refine c_unf (dirA db l) (k := ?_)
  rintro v -
  dsimp only [List.cons_append, List.nil_append]
  refine c_rowis v (k := ?_)
  rintro q cap rfl hcp hcm -
  repeat (first | refine o_v (k := ?_) | refine c_seq ?_ | refine c_region ?_ | refine o_nil ?_ | refine e_then_normal ?_ | refine o_store (k := ?_) | refine c_true (h1 := ?_) | refine c_false (h1 := ?_) | refine c_ret ?_ | refine c_skip ?_ | refine e_then_ret ?_ | refine c_block ?_ | refine c_exit ?_ | refine e_then_exit ?_ | refine e_block_exit ?_ | refine e_block_normal ?_ | refine e_block_ret ?_ | refine o_box (k := fun _ => ?_) | refine o_alloc (k := fun _ => ?_) | refine e_norm ?_ | refine o_ung (k := ?_) | refine o_k (k := ?_) | refine s_v (k := ?_) | refine s_w (k := ?_) | refine s_k (k := ?_) | refine s_nil ?_ | refine e_block_exit_ne rfl ?_ | (refine o_call (dirFind_ok _ _ l s hr hl) (k := ?_); rintro _ _ ⟨rfl, rfl⟩; dsimp only [List.cons_append, List.nil_append]))
  cases hg : getE l s with
  | none =>
    repeat (first | refine o_v (k := ?_) | refine c_seq ?_ | refine c_region ?_ | refine o_nil ?_ | refine e_then_normal ?_ | refine o_store (k := ?_) | refine c_true (h1 := ?_) | refine c_false (h1 := ?_) | refine c_ret ?_ | refine c_skip ?_ | refine e_then_ret ?_ | refine c_block ?_ | refine c_exit ?_ | refine e_then_exit ?_ | refine e_block_exit ?_ | refine e_block_normal ?_ | refine e_block_ret ?_ | refine o_box (k := fun _ => ?_) | refine o_alloc (k := fun _ => ?_) | refine e_norm ?_ | refine o_ung (k := ?_) | refine o_k (k := ?_) | refine s_v (k := ?_) | refine s_w (k := ?_) | refine s_k (k := ?_) | refine s_nil ?_ | refine e_block_exit_ne rfl ?_)
    refine e_fold (dirA db l) (Value.slice q l.length cap) (hx := by trivial) (k := ?_)
    exact e_2 (h1 := rs_blk) (h2 := rs_tmp rfl) (H' := [dirA db l]) (hT := ⟨rfl, rfl⟩)
  | some h =>
    obtain ⟨x, y⟩ := h
    have hat := at_idxE hr hg
    have hlt : idxE l s < l.length := (List.getElem?_eq_some_iff.1 hat).1
    repeat (first | refine o_v (k := ?_) | refine c_seq ?_ | refine c_region ?_ | refine o_nil ?_ | refine e_then_normal ?_ | refine o_store (k := ?_) | refine c_true (h1 := ?_) | refine c_false (h1 := ?_) | refine c_ret ?_ | refine c_skip ?_ | refine e_then_ret ?_ | refine c_block ?_ | refine c_exit ?_ | refine e_then_exit ?_ | refine e_block_exit ?_ | refine e_block_normal ?_ | refine e_block_ret ?_ | refine o_box (k := fun _ => ?_) | refine o_alloc (k := fun _ => ?_) | refine e_norm ?_ | refine o_ung (k := ?_) | refine o_k (k := ?_) | refine s_v (k := ?_) | refine s_w (k := ?_) | refine s_k (k := ?_) | refine s_nil ?_ | refine e_block_exit_ne rfl ?_)
    refine o_rowat q (entsC_ne (l := l) (by intro h; simp [h] at hlt)) (k := ?_)
    rintro b rfl
    repeat (first | refine o_v (k := ?_) | refine c_seq ?_ | refine c_region ?_ | refine o_nil ?_ | refine e_then_normal ?_ | refine o_store (k := ?_) | refine c_true (h1 := ?_) | refine c_false (h1 := ?_) | refine c_ret ?_ | refine c_skip ?_ | refine e_then_ret ?_ | refine c_block ?_ | refine c_exit ?_ | refine e_then_exit ?_ | refine e_block_exit ?_ | refine e_block_normal ?_ | refine e_block_ret ?_ | refine o_box (k := fun _ => ?_) | refine o_alloc (k := fun _ => ?_) | refine e_norm ?_ | refine o_ung (k := ?_) | refine o_k (k := ?_) | refine s_v (k := ?_) | refine s_w (k := ?_) | refine s_k (k := ?_) | refine s_nil ?_ | refine e_block_exit_ne rfl ?_)
    refine o_y (y_loadA rfl (CellsIn.rowsub (own := true) (j := 1) (m := 2) (vs := [.int .i64 x, .int .i64 y]) (rows := l.map entC) (InA.row true (by repeat (first | exact InA.here | apply InA.there))) (entC_len l) (entsC_get hat) rfl (by omega)) rfl) rfl ?_
    repeat (first | refine o_v (k := ?_) | refine c_seq ?_ | refine c_region ?_ | refine o_nil ?_ | refine e_then_normal ?_ | refine o_store (k := ?_) | refine c_true (h1 := ?_) | refine c_false (h1 := ?_) | refine c_ret ?_ | refine c_skip ?_ | refine e_then_ret ?_ | refine c_block ?_ | refine c_exit ?_ | refine e_then_exit ?_ | refine e_block_exit ?_ | refine e_block_normal ?_ | refine e_block_ret ?_ | refine o_box (k := fun _ => ?_) | refine o_alloc (k := fun _ => ?_) | refine e_norm ?_ | refine o_ung (k := ?_) | refine o_k (k := ?_) | refine s_v (k := ?_) | refine s_w (k := ?_) | refine s_k (k := ?_) | refine s_nil ?_ | refine e_block_exit_ne rfl ?_)
    refine e_fold (dirA db l) (Value.slice (some ⟨b, 0, none⟩) l.length cap) (hx := by trivial) (k := ?_)
    exact e_2 (h1 := rs_blk) (h2 := rs_tmp rfl) (H' := [dirA db l]) (hT := ⟨rfl, rfl⟩)

set_option maxRecDepth 20000 in
set_option maxHeartbeats 4000000 in
theorem dirSet_ok (db : Nat) (l : List Ent) (s : Bts) (h : Hd) (hr : Rising l) (hl : l.length ≤ 1000000) : Ct Tryz.prog 196 [.pointer (some ⟨db, 0, none⟩), str s, .agg #[.int .i64 h.1, .int .i64 h.2]] [dirA db l] (Ret fun u H => match getE l s with | none => u = .int .i64 9 ∧ H = [dirA db l] | some _ => u = .int .i64 0 ∧ H = [dirA db (setE l s h)]) := by
  refine fn_enter Tryz.func196 rfl Tryz.ntmps196 rfl fun _ _ _ => ?_
  refine c_unf (dirA db l) (k := ?_)
  rintro v -
  dsimp only [List.cons_append, List.nil_append]
  refine c_rowis v (k := ?_)
  rintro q cap rfl hcp hcm -
  repeat (first | refine o_v (k := ?_) | refine c_seq ?_ | refine c_region ?_ | refine o_nil ?_ | refine e_then_normal ?_ | refine o_store (k := ?_) | refine c_true (h1 := ?_) | refine c_false (h1 := ?_) | refine c_ret ?_ | refine c_skip ?_ | refine e_then_ret ?_ | refine c_block ?_ | refine c_exit ?_ | refine e_then_exit ?_ | refine e_block_exit ?_ | refine e_block_normal ?_ | refine e_block_ret ?_ | refine o_box (k := fun _ => ?_) | refine o_alloc (k := fun _ => ?_) | refine e_norm ?_ | refine o_ung (k := ?_) | refine o_k (k := ?_) | refine s_v (k := ?_) | refine s_w (k := ?_) | refine s_k (k := ?_) | refine s_nil ?_ | refine e_block_exit_ne rfl ?_ | (refine o_call (dirFind_ok _ _ l s hr hl) (k := ?_); rintro _ _ ⟨rfl, rfl⟩; dsimp only [List.cons_append, List.nil_append]))
  cases hg : getE l s with
  | none =>
    repeat (first | refine o_v (k := ?_) | refine c_seq ?_ | refine c_region ?_ | refine o_nil ?_ | refine e_then_normal ?_ | refine o_store (k := ?_) | refine c_true (h1 := ?_) | refine c_false (h1 := ?_) | refine c_ret ?_ | refine c_skip ?_ | refine e_then_ret ?_ | refine c_block ?_ | refine c_exit ?_ | refine e_then_exit ?_ | refine e_block_exit ?_ | refine e_block_normal ?_ | refine e_block_ret ?_ | refine o_box (k := fun _ => ?_) | refine o_alloc (k := fun _ => ?_) | refine e_norm ?_ | refine o_ung (k := ?_) | refine o_k (k := ?_) | refine s_v (k := ?_) | refine s_w (k := ?_) | refine s_k (k := ?_) | refine s_nil ?_ | refine e_block_exit_ne rfl ?_)
    refine e_fold (dirA db l) (Value.slice q l.length cap) (hx := by trivial) (k := ?_)
    exact e_1 (h1 := rs_tmp rfl) (H' := [dirA db l]) (hT := ⟨rfl, rfl⟩)
  | some x =>
    obtain ⟨x, y⟩ := x
    have hat := at_idxE hr hg
    have hlt : idxE l s < l.length := (List.getElem?_eq_some_iff.1 hat).1
    have hlen := entsC_length l
    repeat (first | refine o_v (k := ?_) | refine c_seq ?_ | refine c_region ?_ | refine o_nil ?_ | refine e_then_normal ?_ | refine o_store (k := ?_) | refine c_true (h1 := ?_) | refine c_false (h1 := ?_) | refine c_ret ?_ | refine c_skip ?_ | refine e_then_ret ?_ | refine c_block ?_ | refine c_exit ?_ | refine e_then_exit ?_ | refine e_block_exit ?_ | refine e_block_normal ?_ | refine e_block_ret ?_ | refine o_box (k := fun _ => ?_) | refine o_alloc (k := fun _ => ?_) | refine e_norm ?_ | refine o_ung (k := ?_) | refine o_k (k := ?_) | refine s_v (k := ?_) | refine s_w (k := ?_) | refine s_k (k := ?_) | refine s_nil ?_ | refine e_block_exit_ne rfl ?_)
    refine c_rowopen (.slice q l.length cap) (entsC_ne (l := l) (by intro h; simp [h] at hlt)) (k := ?_)
    rintro b cap' tl fz hv hxl - - htl hfz
    obtain ⟨rfl, -, rfl⟩ : q = some ⟨b, 0, none⟩ ∧ l.length = l.length ∧ cap = cap' := by simpa using hv
    refine c_still (P := Tryz.prog) 8 (by kernel_rfl) ?_
    repeat (first | refine o_v (k := ?_) | refine c_seq ?_ | refine c_region ?_ | refine o_nil ?_ | refine e_then_normal ?_ | refine o_store (k := ?_) | refine c_true (h1 := ?_) | refine c_false (h1 := ?_) | refine c_ret ?_ | refine c_skip ?_ | refine e_then_ret ?_ | refine c_block ?_ | refine c_exit ?_ | refine e_then_exit ?_ | refine e_block_exit ?_ | refine e_block_normal ?_ | refine e_block_ret ?_ | refine o_box (k := fun _ => ?_) | refine o_alloc (k := fun _ => ?_) | refine e_norm ?_ | refine o_ung (k := ?_) | refine o_k (k := ?_) | refine s_v (k := ?_) | refine s_w (k := ?_) | refine s_k (k := ?_) | refine s_nil ?_ | refine e_block_exit_ne rfl ?_)
    refine o_storeAt (us := [.int .i64 h.1, .int .i64 h.2]) (m := 2) (hfz := by rw [List.length_append]; exact hfz) (hm := by rw [List.length_append, hlen]; simp only [List.length_cons, List.length_nil]; omega) (k := ?_)
    rw [show [Value.int .i64 h.1, Value.int .i64 h.2].length = 2 from rfl, entsC_set tl hat, ← setE_eq hr hg]
    repeat (first | refine o_v (k := ?_) | refine c_seq ?_ | refine c_region ?_ | refine o_nil ?_ | refine e_then_normal ?_ | refine o_store (k := ?_) | refine c_true (h1 := ?_) | refine c_false (h1 := ?_) | refine c_ret ?_ | refine c_skip ?_ | refine e_then_ret ?_ | refine c_block ?_ | refine c_exit ?_ | refine e_then_exit ?_ | refine e_block_exit ?_ | refine e_block_normal ?_ | refine e_block_ret ?_ | refine o_box (k := fun _ => ?_) | refine o_alloc (k := fun _ => ?_) | refine e_norm ?_ | refine o_ung (k := ?_) | refine o_k (k := ?_) | refine s_v (k := ?_) | refine s_w (k := ?_) | refine s_k (k := ?_) | refine s_nil ?_ | refine e_block_exit_ne rfl ?_)
    have hsl : (entsC (setE l s h)).length = l.length * 3 := by rw [entsC_length, setE_length]
    refine e_rowshut (sz := 3) (n := (setE l s h).length) (.slice (some ⟨b, 0, none⟩) l.length cap) (xs := entsC (setE l s h)) (tl := tl) (hcs := rfl) (h := ⟨by rw [setE_length], by rw [entsC_length], by rw [setE_length]; exact hcp, hcm, by rw [hsl, ← hlen]; exact htl, by rw [hsl, ← hlen]; exact hfz⟩) (k := ?_)
    refine e_fold (dirA db (setE l s h)) (Value.slice (some ⟨b, 0, none⟩) l.length cap) (hx := by trivial) (k := ?_)
    exact e_1 (h1 := rs_tmp rfl) (H' := [dirA db (setE l s h)]) (hT := ⟨rfl, rfl⟩)

set_option maxRecDepth 20000 in
set_option maxHeartbeats 4000000 in
theorem dirDrop_ok (db : Nat) (l : List Ent) (s : Bts) (hr : Rising l) (hl : l.length ≤ 1000000) : Ct Tryz.prog 190 [.pointer (some ⟨db, 0, none⟩), str s] [dirA db l] (Ret fun u H => match getE l s with | none => u = .int .i64 9 ∧ H = [dirA db l] | some _ => u = .int .i64 0 ∧ H = [dirA db (dropE l s)]) := by
  refine fn_enter Tryz.func190 rfl Tryz.ntmps190 rfl fun _ _ _ => ?_
  refine c_unf (dirA db l) (k := ?_)
  rintro v -
  dsimp only [List.cons_append, List.nil_append]
  refine c_rowis v (k := ?_)
  rintro q cap rfl hcp hcm -
  repeat (first | refine o_v (k := ?_) | refine c_seq ?_ | refine c_region ?_ | refine o_nil ?_ | refine e_then_normal ?_ | refine o_store (k := ?_) | refine c_true (h1 := ?_) | refine c_false (h1 := ?_) | refine c_ret ?_ | refine c_skip ?_ | refine e_then_ret ?_ | refine c_block ?_ | refine c_exit ?_ | refine e_then_exit ?_ | refine e_block_exit ?_ | refine e_block_normal ?_ | refine e_block_ret ?_ | refine o_box (k := fun _ => ?_) | refine o_alloc (k := fun _ => ?_) | refine e_norm ?_ | refine o_ung (k := ?_) | refine o_k (k := ?_) | refine s_v (k := ?_) | refine s_w (k := ?_) | refine s_k (k := ?_) | refine s_nil ?_ | refine e_block_exit_ne rfl ?_ | (refine o_call (dirFind_ok _ _ l s hr hl) (k := ?_); rintro _ _ ⟨rfl, rfl⟩; dsimp only [List.cons_append, List.nil_append]))
  cases hg : getE l s with
  | none =>
    repeat (first | refine o_v (k := ?_) | refine c_seq ?_ | refine c_region ?_ | refine o_nil ?_ | refine e_then_normal ?_ | refine o_store (k := ?_) | refine c_true (h1 := ?_) | refine c_false (h1 := ?_) | refine c_ret ?_ | refine c_skip ?_ | refine e_then_ret ?_ | refine c_block ?_ | refine c_exit ?_ | refine e_then_exit ?_ | refine e_block_exit ?_ | refine e_block_normal ?_ | refine e_block_ret ?_ | refine o_box (k := fun _ => ?_) | refine o_alloc (k := fun _ => ?_) | refine e_norm ?_ | refine o_ung (k := ?_) | refine o_k (k := ?_) | refine s_v (k := ?_) | refine s_w (k := ?_) | refine s_k (k := ?_) | refine s_nil ?_ | refine e_block_exit_ne rfl ?_)
    refine e_fold (dirA db l) (Value.slice q l.length cap) (hx := by trivial) (k := ?_)
    exact e_1 (h1 := rs_tmp rfl) (H' := [dirA db l]) (hT := ⟨rfl, rfl⟩)
  | some x =>
    have hat := at_idxE hr hg
    have hlt : idxE l s < l.length := (List.getElem?_eq_some_iff.1 hat).1
    repeat (first | refine o_v (k := ?_) | refine c_seq ?_ | refine c_region ?_ | refine o_nil ?_ | refine e_then_normal ?_ | refine o_store (k := ?_) | refine c_true (h1 := ?_) | refine c_false (h1 := ?_) | refine c_ret ?_ | refine c_skip ?_ | refine e_then_ret ?_ | refine c_block ?_ | refine c_exit ?_ | refine e_then_exit ?_ | refine e_block_exit ?_ | refine e_block_normal ?_ | refine e_block_ret ?_ | refine o_box (k := fun _ => ?_) | refine o_alloc (k := fun _ => ?_) | refine e_norm ?_ | refine o_ung (k := ?_) | refine o_k (k := ?_) | refine s_v (k := ?_) | refine s_w (k := ?_) | refine s_k (k := ?_) | refine s_nil ?_ | refine e_block_exit_ne rfl ?_ | (refine o_call (delete_ok _ l (idxE l s) hlt hl) (k := ?_); rintro v _ rfl; dsimp only [List.cons_append, List.nil_append]))
    rw [← dropE_eq hr hg]
    refine o_rowis v (k := ?_)
    rintro q2 cap2 rfl - - -
    repeat (first | refine o_v (k := ?_) | refine c_seq ?_ | refine c_region ?_ | refine o_nil ?_ | refine e_then_normal ?_ | refine o_store (k := ?_) | refine c_true (h1 := ?_) | refine c_false (h1 := ?_) | refine c_ret ?_ | refine c_skip ?_ | refine e_then_ret ?_ | refine c_block ?_ | refine c_exit ?_ | refine e_then_exit ?_ | refine e_block_exit ?_ | refine e_block_normal ?_ | refine e_block_ret ?_ | refine o_box (k := fun _ => ?_) | refine o_alloc (k := fun _ => ?_) | refine e_norm ?_ | refine o_ung (k := ?_) | refine o_k (k := ?_) | refine s_v (k := ?_) | refine s_w (k := ?_) | refine s_k (k := ?_) | refine s_nil ?_ | refine e_block_exit_ne rfl ?_)
    refine e_fold (dirA db (dropE l s)) (Value.slice q2 (dropE l s).length cap2) (hx := by trivial) (k := ?_)
    exact e_1 (h1 := rs_tmp rfl) (H' := [dirA db (dropE l s)]) (hT := ⟨rfl, rfl⟩)

set_option maxRecDepth 20000 in
set_option maxHeartbeats 4000000 in
theorem dirPut_ok (db : Nat) (l : List Ent) (s : Bts) (h : Hd) (hr : Rising l) (hl : l.length ≤ 1000000) (hs : s.length ≤ 1000000) : Ct Tryz.prog 197 [.pointer (some ⟨db, 0, none⟩), str s, .agg #[.int .i64 h.1, .int .i64 h.2]] [dirA db l] (Ret fun u H => if nameOk s = false then u = .int .i64 16 ∧ H = [dirA db l] else match getE l s with | some _ => u = .int .i64 10 ∧ H = [dirA db l] | none => u = .int .i64 0 ∧ H = [dirA db (putE l s h)]) := by
  refine fn_enter Tryz.func197 rfl Tryz.ntmps197 rfl fun _ _ _ => ?_
  repeat (first | refine o_v (k := ?_) | refine c_seq ?_ | refine c_region ?_ | refine o_nil ?_ | refine e_then_normal ?_ | refine o_store (k := ?_) | refine c_true (h1 := ?_) | refine c_false (h1 := ?_) | refine c_ret ?_ | refine c_skip ?_ | refine e_then_ret ?_ | refine c_block ?_ | refine c_exit ?_ | refine e_then_exit ?_ | refine e_block_exit ?_ | refine e_block_normal ?_ | refine e_block_ret ?_ | refine o_box (k := fun _ => ?_) | refine o_alloc (k := fun _ => ?_) | refine e_norm ?_ | refine o_ung (k := ?_) | refine o_k (k := ?_) | refine s_v (k := ?_) | refine s_w (k := ?_) | refine s_k (k := ?_) | refine s_nil ?_ | refine e_block_exit_ne rfl ?_ | (refine o_call (name_ok s hs) (k := ?_); rintro _ _ ⟨rfl, rfl⟩; dsimp only [List.cons_append, List.nil_append]))
  refine c_if (h1 := fun h1 => ?_) (h2 := fun h1 => ?_)
  · have hn : nameOk s = false := by simpa using h1
    repeat (first | refine o_v (k := ?_) | refine c_seq ?_ | refine c_region ?_ | refine o_nil ?_ | refine e_then_normal ?_ | refine o_store (k := ?_) | refine c_true (h1 := ?_) | refine c_false (h1 := ?_) | refine c_ret ?_ | refine c_skip ?_ | refine e_then_ret ?_ | refine c_block ?_ | refine c_exit ?_ | refine e_then_exit ?_ | refine e_block_exit ?_ | refine e_block_normal ?_ | refine e_block_ret ?_ | refine o_box (k := fun _ => ?_) | refine o_alloc (k := fun _ => ?_) | refine e_norm ?_ | refine o_ung (k := ?_) | refine o_k (k := ?_) | refine s_v (k := ?_) | refine s_w (k := ?_) | refine s_k (k := ?_) | refine s_nil ?_ | refine e_block_exit_ne rfl ?_)
    exact e_1 (h1 := rs_tmp rfl) (H' := [dirA db l]) (hT := by rw [if_pos hn]; exact ⟨rfl, rfl⟩)
  have hn : ¬ nameOk s = false := by simpa using h1
  repeat (first | refine o_v (k := ?_) | refine c_seq ?_ | refine c_region ?_ | refine o_nil ?_ | refine e_then_normal ?_ | refine o_store (k := ?_) | refine c_true (h1 := ?_) | refine c_false (h1 := ?_) | refine c_ret ?_ | refine c_skip ?_ | refine e_then_ret ?_ | refine c_block ?_ | refine c_exit ?_ | refine e_then_exit ?_ | refine e_block_exit ?_ | refine e_block_normal ?_ | refine e_block_ret ?_ | refine o_box (k := fun _ => ?_) | refine o_alloc (k := fun _ => ?_) | refine e_norm ?_ | refine o_ung (k := ?_) | refine o_k (k := ?_) | refine s_v (k := ?_) | refine s_w (k := ?_) | refine s_k (k := ?_) | refine s_nil ?_ | refine e_block_exit_ne rfl ?_)
  refine o_unf (dirA db l) (k := ?_)
  rintro v -
  dsimp only [List.cons_append, List.nil_append]
  refine o_rowis v (k := ?_)
  rintro q cap rfl hcp hcm -
  repeat (first | refine o_v (k := ?_) | refine c_seq ?_ | refine c_region ?_ | refine o_nil ?_ | refine e_then_normal ?_ | refine o_store (k := ?_) | refine c_true (h1 := ?_) | refine c_false (h1 := ?_) | refine c_ret ?_ | refine c_skip ?_ | refine e_then_ret ?_ | refine c_block ?_ | refine c_exit ?_ | refine e_then_exit ?_ | refine e_block_exit ?_ | refine e_block_normal ?_ | refine e_block_ret ?_ | refine o_box (k := fun _ => ?_) | refine o_alloc (k := fun _ => ?_) | refine e_norm ?_ | refine o_ung (k := ?_) | refine o_k (k := ?_) | refine s_v (k := ?_) | refine s_w (k := ?_) | refine s_k (k := ?_) | refine s_nil ?_ | refine e_block_exit_ne rfl ?_ | (refine o_call (dirFind_ok _ _ l s hr hl) (k := ?_); rintro _ _ ⟨rfl, rfl⟩; dsimp only [List.cons_append, List.nil_append]))
  cases hg : getE l s with
  | some x =>
    repeat (first | refine o_v (k := ?_) | refine c_seq ?_ | refine c_region ?_ | refine o_nil ?_ | refine e_then_normal ?_ | refine o_store (k := ?_) | refine c_true (h1 := ?_) | refine c_false (h1 := ?_) | refine c_ret ?_ | refine c_skip ?_ | refine e_then_ret ?_ | refine c_block ?_ | refine c_exit ?_ | refine e_then_exit ?_ | refine e_block_exit ?_ | refine e_block_normal ?_ | refine e_block_ret ?_ | refine o_box (k := fun _ => ?_) | refine o_alloc (k := fun _ => ?_) | refine e_norm ?_ | refine o_ung (k := ?_) | refine o_k (k := ?_) | refine s_v (k := ?_) | refine s_w (k := ?_) | refine s_k (k := ?_) | refine s_nil ?_ | refine e_block_exit_ne rfl ?_)
    refine e_fold (dirA db l) (Value.slice q l.length cap) (hx := by trivial) (k := ?_)
    exact e_1 (h1 := rs_tmp rfl) (H' := [dirA db l]) (hT := by rw [if_neg hn]; exact ⟨rfl, rfl⟩)
  | none =>
    repeat (first | refine o_v (k := ?_) | refine c_seq ?_ | refine c_region ?_ | refine o_nil ?_ | refine e_then_normal ?_ | refine o_store (k := ?_) | refine c_true (h1 := ?_) | refine c_false (h1 := ?_) | refine c_ret ?_ | refine c_skip ?_ | refine e_then_ret ?_ | refine c_block ?_ | refine c_exit ?_ | refine e_then_exit ?_ | refine e_block_exit ?_ | refine e_block_normal ?_ | refine e_block_ret ?_ | refine o_box (k := fun _ => ?_) | refine o_alloc (k := fun _ => ?_) | refine e_norm ?_ | refine o_ung (k := ?_) | refine o_k (k := ?_) | refine s_v (k := ?_) | refine s_w (k := ?_) | refine s_k (k := ?_) | refine s_nil ?_ | refine e_block_exit_ne rfl ?_)
    rename_i hb
    refine c_j [blk db 176 [.slice q l.length cap] (0, 0), blk hb 41 [.int .i64 h.1, .int .i64 h.2] (0, 0)] [0, 1, 2, 3, 4, 5, 6, 7, 8] ?_
    refine j_v 0 (k := ?_); refine j_v 1 (k := ?_); refine j_v 2 (k := ?_); refine j_v 3 (k := ?_); refine j_v 4 (k := ?_); refine j_v 5 (k := ?_); refine j_v 6 (k := ?_); refine j_v 7 (k := ?_); refine j_v 8 (k := ?_)
    refine j_one 9 (nd := true) (k := ?_)
    refine o_lit (k := fun xb => ?_)
    refine o_nil ?_
    refine e_jt (k := ?_)
    refine j_one 10 (nd := true) (k := ?_)
    refine o_call (insert_ok (.slice q l.length cap) l (idxE l s) xb (s, h) (idxE_le l s) hl) (k := ?_)
    rintro v _ rfl
    dsimp only [List.cons_append, List.nil_append]
    rw [show l.take (idxE l s) ++ (s, h) :: l.drop (idxE l s) = putE l s h from rfl]
    refine o_rowis v (k := ?_)
    rintro q2 cap2 rfl - - -
    refine o_nil ?_
    refine e_jt (k := ?_)
    refine j_one 11 (nd := false) (k := ?_)
    repeat (first | refine o_v (k := ?_) | refine c_seq ?_ | refine c_region ?_ | refine o_nil ?_ | refine e_then_normal ?_ | refine o_store (k := ?_) | refine c_true (h1 := ?_) | refine c_false (h1 := ?_) | refine c_ret ?_ | refine c_skip ?_ | refine e_then_ret ?_ | refine c_block ?_ | refine c_exit ?_ | refine e_then_exit ?_ | refine e_block_exit ?_ | refine e_block_normal ?_ | refine e_block_ret ?_ | refine o_box (k := fun _ => ?_) | refine o_alloc (k := fun _ => ?_) | refine e_norm ?_ | refine o_ung (k := ?_) | refine o_k (k := ?_) | refine s_v (k := ?_) | refine s_w (k := ?_) | refine s_k (k := ?_) | refine s_nil ?_ | refine e_block_exit_ne rfl ?_)
    refine e_jf (k := ?_)
    refine j_one 12 (nd := false) (k := ?_)
    repeat (first | refine o_v (k := ?_) | refine c_seq ?_ | refine c_region ?_ | refine o_nil ?_ | refine e_then_normal ?_ | refine o_store (k := ?_) | refine c_true (h1 := ?_) | refine c_false (h1 := ?_) | refine c_ret ?_ | refine c_skip ?_ | refine e_then_ret ?_ | refine c_block ?_ | refine c_exit ?_ | refine e_then_exit ?_ | refine e_block_exit ?_ | refine e_block_normal ?_ | refine e_block_ret ?_ | refine o_box (k := fun _ => ?_) | refine o_alloc (k := fun _ => ?_) | refine e_norm ?_ | refine o_ung (k := ?_) | refine o_k (k := ?_) | refine s_v (k := ?_) | refine s_w (k := ?_) | refine s_k (k := ?_) | refine s_nil ?_ | refine e_block_exit_ne rfl ?_)
    refine e_jf (k := ?_)
    refine j_one 13 (nd := false) (k := ?_)
    repeat (first | refine o_v (k := ?_) | refine c_seq ?_ | refine c_region ?_ | refine o_nil ?_ | refine e_then_normal ?_ | refine o_store (k := ?_) | refine c_true (h1 := ?_) | refine c_false (h1 := ?_) | refine c_ret ?_ | refine c_skip ?_ | refine e_then_ret ?_ | refine c_block ?_ | refine c_exit ?_ | refine e_then_exit ?_ | refine e_block_exit ?_ | refine e_block_normal ?_ | refine e_block_ret ?_ | refine o_box (k := fun _ => ?_) | refine o_alloc (k := fun _ => ?_) | refine e_norm ?_ | refine o_ung (k := ?_) | refine o_k (k := ?_) | refine s_v (k := ?_) | refine s_w (k := ?_) | refine s_k (k := ?_) | refine s_nil ?_ | refine e_block_exit_ne rfl ?_)
    refine e_jf (k := ?_)
    refine j_end (k := ?_)
    repeat (first | refine o_v (k := ?_) | refine c_seq ?_ | refine c_region ?_ | refine o_nil ?_ | refine e_then_normal ?_ | refine o_store (k := ?_) | refine c_true (h1 := ?_) | refine c_false (h1 := ?_) | refine c_ret ?_ | refine c_skip ?_ | refine e_then_ret ?_ | refine c_block ?_ | refine c_exit ?_ | refine e_then_exit ?_ | refine e_block_exit ?_ | refine e_block_normal ?_ | refine e_block_ret ?_ | refine o_box (k := fun _ => ?_) | refine o_alloc (k := fun _ => ?_) | refine e_norm ?_ | refine o_ung (k := ?_) | refine o_k (k := ?_) | refine s_v (k := ?_) | refine s_w (k := ?_) | refine s_k (k := ?_) | refine s_nil ?_ | refine e_block_exit_ne rfl ?_)
    refine e_fold (dirA db (putE l s h)) (Value.slice q2 (putE l s h).length cap2) (hx := by trivial) (k := ?_)
    exact e_1 (h1 := rs_tmp rfl) (H' := [dirA db (putE l s h)]) (hT := by rw [if_neg hn]; exact ⟨rfl, rfl⟩)
end Go.Proofs.YtlkgdidmhmaneaaGreatDoor
/- The engine, part 16: deferred calls; sync.Mutex. -/
namespace Go.Proofs.YtlkgdidmhmaneaaGreatDoor
open Go Go.RowKit Go.MuLone
section
variable {P : Program} {Q : Exit → Act → World → Prop} {G : Ctx} {F : Fr} {H H1 : List Ast} {ops : Array Oper} {rest : List Oper}
variable {d : Nat} {ty : TypeId} {pos : String} {aft : Array Edge}
theorem fn_enter_d {f : FuncId} {fn : Func} {c : Code} {vs : List Value} {H0 : List Ast} {R : Ending → List Ast → Prop} {n : Nat}
    (hf : P.funcs[f]? = some fn) (hb : fn.body = some c) (hn : fn.ntmps = n) (hl : Nat.ble vs.length n = true)
    (h : ∀ (w : World) (M T : Nat → Prop), CG P c (bodyPostD P fn (Post ⟨w, M, T, n⟩ R)) ⟨w, M, T, n⟩ (argF 0 vs) H0) (hsm : Nat.ble n 999999 = true := by rfl) : Ct P f vs H0 R := by
  intro w M T n' hs hd hM hT
  have hl' := Nat.le_of_ble_eq_true hl
  refine calls_of_wp_defers hf hb ?_
  have h1 := h w M T { tmps := vs.toArray ++ Array.replicate (fn.ntmps - vs.toArray.size) undef, defers := [] } w ?_ ?_
  · exact h1
  · have hsm' := Nat.le_of_ble_eq_true hsm
    have hk : look (argF 0 vs) 999999 = none := by
      cases hl2 : look (argF 0 vs) 999999 with
      | none => rfl
      | some v => obtain ⟨_, h3⟩ := look_argF vs 0 _ v hl2; have := (List.getElem?_eq_some_iff.1 h3).1; omega
    refine ⟨by simp [hn]; omega, hsm', (dfs_none hk).symm, fun t v hv => ?_⟩
    obtain ⟨_, h2⟩ := look_argF vs 0 t v hv
    simp only [Nat.sub_zero] at h2
    have hlt : t < vs.length := (List.getElem?_eq_some_iff.1 h2).1
    right
    rw [Array.getElem?_append_left (by simpa using hlt)]
    simpa using h2
  · exact ⟨M, T, hs, hd, fun k hk => ⟨hM k hk, .inl hk⟩, fun k hk => ⟨hT k hk, .inl hk⟩, Keep.refl _ _⟩
/-- a call is deferred, the first one -/
theorem o_defer {f : FuncId} {x : Operand} {args : Array Operand} {ats : Array TypeId} {vs : List Value} (hx : ev F x = some (.func (.func f) #[] #[]) := by rfl) (hv : evs F args.toList = some vs := by rfl) (hk : look F 999999 = none := by rfl)
    (k : OG P ops Q G rest ((999999, .func (.func f) vs.toArray #[]) :: F) H) : OG P ops Q G (⟨none, .defer ⟨.value x, args, ats⟩, ty, pos, aft, none⟩ :: rest) F H := by
  intro a w ha hw
  refine wpList_plain rfl fun K hK => ?_
  unfold Oper.wp
  have e1 := ha.evs hv
  have e2 : args.map a.eval = vs.toArray := Array.toList_inj.1 (by simp [e1])
  have hrun : (execOp a.eval ⟨none, .defer ⟨.value x, args, ats⟩, ty, pos, aft, none⟩).run P w = .ok (.defer ⟨.fn (.func f) #[], vs.toArray⟩) w := by
    simp [execOp, resolve, ha.ev hx, Deferred.ofValue, e2]
  rw [hrun]
  refine hK _ _ (k _ _ ?_ hw)
  refine ⟨ha.size, ha.small, ?_, fun t v hv => ?_⟩
  · have : dfs F = [] := dfs_none hk
    simp only [Act.put, ha.defers, this]
    rfl
  · simp only [look] at hv
    cases hb : Nat.beq 999999 t with
    | true =>
      have := Nat.eq_of_beq_eq_true hb
      rw [hb] at hv
      subst this
      simp only [cond_true, Option.some.injEq] at hv
      exact .inl ⟨rfl, _, _, _, hv.symm⟩
    | false => rw [hb] at hv; exact ha.slotD _ _ hv
/-- What a deferred call asks, and what it leaves. -/
def CtD (P : Program) (f : FuncId) (args : List Value) (H0 : List Ast) (H2 : List Ast) : Prop :=
  ∀ (w : World) (M T : Nat → Prop) (n : Nat), SepL H0 M T w → (∀ k, M k → ¬ T k) → (∀ k, M k → k < w.heap.size) → (∀ k, T k → k < w.heap.size) →
    CallsD P f args.toArray .returning w fun e u' w' => u' = .returning ∧ (∃ v, e = .returned v) ∧ Good ⟨w, M, T, n⟩ H2 w'
theorem calls_ctD {f : FuncId} {vs : List Value} {H0 H2 Hf : List Ast} (hc : CtD P f vs H0 H2) {w : World} (hw : Good G (H0 ++ Hf) w) :
    CallsD P f vs.toArray .returning w fun e u' w' => u' = .returning ∧ (∃ v, e = .returned v) ∧ Good G (H2 ++ Hf) w' := by
  obtain ⟨M, T, h1, h2, h3, h4, h5⟩ := hw
  obtain ⟨S, g1, g2, g3⟩ := SepL.append_split h1
  have := hc w S T 0 g2 (fun k hk => h2 k (g1 k hk)) (fun k hk => (h3 k (g1 k hk)).1) (fun k hk => (h4 k hk).1)
  intro c cs hm
  obtain ⟨e, u', w', fr, ⟨a1, a2, a3⟩, b1, b2, b3⟩ := this c cs hm
  exact ⟨e, u', w', fr, ⟨a1, a2, Good.call g3 g1 h2 h3 h4 h5 a3⟩, b1, b2, b3⟩
theorem CallsD.mono' {f : FuncId} {args : Array Value} {u : FrameMode} {w : World} {R R' : Ending → FrameMode → World → Prop} (h : CallsD P f args u w R) (hr : ∀ e u w, R e u w → R' e u w) : CallsD P f args u w R' := by
  intro c cs hm
  obtain ⟨e, u', w', fr, hR, h⟩ := h c cs hm
  exact ⟨e, u', w', fr, hr _ _ _ hR, h⟩
section
variable {fn : Func} {r1 r2 : ResultVar} {v1 v2 : Value} {H' H0 H2 Hf : List Ast} {T : Value → List Ast → Prop}
/-- the end, nothing deferred -/
theorem e_1n (hr : fn.results = #[r1] := by rfl) (h1 : ResOk P G.n F H r1 v1) (hT : T v1 H') (hs : SubA H H' := by apply SubA.mk; (repeat (apply SplitA.cons; (repeat (first | exact TakeA.keepI | exact TakeA.here | apply TakeA.there)))); exact SplitA.nil) (hk0 : look F 999999 = none := by rfl) : EG (bodyPostD P fn (Post G (Ret T))) .ret G F H := fun a w ha hw => by
  have e1 := h1 a w ha hw.held
  have hd : a.defers = [] := ha.defers.trans (dfs_none hk0)
  obtain ⟨Hf, hs⟩ := hs
  show Leaves P fn a.tmps _ a.defers .returning w
  rw [hd]
  refine ⟨v1, ?_, H', ⟨_, rfl, hT⟩, hw.drop hs⟩
  simp only [results, hr, List.mapM_toArray, List.mapM_cons, List.mapM_nil, Sem.run_bind, Sem.run_map]
  cases r1 <;> simp_all
theorem e_2n (hr : fn.results = #[r1, r2] := by rfl) (h1 : ResOk P G.n F H r1 v1) (h2 : ResOk P G.n F H r2 v2) (hT : T (.tuple #[v1, v2]) H') (hs : SubA H H' := by apply SubA.mk; (repeat (apply SplitA.cons; (repeat (first | exact TakeA.keepI | exact TakeA.here | apply TakeA.there)))); exact SplitA.nil) (hk0 : look F 999999 = none := by rfl) : EG (bodyPostD P fn (Post G (Ret T))) .ret G F H := fun a w ha hw => by
  have e1 := h1 a w ha hw.held
  have e2 := h2 a w ha hw.held
  have hd : a.defers = [] := ha.defers.trans (dfs_none hk0)
  obtain ⟨Hf, hs⟩ := hs
  show Leaves P fn a.tmps _ a.defers .returning w
  rw [hd]
  refine ⟨.tuple #[v1, v2], ?_, H', ⟨_, rfl, hT⟩, hw.drop hs⟩
  simp only [results, hr, List.mapM_toArray, List.mapM_cons, List.mapM_nil, Sem.run_bind, Sem.run_map]
  cases r1 <;> cases r2 <;> simp_all
theorem leave_d {f : FuncId} {vs : List Value} {v : Value} [he : PEnter P f] (hc : CtD P f vs H0 H2) (hk : look F 999999 = some (.func (.func f) vs.toArray #[])) (hs : SplitA H H0 Hf) (hres : ∀ a w, FrOk G.n F a → Held (H2 ++ Hf) w → (results fn a.tmps).run P w = .ok v w) (hT : T v H') (hs2 : SubA (H2 ++ Hf) H') : EG (bodyPostD P fn (Post G (Ret T))) .ret G F H := fun a w ha hw => by
  have hd : a.defers = [⟨.fn (.func f) #[], vs.toArray⟩] := by rw [ha.defers, dfs, hk]
  obtain ⟨Hx, hs2⟩ := hs2
  show Leaves P fn a.tmps _ a.defers .returning w
  rw [hd]
  refine leaves_cons (f := f) (args := vs.toArray) (by simp) (by simp [invoke, he.h]) ?_
  refine CallsD.mono' (calls_ctD hc (hw.split hs)) ?_
  rintro e u' w' ⟨rfl, ⟨u, rfl⟩, hg⟩
  refine ⟨v, ?_, H', ⟨_, rfl, hT⟩, hg.drop hs2⟩
  exact hres a w' ha hg.held
/-- the end, a call being deferred -/
theorem e_1d {f : FuncId} {vs : List Value} [he : PEnter P f] (hc : CtD P f vs H0 H2) (hk : look F 999999 = some (.func (.func f) vs.toArray #[]) := by rfl) (hs : SplitA H H0 Hf := by (repeat (apply SplitA.cons; (repeat (first | exact TakeA.keepI | exact TakeA.here | apply TakeA.there)))); exact SplitA.nil) (hr : fn.results = #[r1] := by rfl) (h1 : ResOk P G.n F (H2 ++ Hf) r1 v1) (hT : T v1 H') (hs2 : SubA (H2 ++ Hf) H' := by apply SubA.mk; (repeat (apply SplitA.cons; (repeat (first | exact TakeA.keepI | exact TakeA.here | apply TakeA.there)))); exact SplitA.nil) : EG (bodyPostD P fn (Post G (Ret T))) .ret G F H :=
  leave_d hc hk hs (fun a w ha hw => by
    have e1 := h1 a w ha hw
    simp only [results, hr, List.mapM_toArray, List.mapM_cons, List.mapM_nil, Sem.run_bind, Sem.run_map]
    cases r1 <;> simp_all) hT hs2
theorem e_2d {f : FuncId} {vs : List Value} [he : PEnter P f] (hc : CtD P f vs H0 H2) (hk : look F 999999 = some (.func (.func f) vs.toArray #[]) := by rfl) (hs : SplitA H H0 Hf := by (repeat (apply SplitA.cons; (repeat (first | exact TakeA.keepI | exact TakeA.here | apply TakeA.there)))); exact SplitA.nil) (hr : fn.results = #[r1, r2] := by rfl) (h1 : ResOk P G.n F (H2 ++ Hf) r1 v1) (h2 : ResOk P G.n F (H2 ++ Hf) r2 v2) (hT : T (.tuple #[v1, v2]) H') (hs2 : SubA (H2 ++ Hf) H' := by apply SubA.mk; (repeat (apply SplitA.cons; (repeat (first | exact TakeA.keepI | exact TakeA.here | apply TakeA.there)))); exact SplitA.nil) : EG (bodyPostD P fn (Post G (Ret T))) .ret G F H :=
  leave_d hc hk hs (fun a w ha hw => by
    have e1 := h1 a w ha hw
    have e2 := h2 a w ha hw
    simp only [results, hr, List.mapM_toArray, List.mapM_cons, List.mapM_nil, Sem.run_bind, Sem.run_map]
    cases r1 <;> cases r2 <;> simp_all) hT hs2
end
/-! ### sync.Mutex -/
theorem Good.setCell {w : World} {b o : Nat} {t : TypeId} {cs : List Value} (v : Value) (hw : Good G (blk b t cs (0, 0) :: H1) w) : Good G (blk b t (cs.set o v) (0, 0) :: H1) (w.setCell ⟨b, o, none⟩ v) := by
  rw [setCell_eq_setRow w b o _ t (0, 0) v hw.blk_heap]
  have := Good.setRow hw (cs.set o v)
  simpa using this
theorem Good.own1 {w : World} {M T : Nat → Prop} {n : Nat} {b : Nat} {t : TypeId} {cs : List Value} (h0 : SepL [blk b t cs (0, 0)] M T w) (h1 : ∀ k, M k → ¬ T k) (h2 : ∀ k, M k → k < w.heap.size) (h3 : ∀ k, T k → k < w.heap.size) : Good ⟨w, M, T, n⟩ [blk b t cs (0, 0)] w :=
  ⟨M, T, h0, h1, fun k hk => ⟨h2 k hk, .inl hk⟩, fun k hk => ⟨h3 k hk, .inl hk⟩, Keep.refl _ _⟩
theorem lock_ct {L : Go.Conc.Locks.MuLink} (HL : Go.Conc.Locks.MuLib P L) (b o : Nat) (t : TypeId) (cs : List Value) (hc : cs[o]? = some (.int .i32 0)) : Ct P L.lock [.pointer (some ⟨b, o, none⟩)] [blk b t cs (0, 0)] (Ret fun u H => u = .tuple #[] ∧ H = [blk b t (cs.set o (.int .i32 1)) (0, 0)]) := by
  intro w M T n hs h1 h2 h3
  have hg := Good.own1 (n := n) hs h1 h2 h3
  have hb := hg.blk_heap
  have hcell : w.cell? ⟨b, o, none⟩ = some (.int .i32 0) := by rw [cell_of_row w b o _ t (0, 0) hb]; simpa using hc
  refine (lock_free HL ⟨b, o, none⟩ w hcell (by simp [World.frozen?, hb])).mono ?_
  rintro e w' ⟨rfl, rfl⟩
  exact ⟨_, ⟨_, rfl, rfl, rfl⟩, hg.setCell _⟩
theorem unlock_ctD {L : Go.Conc.Locks.MuLink} (HL : Go.Conc.Locks.MuLib P L) (b o : Nat) (t : TypeId) (cs : List Value) (hc : cs[o]? = some (.int .i32 1)) : CtD P L.unlock [.pointer (some ⟨b, o, none⟩)] [blk b t cs (0, 0)] [blk b t (cs.set o (.int .i32 0)) (0, 0)] := by
  intro w M T n hs h1 h2 h3
  have hg := Good.own1 (n := n) hs h1 h2 h3
  have hb := hg.blk_heap
  have hcell : w.cell? ⟨b, o, none⟩ = some (.int .i32 1) := by rw [cell_of_row w b o _ t (0, 0) hb]; simpa using hc
  refine CallsD.mono' (unlock_deferred HL ⟨b, o, none⟩ .returning w hcell (by simp [World.frozen?, hb])) ?_
  rintro e u w' ⟨rfl, rfl, rfl⟩
  exact ⟨rfl, ⟨_, rfl⟩, hg.setCell _⟩
end
abbrev muLink : Go.Conc.Locks.MuLink := { lock := 28, unlock := 29, ilock := 57, iunlock := 58, lockSlow := 95, unlockSlow := 98, disable := 91, enable := 93, acquire := 94, relMerge := 96, cas32 := 92, add32 := 97, tMutex := 36, tIMutex := 34, tPMutex := 132, tPIMutex := 178, tPI32 := 180, tUP := 182, tNoCopy := 31, tU32 := 32 }
theorem muLib : Go.Conc.Locks.MuLib Tryz.prog muLink :=
  ⟨Tryz.func28, Tryz.func29, Tryz.func57, Tryz.func58, Tryz.func91, Tryz.func93, Tryz.func94, Tryz.func96, Tryz.func92, Tryz.func97, Tryz.underlying34, Tryz.runUnderlying34, Tryz.sizeOf34, Tryz.isAgg34, Tryz.zeroValue34, Tryz.underlying36, Tryz.runUnderlying36, Tryz.sizeOf36, Tryz.isAgg36, Tryz.zeroValue36, Tryz.underlying132, Tryz.runUnderlying132, Tryz.sizeOf132, Tryz.isAgg132, Tryz.zeroValue132, Tryz.underlying178, Tryz.runUnderlying178, Tryz.sizeOf178, Tryz.isAgg178, Tryz.zeroValue178, Tryz.underlying180, Tryz.runUnderlying180, Tryz.sizeOf180, Tryz.isAgg180, Tryz.zeroValue180, Tryz.underlying182, Tryz.runUnderlying182, Tryz.sizeOf182, Tryz.isAgg182, Tryz.zeroValue182, Tryz.underlying31, Tryz.runUnderlying31, Tryz.sizeOf31, Tryz.isAgg31, Tryz.zeroValue31, Tryz.underlying21, Tryz.runUnderlying21, Tryz.sizeOf21, Tryz.isAgg21, Tryz.zeroValue21, (by kernel_rfl)⟩
theorem lock_ok (b o : Nat) (t : TypeId) (cs : List Value) (hc : cs[o]? = some (.int .i32 0)) : Ct Tryz.prog 28 [.pointer (some ⟨b, o, none⟩)] [blk b t cs (0, 0)] (Ret fun u H => u = .tuple #[] ∧ H = [blk b t (cs.set o (.int .i32 1)) (0, 0)]) := lock_ct muLib b o t cs hc
theorem unlock_okD (b o : Nat) (t : TypeId) (cs : List Value) (hc : cs[o]? = some (.int .i32 1)) : CtD Tryz.prog 29 [.pointer (some ⟨b, o, none⟩)] [blk b t cs (0, 0)] [blk b t (cs.set o (.int .i32 0)) (0, 0)] := unlock_ctD muLib b o t cs hc
end Go.Proofs.YtlkgdidmhmaneaaGreatDoor
/- The engine, part 17: maps of the call's own whose keys are numbers. -/
namespace Go.Proofs.YtlkgdidmhmaneaaGreatDoor
open Go Go.RowKit
/-- A map of the call's own: its entries, in the row in which they came. -/
def mapA (r : Nat) (l : List (Int × Value)) : Ast where
  own := true
  holds := fun S w => S r ∧ ∃ es clock, w.heap[r]? = some (.map es clock) ∧ es.toList.map (fun e => (e.key, e.val)) = l.map fun x => (Value.int .i64 x.1, x.2)
  loc := fun _ _ _ h ⟨h1, es, c, h2, h3⟩ => ⟨h1, es, c, (h r h1).trans h2, h3⟩
  mono := fun _ _ _ h ⟨h1, h2⟩ => ⟨h r h1, h2⟩
@[simp] theorem mapA_own (r : Nat) (l : List (Int × Value)) : (mapA r l).own = true := rfl
def findM (l : List (Int × Value)) (k : Int) : Option Value := (l.find? fun x => decide (x.1 = k)).map (·.2)
theorem findNow_int (k : Int) : ∀ (es : List MapEntry) (l : List (Int × Value)) (n : Nat), es.map (fun e => (e.key, e.val)) = l.map (fun x => (Value.int .i64 x.1, x.2)) → (∃ i v, findM l k = some v ∧ Instr.findNow (.int .i64) (.int .i64 k) es n = some (some (i, v))) ∨ (findM l k = none ∧ Instr.findNow (.int .i64) (.int .i64 k) es n = some none)
  | [], l, n, h => by
    have : l = [] := by simpa using h.symm
    subst this
    exact .inr ⟨rfl, rfl⟩
  | e :: es, [], n, h => by simp at h
  | e :: es, x :: l, n, h => by
    simp only [List.map_cons, List.cons.injEq, Prod.mk.injEq] at h
    obtain ⟨⟨h1, h2⟩, h3⟩ := h
    by_cases hx : x.1 = k
    · left
      refine ⟨n, e.val, by simp [findM, hx, h2], ?_⟩
      simp [Instr.findNow, h1, hx, Instr.sameNow]
    · have hk : (k == x.1) = false := by simpa using fun h => hx h.symm
      rcases findNow_int k es l (n + 1) h3 with ⟨i, v, g1, g2⟩ | ⟨g1, g2⟩
      · left
        refine ⟨i, v, by simpa [findM, hx] using g1, ?_⟩
        simp [Instr.findNow, h1, hk, Instr.sameNow, g2]
      · right
        refine ⟨by simpa [findM, hx] using g1, ?_⟩
        simp [Instr.findNow, h1, hk, Instr.sameNow, g2]
theorem Good.allocO {G : Ctx} {H : List Ast} {w : World} (hw : Good G H w) (o : Obj) (A : Ast) (ho : A.own = true) (hA : A.holds (fun k => k = w.heap.size) (w.alloc o)) : Good G (A :: H) (w.alloc o) := by
  obtain ⟨M, T, h1, h2, h3, h4, h5⟩ := hw
  have hold : ∀ k, k < w.heap.size → (w.alloc o).heap[k]? = w.heap[k]? := fun k hk => Below.heap_alloc _ _ _ hk
  refine ⟨fun k => M k ∨ k = w.heap.size, T, ?_, ?_, ?_, ?_, ?_⟩
  · refine (SepL.cons_own ho).2 ⟨fun k => k = w.heap.size, fun k hk => .inr hk, hA, ?_⟩
    refine SepL.mono (M := M) (T := T) (fun k hk => ⟨.inl hk, fun e => by have := (h3 k hk).1; omega⟩) (fun _ hk => hk) ?_
    exact SepL.loc (fun k hk => hold k (h3 k hk).1) (fun k hk => hold k (h4 k hk).1) h1
  · rintro k (hk | rfl) ht
    · exact h2 k hk ht
    · have := (h4 _ ht).1; omega
  · rintro k (hk | rfl)
    · exact ⟨by simp; have := (h3 k hk).1; omega, (h3 k hk).2⟩
    · exact ⟨by simp, .inr h5.size⟩
  · intro k hk
    exact ⟨by simp; have := (h4 k hk).1; omega, (h4 k hk).2⟩
  · refine h5.trans (M1 := fun _ => False) ⟨rfl, rfl, rfl, by simp, fun k hk _ => hold k hk⟩ (fun _ h => h.elim)
theorem Good.setMap {G : Ctx} {H1 : List Ast} {w : World} {r : Nat} {l l' : List (Int × Value)} (hw : Good G (mapA r l :: H1) w) (es' : Array MapEntry) (c' : Nat) (he : es'.toList.map (fun e => (e.key, e.val)) = l'.map fun x => (Value.int .i64 x.1, x.2)) : Good G (mapA r l' :: H1) { w with heap := w.heap.setIfInBounds r (.map es' c') } := by
  obtain ⟨M, T, h1, h2, h3, h4, h5⟩ := hw
  obtain ⟨S, g1, ⟨gr, es, c, g2, g4⟩, g3⟩ := (SepL.cons_own (mapA_own _ _)).1 h1
  have hst := Go.MapKept.heap_set (o' := .map es' c') g2
  have hsz : ({ w with heap := w.heap.setIfInBounds r (.map es' c') } : World).heap.size = w.heap.size := by simp
  have hb := h3 r (g1 r gr)
  refine ⟨M, T, ?_, h2, fun k hk => by rw [hsz]; exact h3 k hk, fun k hk => by rw [hsz]; exact h4 k hk, ?_⟩
  · refine (SepL.cons_own (mapA_own _ _)).2 ⟨S, g1, ⟨gr, es', c', hst.1, he⟩, ?_⟩
    exact SepL.loc (fun k hk => hst.2 k (fun e => hk.2 (e ▸ gr))) (fun k hk => hst.2 k (fun e => h2 r (g1 r gr) (e ▸ hk))) g3
  · refine h5.trans (M1 := fun k => k = r) ⟨rfl, rfl, rfl, by rw [hsz]; exact Nat.le_refl _, fun k _ hk => hst.2 k hk⟩ ?_
    rintro k rfl hlt
    exact hb.2.resolve_right (by omega)
section
variable {P : Program} {Q : Exit → Act → World → Prop} {G : Ctx} {F : Fr} {H H1 : List Ast} {ops : Array Oper} {rest : List Oper}
variable {d : Nat} {ty : TypeId} {pos : String} {aft : Array Edge}
theorem o_makeMap {t : TypeId} (hd : Nat.ble (d + 1) G.n = true := by rfl) (k : ∀ r, OG P ops Q G rest ((d, .map (some r)) :: F) (mapA r [] :: H)) : OG P ops Q G (⟨some d, .makeMap t none, ty, pos, aft, none⟩ :: rest) F H := by
  intro a w ha hw
  refine wpList_plain rfl fun K hK => ?_
  unfold Oper.wp
  have hrun : (execOp a.eval ⟨some d, .makeMap t none, ty, pos, aft, none⟩).run P w = .ok (.value (.map (some w.heap.size))) (w.alloc (.map #[] 0)) := by
    simp [execOp, Instr.makeMap]
  rw [hrun]
  exact hK _ _ (k _ _ _ (ha.put hd _) (hw.allocO _ _ (mapA_own _ _) ⟨rfl, #[], 0, heap_alloc_new w _, rfl⟩))
theorem o_insert {t kt e : TypeId} {m x y : Operand} {r : Nat} {n : Int} {v : Value} {l : List (Int × Value)} (hu : P.underlying t = some (.map kt e)) (hk : P.underlying kt = some (.int .i64)) (hm : ev F m = some (.map (some r)) := by rfl) (hx : ev F x = some (.int .i64 n) := by rfl) (hy : ev F y = some v := by rfl)
    (ht : TakeA H (mapA r l) H1 := by repeat (first | exact TakeA.here | apply TakeA.there)) (hf : findM l n = none := by rfl) (k : OG P ops Q G rest F (mapA r (l ++ [(n, v)]) :: H1)) : OG P ops Q G (⟨none, .insert t m x y, ty, pos, aft, none⟩ :: rest) F H := by
  intro a w ha hw
  have hw' := hw.take ht
  obtain ⟨S, _, es, c, h2, h3⟩ := InA.here w hw'.held
  refine wpList_plain rfl fun K hK => ?_
  unfold Oper.wp
  have hfn : Instr.findNow (.int .i64) (.int .i64 n) es.toList 0 = some none := by
    rcases findNow_int n es.toList l 0 h3 with ⟨i, v, g1, _⟩ | ⟨_, g2⟩
    · rw [hf] at g1; cases g1
    · exact g2
  have h4 := Go.MapKept.run_getObj_map (P := P) h2
  have h5 := Go.MapKept.run_setObj_map (P := P) (.map (es.push { key := .int .i64 n, val := v, born := c }) (c + 1)) h2
  have h6 : (Instr.checkKey false 10000 kt (.int .i64 n)).run P w = .ok () w := Go.MapKept.run_checkKey (k := .int .i64 _) (n := 9999) hk (rfl : IntKind.i64 = IntKind.i64) false
  have h7 := Go.MapKept.run_findKey (P := P) (w := w) hk hfn
  have hrun : (execOp a.eval ⟨none, .insert t m x y, ty, pos, aft, none⟩).run P w = .ok .skip { w with heap := w.heap.setIfInBounds r (.map (es.push { key := .int .i64 n, val := v, born := c }) (c + 1)) } := by
    simp [execOp, ha.ev hm, ha.ev hx, ha.ev hy, Instr.mapUpdate, run_underlying hu, h4, h6, h7, h5]
  rw [hrun]
  exact hK _ _ (k _ _ ha (hw'.setMap _ _ (by simp [h3])))
theorem y_lookup {n : Nat} {t kt e : TypeId} {x y : Operand} {r : Nat} {k : Int} {l : List (Int × Value)} {z : Value} (hu : P.underlying t = some (.map kt e)) (hk : P.underlying kt = some (.int .i64)) (hz : ∀ w, (zeroValue e).run P w = .ok z w) (hx : ev F x = some (.map (some r))) (hy : ev F y = some (.int .i64 k)) (hi : InA H (mapA r l)) : Yl P n F H (.lookup t x y true) (.tuple #[(findM l k).getD z, .bool (findM l k).isSome]) := fun a w _ _ _ _ _ ha hw => by
  obtain ⟨S, _, es, c, h2, h3⟩ := hi w hw
  have h4 := Go.MapKept.run_getObj_map (P := P) h2
  have h6 : (Instr.checkKey es.isEmpty 10000 kt (.int .i64 k)).run P w = .ok () w := Go.MapKept.run_checkKey (k := .int .i64 _) (n := 9999) hk (rfl : IntKind.i64 = IntKind.i64) _
  rcases findNow_int k es.toList l 0 h3 with ⟨i, v, g1, g2⟩ | ⟨g1, g2⟩
  · have h7 := Go.MapKept.run_findKey (P := P) (w := w) hk g2
    simp [execOp, ha.ev hx, ha.ev hy, Instr.lookup, run_underlying hu, h4, h6, h7, g1]
  · have h7 := Go.MapKept.run_findKey (P := P) (w := w) hk g2
    simp [execOp, ha.ev hx, ha.ev hy, Instr.lookup, run_underlying hu, h4, h6, h7, g1, hz]
end
end Go.Proofs.YtlkgdidmhmaneaaGreatDoor
