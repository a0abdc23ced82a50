/- A part of the proof: walks and laws that the last part joins. -/
import Derived.Test.YtlkgdidmhmaneaaGreatDoorSNi
import Derived.Test.YtlkgdidmhmaneaaGreatDoorCards
import Derived.Test.YtlkgdidmhmaneaaGreatDoorTie
import Derived.ChangeSame
import Derived.ChangeVars
import Derived.JoinedOf
import Derived.RowKitTokens
/- from a contract to a row's statement; ServeNews. -/
namespace Go.Proofs.YtlkgdidmhmaneaaGreatDoor
open Go.ChangeShapes Go.WideShapes Go.ChangeAt Go.RowKit
theorem walk_of_ct {f : FuncId} {args : List Value} (hc : Ct Tryz.prog f args [tabA] (Ret fun u H => u = .bool true ∧ H = [tabA])) {W : World} (hL : laidMetH Tryz.prog laid1 W) : Calls Tryz.prog f args.toArray W fun e w' => e = .returned (.bool true) ∧ Keep W w' (fun _ => False) := by
  have ht := tab_of_laid hL (fun k => k = 0) rfl
  have hs : ∀ k, k = 0 → k < W.heap.size := by
    rintro k rfl
    obtain ⟨b, o, h1, _, h3⟩ := ht 0 (.int .i64 0) rfl
    have h2 := Option.some.inj h1
    simp only [Addr.mk.injEq] at h2
    obtain ⟨rfl, rfl, _⟩ := h2
    rcases Nat.lt_or_ge 0 W.heap.size with h | h
    · exact h
    · exfalso
      rw [World.cell?] at h3
      simp [Array.getElem?_eq_none h] at h3
  refine (hc W (fun _ => False) (fun k => k = 0) 0 ((SepL.cons_imm rfl).2 ⟨ht, trivial⟩) (fun _ h => h.elim) (fun _ h => h.elim) hs).mono ?_
  rintro e w' ⟨H', ⟨u, rfl, rfl, _⟩, hg⟩
  exact ⟨rfl, hg.keep⟩
theorem Keep.keptBut {w w' : World} (h : Keep w w' (fun _ => False)) (may : MemPlace → Prop) : w.keptBut w' may := by
  refine ⟨h.os, h.output, fun i hi => ?_⟩
  rw [h.block i hi (fun h => h)]
  cases he : w.heap[i]? with
  | none => rfl
  | some o =>
    cases o with
    | cells c t fr => exact ⟨rfl, rfl, rfl, fun _ _ => rfl⟩
    | map es clock => exact .inr ⟨rfl, rfl⟩
    | _ => rfl

set_option maxRecDepth 100000 in
theorem serveNews_lifted (os : Os) (started : os.Started) (H : Type) (enc : TypeId × Value → H) :
    ReturnsInHanded {} Tryz.checked os 3 .any (fun w args => (Rows.serveNewsSpec.pre enc Tryz.prog Tryz.f3 [] false w args ∧ laidMetH Tryz.prog laid1 w) ∧ sizedMet enc Tryz.prog Tryz.f3 (OpenSpec.ofChange Rows.serveNewsSpec) false w args)
      (Rows.serveNewsSpec.post enc Tryz.prog Tryz.f3 false true false false) := by
  refine returnsInHanded_of_change_and (C := Tryz.checked) (X := fun w _ => laidMetH Tryz.prog laid1 w) (fun _ _ _ hh h => h.of_heap hh) own started (by kernel_rfl) Tryz.func3
    (ChangeSpec.witness_shaped (enc := enc) (C := Tryz.checked) (os := os) (X := fun w _ => laidMetH Tryz.prog laid1 w) false (World.doorLaid Tryz.prog 33 os) #[.int .i64 0, .int .i64 0] 8 rfl (World.shaped_of_RefB (by kernel_rfl) (by kernel_rfl)) (by kernel_rfl) (by kernel_rfl) (by kernel_rfl) (door_met os _)) ?_
  intro W base args ds gs before hval0 hW _ _ hL _
  have hval : ∀ (j : Nat) t v, Tryz.f3.params[j]? = some t → args[j]? = some v → Value.okWide Tryz.prog W .any base t v := hval0
  have hW' := hW
  obtain ⟨p, q, hA0, hV, rfl, hfz, hnd⟩ := hW
  have hA : DataW.TrodAll enc Tryz.prog W 0 (fun _ => true) true Tryz.f3.params.toList args.toList ds p := hA0
  rw [Tryz.params3] at hA hval
  obtain ⟨v0, v1, d0, d1, p0, p1, rfl, rfl, rfl, h0, h1⟩ := trodAll_two hA
  obtain ⟨rfl, rfl⟩ := trodVars_none hV
  obtain ⟨n, rfl, rfl, rfl, wn⟩ := open_int Tryz.underlying3 (hval 0 3 v0 rfl rfl) h0
  obtain ⟨room, rfl, rfl, rfl, wr⟩ := open_int Tryz.underlying3 (hval 1 3 v1 rfl rfl) h1
  clear hA0 hval0
  simp only [List.append_nil] at hW'
  refine (walk_of_ct (serveNews_ok n room (Go.bounds_i64 wn)) hL).mono fun e W' ⟨he, hk⟩ => ?_
  subst he
  have e1 : Rows.serveNewsSpec.fn H ([.lit (.int .i64 n), .lit (.int .i64 room)] ++ []) = { results := [.lit (.bool true)], args := [.lit (.int .i64 n), .lit (.int .i64 room)] } := by simp [Rows.serveNewsSpec]
  refine ⟨_, rfl, _, _, _, [], [], [], hW', ?_, ?_, ?_, hk.keptBut _, fun h => by cases h⟩
  · rw [e1]; exact trodAll_mk1 (shut_bool Tryz.underlying4 true)
  · rw [e1]; exact trodAll_mk2 (shut_int Tryz.underlying3 wn) (shut_int Tryz.underlying3 wr)
  · rw [e1]; rfl

theorem serveNews_holds : Rows.ServeNewsSaid :=
  OpenClaim.holds_of_wide 3 Tryz.f3 rfl rfl rfl rfl rfl rfl rfl ⟨rfl, rfl, rfl, rfl, rfl⟩ rfl rfl rfl rfl rfl (by kernel_rfl) Tryz.func3 (by kernel_rfl)
    (of_decide_eq_true (by kernel_rfl)) (by unfold Func.isWrapper; first | (rw [if_pos (by decide +kernel)]; kernel_rfl) | (rw [if_neg (by decide +kernel)]; exact ⟨rfl, rfl⟩))
    (fun os started H enc _ => serveNews_lifted os started H enc)
end Go.Proofs.YtlkgdidmhmaneaaGreatDoor
