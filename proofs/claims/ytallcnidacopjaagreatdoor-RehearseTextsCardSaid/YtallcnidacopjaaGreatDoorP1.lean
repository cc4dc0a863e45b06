import Derived.Test.YtallcnidacopjaaGreatDoorRows
import Derived.Test.YtallcnidacopjaaGreatDoorA9
import Derived.Test.YtallcnidacopjaaGreatDoorP2
import Derived.ProofKit
import Derived.LaidMore
import Derived.OpenShut
import Derived.Stop.Joined
import Derived.Lib.SmallJoins
import Derived.Lib.LaidTab
import Derived.Stop.LaidErr
namespace Go.Proofs.YtallcnidacopjaaGreatDoor
open Go.ChangeShapes Go.WideShapes Go.ChangeAt Go.RowKit

theorem own : ownKnob Tryz.prog.godebug = none := by kernel_rfl

/-- The door's own heap meets the condition: three closed facts. -/
theorem door_met (os : Os) (args : Array Value) : laidMetH Tryz.prog Rows.rehearseTextsRow.laid ((World.doorLaid Tryz.prog 400 os).forCall (fun _ _ => 0) ⟨#[], args, []⟩).memory :=
  laidMetH_of_parts3 (fuel := 8) (laidMet_of_run' 8 (by kernel_rfl) (by kernel_rfl)) (by kernel_rfl) (by kernel_rfl)

theorem tab_of_laid {W : World} (h : laidMetH Tryz.prog Rows.rehearseTextsRow.laid W) : HTab W := by
  rw [MakeChecks.laidMetH_plain _ _ _ (by kernel_rfl)] at h
  have h5 := laidMet.tail (laidMet.tail (laidMet.tail (laidMet.tail h)))
  exact Lib.tabIs_of_head (g := 0) (t := 159) (e := 22) (n := 20) (by kernel_rfl) (by kernel_rfl) (by kernel_rfl) (by kernel_rfl) (by kernel_rfl) (by kernel_rfl) h5

set_option maxRecDepth 100000 in
/-- A verdict that came in: three numbers. -/
theorem open_verdict {H : Type} {enc : TypeId × Value → H} {W : World} {v : Value} {d : DataW H} {p : List MemPlace} {base : Nat} (hv : Value.okWide Tryz.prog W .any base 25 v) (h : DataW.Trod enc Tryz.prog W 0 (fun _ => true) true 25 v d p) :
    ∃ k a y : Int, v = .agg #[.int .i64 k, .int .u64 a, .int .i64 y] ∧ p = [] ∧ (0 ≤ a ∧ a ≤ 18446744073709551615) ∧ (-9223372036854775808 ≤ y ∧ y ≤ 9223372036854775807) ∧
      d = .agg [.lit (.int .i64 k), .lit (.int .u64 a), .lit (.int .i64 y)] ∧ ∀ (w' : World) (b : Nat) (sp : Nat → Bool) (hd : Bool), DataW.Trod enc Tryz.prog w' b sp hd 25 (.agg #[.int .i64 k, .int .u64 a, .int .i64 y]) (.agg [.lit (.int .i64 k), .lit (.int .u64 a), .lit (.int .i64 y)]) [] := by
  obtain ⟨v0, v1, v2, y0, y1, y2, n, rfl, rfl, rfl, t0, t1, t2⟩ := Go.Joins.open_agg3 Tryz.underlying25 (by kernel_rfl) (by kernel_rfl) hv h
  obtain ⟨k, e0, rfl, w0⟩ := DataW.trod_int Tryz.underlying3 t0
  obtain ⟨a, e1, rfl, w1⟩ := DataW.trod_int Tryz.underlying22 t1
  obtain ⟨y, e2, rfl, w2⟩ := DataW.trod_int Tryz.underlying23 t2
  obtain rfl : v0 = .int .i64 k := by simpa using e0
  obtain rfl : v1 = .int .u64 a := by simpa using e1
  obtain rfl : v2 = .int .i64 y := by simpa using e2
  have b1 : 0 ≤ a ∧ a ≤ 18446744073709551615 := by
    simp only [Lit.wf, decide_eq_true_eq, Bool.and_eq_true, show IntKind.u64.min = 0 from by decide, show IntKind.u64.max = 18446744073709551615 from by decide] at w1
    omega
  have b2 : -9223372036854775808 ≤ y ∧ y ≤ 9223372036854775807 := by
    simp only [Lit.wf, decide_eq_true_eq, Bool.and_eq_true, show IntKind.i64.min = -9223372036854775808 from by decide, show IntKind.i64.max = 9223372036854775807 from by decide] at w2
    omega
  refine ⟨k, a, y, rfl, rfl, b1, b2, rfl, fun w' b sp hd => ?_⟩
  exact Go.Joins.shut_agg3 (y0 := (.lit (.int .i64 k), [])) (y1 := (.lit (.int .u64 a), [])) (y2 := (.lit (.int .i64 y), [])) Tryz.underlying25 (by kernel_rfl) (by kernel_rfl) (shut_int Tryz.underlying3 w0) (shut_int Tryz.underlying22 w1) (shut_int Tryz.underlying23 w2)

set_option maxRecDepth 100000 in
theorem lifted (os : Os) (started : os.Started) (H : Type) (enc : TypeId × Value → H) :
    ReturnsInHanded {} Tryz.checked os 3 .any (fun w args => (Rows.rehearseTextsSpec.pre enc Tryz.prog Tryz.f3 [] false w args ∧ laidMetH Tryz.prog Rows.rehearseTextsRow.laid w) ∧ sizedMet enc Tryz.prog Tryz.f3 (OpenSpec.ofChange Rows.rehearseTextsSpec) false w args)
      (Rows.rehearseTextsSpec.post enc Tryz.prog Tryz.f3 false true false false) := by
  refine returnsInHanded_of_change_and (C := Tryz.checked) (X := fun w _ => laidMetH Tryz.prog Rows.rehearseTextsRow.laid w) (fun _ _ _ hh h => h.of_heap hh) own started (by kernel_rfl) Tryz.func3
    (ChangeSpec.witness_shaped (enc := enc) (C := Tryz.checked) (os := os) (X := fun w _ => laidMetH Tryz.prog Rows.rehearseTextsRow.laid w) false (World.doorLaid Tryz.prog 400 os) #[.agg #[.int .i64 0, .int .u64 0, .int .i64 0], .agg #[.int .i64 0, .int .u64 0, .int .i64 0]] 8 rfl (World.shaped_of_RefB (by kernel_rfl) (by kernel_rfl)) (by kernel_rfl) (by kernel_rfl) (by kernel_rfl) (door_met os _)) ?_
  intro W base args ds gs before hval0 hW _ _ hL _
  have hval : ∀ (j : Nat) t v, Tryz.f3.params[j]? = some t → args[j]? = some v → Value.okWide Tryz.prog W .any base t v := hval0
  have hW' := hW
  obtain ⟨p, q, hA0, hV, rfl, hfz, hnd⟩ := hW
  have hA : DataW.TrodAll enc Tryz.prog W 0 (fun _ => true) true Tryz.f3.params.toList args.toList ds p := hA0
  rw [Tryz.params3] at hA hval
  obtain ⟨v0, v1, d0, d1, p0, p1, rfl, rfl, rfl, h0, h1⟩ := trodAll_two hA
  obtain ⟨rfl, rfl⟩ := trodVars_none hV
  obtain ⟨k, a, y, rfl, rfl, ha, hy, rfl, s0⟩ := open_verdict (hval 0 25 v0 rfl rfl) h0
  obtain ⟨k', a', y', rfl, rfl, ha', hy', rfl, s1⟩ := open_verdict (hval 1 25 v1 rfl rfl) h1
  clear hA0 hval0
  refine (law k a y k' a' y' W (tab_of_laid hL) ha hy ha' hy').mono fun e W' ⟨he, hw⟩ => ?_
  subst he
  refine ⟨_, rfl, _, _, _, [], [], [], hW', ?_, ?_, rfl, hw.frame _, fun h => by cases h⟩
  · exact trodAll_mk1 (shut_bool Tryz.underlying4 true)
  · exact trodAll_mk2 (s0 _ _ _ _) (s1 _ _ _ _)

theorem rehearseTexts_holds : Rows.RehearseTextsSaid :=
  OpenClaim.holds_of_wide 3 Tryz.f3 rfl rfl rfl rfl rfl rfl rfl ⟨rfl, rfl, rfl, rfl, rfl⟩ rfl rfl rfl rfl rfl (by kernel_rfl) Tryz.func3 facts
    (of_decide_eq_true (by kernel_rfl)) (by unfold Func.isWrapper; first | (rw [if_pos (by decide +kernel)]; kernel_rfl) | (rw [if_neg (by decide +kernel)]; exact ⟨rfl, rfl⟩))
    (fun os started H enc _ => lifted os started H enc)
end Go.Proofs.YtallcnidacopjaaGreatDoor
