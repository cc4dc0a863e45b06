import Derived.Test.YtallcnidacopjaaGreatDoorA7
import Derived.Test.YtallcnidacopjaaGreatDoorA3
import Derived.WalkKit
import Derived.WalkSpells
import Derived.WalkLawsBesides
namespace Go.Proofs.YtallcnidacopjaaGreatDoor
open Go.RowKit Go.Lib Go.Shelf Go.Sort
theorem vt3 : vtext 3 0 3 = ⟨#[108, 111, 115, 116, 32, 119, 104, 121, 32, 51]⟩ := by
  have h : txt 3 = ⟨#[51]⟩ := by unfold txt; rw [itoa_small 3 (by decide) (by decide)]; rfl
  simp only [vtext, h, sLost]
  rfl
theorem the_text3 (k a y : Int) (w : World) (ht : HTab w) (ha : 0 ≤ a ∧ a ≤ 18446744073709551615) (hy : -9223372036854775808 ≤ y ∧ y ≤ 9223372036854775807) :
    Calls Tryz.prog 5 #[.agg #[.int .i64 k, .int .u64 a, .int .i64 y]] w fun e w' => e = .returned (.string (vtext k a y)) ∧ HTab w' ∧ RowKit.Below w.heap.size w w' :=
  (the_text k a y w ht ha hy).mono fun _ _ ⟨p, q⟩ => ⟨p, tab_keep ht q, q⟩
set_option maxRecDepth 100000 in
set_option maxHeartbeats 1000000 in
theorem alive (w : World) (ht : HTab w) :
    Calls Tryz.prog 4 #[] w fun e w' => e = .returned (.bool true) ∧ RowKit.Below w.heap.size w w' := by
  go_enter Tryz.func4, Tryz.ntmps4
  go_wp2_with (go_at_call 7; refine (beside_empty _ _).mono ?_; rintro e w' ⟨rfl, hb⟩)
  have ht2 : HTab (w'.alloc (Obj.cells #[Value.int IntKind.i64 3, Value.int IntKind.u64 0, Value.int IntKind.i64 3] 25)) := tab_keep (tab_keep ht hb) ((RowKit.Below.refl _ _).alloc (Nat.le_refl _) _)
  have hb2 : RowKit.Below w.heap.size w (w'.alloc (Obj.cells #[Value.int IntKind.i64 3, Value.int IntKind.u64 0, Value.int IntKind.i64 3] 25)) := hb.alloc hb.size _
  have v3 := vt3
  go_wp2_with (go_at_call 5; refine (the_text 3 0 3 _ ht2 (by decide) (by decide)).mono ?_; rintro e w'' ⟨rfl, hc⟩)
  go_ret
  exact ⟨rfl, hb2.trans (hc.mono hb2.size)⟩
end Go.Proofs.YtallcnidacopjaaGreatDoor
