import Derived.Test.YtallcnidacopjaaGreatDoorA2
import Derived.WalkKit
import Derived.WalkSpells
import Derived.WalkLawsBesides
import Derived.Laws.Rows
import Derived.Laws.Tables
import Derived.Deep.WholeRow
namespace Go.Proofs.YtallcnidacopjaaGreatDoor
open Go.RowKit
theorem bcell {W w1 : World} (hb : Below W.heap.size W w1) : (∀ b o, b < W.heap.size → w1.cell? ⟨b, o, none⟩ = W.cell? ⟨b, o, none⟩) ∧ (∀ b o, b < W.heap.size → w1.frozen? ⟨b, o, none⟩ = W.frozen? ⟨b, o, none⟩) :=
  ⟨fun b o h => hb.cell (p := ⟨b, o, none⟩) h, fun b o h => hb.frozen (p := ⟨b, o, none⟩) h⟩
theorem load25 (W : World) (b : Nat) (x y z : Value) (h : W.heap[b]? = some (.cells #[x, y, z] 25 (0,0))) : (loadVar 25 ⟨b, 0, none⟩).run Tryz.prog W = .ok (.agg #[x, y, z]) W := by
  have hb : (match Tryz.prog.underlying 25 with | some (.struct _) => true | _ => false) = true := by kernel_rfl
  split at hb
  next fs hu => exact run_loadVar_row W b 25 25 _ (0,0) _ h hu rfl (by kernel_rfl)
  next => cases hb

theorem heap_set (W : World) (b i : Nat) (v : Value) (cs : Array Value) (t : TypeId) (fr : Nat × Nat) (h : W.heap[b]? = some (.cells cs t fr)) :
    (W.setCell ⟨b, i, none⟩ v).heap[b]? = some (.cells (cs.setIfInBounds i v) t fr) := by
  rw [setCell_eq_setRow W b i cs t fr v h]
  exact setRow_heap _ _ _ _ _ _ h

theorem res7 (W : World) (ts : Array Value) (b : Nat) (x y z : Value) (h : W.heap[b]? = some (.cells #[x, y, z] 25 (0,0))) (h2 : ts.getD 4 undef = .pointer (some ⟨b, 0, none⟩)) :
    (results Tryz.f7 ts).run Tryz.prog W = .ok (.agg #[x, y, z]) W := by
  have hl := load25 W b x y z h
  have h2' : ts[4]?.getD undef = .pointer (some ⟨b, 0, none⟩) := by simpa using h2
  simp [results, h2', hl, asAddr]

set_option maxRecDepth 100000 in
set_option maxHeartbeats 1000000 in
theorem beside_empty (w : World) (t : Array Value) :
    Calls Tryz.prog 7 #[.agg #[.slice none 0 0, .slice none 0 0, .string ⟨#[]⟩], .agg t] w fun e w' => e = .returned (.agg #[.int .i64 3, .int .u64 0, .int .i64 3]) ∧ Below w.heap.size w w' := by
  go_enter Tryz.func7, Tryz.ntmps7
  go_wp2_with (go_at_call 10; refine (machine_empty _).mono ?_; rintro e w' ⟨rfl, hb⟩; obtain ⟨hc, hf⟩ := bcell hb; have hz : w.heap.size + 2 < w'.heap.size := by have := hb.size; simp at this; omega)
  have h0 : w'.heap[w.heap.size + 1 + 1]? = some (.cells #[.int .i64 0, .int .u64 0, .int .i64 0] 25 (0,0)) := by
    rw [hb.block _ (by simp)]
    have := heap_alloc_last ((w.alloc (.cells #[.slice none 0 0, .slice none 0 0, .string ⟨#[]⟩] 32)).alloc (.cells t 38)) (.cells #[.int .i64 0, .int .u64 0, .int .i64 0] 25)
    have e : ((w.alloc (.cells #[.slice none 0 0, .slice none 0 0, .string ⟨#[]⟩] 32)).alloc (.cells t 38)).heap.size = w.heap.size + 1 + 1 := by simp
    rw [e] at this
    exact this
  refine bodyPost_ret (v := .agg #[.int .i64 3, .int .u64 0, .int .i64 3]) (res7 _ _ (w.heap.size + 1 + 1) _ _ _ ?_ rfl) rfl ⟨rfl, ?_⟩
  · rw [Below.heap_alloc _ _ _ (by simp; omega)]
    exact heap_set _ _ _ _ _ _ _ (heap_set _ _ _ _ _ _ _ (heap_set _ _ _ _ _ _ _ h0))
  · have h1 : Below w.heap.size w w' := Below.trans ((((Below.refl _ _).alloc (Nat.le_refl _) _).alloc (by simp) _).alloc (by simp; omega) _) (hb.mono (by simp; omega))
    exact (((h1.setCell (by simp; omega) _).setCell (by simp; omega) _).setCell (by simp; omega) _).alloc (by simp; omega) _
end Go.Proofs.YtallcnidacopjaaGreatDoor
