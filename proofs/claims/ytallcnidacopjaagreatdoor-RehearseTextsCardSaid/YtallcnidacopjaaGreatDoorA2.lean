import Derived.Test.YtallcnidacopjaaGreatDoorA1
import Derived.WalkKit
import Derived.WalkSpells
import Derived.WalkLawsBesides
import Derived.Laws.Rows
namespace Go.Proofs.YtallcnidacopjaaGreatDoor
open Go.RowKit

theorem load_zm (W : World) (b : Nat) (h : W.heap[b]? = some (.cells zm 47 (0,0))) : (loadVar 47 ⟨b, 0, none⟩).run Tryz.prog W = .ok (.agg zm) W := by
  have hb : (match Tryz.prog.underlying 47 with | some (.struct _) => true | _ => false) = true := by kernel_rfl
  split at hb
  next fs hu => exact run_loadVar_row W b 47 47 zm (0,0) _ h hu rfl (by kernel_rfl)
  next => cases hb

theorem res10 (W : World) (ts : Array Value) (b : Nat) (h : W.heap[b]? = some (.cells zm 47 (0,0))) (h2 : ts.getD 2 undef = .pointer (some ⟨b, 0, none⟩)) (h3 : ts.getD 3 undef = .int .i64 3) :
    (results Tryz.f10 ts).run Tryz.prog W = .ok (.tuple #[.agg zm, .int .i64 3]) W := by
  have hl := load_zm W b h
  have h2' : ts[2]?.getD undef = .pointer (some ⟨b, 0, none⟩) := by simpa using h2
  have h3' : ts[3]?.getD undef = .int .i64 3 := by simpa using h3
  have : Tryz.f10.results = #[.cell 2 47, .tmp 3] := rfl
  simp [results, h2', h3', hl, asAddr]

set_option maxHeartbeats 1000000 in
theorem machine_empty (w : World) :
    Calls Tryz.prog 10 #[.agg #[.slice none 0 0, .slice none 0 0, .string ⟨#[]⟩]] w fun e w' => e = .returned (.tuple #[.agg zm, .int .i64 3]) ∧ Below w.heap.size w w' := by
  go_enter Tryz.func10, Tryz.ntmps10
  go_wp2_with (go_at_call 13; refine (readRest_empty _).mono ?_; rintro e w' ⟨rfl, k, rfl⟩)
  refine bodyPost_ret (v := .tuple #[.agg zm, .int .i64 3]) (res10 _ _ (w.heap.size+1) ?_ rfl rfl) rfl ⟨rfl, ?_⟩
  · simp only [World.alloc, Array.getElem?_push, Array.size_push]
    have e : ∀ k, 0 < k → (w.heap.size + 1 = w.heap.size + 1 + k) = False := fun k hk => by simp; omega
    have e1 : (w.heap.size + 1 = w.heap.size + 1) = True := by simp
    simp only [Nat.add_assoc, Nat.reduceAdd] 
    simp
  · exact ((((((Below.refl _ _).alloc (Nat.le_refl _) _).alloc (by simp) _).alloc (by simp; omega) _).alloc (by simp; omega) _).alloc (by simp; omega) _).alloc (by simp; omega) _
end Go.Proofs.YtallcnidacopjaaGreatDoor
