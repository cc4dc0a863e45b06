import Derived.Test.YtallcnidacopjaaGreatDoorProg
import Derived.WalkKit
import Derived.WalkSpells
import Derived.WalkLawsBesides
import Derived.Recover
namespace Go.Proofs.YtallcnidacopjaaGreatDoor
open Go.RowKit
set_option maxHeartbeats 400000 in
theorem texts_empty (w : World) : Calls Tryz.prog 59 #[.string ⟨#[]⟩] w fun e w' => e = .returned (.tuple #[.slice none 0 0, .int .i64 0]) ∧ w = w' := by
  go_enter Tryz.func59, Tryz.ntmps59
  go_wp2
  refine wp_loop_rounds 1 ?_; rw [rounds_succ]
  go_wp2
  go_ret2
  exact ⟨rfl, rfl⟩

set_option maxHeartbeats 400000 in
theorem open_empty (w : World) : Calls Tryz.prog 24 #[.string ⟨#[]⟩, .int .i64 16] w fun e w' => e = .panicked [{ v := .iface 67 (.agg #[]), recovered := false }] ∧ w = w' := by
  go_enter Tryz.func24, Tryz.ntmps24
  go_wp2_with (go_at_call 59; refine (texts_empty _).mono ?_; rintro e w' ⟨rfl, rfl⟩)
  exact ⟨rfl, rfl, rfl⟩


abbrev zm : Array Value := #[.int .u64 0, .int .i64 0, .int .i64 0, .int .i64 0, .slice none 0 0, .slice none 0 0, .int .i64 0, .string ⟨#[]⟩, .slice none 0 0, .int .i64 0, .string ⟨#[]⟩, .bool false, .int .u64 0, .slice none 0 0, .slice none 0 0, .int .i64 0, .slice none 0 0]
set_option maxHeartbeats 1000000 in
set_option maxRecDepth 10000 in
theorem catch_it (w : World) :
    CallsD Tryz.prog 23 #[.pointer (some ⟨w.heap.size, 0, none⟩), .pointer (some ⟨w.heap.size+1, 0, none⟩)] (.panicking [{ v := .iface 67 (.agg #[]), recovered := false }]) ((w.alloc (.cells zm 47)).alloc (.cells #[.bool false] 4)) fun e u' w' =>
      e = .returned (.tuple #[]) ∧ u' = .panicking [{ v := .iface 67 (.agg #[]), recovered := true }] ∧ 
      ∃ k, w' = ((w.alloc (.cells zm 47)).alloc (.cells #[.bool false] 4)).alloc k := by
  have hta : ∀ w, (Instr.typeAssert (.iface 67 (.agg #[])) 20 67 true).run Tryz.prog w = .ok (.tuple #[.agg #[], .bool true]) w := fun _ => by kernel_rfl
  refine callsD_of_wpS Tryz.func23 rfl fun c₀ cs hu => ?_
  apply wpS_seq
  apply wpS_region
  simp [wpOpsS, go_sem, recoverD, hu, Tryz.ntmps23, Exit.thenS]
  refine wpS_of_wp ?_
  change Code.wp _ _ _ { tmps := #[Value.pointer (some ⟨w.heap.size, 0, none⟩), .pointer (some ⟨w.heap.size+1, 0, none⟩), .iface 67 (.agg #[]), undef, undef, .iface 67 (.agg #[]), undef, undef, undef, undef, undef, undef, undef, undef, undef, undef, undef], defers := [] } _
  go_wp2
  simp [bodyPostS, results, Tryz.results23, go_sem]
  exact ⟨_, rfl⟩

set_option maxHeartbeats 1000000 in
theorem readRest_empty (w : World) :
    Calls Tryz.prog 13 #[.string ⟨#[]⟩] w fun e w' => e = .returned (.tuple #[.agg zm, .bool false]) ∧ ∃ k, w' = ((w.alloc (.cells zm 47)).alloc (.cells #[.bool false] 4)).alloc k := by
  have hmf : ∀ (fn : Fn) (first cap : Array Value) (w : World), (Instr.makeFunc fn first cap).run Tryz.prog w = .ok (.func fn first cap) w := fun _ _ _ _ => rfl
  go_enter_defers Tryz.func13, Tryz.ntmps13
  go_wp2_with (go_at_call 24; refine (open_empty _).mono ?_; rintro e w' ⟨rfl, rfl⟩)
  refine leaves_cons (f := 23) (args := #[.pointer (some ⟨w.heap.size, 0, none⟩), .pointer (some ⟨w.heap.size+1, 0, none⟩)]) (by simp) (by simp [go_sem]) ?_
  refine (catch_it w).mono ?_
  rintro e u' w'' ⟨rfl, rfl, k, rfl⟩
  simp [Leaves, settle, results, Tryz.results13, go_sem]
  exact ⟨k, rfl⟩

end Go.Proofs.YtallcnidacopjaaGreatDoor
