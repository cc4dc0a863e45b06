import Derived.Test.YtallcnidacopjaaGreatDoorA8
import Derived.Test.YtallcnidacopjaaGreatDoorB1
import Derived.WalkKit
import Derived.WalkSpells
import Derived.WalkLawsBesides
import Derived.Deep.RegionWith
namespace Go.Proofs.YtallcnidacopjaaGreatDoor
open Go.RowKit Go.Lib Go.Shelf Go.Sort

/-- What stands while the law goes on: both verdicts in their blocks, the table, all that was. -/
structure Stands (w0 : World) (b : Nat) (k a y k' a' y' : Int) (W : World) : Prop where
  tab : HTab W
  bel : RowKit.Below w0.heap.size w0 W
  lt : b + 1 < W.heap.size
  c0 : W.cell? ⟨b, 0, none⟩ = some (.int .i64 k)
  c1 : W.cell? ⟨b, 1, none⟩ = some (.int .u64 a)
  c2 : W.cell? ⟨b, 2, none⟩ = some (.int .i64 y)
  d0 : W.cell? ⟨b + 1, 0, none⟩ = some (.int .i64 k')
  d1 : W.cell? ⟨b + 1, 1, none⟩ = some (.int .u64 a')
  d2 : W.cell? ⟨b + 1, 2, none⟩ = some (.int .i64 y')

theorem Stands.on {w0 W W' : World} {b : Nat} {k a y k' a' y' : Int} (h : Stands w0 b k a y k' a' y' W) (hb : RowKit.Below W.heap.size W W') : Stands w0 b k a y k' a' y' W' := by
  obtain ⟨e0, e1, e2⟩ := keep3 hb h.c0 h.c1 h.c2
  obtain ⟨f0, f1, f2⟩ := keep3 hb h.d0 h.d1 h.d2
  exact ⟨tab_keep h.tab hb, h.bel.trans (hb.mono h.bel.size), Nat.lt_of_lt_of_le h.lt hb.size, e0, e1, e2, f0, f1, f2⟩

theorem Stands.drew {w0 W : World} {b : Nat} {k a y k' a' y' : Int} (h : Stands w0 b k a y k' a' y' W) : Stands w0 b k a y k' a' y' W.drew := h.on ((RowKit.Below.refl _ _).drew)

theorem vt_same (k k' a y : Int) (h : k = k') : ((vtext k a y).toList == (vtext k' a y).toList) = true := by subst h; simp

theorem alive_s {w0 W : World} {b : Nat} {k a y k' a' y' : Int} (h : Stands w0 b k a y k' a' y' W) :
    Calls Tryz.prog 4 #[] W fun e w' => e = .returned (.bool true) ∧ Stands w0 b k a y k' a' y' w' :=
  (alive W h.tab).mono fun _ _ ⟨p, q⟩ => ⟨p, h.on q⟩
theorem text_s {w0 W : World} {b : Nat} {k a y k' a' y' : Int} (h : Stands w0 b k a y k' a' y' W) (l m n : Int) (hm : 0 ≤ m ∧ m ≤ 18446744073709551615) (hn : -9223372036854775808 ≤ n ∧ n ≤ 9223372036854775807) :
    Calls Tryz.prog 5 #[.agg #[.int .i64 l, .int .u64 m, .int .i64 n]] W fun e w' => e = .returned (.string (vtext l m n)) ∧ Stands w0 b k a y k' a' y' w' :=
  (the_text l m n W h.tab hm hn).mono fun _ _ ⟨p, q⟩ => ⟨p, h.on q⟩
theorem ref_s {w0 W : World} {b : Nat} {k a y k' a' y' : Int} (h : Stands w0 b k a y k' a' y' W) (l m n : Int) (hm : 0 ≤ m ∧ m ≤ 18446744073709551615) (hn : -9223372036854775808 ≤ n ∧ n ≤ 9223372036854775807) :
    Calls Tryz.prog 6 #[.agg #[.int .i64 l, .int .u64 m, .int .i64 n]] W fun e w' => e = .returned (.string (vtext l m n)) ∧ Stands w0 b k a y k' a' y' w' :=
  (ref_text l m n W hm hn).mono fun _ _ ⟨p, q⟩ => ⟨p, h.on q⟩

set_option maxRecDepth 100000 in
set_option maxHeartbeats 16000000 in
theorem law (k a y k' a' y' : Int) (w : World) (ht : HTab w) (ha : 0 ≤ a ∧ a ≤ 18446744073709551615) (hy : -9223372036854775808 ≤ y ∧ y ≤ 9223372036854775807)
    (ha' : 0 ≤ a' ∧ a' ≤ 18446744073709551615) (hy' : -9223372036854775808 ≤ y' ∧ y' ≤ 9223372036854775807) :
    Calls Tryz.prog 3 #[.agg #[.int .i64 k, .int .u64 a, .int .i64 y], .agg #[.int .i64 k', .int .u64 a', .int .i64 y']] w fun e w' => e = .returned (.bool true) ∧ RowKit.Below w.heap.size w w' := by
  have hst : Stands w w.heap.size k a y k' a' y' ((w.alloc (.cells #[.int .i64 k, .int .u64 a, .int .i64 y] 25)).alloc (.cells #[.int .i64 k', .int .u64 a', .int .i64 y'] 25)) := by
    have hb : RowKit.Below w.heap.size w ((w.alloc (.cells #[.int .i64 k, .int .u64 a, .int .i64 y] 25)).alloc (.cells #[.int .i64 k', .int .u64 a', .int .i64 y'] 25)) := ((RowKit.Below.refl _ _).alloc (Nat.le_refl _) _).alloc (by simp) _
    exact ⟨tab_keep ht hb, hb, by simp, by simp [go_sem], by simp [go_sem], by simp [go_sem], by simp [go_sem], by simp [go_sem], by simp [go_sem]⟩
  go_enter Tryz.func3, Tryz.ntmps3
  go_wp2_with (go_at_call 4; refine (alive_s hst).mono ?_; rintro e w' ⟨rfl, hs1⟩; have ht1 := hs1.tab; have c0 := hs1.c0; have c1 := hs1.c1; have c2 := hs1.c2; have d0 := hs1.d0; have d1 := hs1.d1; have d2 := hs1.d2)
  go_region_with (go_at_call 5; refine (text_s (by first | assumption | exact Stands.drew (by assumption)) _ _ _ (by assumption) (by assumption)).mono ?_; rintro e w2 ⟨rfl, hs2⟩; have ht2 := hs2.tab; have c0' := hs2.c0; have c1' := hs2.c1; have c2' := hs2.c2; have d0' := hs2.d0; have d1' := hs2.d1; have d2' := hs2.d2)
  all_goals
    go_wp2_with (go_at_call 6; refine (ref_s (by first | assumption | exact Stands.drew (by assumption)) _ _ _ (by assumption) (by assumption)).mono ?_; rintro e w3 ⟨rfl, hs3⟩; have c0'' := hs3.c0; have c1'' := hs3.c1; have c2'' := hs3.c2; have d0'' := hs3.d0; have d1'' := hs3.d1; have d2'' := hs3.d2)
  all_goals go_ret
  all_goals refine ⟨?_, Stands.bel (by assumption)⟩
  all_goals clear hst hs1 ht1
  all_goals first
    | rfl
    | exact congrArg (fun b => Ending.returned (Value.bool b)) (vt_ne _ _ _ _ _ _ (by unfold Dom; omega) (by unfold Dom; omega) (by omega))
    | exact congrArg (fun b => Ending.returned (Value.bool b)) (vt_ne _ _ _ _ _ _ (by unfold Dom; simp_all <;> omega) (by unfold Dom; simp_all <;> omega) (by simp_all <;> omega))
    | exact congrArg (fun b => Ending.returned (Value.bool b)) (vt_same _ _ _ _ (by omega))
end Go.Proofs.YtallcnidacopjaaGreatDoor
