import Derived.Test.YtallcnidacopjaaGreatDoorA6
import Derived.WalkKit
import Derived.WalkSpells
import Derived.WalkLawsBesides
import Derived.MapKept
import Derived.Lib.EndianBits
namespace Go.Proofs.YtallcnidacopjaaGreatDoor
open Go.RowKit Go.Lib Go.Shelf Go.Sort

theorem tab_keep {w w' : World} {name : String} {k : IntKind} {zs : List Int} (h : Lib.TabIs Tryz.prog w name k zs) (hb : RowKit.Below w.heap.size w w') : Lib.TabIs Tryz.prog w' name k zs := by
  unfold Lib.TabIs World.var? at h ⊢
  cases hg : Tryz.prog.globalNamed name with
  | none => rw [hg] at h; cases h
  | some g =>
    rw [hg] at h
    simp only [Option.bind_some] at h ⊢
    cases hx : w.heap[g]? with
    | none => rw [hx] at h; cases h
    | some o =>
      rw [hb.block g (Array.getElem?_eq_some_iff.1 hx).1]
      exact h

abbrev HTab (w : World) : Prop := Lib.TabIs Tryz.prog w "internal/strconv.uint64pow10" .u64 Lib.pow10Tab

theorem num_dec3 (n : Int) (hn : -9223372036854775808 ≤ n ∧ n ≤ 9223372036854775807) (w : World) (ht : HTab w) (b : Nat) (x y z : Value) (h0 : w.cell? ⟨b, 0, none⟩ = some x) (h1 : w.cell? ⟨b, 1, none⟩ = some y) (h2 : w.cell? ⟨b, 2, none⟩ = some z) :
    Calls Tryz.prog 8 #[.int .i64 n] w fun e w' => e = .returned (.string (txt n)) ∧ HTab w' ∧ RowKit.Below w.heap.size w w' ∧ w'.cell? ⟨b, 0, none⟩ = some x ∧ w'.cell? ⟨b, 1, none⟩ = some y ∧ w'.cell? ⟨b, 2, none⟩ = some z :=
  (num_dec n hn.1 hn.2 w ht).mono fun _ _ ⟨a, c⟩ => ⟨a, tab_keep ht c, c, keep3 c h0 h1 h2⟩

theorem and_mod (a : Int) (ha : 0 ≤ a ∧ a ≤ 18446744073709551615) : bits BinOp.and IntKind.u64 a 9223372036854775807 = a % 9223372036854775808 := by
  have h := bits_mask .u64 64 (by decide) (fun n h0 h1 => by rw [IntKind.wrap_u64]; omega) 63 (by decide) a ha.1 (by omega)
  have e : ((2 : Int) ^ 63 - 1) = 9223372036854775807 := by decide
  have e2 : ((2 : Int) ^ 63) = 9223372036854775808 := by decide
  rw [e, e2] at h
  exact h

theorem ins_new (w : World) (r : Nat) (es : Array MapEntry) (clock : Nat) (x : Int) (v : Value) (hb : w.heap[r]? = some (.map es clock)) (h1 : Instr.findNow (.int .i64) (.int .i64 x) es.toList 0 = some none) :
    ∃ w2, (Instr.mapUpdate 40 (.map (some r)) (.int .i64 x) v).run Tryz.prog w = .ok () w2 ∧ w2.heap[r]? = some (.map (es.push { key := .int .i64 x, val := v, born := clock }) (clock + 1)) ∧ RowKit.Below r w w2 := by
  refine ⟨{ w with heap := w.heap.setIfInBounds r (.map (es.push { key := .int .i64 x, val := v, born := clock }) (clock + 1)) }, ?_, (Go.MapKept.heap_set hb).1, ⟨rfl, rfl, rfl, by simp, fun i hi => (Go.MapKept.heap_set hb).2 i (Nat.ne_of_lt hi)⟩⟩
  simp [Instr.mapUpdate, run_underlying Tryz.underlying40, Go.MapKept.run_getObj_map hb, Go.MapKept.run_checkKey (d := .int .i64) Tryz.underlying3 (k := .int .i64 x) (by simp [Go.MapKept.IsKey]), Go.MapKept.run_findKey Tryz.underlying3 h1, Go.MapKept.run_setObj_map _ hb, Result.andThen]

theorem look (w : World) (r : Nat) (es : Array MapEntry) (clock : Nat) (x : Int) (o : Option (Nat × Value)) (hb : w.heap[r]? = some (.map es clock)) (h1 : Instr.findNow (.int .i64) (.int .i64 x) es.toList 0 = some o) :
    (Instr.lookup 40 (.map (some r)) (.int .i64 x) false).run Tryz.prog w = .ok ((o.map (·.2)).getD (.string ⟨#[]⟩)) w := by
  cases o <;> simp [Instr.lookup, run_underlying Tryz.underlying40, Go.MapKept.run_getObj_map hb, Go.MapKept.run_checkKey (d := .int .i64) Tryz.underlying3 (k := .int .i64 x) (by simp [Go.MapKept.IsKey]), Go.MapKept.run_findKey Tryz.underlying3 h1, Result.andThen, Tryz.zeroValue9]

set_option maxRecDepth 20000 in
set_option maxHeartbeats 400000 in
theorem the_text (k a y : Int) (w : World) (ht : HTab w) (ha : 0 ≤ a ∧ a ≤ 18446744073709551615) (hy : -9223372036854775808 ≤ y ∧ y ≤ 9223372036854775807) :
    Calls Tryz.prog 5 #[.agg #[.int .i64 k, .int .u64 a, .int .i64 y]] w fun e w' => e = .returned (.string (vtext k a y)) ∧ RowKit.Below w.heap.size w w' := by
  have hB : ∀ (w' w'' : World), Below (w.alloc (Obj.cells #[Value.int IntKind.i64 k, Value.int IntKind.u64 a, Value.int IntKind.i64 y] 25)).heap.size (w.alloc (Obj.cells #[Value.int IntKind.i64 k, Value.int IntKind.u64 a, Value.int IntKind.i64 y] 25)) w' → RowKit.Below w'.heap.size w' w'' → RowKit.Below w.heap.size w w'' := by
    intro w' w'' h h'
    have h1 : RowKit.Below w.heap.size w w' := RowKit.Below.trans ((RowKit.Below.refl _ _).alloc (Nat.le_refl _) _) (h.mono (by simp))
    exact h1.trans (h'.mono h1.size)
  have g1 := txt_size (a % 9223372036854775808) (by omega) (by omega)
  have g2 := txt_size y hy.1 hy.2
  have k1 : ¬ 9223372036854775807 < 6 + (txt (a % 9223372036854775808)).size := by omega
  have k2 : ¬ 9223372036854775807 < 9 + (txt (a % 9223372036854775808)).size := by omega
  have k3 : ¬ 9223372036854775807 < 9 + (txt (a % 9223372036854775808)).size + 5 := by omega
  have k4 : ¬ 9223372036854775807 < 9 + (txt (a % 9223372036854775808)).size + 5 + (txt y).size := by omega
  have k5 : ¬ 9223372036854775807 < 9 + (txt y).size := by omega
  clear g1 g2
  have hm : -9223372036854775808 ≤ a % 9223372036854775808 ∧ a % 9223372036854775808 ≤ 9223372036854775807 := by omega
  have ht' : HTab (w.alloc (Obj.cells #[Value.int IntKind.i64 k, Value.int IntKind.u64 a, Value.int IntKind.i64 y] 25)) := tab_keep ht ((RowKit.Below.refl _ _).alloc (Nat.le_refl _) _)
  have hand := and_mod a ha
  have hwr : wrap64 (a % 9223372036854775808) = a % 9223372036854775808 := wrap_in _ hm.1 hm.2
  have hmk : ∀ w, (Instr.makeMap 40 none).run Tryz.prog w = .ok (.map (some w.heap.size)) (w.alloc (.map #[] 0)) := fun w => run_makeMap 40 w
  go_enter Tryz.func5, Tryz.ntmps5
  go_wp2_with (go_at_call 8; refine (num_dec3 _ (by first | exact hm | exact hy) _ (by assumption) w.heap.size (.int .i64 k) (.int .u64 a) (.int .i64 y) (by first | assumption | (rw [World.cell?_alloc_new]; rfl)) (by first | assumption | (rw [World.cell?_alloc_new]; rfl)) (by first | assumption | (rw [World.cell?_alloc_new]; rfl))).mono ?_; rintro e w' ⟨rfl, htn, hb, hc0, hc1, hc2⟩)
  obtain ⟨w2, r2, b2, l2⟩ := ins_new (w'.alloc (.map #[] 0)) w'.heap.size #[] 0 1 (.string (sAlike ++ txt (a % 9223372036854775808))) (Go.MapKept.heap_alloc _ _).1 (by simp [Instr.findNow])
  obtain ⟨w3, r3, b3, l3⟩ := ins_new w2 _ _ _ 2 (.string (sOther ++ txt (a % 9223372036854775808) ++ sWhy ++ txt y)) b2 (by simp [Instr.findNow, Instr.sameNow])
  obtain ⟨w4, r4, b4, l4⟩ := ins_new w3 _ _ _ 3 (.string (sLost ++ txt y)) b3 (by simp [Instr.findNow, Instr.sameNow])
  have lk : (Instr.lookup 40 (.map (some w'.heap.size)) (.int .i64 k) false).run Tryz.prog w4 = .ok (.string (vtext k a y)) w4 := by
    unfold vtext
    by_cases c1 : k = 1
    · subst c1
      exact look w4 _ _ _ 1 (some (0, _)) b4 (by simp [Instr.findNow, Instr.sameNow])
    by_cases c2 : k = 2
    · subst c2
      exact look w4 _ _ _ 2 (some (1, _)) b4 (by simp [Instr.findNow, Instr.sameNow])
    by_cases c3 : k = 3
    · subst c3
      exact look w4 _ _ _ 3 (some (2, _)) b4 (by simp [Instr.findNow, Instr.sameNow])
    · rw [if_neg c1, if_neg c2, if_neg c3]
      exact look w4 _ _ _ k none b4 (by simp [Instr.findNow, Instr.sameNow, beq_eq_false_iff_ne.2 c1, beq_eq_false_iff_ne.2 c2, beq_eq_false_iff_ne.2 c3])
  have hb4 : RowKit.Below w'.heap.size w' w4 := (((RowKit.Below.refl _ w').alloc (Nat.le_refl _) _).trans l2).trans (l3.trans l4)
  obtain ⟨d0, d1, d2⟩ := keep3 hb4 hc0 hc1 hc2
  have hfin := (hB _ _ (by assumption) hb).trans (hb4.mono (hB _ _ (by assumption) hb).size)
  clear hB l2 l3 l4 b2 b3 b4 hb4
  unfold sAlike at r2
  unfold sOther sWhy at r3
  unfold sLost at r4
  rw [r2]
  go_wp2
  go_ret
  exact ⟨rfl, hfin⟩
end Go.Proofs.YtallcnidacopjaaGreatDoor
