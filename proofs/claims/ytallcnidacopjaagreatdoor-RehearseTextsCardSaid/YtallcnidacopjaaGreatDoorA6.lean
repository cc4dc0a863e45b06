import Derived.Test.YtallcnidacopjaaGreatDoorA5
import Derived.Test.YtallcnidacopjaaGreatDoorS1
import Derived.WalkKit
import Derived.WalkSpells
import Derived.WalkLawsBesides
namespace Go.Proofs.YtallcnidacopjaaGreatDoor
open Go.RowKit Go.Lib Go.Shelf Go.Sort

theorem below_gr (w : World) (q : Nat) (os : Array Obj) : RowKit.Below w.heap.size w (grow (w.drewN q) os) :=
  ⟨rfl, rfl, rfl, by simp [grow, World.drewN], fun i hi => by
    show (w.heap ++ os)[i]? = _
    rw [Array.getElem?_append_left hi]⟩

theorem num_dec (n : Int) (h0 : -9223372036854775808 ≤ n) (h1 : n ≤ 9223372036854775807) (w : World) (htab : Lib.TabIs Tryz.prog w "internal/strconv.uint64pow10" .u64 Lib.pow10Tab) :
    Calls Tryz.prog 8 #[.int .i64 n] w fun e w' => e = .returned (.string (txt n)) ∧ RowKit.Below w.heap.size w w' := by
  go_enter Tryz.func8, Tryz.ntmps8
  go_wp2_with (go_at_call 12; refine (Tryz.strconv_FormatInt_10 n h0 h1 _ htab).mono ?_; rintro e w' ⟨rfl, k, os, rfl⟩)
  go_ret
  exact ⟨rfl, below_gr _ _ _⟩

/-- What was kept in a block stays there. -/
theorem keep3 {w w' : World} (hb : RowKit.Below w.heap.size w w') {b : Nat} {x y z : Value} (h0 : w.cell? ⟨b, 0, none⟩ = some x) (h1 : w.cell? ⟨b, 1, none⟩ = some y) (h2 : w.cell? ⟨b, 2, none⟩ = some z) :
    w'.cell? ⟨b, 0, none⟩ = some x ∧ w'.cell? ⟨b, 1, none⟩ = some y ∧ w'.cell? ⟨b, 2, none⟩ = some z := by
  have hlt : b < w.heap.size := by
    unfold World.cell? at h0
    cases hx : w.heap[b]? with
    | none => simp [hx] at h0
    | some o => exact (Array.getElem?_eq_some_iff.1 hx).1
  exact ⟨(hb.cell (p := ⟨b, 0, none⟩) hlt).trans h0, (hb.cell (p := ⟨b, 1, none⟩) hlt).trans h1, (hb.cell (p := ⟨b, 2, none⟩) hlt).trans h2⟩

theorem ref_dec3 (n : Int) (hn : -9223372036854775808 ≤ n ∧ n ≤ 9223372036854775807) (w : World) (b : Nat) (x y z : Value) (h0 : w.cell? ⟨b, 0, none⟩ = some x) (h1 : w.cell? ⟨b, 1, none⟩ = some y) (h2 : w.cell? ⟨b, 2, none⟩ = some z) :
    Calls Tryz.prog 9 #[.int .i64 n] w fun e w' => e = .returned (.string (txt n)) ∧ RowKit.Below w.heap.size w w' ∧ w'.cell? ⟨b, 0, none⟩ = some x ∧ w'.cell? ⟨b, 1, none⟩ = some y ∧ w'.cell? ⟨b, 2, none⟩ = some z :=
  (ref_dec n hn.1 hn.2 w).mono fun _ _ ⟨a, c⟩ => ⟨a, c, keep3 c h0 h1 h2⟩

def sAlike : ByteArray := ⟨#[97, 108, 105, 107, 101, 32]⟩
def sOther : ByteArray := ⟨#[111, 116, 104, 101, 114, 32, 97, 116, 32]⟩
def sWhy : ByteArray := ⟨#[32, 119, 104, 121, 32]⟩
def sLost : ByteArray := ⟨#[108, 111, 115, 116, 32, 119, 104, 121, 32]⟩
/-- A verdict's text. -/
def vtext (k a y : Int) : ByteArray :=
  if k = 1 then sAlike ++ txt (a % 9223372036854775808)
  else if k = 2 then sOther ++ txt (a % 9223372036854775808) ++ sWhy ++ txt y
  else if k = 3 then sLost ++ txt y
  else ⟨#[]⟩

set_option maxRecDepth 20000 in
set_option maxHeartbeats 400000 in
theorem ref_text (k a y : Int) (w : World) (ha : 0 ≤ a ∧ a ≤ 18446744073709551615) (hy : -9223372036854775808 ≤ y ∧ y ≤ 9223372036854775807) :
    Calls Tryz.prog 6 #[.agg #[.int .i64 k, .int .u64 a, .int .i64 y]] w fun e w' => e = .returned (.string (vtext k a y)) ∧ RowKit.Below w.heap.size w w' := by
  have hB : ∀ (w' w'' : World), RowKit.Below (w.alloc (Obj.cells #[Value.int IntKind.i64 k, Value.int IntKind.u64 a, Value.int IntKind.i64 y] 25)).heap.size (w.alloc (Obj.cells #[Value.int IntKind.i64 k, Value.int IntKind.u64 a, Value.int IntKind.i64 y] 25)) w' → RowKit.Below w'.heap.size w' w'' → RowKit.Below w.heap.size w w'' := by
    intro w' w'' h h'
    have h1 : RowKit.Below w.heap.size w w' := RowKit.Below.trans ((RowKit.Below.refl _ _).alloc (Nat.le_refl _) _) (h.mono (by simp))
    exact h1.trans (h'.mono h1.size)
  have g1 := txt_size (a % 9223372036854775808) (by omega) (by omega)
  have g2 := txt_size y hy.1 hy.2
  have k1 : ¬ 9223372036854775807 < 6 + (txt (a % 9223372036854775808)).size := by omega
  have k2 : ¬ 9223372036854775807 < 9 + (txt (a % 9223372036854775808)).size := by omega
  have k3 : ¬ 9223372036854775807 < 9 + (txt (a % 9223372036854775808)).size + 5 := by omega
  have k4 : ¬ 9223372036854775807 < 9 + (txt (a % 9223372036854775808)).size + 5 + (txt y).size := by omega
  have k5 : ¬ 9223372036854775807 < 9 + (txt y).size := by omega
  clear g1 g2
  have hm : -9223372036854775808 ≤ a % 9223372036854775808 ∧ a % 9223372036854775808 ≤ 9223372036854775807 := by omega
  have e2 : ¬ ((2 : Int) = 1) := by decide
  have e3 : ¬ ((3 : Int) = 1) := by decide
  have e4 : ¬ ((3 : Int) = 2) := by decide
  unfold vtext
  by_cases c1 : k = 1
  · subst c1
    rw [if_pos rfl]
    go_enter Tryz.func6, Tryz.ntmps6
    go_wp2_with (go_at_call 9; refine (ref_dec3 _ (by first | exact hm | exact hy) _ w.heap.size (.int .i64 1) (.int .u64 a) (.int .i64 y) (by first | assumption | (rw [World.cell?_alloc_new]; rfl)) (by first | assumption | (rw [World.cell?_alloc_new]; rfl)) (by first | assumption | (rw [World.cell?_alloc_new]; rfl))).mono ?_; rintro e w' ⟨rfl, hb, hc0, hc1, hc2⟩)
    go_ret
    exact ⟨rfl, hB _ _ (by assumption) (by assumption)⟩
  by_cases c2 : k = 2
  · subst c2
    rw [if_neg c1, if_pos rfl]
    go_enter Tryz.func6, Tryz.ntmps6
    go_wp2_with (go_at_call 9; refine (ref_dec3 _ (by first | exact hm | exact hy) _ w.heap.size (.int .i64 2) (.int .u64 a) (.int .i64 y) (by first | assumption | (rw [World.cell?_alloc_new]; rfl)) (by first | assumption | (rw [World.cell?_alloc_new]; rfl)) (by first | assumption | (rw [World.cell?_alloc_new]; rfl))).mono ?_; rintro e w' ⟨rfl, hb, hc0, hc1, hc2⟩)
    go_ret
    exact ⟨rfl, hB _ _ (by assumption) (by assumption)⟩
  by_cases c3 : k = 3
  · subst c3
    rw [if_neg c1, if_neg c2, if_pos rfl]
    go_enter Tryz.func6, Tryz.ntmps6
    go_wp2_with (go_at_call 9; refine (ref_dec3 _ (by first | exact hm | exact hy) _ w.heap.size (.int .i64 3) (.int .u64 a) (.int .i64 y) (by first | assumption | (rw [World.cell?_alloc_new]; rfl)) (by first | assumption | (rw [World.cell?_alloc_new]; rfl)) (by first | assumption | (rw [World.cell?_alloc_new]; rfl))).mono ?_; rintro e w' ⟨rfl, hb, hc0, hc1, hc2⟩)
    go_ret
    exact ⟨rfl, hB _ _ (by assumption) (by assumption)⟩
  · rw [if_neg c1, if_neg c2, if_neg c3]
    go_enter Tryz.func6, Tryz.ntmps6
    go_wp2_with (go_at_call 9; refine (ref_dec3 _ (by first | exact hm | exact hy) _ w.heap.size (.int .i64 k) (.int .u64 a) (.int .i64 y) (by first | assumption | (rw [World.cell?_alloc_new]; rfl)) (by first | assumption | (rw [World.cell?_alloc_new]; rfl)) (by first | assumption | (rw [World.cell?_alloc_new]; rfl))).mono ?_; rintro e w' ⟨rfl, hb, hc0, hc1, hc2⟩)
    go_ret
    exact ⟨rfl, hB _ _ (by assumption) (by assumption)⟩
end Go.Proofs.YtallcnidacopjaaGreatDoor
