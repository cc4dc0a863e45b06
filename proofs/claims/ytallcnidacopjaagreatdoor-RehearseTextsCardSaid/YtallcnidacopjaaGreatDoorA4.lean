import Derived.Test.YtallcnidacopjaaGreatDoorProg
import Derived.WalkKit
import Derived.WalkSpells
import Derived.WalkLawsBesides
namespace Go.Proofs.YtallcnidacopjaaGreatDoor
open Go.RowKit
def DecIs (n : Int) (s : ByteArray) : Prop := ∀ w, Calls Tryz.prog 9 #[.int .i64 n] w fun e w' => e = .returned (.string s) ∧ Below w.heap.size w w'
set_option maxRecDepth 20000 in
set_option maxHeartbeats 400000 in
theorem dec_small (n : Int) (h0 : 0 ≤ n) (h1 : n < 10) (c : UInt8) (hc : 48 + n = (c.toNat : Int)) : DecIs n ⟨#[c]⟩ := by
  intro w
  have hcv : (convert 53 9 (Value.slice (some { block := w.heap.size, off := 0 }) 1 1)).run Tryz.prog (w.alloc (Obj.cells #[Value.int IntKind.u8 (48 + n)] 5)) = .ok (.string ⟨#[c]⟩) (w.alloc (Obj.cells #[Value.int IntKind.u8 (48 + n)] 5)) := by
    rw [hc]
    exact run_convert_bytes_back _ 53 9 5 ⟨w.heap.size, 0, none⟩ 1 [c] Tryz.underlying53 Tryz.underlying5 Tryz.underlying9 (by
      intro j hj
      have : j = 0 := by simp at hj; exact hj
      subst this
      exact cell_one_new w _ 5 0 _ rfl)
  clear hc
  go_wp2
  go_ret
  exact ⟨rfl, (Below.refl _ _).alloc (Nat.le_refl _) _⟩
set_option maxRecDepth 20000 in
set_option maxHeartbeats 400000 in
theorem dec_neg (n : Int) (h0 : n < 0) (h1 : -10 < n) (s : ByteArray) (hl : s.size < 100) (hs : DecIs (-n) s) : DecIs n (⟨#[45]⟩ ++ s) := by
  intro w
  have hl' : ¬ 9223372036854775807 < 1 + s.size := by omega
  go_enter Tryz.func9, Tryz.ntmps9
  go_wp2_with (go_at_call 9; refine (hs _).mono ?_; rintro e w' ⟨rfl, hb⟩)
  go_ret
  exact ⟨rfl, hb⟩
set_option maxRecDepth 20000 in
set_option maxHeartbeats 400000 in
theorem dec_pos (D : Int → ByteArray) (n q r : Int) (hq : Int.tdiv n 10 = q) (hr : Int.tmod n 10 = r) (h0 : 10 ≤ n) (hr0 : 0 ≤ r) (hwq : wrap64 q = q) (hl : ¬ 9223372036854775807 < (D q).size + (D r).size)
    (hD : ∀ m w, m = q ∨ m = r → Calls Tryz.prog 9 #[.int .i64 m] w fun e w' => e = .returned (.string (D m)) ∧ Below w.heap.size w w') : DecIs n (D q ++ D r) := by
  intro w
  have g1 : ¬ n < 10 := by omega
  have g2 : ¬ n < 0 := by omega
  have g3 : ¬ r < 0 := by omega
  go_enter Tryz.func9, Tryz.ntmps9
  go_wp2_with (go_at_call 9; refine (hD _ _ (by simp)).mono ?_; rintro e w' ⟨rfl, hb⟩)
  go_ret
  exact ⟨rfl, Below.trans (by assumption) (Below.mono (by assumption) (by apply Below.size; assumption))⟩
set_option maxRecDepth 20000 in
set_option maxHeartbeats 400000 in
theorem dec_neg1 (D : Int → ByteArray) (n q r : Int) (hq : Int.tdiv n 10 = q) (hr : Int.tmod n 10 = r) (h0 : n ≤ -10) (hr0 : r < 0) (hwr : wrap64 (-r) = -r) (hwq : wrap64 q = q) (hl : ¬ 9223372036854775807 < (D q).size + (D (-r)).size)
    (hD : ∀ m w, m = q ∨ m = (-r) → Calls Tryz.prog 9 #[.int .i64 m] w fun e w' => e = .returned (.string (D m)) ∧ Below w.heap.size w w') : DecIs n (D q ++ D (-r)) := by
  intro w
  have g1 : ¬ 0 ≤ n := by omega
  have g2 : n < 0 := by omega
  have g3 : ¬ -10 < n := by omega
  go_enter Tryz.func9, Tryz.ntmps9
  go_wp2_with (go_at_call 9; refine (hD _ _ (by simp)).mono ?_; rintro e w' ⟨rfl, hb⟩)
  go_ret
  exact ⟨rfl, Below.trans (by assumption) (Below.mono (by assumption) (by apply Below.size; assumption))⟩
set_option maxRecDepth 20000 in
set_option maxHeartbeats 400000 in
theorem dec_neg0 (D : Int → ByteArray) (n q r : Int) (hq : Int.tdiv n 10 = q) (hr : Int.tmod n 10 = r) (h0 : n ≤ -10) (hr0 : 0 ≤ r) (hwq : wrap64 q = q) (hl : ¬ 9223372036854775807 < (D q).size + (D r).size)
    (hD : ∀ m w, m = q ∨ m = r → Calls Tryz.prog 9 #[.int .i64 m] w fun e w' => e = .returned (.string (D m)) ∧ Below w.heap.size w w') : DecIs n (D q ++ D r) := by
  intro w
  have g1 : ¬ 0 ≤ n := by omega
  have g2 : n < 0 := by omega
  have g3 : ¬ -10 < n := by omega
  have g4 : ¬ r < 0 := by omega
  go_enter Tryz.func9, Tryz.ntmps9
  go_wp2_with (go_at_call 9; refine (hD _ _ (by simp)).mono ?_; rintro e w' ⟨rfl, hb⟩)
  go_ret
  exact ⟨rfl, Below.trans (by assumption) (Below.mono (by assumption) (by apply Below.size; assumption))⟩
end Go.Proofs.YtallcnidacopjaaGreatDoor
