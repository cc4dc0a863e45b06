import Derived.Test.YtallcnidacopjaaGreatDoorA4
import Derived.Lib.ItoaNum
import Derived.Lib.ItoaMem
import Derived.Lib.ItoaLen
namespace Go.Proofs.YtallcnidacopjaaGreatDoor
open Go.RowKit Go.Lib

/-- The text of a number. -/
def txt (n : Int) : ByteArray := ⟨(itoa n).toArray⟩

theorem digits_small {u : Nat} (h : u < 10) : decDigits u = [UInt8.ofNat (48 + u)] := by rw [decDigits, dif_pos h]
theorem digits_big {u : Nat} (h : ¬ u < 10) : decDigits u = decDigits (u / 10) ++ decDigits (u % 10) := by
  rw [decDigits, dif_neg h, digits_small (u := u % 10) (by omega)]

theorem itoa_pos (n : Int) (h : 10 ≤ n) : itoa n = itoa (n.tdiv 10) ++ itoa (n.tmod 10) := by
  obtain ⟨u, rfl⟩ := Int.eq_ofNat_of_zero_le (show 0 ≤ n by omega)
  have h1 : (u : Int).tdiv 10 = ((u / 10 : Nat) : Int) := by
    rw [Int.tdiv_eq_ediv_of_nonneg (by omega)]; omega
  have h2 : (u : Int).tmod 10 = ((u % 10 : Nat) : Int) := by
    rw [Int.tmod_eq_emod_of_nonneg (by omega)]; omega
  rw [h1, h2, itoa_nonneg, itoa_nonneg, itoa_nonneg, digits_big (by omega)]

theorem itoa_neg_big (n : Int) (h : n ≤ -10) : itoa n = itoa (n.tdiv 10) ++ itoa (-(n.tmod 10)) := by
  obtain ⟨u, rfl⟩ : ∃ u : Nat, n = -(u : Int) := ⟨n.natAbs, by omega⟩
  have h1 : (-(u : Int)).tdiv 10 = -((u / 10 : Nat) : Int) := by
    rw [Int.neg_tdiv, Int.tdiv_eq_ediv_of_nonneg (by omega)]; omega
  have h2 : (-(u : Int)).tmod 10 = -((u % 10 : Nat) : Int) := by
    rw [Int.neg_tmod, Int.tmod_eq_emod_of_nonneg (by omega)]; omega
  rw [h1, h2, Int.neg_neg, itoa_neg _ (by omega), itoa_neg _ (by omega), itoa_nonneg, digits_big (by omega), List.cons_append]

theorem itoa_neg_small (n : Int) (h : n < 0) : itoa n = 45 :: itoa (-n) := by
  obtain ⟨u, rfl⟩ : ∃ u : Nat, n = -(u : Int) := ⟨n.natAbs, by omega⟩
  rw [Int.neg_neg, itoa_neg _ (by omega), itoa_nonneg]

theorem itoa_small (n : Int) (h0 : 0 ≤ n) (h : n < 10) : itoa n = [UInt8.ofNat (48 + n.toNat)] := by
  obtain ⟨u, rfl⟩ := Int.eq_ofNat_of_zero_le h0
  rw [itoa_nonneg, digits_small (by omega)]; simp

theorem txt_size (n : Int) (h0 : -9223372036854775808 ≤ n) (h1 : n ≤ 9223372036854775807) : (txt n).size ≤ 21 := by
  have := itoa_length_le n h0 h1
  simpa [txt, ByteArray.size] using this

theorem txt_app (a b c : Int) (h : itoa a = itoa b ++ itoa c) : txt a = txt b ++ txt c := by
  unfold txt
  rw [h]
  apply ByteArray.ext
  simp

theorem txt_cons (a b : Int) (h : itoa a = 45 :: itoa b) : txt a = ⟨#[45]⟩ ++ txt b := by
  unfold txt
  rw [h]
  apply ByteArray.ext
  simp

theorem wrap_in (x : Int) (h0 : -9223372036854775808 ≤ x) (h1 : x ≤ 9223372036854775807) : wrap64 x = x := by
  unfold wrap64
  omega

theorem tfacts (n : Int) : 10 * n.tdiv 10 + n.tmod 10 = n ∧ (0 ≤ n → 0 ≤ n.tmod 10 ∧ n.tmod 10 < 10) ∧ (n < 0 → -10 < n.tmod 10 ∧ n.tmod 10 ≤ 0) := by
  refine ⟨Int.mul_tdiv_add_tmod n 10, fun h => ⟨Int.tmod_nonneg _ h, Int.tmod_lt_of_pos _ (by decide)⟩, fun h => ?_⟩
  have e : n.tmod 10 = -((-n).tmod 10) := by rw [Int.neg_tmod, Int.neg_neg]
  have a := Int.tmod_nonneg 10 (show 0 ≤ -n by omega)
  have b := Int.tmod_lt_of_pos (-n) (show (0:Int) < 10 by decide)
  omega

theorem dec_is : ∀ (N : Nat) (n : Int), n.natAbs < N → -9223372036854775808 ≤ n → n ≤ 9223372036854775807 → DecIs n (txt n)
  | 0, n, h, _, _ => by omega
  | N + 1, n, h, h0, h1 => by
    obtain ⟨t1, t2, t3⟩ := tfacts n
    have b1 : -9223372036854775808 ≤ n.tdiv 10 ∧ n.tdiv 10 ≤ 9223372036854775807 := by omega
    have b2 : -10 < n.tmod 10 ∧ n.tmod 10 < 10 := by omega
    by_cases c1 : 0 ≤ n ∧ n < 10
    · have := dec_small n c1.1 c1.2 (UInt8.ofNat (48 + n.toNat)) (by rw [UInt8.toNat_ofNat']; omega)
      unfold txt
      rw [itoa_small n c1.1 c1.2]
      exact this
    · by_cases c2 : n < 0 ∧ -10 < n
      · rw [txt_cons n (-n) (itoa_neg_small n c2.1)]
        have hs := txt_size (-n) (by omega) (by omega)
        refine dec_neg n c2.1 c2.2 (txt (-n)) (by omega) ?_
        have := dec_small (-n) (by omega) (by omega) (UInt8.ofNat (48 + (-n).toNat)) (by rw [UInt8.toNat_ofNat']; omega)
        unfold txt
        rw [itoa_small (-n) (by omega) (by omega)]
        exact this
      · have hq := txt_size (n.tdiv 10) b1.1 b1.2
        by_cases c3 : 10 ≤ n
        · rw [txt_app n _ _ (itoa_pos n c3)]
          have hr := txt_size (n.tmod 10) (by omega) (by omega)
          refine dec_pos txt n _ _ rfl rfl c3 (by omega) (wrap_in _ b1.1 b1.2) (by omega) ?_
          intro m w hm
          exact dec_is N m (by omega) (by omega) (by omega) w
        · rw [txt_app n _ _ (itoa_neg_big n (by omega))]
          have hr := txt_size (-(n.tmod 10)) (by omega) (by omega)
          by_cases c4 : n.tmod 10 < 0
          · refine dec_neg1 txt n _ _ rfl rfl (by omega) c4 (wrap_in _ (by omega) (by omega)) (wrap_in _ b1.1 b1.2) (by omega) ?_
            intro m w hm
            exact dec_is N m (by omega) (by omega) (by omega) w
          · have e : n.tmod 10 = 0 := by omega
            rw [e] at hr ⊢
            refine dec_neg0 txt n _ _ rfl e (by omega) (by omega) (wrap_in _ b1.1 b1.2) (by simpa using (by omega : ¬ 9223372036854775807 < (txt (n.tdiv 10)).size + (txt (-0)).size)) ?_
            intro m w hm
            exact dec_is N m (by omega) (by omega) (by omega) w

theorem ref_dec (n : Int) (h0 : -9223372036854775808 ≤ n) (h1 : n ≤ 9223372036854775807) (w : World) :
    Calls Tryz.prog 9 #[.int .i64 n] w fun e w' => e = .returned (.string (txt n)) ∧ Below w.heap.size w w' :=
  dec_is _ n (Nat.lt_succ_self _) h0 h1 w
end Go.Proofs.YtallcnidacopjaaGreatDoor
