import Derived.Test.YtallcnidacopjaaGreatDoorA6
namespace Go.Proofs.YtallcnidacopjaaGreatDoor
open Go.RowKit Go.Lib

def valD (l : List UInt8) : Nat := l.foldl (fun n c => n * 10 + (c.toNat - 48)) 0
theorem valD_snoc (l : List UInt8) (c : UInt8) : valD (l ++ [c]) = valD l * 10 + (c.toNat - 48) := by simp [valD, List.foldl_append]
theorem dig_nat (u : Nat) (h : u < 10) : (UInt8.ofNat (48 + u)).toNat = 48 + u := by rw [UInt8.toNat_ofNat']; omega
theorem decDigits_val (u : Nat) : valD (decDigits u) = u := by
  induction u using Nat.strongRecOn with
  | _ u ih =>
    by_cases h : u < 10
    · rw [digits_small h]
      simp only [valD, List.foldl_cons, List.foldl_nil, dig_nat u h]
      omega
    · rw [decDigits, dif_neg h, valD_snoc, ih (u / 10) (by omega), dig_nat (u % 10) (by omega)]
      omega
theorem decDigits_dig (u : Nat) : ∀ c ∈ decDigits u, 48 ≤ c.toNat := by
  induction u using Nat.strongRecOn with
  | _ u ih =>
    intro c hc
    by_cases h : u < 10
    · rw [digits_small h] at hc
      simp only [List.mem_singleton] at hc
      subst hc
      rw [dig_nat u h]; omega
    · rw [decDigits, dif_neg h, List.mem_append] at hc
      rcases hc with hc | hc
      · exact ih (u / 10) (by omega) c hc
      · simp only [List.mem_singleton] at hc
        subst hc
        rw [dig_nat (u % 10) (by omega)]; omega
theorem itoa_no32 (n : Int) : (32 : UInt8) ∉ itoa n := by
  intro h
  unfold itoa at h
  split at h
  · rcases List.mem_cons.1 h with h | h
    · exact absurd h (by decide)
    · have := decDigits_dig _ _ h; exact absurd this (by decide)
  · have := decDigits_dig _ _ h; exact absurd this (by decide)
theorem itoa_inj (n m : Int) (h : itoa n = itoa m) : n = m := by
  have no45 : ∀ u, (45 : UInt8) ∉ decDigits u := fun u hu => absurd (decDigits_dig u _ hu) (by decide)
  unfold itoa at h
  split at h <;> split at h
  · have h' := congrArg valD (List.cons.inj h).2
    rw [decDigits_val, decDigits_val] at h'
    omega
  · exact absurd (h ▸ List.mem_cons_self) (no45 _)
  · exact absurd (h.symm ▸ List.mem_cons_self) (no45 _)
  · have h' := congrArg valD h
    rw [decDigits_val, decDigits_val] at h'
    omega
theorem cut32 : ∀ (l l' r r' : List UInt8), (32 : UInt8) ∉ l → (32 : UInt8) ∉ l' → l ++ 32 :: r = l' ++ 32 :: r' → l = l' ∧ r = r'
  | [], [], r, r', _, _, h => by simpa using h
  | [], b :: l', r, r', _, h2, h => by
    simp only [List.nil_append, List.cons_append, List.cons.injEq] at h
    exact absurd (h.1 ▸ List.mem_cons_self) h2
  | a :: l, [], r, r', h1, _, h => by
    simp only [List.nil_append, List.cons_append, List.cons.injEq] at h
    exact absurd (h.1 ▸ List.mem_cons_self) h1
  | a :: l, b :: l', r, r', h1, h2, h => by
    simp only [List.cons_append, List.cons.injEq] at h
    have := cut32 l l' r r' (fun x => h1 (List.mem_cons_of_mem _ x)) (fun x => h2 (List.mem_cons_of_mem _ x)) h.2
    exact ⟨by rw [h.1, this.1], this.2⟩

def vl (k a y : Int) : List UInt8 :=
  if k = 1 then [97, 108, 105, 107, 101, 32] ++ itoa (a % 9223372036854775808)
  else if k = 2 then [111, 116, 104, 101, 114, 32, 97, 116, 32] ++ (itoa (a % 9223372036854775808) ++ 32 :: ([119, 104, 121, 32] ++ itoa y))
  else if k = 3 then [108, 111, 115, 116, 32, 119, 104, 121, 32] ++ itoa y
  else []
theorem vtext_list (k a y : Int) : (vtext k a y).data.toList = vl k a y := by
  unfold vtext vl
  split
  · simp [sAlike, txt]
  · split
    · simp [sOther, sWhy, txt]
    · split
      · simp [sLost, txt]
      · rfl

def Dom (k a y : Int) : Prop := 1 ≤ k ∧ k ≤ 3 ∧ 0 ≤ a ∧ a < 9223372036854775808 ∧ (k = 1 → y = 0) ∧ (k = 3 → a = 0)
theorem vl_inj (k a y k' a' y' : Int) (h : Dom k a y) (h' : Dom k' a' y') (e : vl k a y = vl k' a' y') : k = k' ∧ a = a' ∧ y = y' := by
  obtain ⟨h1, h2, h3, h4, h5, h6⟩ := h
  obtain ⟨g1, g2, g3, g4, g5, g6⟩ := h'
  have c : k = 1 ∨ k = 2 ∨ k = 3 := by omega
  have c' : k' = 1 ∨ k' = 2 ∨ k' = 3 := by omega
  have ea : a % 9223372036854775808 = a := by omega
  have ea' : a' % 9223372036854775808 = a' := by omega
  unfold vl at e
  rw [ea, ea'] at e
  rcases c with rfl | rfl | rfl <;> rcases c' with rfl | rfl | rfl <;> simp at e
  · exact ⟨rfl, itoa_inj _ _ e, by rw [h5 rfl, g5 rfl]⟩
  · obtain ⟨p, q⟩ := cut32 _ _ _ _ (itoa_no32 _) (itoa_no32 _) e
    simp at q
    exact ⟨rfl, itoa_inj _ _ p, itoa_inj _ _ q⟩
  · exact ⟨rfl, by rw [h6 rfl, g6 rfl], itoa_inj _ _ e⟩
theorem vt_ne (k a y k' a' y' : Int) (h : Dom k a y) (h' : Dom k' a' y') (n : ¬ (k = k' ∧ a = a' ∧ y = y')) : (!((vtext k a y).toList == (vtext k' a' y').toList)) = true := by
  have e : ∀ s : ByteArray, s.toList = s.data.toList := fun s => ByteArray.toList_eq s
  rw [e, e, vtext_list, vtext_list]
  have : ¬ vl k a y = vl k' a' y' := fun x => n (vl_inj _ _ _ _ _ _ h h' x)
  simp [this]
end Go.Proofs.YtallcnidacopjaaGreatDoor
