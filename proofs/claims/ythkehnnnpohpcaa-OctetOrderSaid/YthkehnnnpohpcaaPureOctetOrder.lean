/- Numbers in as many bytes stand as their bytes do; and one number behind another one in bytes is one number. Conditions: none beyond the statement's own. -/
import Derived.Test.YthkehnnnpohpcaaL04
import Derived.Test.YthkehnnnpohpcaaQx14
namespace Go.Proofs.Ythkehnnnpohpcaa.Pure
open Go Go.RowKit Go.Proofs.Ythkehnnnpohpcaa.Q Go.Proofs.Ythkehnnnpohpcaa.Base Go.Proofs.Ythkehnnnpohpcaa.L04 Go.Proofs.YthkehnnnpohpcaaW.PrintWords Go.Proofs.YthkehnnnpohpcaaW.PrintMore
set_option linter.unusedVariables false
set_option linter.unusedSimpArgs false
theorem less_iff : ∀ (a b : List UInt8), a.length = b.length → (Op.bytesLess a b = true ↔ num a < num b) := by
  intro a
  induction a with
  | nil => intro b h; cases b with
    | nil => simp [Op.bytesLess, num]
    | cons y b => cases h
  | cons x a ih =>
    intro b h
    cases b with
    | nil => cases h
    | cons y b =>
      have hl : a.length = b.length := by simpa using h
      have h1 := num_lt a
      have h2 := num_lt b
      have ih' := ih b hl
      have hx := x.toNat_lt
      have hy := y.toNat_lt
      simp only [num, ← hl] at *
      generalize 256 ^ a.length = p at *
      simp only [Op.bytesLess, Bool.or_eq_true, Bool.and_eq_true, decide_eq_true_eq, beq_iff_eq]
      rw [ih']
      rw [UInt8.lt_iff_toNat_lt, ← UInt8.toNat_inj]
      constructor
      · rintro (h | ⟨h, h'⟩)
        · have : (x.toNat + 1) * p ≤ y.toNat * p := Nat.mul_le_mul_right _ h
          rw [Nat.add_mul] at this; omega
        · rw [h]; omega
      · intro h
        by_cases hxy : x.toNat = y.toNat
        · refine .inr ⟨hxy, ?_⟩
          rw [hxy] at h; omega
        · refine .inl ?_
          by_cases hlt : x.toNat < y.toNat
          · exact hlt
          · have : (y.toNat + 1) * p ≤ x.toNat * p := Nat.mul_le_mul_right _ (by omega)
            rw [Nat.add_mul] at this; omega
theorem OctetOrder : rillmeterlaw04_OctetOrder.Pure := by
  intro a b n ha hb hn
  have hA := wf64 ha
  have hB := wf64 hb
  have hN := wf64 hn
  refine ⟨61, ?_⟩
  have skip : ∀ x y, rillmeterlaw04_OctetOrder.j0 61 a b n x y true = some true := by
    intro x y
    rw [show (61 : Nat) = 60 + 1 from rfl]
    simp only [rillmeterlaw04_OctetOrder.j0, if_true]
    rw [awake_eq _ (by omega)]; rfl
  unfold rillmeterlaw04_OctetOrder.f
  rw [put_eq a n _ (by omega), Option.bind_some, put_eq b n _ (by omega), Option.bind_some]
  by_cases h1 : n < 1 ∨ 7 < n ∨ a < 0 ∨ (256 ^ n.toNat : Int) ≤ a
  · have e : putS a n = (mkB [], 1) := by unfold putS; rw [if_pos h1]
    rw [e, if_neg (by decide), skip]
  have e1 : putS a n = (mkB (enc a.toNat n.toNat), 0) := by unfold putS; rw [if_neg h1]
  rw [e1, if_pos rfl]
  by_cases h2 : n < 1 ∨ 7 < n ∨ b < 0 ∨ (256 ^ n.toNat : Int) ≤ b
  · have e : putS b n = (mkB [], 1) := by unfold putS; rw [if_pos h2]
    rw [e, if_neg (by decide), skip]
  have e2 : putS b n = (mkB (enc b.toNat n.toNat), 0) := by unfold putS; rw [if_neg h2]
  rw [e2, if_pos rfl]
  by_cases h3 : n > 3
  · rw [decide_eq_true h3, skip]
  rw [decide_eq_false h3]
  rw [show (61 : Nat) = 60 + 1 from rfl]
  simp only [rillmeterlaw04_OctetOrder.j0, Bool.false_eq_true, if_false]
  have hlA : (enc a.toNat n.toNat).length = n.toNat := enc_length _ _
  have hlB : (enc b.toNat n.toNat).length = n.toNat := enc_length _ _
  have hc : ((256 ^ n.toNat : Nat) : Int) = (256 : Int) ^ n.toNat := by simp
  have hnA : num (enc a.toNat n.toNat) = a.toNat := by rw [num_enc]; exact Nat.mod_eq_of_lt (by omega)
  have hnB : num (enc b.toNat n.toNat) = b.toNat := by rw [num_enc]; exact Nat.mod_eq_of_lt (by omega)
  have hw2 : wrap64 (2 * n) = 2 * n := w64 (by omega) (by omega)
  have hw8 : wrap64 (8 * n) = 8 * n := w64 (by omega) (by omega)
  rw [if_pos (by rw [mkB_size, mkB_size]; omega), hw2, hw8, take_eq _ _ _ (by omega), Option.bind_some, mkB_app]
  have et : takeS (mkB (enc a.toNat n.toNat ++ enc b.toNat n.toNat)) (2 * n) = ((num (enc a.toNat n.toNat ++ enc b.toNat n.toNat) : Int), mkB [], 0) := by
    have hl : (enc a.toNat n.toNat ++ enc b.toNat n.toNat).length = (2 * n).toNat := by rw [List.length_append]; omega
    unfold takeS
    rw [if_neg (by omega), if_neg (by rw [mkB_size]; omega), mkB_data, mkB_extract, mkB_size, List.take_of_length_le (by omega), List.drop_eq_nil_of_le (by omega)]
    simp
  rw [et, mkB_toList, mkB_toList]
  have el : (Op.bytesLess (enc a.toNat n.toNat) (enc b.toNat n.toNat) == decide (a < b)) = true := by
    have := less_iff (enc a.toNat n.toNat) (enc b.toNat n.toNat) (by omega)
    rw [hnA, hnB] at this
    by_cases hab : a < b
    · rw [decide_eq_true hab, this.2 (by omega)]; rfl
    · rw [decide_eq_false hab]
      have : ¬ (Op.bytesLess (enc a.toNat n.toNat) (enc b.toNat n.toNat) = true) := fun h => by have := this.1 h; omega
      simpa using this
  have ee : ((enc a.toNat n.toNat == enc b.toNat n.toNat) == (a == b)) = true := by
    by_cases hab : a = b
    · subst hab; simp
    · have : enc a.toNat n.toNat ≠ enc b.toNat n.toNat := fun h => by
        have := congrArg num h
        rw [hnA, hnB] at this; omega
      rw [beq_eq_false_iff_ne.mpr this, beq_eq_false_iff_ne.mpr hab]; rfl
  rw [if_pos el, if_pos ee, if_pos (by omega)]
  have ev : ((num (enc a.toNat n.toNat ++ enc b.toNat n.toNat) : Nat) : Int) = wrap64 (shl .i64 a (8 * n) + b) := by
    rw [num_app, hnA, hnB, hlB]
    have hs : shl .i64 a (8 * n) = a * 256 ^ n.toNat := by
      have h8 : (8 * n).toNat = 8 * n.toNat := by omega
      unfold shl
      rw [Nat.min_eq_left (by show (8 * n).toNat ≤ 64; omega), h8, pow8]
      have hp : (256 : Int) ^ n.toNat ≤ 256 ^ 3 := by
        rw [← hc]
        have := Nat.pow_le_pow_right (n := 256) (by omega) (show n.toNat ≤ 3 by omega)
        omega
      have hm : a * 256 ^ n.toNat ≤ 256 ^ 3 * 256 ^ 3 := Int.mul_le_mul (by omega) hp (by omega) (by omega)
      have hm0 : 0 ≤ a * 256 ^ n.toNat := Int.mul_nonneg (by omega) (by omega)
      rw [IntKind.wrap_i64]; omega
    have hp : (256 : Int) ^ n.toNat ≤ 256 ^ 3 := by
      rw [← hc]
      have := Nat.pow_le_pow_right (n := 256) (by omega) (show n.toNat ≤ 3 by omega)
      omega
    have hm : a * 256 ^ n.toNat ≤ 256 ^ 3 * 256 ^ 3 := Int.mul_le_mul (by omega) hp (by omega) (by omega)
    have hm0 : 0 ≤ a * 256 ^ n.toNat := Int.mul_nonneg (by omega) (by omega)
    rw [hs, w64 (by omega) (by omega), Int.natCast_add, Int.natCast_mul, hc]
    rw [Int.toNat_of_nonneg (by omega), Int.toNat_of_nonneg (by omega)]
  rw [if_pos ev, mkB_toList, if_pos rfl, if_pos rfl, awake_eq _ (by omega)]; rfl
end Go.Proofs.Ythkehnnnpohpcaa.Pure
