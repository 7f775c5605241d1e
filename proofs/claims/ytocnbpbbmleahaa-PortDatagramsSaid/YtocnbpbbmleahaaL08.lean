/- What the printed functions of layer 8 (port) answer, told by plain functions on bytes. -/
import Derived.Test.YtocnbpbbmleahaaL4Take
import Derived.Test.YtocnbpbbmleahaaL4Num
import Derived.Test.YtocnbpbbmleahaaL4Put
import Derived.Test.YtocnbpbbmleahaaQx2
import Derived.Test.YtocnbpbbmleahaaQx3
import Derived.Test.YtocnbpbbmleahaaQx5
import Derived.Test.YtocnbpbbmleahaaQx7
namespace Go.Proofs.Ytocnbpbbmleahaa.L08
open Go Go.RowKit Go.Proofs.Ytocnbpbbmleahaa.Q Go.Proofs.Ytocnbpbbmleahaa.Base Go.Proofs.Ytocnbpbbmleahaa.L04 Go.Proofs.YtocnbpbbmleahaaW.PrintWords Go.Proofs.YtocnbpbbmleahaaW.PrintMore
set_option linter.unusedVariables false
set_option linter.unusedSimpArgs false

/-- The number of the bytes from i to j. -/
def at_ (s : ByteArray) (i j : Nat) : Nat := num ((s.data.toList.drop i).take (j - i))
theorem at_lt (s : ByteArray) (i j : Nat) : at_ s i j < 256 ^ (j - i) := by
  refine Nat.lt_of_lt_of_le (num_lt _) (Nat.pow_le_pow_right (by omega) ?_)
  rw [List.length_take]; omega
theorem extract_list (s : ByteArray) (a b : Nat) : (s.extract a b).data.toList = (s.data.toList.drop a).take (b - a) := by
  have := mkB_extract s.data.toList a b
  rw [mkB_eta] at this
  rw [this, mkB_data]
theorem ptake_eq (s : ByteArray) (i : Nat) (hi : i + 2 ≤ s.size) (k : Nat) (hk : 10 ≤ k) : port_take.f k s (i : Int) = some ((at_ s i (i + 2) : Nat) : Int) := by
  unfold port_take.f
  rw [if_pos (by omega), if_pos (by omega), take_eq _ _ _ hk, Option.bind_some]
  have hz : (s.extract (i : Int).toNat s.size).size = s.size - i := by rw [ByteArray.size_extract]; omega
  unfold takeS
  rw [if_neg (by omega), if_neg (by omega)]
  simp only [extract_list, Int.toNat_natCast]
  congr 2
  unfold at_
  rw [List.take_take]
  have e : min ((2 : Int).toNat) (s.size - i) = i + 2 - i := by rw [show (2 : Int).toNat = 2 from rfl]; omega
  rw [e]
theorem refnum_eq (s : ByteArray) (i j : Nat) (h : j ≤ i + 7) (k : Nat) (hk : 10 ≤ k) : rillmeterref04_Number.f k (s.extract i j) = some ((at_ s i j : Nat) : Int) := by
  rw [number_eq _ (by rw [ByteArray.size_extract]; omega) _ hk, extract_list]; rfl

def bad : Int × Int × ByteArray × Int := (0, 0, mkB [], 16)
/-- Both ports, the body, the error's number. -/
def portS (p : Int) (s : ByteArray) : Int × Int × ByteArray × Int :=
  if p = 6 then
    (if s.size < 20 then bad else if 4 * (bt s 12 / 16) < 20 ∨ (s.size : Int) < 4 * (bt s 12 / 16) then bad
     else ((at_ s 0 2 : Nat), (at_ s 2 4 : Nat), s.extract (4 * (bt s 12 / 16)).toNat s.size, 0))
  else if p = 17 then
    (if s.size < 8 then bad else if at_ s 4 6 < 8 ∨ s.size < at_ s 4 6 then bad
     else ((at_ s 0 2 : Nat), (at_ s 2 4 : Nat), s.extract 8 (at_ s 4 6), 0))
  else (0, 0, mkB [], 8)
theorem take_end (s : ByteArray) (hs : s.size ≤ 140737488351232) (a e : Int) (ha : 0 ≤ a) (hae : a ≤ e) (he : e ≤ s.size) (h4 : 4 ≤ s.size) (k : Nat) (hk : 20 ≤ k) :
    port_Take.j1 k s a e false = some (((at_ s 0 2 : Nat) : Int), ((at_ s 2 4 : Nat) : Int), s.extract a.toNat e.toNat, (0 : Int)) := by
  obtain ⟨k, rfl⟩ : ∃ m, k = m + 1 := ⟨k - 1, by omega⟩
  simp only [port_Take.j1, Bool.false_eq_true, if_false]
  have e0 := ptake_eq s 0 (by omega) k (by omega)
  have e2 := ptake_eq s 2 (by omega) k (by omega)
  rw [show ((0 : Nat) : Int) = 0 from rfl] at e0
  rw [show ((2 : Nat) : Int) = 2 from rfl] at e2
  rw [e0, Option.bind_some, e2, Option.bind_some, if_pos ha, if_pos hae, if_pos he]
theorem take_bad (s : ByteArray) (a e : Int) (k : Nat) (hk : 1 ≤ k) : port_Take.j1 k s a e true = some bad := by
  obtain ⟨k, rfl⟩ : ∃ m, k = m + 1 := ⟨k - 1, by omega⟩
  simp only [port_Take.j1, if_true]; rfl
theorem port_eq (p : Int) (s : ByteArray) (hs : s.size ≤ 140737488351232) (k : Nat) (hk : 30 ≤ k) : port_Take.f k p s = some (portS p s) := by
  have hb := bt_range s 12
  obtain ⟨k, rfl⟩ : ∃ m, k = m + 1 := ⟨k - 1, by omega⟩
  unfold port_Take.f portS
  by_cases h6 : p = 6
  · rw [if_pos h6, if_pos h6]
    by_cases h12 : (s.size : Int) > 12
    · rw [if_pos h12, if_pos (by omega)]
      have ew : wrap64 (4 * wrap64 (bt s 12 / 16)) = 4 * (bt s 12 / 16) := by
        rw [w64 (n := bt s 12 / 16) (by omega) (by omega), w64 (by omega) (by omega)]
      rw [ew]
      generalize hq : 4 * (bt s 12 / 16) = q
      have hq0 : 0 ≤ q ∧ q ≤ 60 := by omega
      simp only [port_Take.j0]
      by_cases h20 : s.size < 20
      · rw [if_pos (by omega), if_pos h20, take_bad _ _ _ _ (by omega)]
      · rw [if_neg (by omega), if_neg h20]
        by_cases hq20 : q < 20
        · rw [if_pos hq20, if_pos (.inl hq20), take_bad _ _ _ _ (by omega)]
        · rw [if_neg hq20]
          by_cases hqs : q > (s.size : Int)
          · rw [if_pos hqs, if_pos (.inr (by omega)), take_bad _ _ _ _ (by omega)]
          · rw [if_neg hqs, if_neg (by omega), decide_eq_false (by omega), take_end s hs _ _ (by omega) (by omega) (by omega) (by omega) _ (by omega)]
            rfl
    · rw [if_neg h12, if_pos (by omega)]
      simp only [port_Take.j0]
      rw [if_pos (by omega), take_bad _ _ _ _ (by omega)]
  · rw [if_neg h6, if_neg h6]
    by_cases h17 : p = 17
    · rw [if_pos h17, if_pos h17]
      by_cases h5 : (s.size : Int) > 5
      · have e4 := ptake_eq s 4 (by omega) (k + 1) (by omega)
        rw [show ((4 : Nat) : Int) = 4 from rfl] at e4
        rw [if_pos h5, e4, Option.bind_some]
        generalize at_ s 4 (4 + 2) = q
        simp only [port_Take.j0]
        by_cases h8 : s.size < 8
        · rw [if_pos (by omega), if_pos h8, take_bad _ _ _ _ (by omega)]
        · rw [if_neg (by omega), if_neg (by omega), if_neg h8]
          by_cases hq8 : q < 8
          · rw [if_pos (by omega), if_pos (.inl hq8), take_bad _ _ _ _ (by omega)]
          · rw [if_neg (by omega)]
            by_cases hqs : s.size < q
            · rw [decide_eq_true (by omega), if_pos (.inr hqs), take_bad _ _ _ _ (by omega)]
            · rw [decide_eq_false (by omega), if_neg (by omega), take_end s hs _ _ (by omega) (by omega) (by omega) (by omega) _ (by omega)]
              rfl
      · rw [if_neg h5, if_pos (by omega)]
        simp only [port_Take.j0]
        rw [if_pos (by omega), take_bad _ _ _ _ (by omega)]
    · rw [if_neg h17, if_neg h17]; rfl
theorem refport_eq (p : Int) (s : ByteArray) (hs : s.size ≤ 140737488351232) (k : Nat) (hk : 30 ≤ k) : rillmeterref08_Take.f k p s = some (portS p s) := by
  have hb := bt_range s 12
  obtain ⟨k, rfl⟩ : ∃ m, k = m + 2 := ⟨k - 2, by omega⟩
  have key : ∀ b : Bool, b = decide (p ≠ 6 ∧ p ≠ 17) → rillmeterref08_Take.j0 (k + 2) p s b = some (portS p s) := by
    intro b hbb
    unfold portS
    rw [show k + 2 = (k + 1) + 1 from rfl]
    simp only [rillmeterref08_Take.j0]
    by_cases h6 : p = 6
    · subst h6
      rw [show b = false by rw [hbb]; rfl]
      rw [if_neg (by decide), if_neg (by decide), if_pos rfl]
      by_cases h20 : s.size < 20
      · rw [if_pos (by omega), if_pos h20]; rfl
      · rw [if_neg (by omega), if_neg h20, if_pos (by omega)]
        have ew : wrap64 (wrap64 (Int.tdiv (wrap64 (bt s 12)) 16) * 4) = 4 * (bt s 12 / 16) := by
          rw [w64 (n := bt s 12) (by omega) (by omega), Int.tdiv_eq_ediv_of_nonneg (by omega), w64 (n := bt s 12 / 16) (by omega) (by omega), w64 (by omega) (by omega)]
          omega
        rw [ew]
        generalize hq : 4 * (bt s 12 / 16) = q
        have hq0 : 0 ≤ q ∧ q ≤ 60 := by omega
        have bad2 : rillmeterref08_Take.j2 (k + 1) s q true = some bad := by
          simp only [rillmeterref08_Take.j2, if_true]; rfl
        by_cases hq20 : q < 20
        · rw [if_pos hq20, if_pos (.inl hq20), bad2]
        · rw [if_neg hq20]
          by_cases hqs : q > (s.size : Int)
          · rw [decide_eq_true hqs, if_pos (.inr (by omega)), bad2]
          · rw [decide_eq_false hqs, if_neg (by omega)]
            simp only [rillmeterref08_Take.j2, Bool.false_eq_true, if_false]
            rw [if_pos (by decide), if_pos (by omega), refnum_eq s 0 2 (by omega) _ (by omega), Option.bind_some, if_pos (by decide), if_pos (by omega), refnum_eq s 2 4 (by omega) _ (by omega), Option.bind_some, if_pos (by omega), if_pos (by omega)]
    · by_cases h17 : p = 17
      · subst h17
        rw [show b = false by rw [hbb]; rfl]
        rw [if_neg (by decide), if_pos rfl, if_neg h6, if_pos rfl]
        by_cases h8 : s.size < 8
        · rw [if_pos (by omega), if_pos h8]; rfl
        · rw [if_neg (by omega), if_neg h8, if_pos (by decide), if_pos (by omega), refnum_eq s 4 6 (by omega) _ (by omega), Option.bind_some]
          generalize at_ s 4 6 = q
          have bad1 : rillmeterref08_Take.j1 (k + 1) s (q : Int) true = some bad := by
            simp only [rillmeterref08_Take.j1, if_true]; rfl
          by_cases hq8 : q < 8
          · rw [if_pos (by omega), if_pos (.inl hq8), bad1]
          · rw [if_neg (by omega)]
            by_cases hqs : s.size < q
            · rw [decide_eq_true (by omega), if_pos (.inr hqs), bad1]
            · rw [decide_eq_false (by omega), if_neg (by omega)]
              simp only [rillmeterref08_Take.j1, Bool.false_eq_true, if_false]
              rw [if_pos (by decide), if_pos (by omega), refnum_eq s 0 2 (by omega) _ (by omega), Option.bind_some, if_pos (by decide), if_pos (by omega), refnum_eq s 2 4 (by omega) _ (by omega), Option.bind_some, if_pos (by omega), if_pos (by omega)]
              rfl
      · rw [show b = true by rw [hbb]; simp [h6, h17], if_neg h6, if_pos rfl, if_neg h17]; rfl
  unfold rillmeterref08_Take.f
  by_cases h6 : p = 6
  · rw [if_pos h6]; exact key _ (by simp [h6])
  · rw [if_neg h6]; refine key _ ?_
    by_cases h17 : p = 17
    · subst h17; rfl
    · simp [h6, h17]

/-! ### UDP -/
def two (n : Int) : List UInt8 := enc n.toNat 2
def okPort (n : Int) : Prop := 0 ≤ n ∧ n ≤ 65535
instance (n : Int) : Decidable (okPort n) := inferInstanceAs (Decidable (_ ∧ _))
theorem putS_two {n : Int} (h : okPort n) : putS n 2 = (mkB (two n), 0) := by
  unfold putS okPort at *
  rw [if_neg (by simp only [show (2 : Int).toNat = 2 from rfl]; omega)]; rfl
theorem putS_two_bad {n : Int} (h : ¬ okPort n) : putS n 2 = (mkB [], 1) := by
  unfold putS okPort at *
  rw [if_pos (by simp only [show (2 : Int).toNat = 2 from rfl]; omega)]
theorem two_length (n : Int) : (two n).length = 2 := enc_length _ _
def udpS (a b : Int) (s : ByteArray) : ByteArray × Int :=
  if okPort a ∧ okPort b ∧ s.size ≤ 65527 then (mkB (two a ++ two b ++ two (8 + (s.size : Int)) ++ [0, 0] ++ s.data.toList), 0) else (mkB [], 1)
theorem udp_eq (a b : Int) (s : ByteArray) (hs : s.size ≤ 140737488351232) (k : Nat) (hk : 30 ≤ k) : port_UDP.f k a b s = some (udpS a b s) := by
  unfold port_UDP.f port_ports.f
  rw [put_eq a 2 _ (by omega), Option.bind_some, put_eq b 2 _ (by omega), Option.bind_some]
  have ez : (⟨#[0, 0]⟩ : ByteArray) = mkB [0, 0] := rfl
  have ee : (⟨#[]⟩ : ByteArray) = mkB [] := rfl
  have hw : wrap64 (8 + (s.size : Int)) = 8 + (s.size : Int) := w64 (by omega) (by omega)
  have small : ∀ x y : ByteArray × Int, x.1.size ≤ 2 → y.1.size ≤ 2 → x.1.size + y.1.size ≤ 9223372036854775807 := fun _ _ _ _ => by omega
  have size2 : ∀ n : Int, (putS n 2).1.size ≤ 2 := by
    intro n
    by_cases h : okPort n
    · rw [putS_two h]; simp only [mkB_size, two_length]; omega
    · rw [putS_two_bad h]; simp only [mkB_size, List.length_nil]; omega
  rw [if_pos (small _ _ (size2 a) (size2 b)), Option.bind_some, put_eq _ 2 _ (by omega), Option.bind_some, hw]
  unfold udpS
  by_cases ha : okPort a
  · by_cases hb : okPort b
    · rw [putS_two ha, putS_two hb]
      simp only [show mx 0 0 = 0 from rfl, if_true]
      by_cases hz : s.size ≤ 65527
      · rw [putS_two (n := 8 + (s.size : Int)) (by unfold okPort; omega), if_pos (show okPort a ∧ okPort b ∧ s.size ≤ 65527 from ⟨ha, hb, hz⟩)]
        simp only [if_true, mkB_app, ez]
        have hl : (two a ++ two b).length = 4 := by rw [List.length_append, two_length, two_length]
        have e1 : mkB (two a ++ two b ++ two (8 + (s.size : Int)) ++ [0, 0]) ++ s = mkB (two a ++ two b ++ two (8 + (s.size : Int)) ++ [0, 0] ++ s.data.toList) := by
          conv => lhs; rw [← mkB_eta s]
          rw [mkB_app]; simp [mkB_eta, mkB_size, len]
        rw [if_pos (by rw [mkB_size, mkB_size, hl, two_length]; omega), if_pos (by rw [mkB_size, List.length_append, hl, two_length]; omega), if_pos (by rw [mkB_size, List.length_append, List.length_append, hl, two_length]; simp; omega), e1]
      · have hn : ¬ (okPort a ∧ okPort b ∧ s.size ≤ 65527) := fun h => hz h.2.2
        rw [putS_two_bad (n := 8 + (s.size : Int)) (by unfold okPort; omega), if_neg hn]
        have hm : ¬ ((1 : Int) = 0) := by decide
        rw [if_neg hm]; rfl
    · have hn : ¬ (okPort a ∧ okPort b ∧ s.size ≤ 65527) := fun h => hb h.2.1
      have hm : ¬ ((1 : Int) = 0) := by decide
      rw [putS_two ha, putS_two_bad hb]
      simp only [show mx 0 1 = 1 from rfl]
      rw [if_neg hm, if_neg hn]; rfl
  · have hn : ¬ (okPort a ∧ okPort b ∧ s.size ≤ 65527) := fun h => ha h.1
    have hm : ¬ ((1 : Int) = 0) := by decide
    rw [putS_two_bad ha]
    by_cases hb : okPort b
    · rw [putS_two hb]; simp only [show mx 1 0 = 1 from rfl]; rw [if_neg hm, if_neg hn]; rfl
    · rw [putS_two_bad hb]; simp only [show mx 1 1 = 1 from rfl]; rw [if_neg hm, if_neg hn]; rfl
theorem awake_eq (k : Nat) (hk : 40 ≤ k) : rillmeterlaw08_awake.f k = some true := by
  unfold rillmeterlaw08_awake.f
  rw [udp_eq _ _ _ (by decide) k (by omega), Option.bind_some, port_eq _ _ (by decide +kernel) k (by omega), Option.bind_some]
  decide +kernel
end Go.Proofs.Ytocnbpbbmleahaa.L08
