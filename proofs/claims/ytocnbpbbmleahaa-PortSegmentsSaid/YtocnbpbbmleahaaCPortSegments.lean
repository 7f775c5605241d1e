/- What the printed functions answer, told by plain functions on bytes: octet.Cut and octet.Take. What the printed functions answer, told by plain functions on bytes: octet.Put. What the printed functions of layer 8 (port) answer, told by plain functions on bytes. The reference's UDP of layer 8, told by a plain function on bytes. Layer 8 (port): segments, told by a plain function on bytes: the code's and the reference's. -/
import Derived.Test.YtocnbpbbmleahaaBase
import Derived.Test.YtocnbpbbmleahaaQx1
import Derived.Test.YtocnbpbbmleahaaQx4
import Derived.Test.YtocnbpbbmleahaaQx2
import Derived.Test.YtocnbpbbmleahaaQx9
import Derived.Test.YtocnbpbbmleahaaQx3
import Derived.Test.YtocnbpbbmleahaaQx5
import Derived.Test.YtocnbpbbmleahaaQx11
import Derived.Test.YtocnbpbbmleahaaQx10
import Derived.Test.YtocnbpbbmleahaaQx8
namespace Go.Proofs.Ytocnbpbbmleahaa.L04
open Go Go.RowKit Go.Proofs.Ytocnbpbbmleahaa.Q Go.Proofs.Ytocnbpbbmleahaa.Base Go.Proofs.YtocnbpbbmleahaaW.PrintWords Go.Proofs.YtocnbpbbmleahaaW.PrintMore
set_option linter.unusedVariables false
set_option linter.unusedSimpArgs false
def cutS (s : ByteArray) (b : Int) : ByteArray × ByteArray × Int :=
  if b < 0 then (mkB [], mkB [], 1) else if (s.size : Int) < b then (mkB [], mkB [], 2) else (s.extract 0 b.toNat, s.extract b.toNat s.size, 0)
theorem cut_eq (s : ByteArray) (b : Int) : octet_Cut.f s b = some (cutS s b) := by
  unfold octet_Cut.f cutS
  by_cases h : b < 0
  · rw [if_pos h, if_pos h]; rfl
  · rw [if_neg h, if_neg h]
    by_cases h1 : (s.size : Int) < b
    · rw [if_pos h1, if_pos h1]; rfl
    · rw [if_neg h1, if_neg h1, if_pos (by omega), if_pos (by omega)]
theorem take_loop (s rest : ByteArray) (hs : s.size ≤ 7) (d : Nat) : ∀ (k : Nat) (i n : Nat), i + d = s.size → n = num (s.data.toList.take i) → d < k →
    octet_Take.l0 k s rest (n : Int) (s.size : Int) (i : Int) = some ((num s.data.toList : Int), rest, 0) := by
  induction d with
  | zero =>
    intro k i n hi hn hk
    obtain ⟨k, rfl⟩ : ∃ m, k = m + 1 := ⟨k - 1, by omega⟩
    simp only [octet_Take.l0]
    rw [if_neg (by omega), hn, List.take_of_length_le (by rw [len]; omega)]
  | succ d ih =>
    intro k i n hi hn hk
    obtain ⟨k, rfl⟩ : ∃ m, k = m + 1 := ⟨k - 1, by omega⟩
    have hlt : i < s.data.toList.length := by rw [len]; omega
    have hb : bt s (i : Int) = ((s.data.toList[i]).toNat : Int) := bt_get s i hlt
    have hbl : (s.data.toList[i]).toNat < 256 := UInt8.toNat_lt _
    have hnl : n < 256 ^ 6 := by
      rw [hn]
      refine Nat.lt_of_lt_of_le (num_lt _) (Nat.pow_le_pow_right (by omega) ?_)
      rw [List.length_take]; omega
    have hstep : num (s.data.toList.take (i + 1)) = n * 256 + (s.data.toList[i]).toNat := by
      rw [List.take_succ_eq_append_getElem hlt, num_snoc, hn]
    simp only [octet_Take.l0]
    rw [if_pos (by omega), if_pos (by omega), if_pos (by omega)]
    have e1 : Go.bits .or .i64 (wrap64 ((n : Int) * 256)) (wrap64 (bt s (i : Int))) = ((num (s.data.toList.take (i + 1)) : Nat) : Int) := by
      rw [w64 (by omega) (by omega), hb, w64 (by omega) (by omega), or_join _ _ (by omega) (by omega) (by omega) (by omega), hstep]
      omega
    have e2 : wrap64 ((i : Int) + 1) = ((i + 1 : Nat) : Int) := by rw [w64 (by omega) (by omega)]; omega
    rw [e1, e2]
    exact ih k (i + 1) _ (by omega) rfl (by omega)
def takeS (s : ByteArray) (b : Int) : Int × ByteArray × Int :=
  if b < 1 ∨ 7 < b then (0, mkB [], 1) else if (s.size : Int) < b then (0, mkB [], 2)
  else ((num (s.data.toList.take b.toNat) : Int), s.extract b.toNat s.size, 0)
theorem take_eq (s : ByteArray) (b : Int) (k : Nat) (hk : 10 ≤ k) : octet_Take.f k s b = some (takeS s b) := by
  obtain ⟨k, rfl⟩ : ∃ m, k = m + 1 := ⟨k - 1, by omega⟩
  unfold octet_Take.f takeS
  by_cases h : b < 1
  · rw [if_pos h, if_pos (.inl h)]; simp only [octet_Take.j0, if_true]; rfl
  · rw [if_neg h]
    by_cases h7 : b > 7
    · rw [if_pos (.inr h7), decide_eq_true h7]; simp only [octet_Take.j0, if_true]; rfl
    · have h8 : ¬ (b < 1 ∨ 7 < b) := by omega
      have h9 : ¬ b < 0 := by omega
      rw [if_neg h8, decide_eq_false h7]; simp only [octet_Take.j0, Bool.false_eq_true, if_false]; rw [cut_eq]
      unfold cutS
      rw [if_neg h9]
      by_cases h1 : (s.size : Int) < b
      · rw [if_pos h1, if_pos h1]; rfl
      · rw [if_neg h1, if_neg h1]; simp only [Option.bind_some, if_true]
        have hz : (s.extract 0 b.toNat).size = b.toNat := by rw [ByteArray.size_extract]; omega
        have := take_loop (s.extract 0 b.toNat) (s.extract b.toNat s.size) (by omega) b.toNat k 0 0 (by omega) (by simp [num]) (by omega)
        rw [hz] at this ⊢
        rw [show ((0 : Nat) : Int) = 0 from rfl] at this
        rw [this]
        have e : (s.extract 0 b.toNat).data.toList = s.data.toList.take b.toNat := by
          have := mkB_extract s.data.toList 0 b.toNat
          rw [mkB_eta] at this
          rw [this, mkB_data]; simp
        rw [e]
end Go.Proofs.Ytocnbpbbmleahaa.L04
namespace Go.Proofs.Ytocnbpbbmleahaa.L04
open Go Go.RowKit Go.Proofs.Ytocnbpbbmleahaa.Q Go.Proofs.Ytocnbpbbmleahaa.Base Go.Proofs.YtocnbpbbmleahaaW.PrintWords Go.Proofs.YtocnbpbbmleahaaW.PrintMore
set_option linter.unusedVariables false
set_option linter.unusedSimpArgs false
theorem shr_at (a y : Int) (h0 : 0 ≤ y) (h1 : y ≤ 64) : shr .i64 a y = a / 2 ^ y.toNat := by
  unfold shr
  rw [Nat.min_eq_left (by show y.toNat ≤ 64; omega)]
/-- The digits of a number, from the i-th on. -/
def digs (n b : Nat) : Nat → Nat → List Nat
  | _, 0 => []
  | i, d + 1 => (n / 2 ^ (8 * (b - 1 - i)) % 256) :: digs n b (i + 1) d
theorem put_loop (a : Nat) (b : Nat) (hb : b ≤ 7) (d : Nat) : ∀ (k : Nat) (i : Nat) (xs : List Int), i + d = b → xs.length = b → d < k →
    octet_Put.l0 k (a : Int) (b : Int) xs (b : Int) (i : Int) = some (strOfNums (xs.take i ++ (digs a b i d).map fun n : Nat => (n : Int)), 0) := by
  induction d with
  | zero =>
    intro k i xs hi hx hk
    obtain ⟨k, rfl⟩ : ∃ m, k = m + 1 := ⟨k - 1, by omega⟩
    simp only [octet_Put.l0]
    rw [if_neg (by omega)]
    simp [digs, List.take_of_length_le (show xs.length ≤ i by omega)]
  | succ d ih =>
    intro k i xs hi hx hk
    obtain ⟨k, rfl⟩ : ∃ m, k = m + 1 := ⟨k - 1, by omega⟩
    simp only [octet_Put.l0]
    have e0 : wrap64 (8 * wrap64 (wrap64 ((b : Int) - 1) - (i : Int))) = ((8 * (b - 1 - i) : Nat) : Int) := by
      rw [w64 (n := (b : Int) - 1) (by omega) (by omega), w64 (n := (b : Int) - 1 - i) (by omega) (by omega), w64 (by omega) (by omega)]
      omega
    rw [e0, if_pos (by omega), if_pos (by omega), if_pos (by omega), if_pos (by omega), shr_at _ _ (by omega) (by omega)]
    have e2 : wrap64 ((i : Int) + 1) = ((i + 1 : Nat) : Int) := by rw [w64 (by omega) (by omega)]; omega
    rw [e2, ih k (i + 1) _ (by omega) (by simp [hx]) (by omega)]
    have e3 : ((a : Int) / 2 ^ ((8 * (b - 1 - i) : Nat) : Int).toNat % 256) = ((a / 2 ^ (8 * (b - 1 - i)) % 256 : Nat) : Int) := by
      rw [Int.toNat_natCast]; simp
    have e4 : ((i : Int)).toNat = i := by omega
    rw [e3, e4]
    congr 3
    rw [List.take_succ_eq_append_getElem (by simp; omega), List.getElem_set_self, List.take_set_of_le (Nat.le_refl _)]
    simp [digs]
theorem digs_enc (n b : Nat) (hb : b ≤ 7) : strOfNums ((digs n b 0 b).map fun n : Nat => (n : Int)) = mkB (enc n b) := by
  rw [nums_nat]
  congr 1
  have h : b = 0 ∨ b = 1 ∨ b = 2 ∨ b = 3 ∨ b = 4 ∨ b = 5 ∨ b = 6 ∨ b = 7 := by omega
  have key : ∀ m : Nat, (UInt8.ofNat (m % 256) = UInt8.ofNat m) := by
    intro m; apply UInt8.toNat_inj.1; simp
  rcases h with rfl | rfl | rfl | rfl | rfl | rfl | rfl | rfl <;> simp [digs, enc, Nat.div_div_eq_div_mul, key]
def putS (a b : Int) : ByteArray × Int :=
  if b < 1 ∨ 7 < b ∨ a < 0 ∨ (256 ^ b.toNat : Int) ≤ a then (mkB [], 1) else (mkB (enc a.toNat b.toNat), 0)
theorem pow8 (b : Nat) : (2 : Int) ^ (8 * b) = 256 ^ b := by
  rw [Int.pow_mul]; rfl
theorem put_eq (a b : Int) (k : Nat) (hk : 12 ≤ k) : octet_Put.f k a b = some (putS a b) := by
  obtain ⟨k, rfl⟩ : ∃ m, k = m + 1 := ⟨k - 1, by omega⟩
  unfold octet_Put.f putS
  by_cases h1 : b < 1
  · rw [if_pos h1, if_pos (.inl h1)]; simp only [octet_Put.j0, if_true]; rfl
  rw [if_neg h1]
  by_cases h7 : b > 7
  · rw [if_pos h7, if_pos (.inr (.inl h7))]; simp only [octet_Put.j0, if_true]; rfl
  rw [if_neg h7]
  by_cases h0 : a < 0
  · rw [if_pos h0, if_pos (.inr (.inr (.inl h0)))]; simp only [octet_Put.j0, if_true]; rfl
  rw [if_neg h0]
  obtain ⟨B, rfl⟩ := Int.eq_ofNat_of_zero_le (show 0 ≤ b by omega)
  obtain ⟨n, rfl⟩ := Int.eq_ofNat_of_zero_le (show 0 ≤ a by omega)
  have e0 : wrap64 (8 * (B : Int)) = ((8 * B : Nat) : Int) := by rw [w64 (by omega) (by omega)]; omega
  rw [e0, if_pos (by omega), shr_at _ _ (by omega) (by omega)]
  have e1 : (2 : Int) ^ ((8 * B : Nat) : Int).toNat = 256 ^ B := by rw [← pow8]; rfl
  have e2 : ((B : Int)).toNat = B := rfl
  have hp : (0 : Int) < 256 ^ B := Int.pow_pos (by omega)
  rw [e1, e2]
  by_cases hg : (256 ^ B : Int) ≤ (n : Int)
  · rw [if_pos (.inr (.inr (.inr hg)))]
    simp only [octet_Put.j0]
    have : (n : Int) / 256 ^ B ≠ 0 := by
      intro h
      have h2 := Int.mul_ediv_add_emod (n : Int) (256 ^ B)
      have h3 := Int.emod_lt_of_pos (n : Int) hp
      rw [h, Int.mul_zero] at h2
      omega
    rw [if_pos (by simpa using this)]; rfl
  · rw [if_neg (by omega)]
    simp only [octet_Put.j0]
    have hz : (n : Int) / 256 ^ B = 0 := Int.ediv_eq_zero_of_lt (by omega) (by omega)
    rw [hz, if_neg (by simp), if_pos (by omega), if_pos (by omega)]
    simp only [Option.bind_some, List.length_replicate, e2]
    have := put_loop n B (by omega) B k 0 (List.replicate B 0) (by omega) (by simp) (by omega)
    rw [show ((0 : Nat) : Int) = 0 from rfl] at this
    rw [this, List.take_zero, List.nil_append, digs_enc n B (by omega)]
    rfl
end Go.Proofs.Ytocnbpbbmleahaa.L04
namespace Go.Proofs.Ytocnbpbbmleahaa.L08
open Go Go.RowKit Go.Proofs.Ytocnbpbbmleahaa.Q Go.Proofs.Ytocnbpbbmleahaa.Base Go.Proofs.Ytocnbpbbmleahaa.L04 Go.Proofs.YtocnbpbbmleahaaW.PrintWords Go.Proofs.YtocnbpbbmleahaaW.PrintMore
set_option linter.unusedVariables false
set_option linter.unusedSimpArgs false
/-- The number of the bytes from i to j. -/
def at_ (s : ByteArray) (i j : Nat) : Nat := num ((s.data.toList.drop i).take (j - i))
theorem extract_list (s : ByteArray) (a b : Nat) : (s.extract a b).data.toList = (s.data.toList.drop a).take (b - a) := by
  have := mkB_extract s.data.toList a b
  rw [mkB_eta] at this
  rw [this, mkB_data]
theorem ptake_eq (s : ByteArray) (i : Nat) (hi : i + 2 ≤ s.size) (k : Nat) (hk : 10 ≤ k) : port_take.f k s (i : Int) = some ((at_ s i (i + 2) : Nat) : Int) := by
  unfold port_take.f
  rw [if_pos (by omega), if_pos (by omega), take_eq _ _ _ hk, Option.bind_some]
  have hz : (s.extract (i : Int).toNat s.size).size = s.size - i := by rw [ByteArray.size_extract]; omega
  unfold takeS
  rw [if_neg (by omega), if_neg (by omega)]
  simp only [extract_list, Int.toNat_natCast]
  congr 2
  unfold at_
  rw [List.take_take]
  have e : min ((2 : Int).toNat) (s.size - i) = i + 2 - i := by rw [show (2 : Int).toNat = 2 from rfl]; omega
  rw [e]
def bad : Int × Int × ByteArray × Int := (0, 0, mkB [], 16)
/-- Both ports, the body, the error's number. -/
def portS (p : Int) (s : ByteArray) : Int × Int × ByteArray × Int :=
  if p = 6 then
    (if s.size < 20 then bad else if 4 * (bt s 12 / 16) < 20 ∨ (s.size : Int) < 4 * (bt s 12 / 16) then bad
     else ((at_ s 0 2 : Nat), (at_ s 2 4 : Nat), s.extract (4 * (bt s 12 / 16)).toNat s.size, 0))
  else if p = 17 then
    (if s.size < 8 then bad else if at_ s 4 6 < 8 ∨ s.size < at_ s 4 6 then bad
     else ((at_ s 0 2 : Nat), (at_ s 2 4 : Nat), s.extract 8 (at_ s 4 6), 0))
  else (0, 0, mkB [], 8)
theorem take_end (s : ByteArray) (hs : s.size ≤ 140737488351232) (a e : Int) (ha : 0 ≤ a) (hae : a ≤ e) (he : e ≤ s.size) (h4 : 4 ≤ s.size) (k : Nat) (hk : 20 ≤ k) :
    port_Take.j1 k s a e false = some (((at_ s 0 2 : Nat) : Int), ((at_ s 2 4 : Nat) : Int), s.extract a.toNat e.toNat, (0 : Int)) := by
  obtain ⟨k, rfl⟩ : ∃ m, k = m + 1 := ⟨k - 1, by omega⟩
  simp only [port_Take.j1, Bool.false_eq_true, if_false]
  have e0 := ptake_eq s 0 (by omega) k (by omega)
  have e2 := ptake_eq s 2 (by omega) k (by omega)
  rw [show ((0 : Nat) : Int) = 0 from rfl] at e0
  rw [show ((2 : Nat) : Int) = 2 from rfl] at e2
  rw [e0, Option.bind_some, e2, Option.bind_some, if_pos ha, if_pos hae, if_pos he]
theorem take_bad (s : ByteArray) (a e : Int) (k : Nat) (hk : 1 ≤ k) : port_Take.j1 k s a e true = some bad := by
  obtain ⟨k, rfl⟩ : ∃ m, k = m + 1 := ⟨k - 1, by omega⟩
  simp only [port_Take.j1, if_true]; rfl
theorem port_eq (p : Int) (s : ByteArray) (hs : s.size ≤ 140737488351232) (k : Nat) (hk : 30 ≤ k) : port_Take.f k p s = some (portS p s) := by
  have hb := bt_range s 12
  obtain ⟨k, rfl⟩ : ∃ m, k = m + 1 := ⟨k - 1, by omega⟩
  unfold port_Take.f portS
  by_cases h6 : p = 6
  · rw [if_pos h6, if_pos h6]
    by_cases h12 : (s.size : Int) > 12
    · rw [if_pos h12, if_pos (by omega)]
      have ew : wrap64 (4 * wrap64 (bt s 12 / 16)) = 4 * (bt s 12 / 16) := by
        rw [w64 (n := bt s 12 / 16) (by omega) (by omega), w64 (by omega) (by omega)]
      rw [ew]
      generalize hq : 4 * (bt s 12 / 16) = q
      have hq0 : 0 ≤ q ∧ q ≤ 60 := by omega
      simp only [port_Take.j0]
      by_cases h20 : s.size < 20
      · rw [if_pos (by omega), if_pos h20, take_bad _ _ _ _ (by omega)]
      · rw [if_neg (by omega), if_neg h20]
        by_cases hq20 : q < 20
        · rw [if_pos hq20, if_pos (.inl hq20), take_bad _ _ _ _ (by omega)]
        · rw [if_neg hq20]
          by_cases hqs : q > (s.size : Int)
          · rw [if_pos hqs, if_pos (.inr (by omega)), take_bad _ _ _ _ (by omega)]
          · rw [if_neg hqs, if_neg (by omega), decide_eq_false (by omega), take_end s hs _ _ (by omega) (by omega) (by omega) (by omega) _ (by omega)]
            rfl
    · rw [if_neg h12, if_pos (by omega)]
      simp only [port_Take.j0]
      rw [if_pos (by omega), take_bad _ _ _ _ (by omega)]
  · rw [if_neg h6, if_neg h6]
    by_cases h17 : p = 17
    · rw [if_pos h17, if_pos h17]
      by_cases h5 : (s.size : Int) > 5
      · have e4 := ptake_eq s 4 (by omega) (k + 1) (by omega)
        rw [show ((4 : Nat) : Int) = 4 from rfl] at e4
        rw [if_pos h5, e4, Option.bind_some]
        generalize at_ s 4 (4 + 2) = q
        simp only [port_Take.j0]
        by_cases h8 : s.size < 8
        · rw [if_pos (by omega), if_pos h8, take_bad _ _ _ _ (by omega)]
        · rw [if_neg (by omega), if_neg (by omega), if_neg h8]
          by_cases hq8 : q < 8
          · rw [if_pos (by omega), if_pos (.inl hq8), take_bad _ _ _ _ (by omega)]
          · rw [if_neg (by omega)]
            by_cases hqs : s.size < q
            · rw [decide_eq_true (by omega), if_pos (.inr hqs), take_bad _ _ _ _ (by omega)]
            · rw [decide_eq_false (by omega), if_neg (by omega), take_end s hs _ _ (by omega) (by omega) (by omega) (by omega) _ (by omega)]
              rfl
      · rw [if_neg h5, if_pos (by omega)]
        simp only [port_Take.j0]
        rw [if_pos (by omega), take_bad _ _ _ _ (by omega)]
    · rw [if_neg h17, if_neg h17]; rfl
def two (n : Int) : List UInt8 := enc n.toNat 2
def okPort (n : Int) : Prop := 0 ≤ n ∧ n ≤ 65535
instance (n : Int) : Decidable (okPort n) := inferInstanceAs (Decidable (_ ∧ _))
theorem putS_two {n : Int} (h : okPort n) : putS n 2 = (mkB (two n), 0) := by
  unfold putS okPort at *
  rw [if_neg (by simp only [show (2 : Int).toNat = 2 from rfl]; omega)]; rfl
theorem putS_two_bad {n : Int} (h : ¬ okPort n) : putS n 2 = (mkB [], 1) := by
  unfold putS okPort at *
  rw [if_pos (by simp only [show (2 : Int).toNat = 2 from rfl]; omega)]
theorem two_length (n : Int) : (two n).length = 2 := enc_length _ _
def udpS (a b : Int) (s : ByteArray) : ByteArray × Int :=
  if okPort a ∧ okPort b ∧ s.size ≤ 65527 then (mkB (two a ++ two b ++ two (8 + (s.size : Int)) ++ [0, 0] ++ s.data.toList), 0) else (mkB [], 1)
theorem udp_eq (a b : Int) (s : ByteArray) (hs : s.size ≤ 140737488351232) (k : Nat) (hk : 30 ≤ k) : port_UDP.f k a b s = some (udpS a b s) := by
  unfold port_UDP.f port_ports.f
  rw [put_eq a 2 _ (by omega), Option.bind_some, put_eq b 2 _ (by omega), Option.bind_some]
  have ez : (⟨#[0, 0]⟩ : ByteArray) = mkB [0, 0] := rfl
  have ee : (⟨#[]⟩ : ByteArray) = mkB [] := rfl
  have hw : wrap64 (8 + (s.size : Int)) = 8 + (s.size : Int) := w64 (by omega) (by omega)
  have small : ∀ x y : ByteArray × Int, x.1.size ≤ 2 → y.1.size ≤ 2 → x.1.size + y.1.size ≤ 9223372036854775807 := fun _ _ _ _ => by omega
  have size2 : ∀ n : Int, (putS n 2).1.size ≤ 2 := by
    intro n
    by_cases h : okPort n
    · rw [putS_two h]; simp only [mkB_size, two_length]; omega
    · rw [putS_two_bad h]; simp only [mkB_size, List.length_nil]; omega
  rw [if_pos (small _ _ (size2 a) (size2 b)), Option.bind_some, put_eq _ 2 _ (by omega), Option.bind_some, hw]
  unfold udpS
  by_cases ha : okPort a
  · by_cases hb : okPort b
    · rw [putS_two ha, putS_two hb]
      simp only [show mx 0 0 = 0 from rfl, if_true]
      by_cases hz : s.size ≤ 65527
      · rw [putS_two (n := 8 + (s.size : Int)) (by unfold okPort; omega), if_pos (show okPort a ∧ okPort b ∧ s.size ≤ 65527 from ⟨ha, hb, hz⟩)]
        simp only [if_true, mkB_app, ez]
        have hl : (two a ++ two b).length = 4 := by rw [List.length_append, two_length, two_length]
        have e1 : mkB (two a ++ two b ++ two (8 + (s.size : Int)) ++ [0, 0]) ++ s = mkB (two a ++ two b ++ two (8 + (s.size : Int)) ++ [0, 0] ++ s.data.toList) := by
          conv => lhs; rw [← mkB_eta s]
          rw [mkB_app]; simp [mkB_eta, mkB_size, len]
        rw [if_pos (by rw [mkB_size, mkB_size, hl, two_length]; omega), if_pos (by rw [mkB_size, List.length_append, hl, two_length]; omega), if_pos (by rw [mkB_size, List.length_append, List.length_append, hl, two_length]; simp; omega), e1]
      · have hn : ¬ (okPort a ∧ okPort b ∧ s.size ≤ 65527) := fun h => hz h.2.2
        rw [putS_two_bad (n := 8 + (s.size : Int)) (by unfold okPort; omega), if_neg hn]
        have hm : ¬ ((1 : Int) = 0) := by decide
        rw [if_neg hm]; rfl
    · have hn : ¬ (okPort a ∧ okPort b ∧ s.size ≤ 65527) := fun h => hb h.2.1
      have hm : ¬ ((1 : Int) = 0) := by decide
      rw [putS_two ha, putS_two_bad hb]
      simp only [show mx 0 1 = 1 from rfl]
      rw [if_neg hm, if_neg hn]; rfl
  · have hn : ¬ (okPort a ∧ okPort b ∧ s.size ≤ 65527) := fun h => ha h.1
    have hm : ¬ ((1 : Int) = 0) := by decide
    rw [putS_two_bad ha]
    by_cases hb : okPort b
    · rw [putS_two hb]; simp only [show mx 1 0 = 1 from rfl]; rw [if_neg hm, if_neg hn]; rfl
    · rw [putS_two_bad hb]; simp only [show mx 1 1 = 1 from rfl]; rw [if_neg hm, if_neg hn]; rfl
theorem awake_eq (k : Nat) (hk : 40 ≤ k) : rillmeterlaw08_awake.f k = some true := by
  unfold rillmeterlaw08_awake.f
  rw [udp_eq _ _ _ (by decide) k (by omega), Option.bind_some, port_eq _ _ (by decide +kernel) k (by omega), Option.bind_some]
  decide +kernel
end Go.Proofs.Ytocnbpbbmleahaa.L08
namespace Go.Proofs.Ytocnbpbbmleahaa.L08
open Go Go.RowKit Go.Proofs.Ytocnbpbbmleahaa.Q Go.Proofs.Ytocnbpbbmleahaa.Base Go.Proofs.Ytocnbpbbmleahaa.L04 Go.Proofs.YtocnbpbbmleahaaW.PrintWords Go.Proofs.YtocnbpbbmleahaaW.PrintMore
set_option linter.unusedVariables false
set_option linter.unusedSimpArgs false
theorem reftwo_eq (n : Int) (h : okPort n) : rillmeterref08_two.f n = some (mkB (two n)) := by
  unfold rillmeterref08_two.f two okPort at *
  obtain ⟨m, rfl⟩ := Int.eq_ofNat_of_zero_le h.1
  have hw : wrap64 (Int.tdiv (m : Int) 256) = ((m / 256 : Nat) : Int) := by
    rw [Int.tdiv_eq_ediv_of_nonneg (by omega), w64 (by omega) (by omega)]; omega
  have ht : Int.tmod (m : Int) 256 = ((m % 256 : Nat) : Int) := by rw [Int.tmod_eq_emod_of_nonneg (by omega)]; omega
  have e1 : ((m / 256 : Nat) : Int) % 256 = ((m / 256 % 256 : Nat) : Int) := by omega
  have e2 : ((m % 256 : Nat) : Int) % 256 = ((m % 256 % 256 : Nat) : Int) := by omega
  rw [hw, ht, e1, e2]
  have := nums_nat [m / 256 % 256, m % 256 % 256]
  simp only [List.map_cons, List.map_nil] at this
  rw [this]
  congr 2
  simp only [Int.toNat_natCast, enc, List.nil_append, List.singleton_append]
  have k1 : UInt8.ofNat (m / 256 % 256) = UInt8.ofNat (m / 256) := by apply UInt8.toNat_inj.1; simp
  have k2 : UInt8.ofNat (m % 256 % 256) = UInt8.ofNat m := by apply UInt8.toNat_inj.1; simp
  rw [k1, k2]
theorem refport_ok (n : Int) : rillmeterref08_port.f n = some (decide (okPort n)) := by
  unfold rillmeterref08_port.f
  by_cases h : n ≥ 0
  · rw [if_pos h]
    by_cases h1 : n < 65536
    · rw [decide_eq_true h1, decide_eq_true (show okPort n from ⟨h, by omega⟩)]
    · rw [decide_eq_false h1, decide_eq_false (show ¬ okPort n from fun h2 => h1 (by have := h2.2; omega))]
  · rw [if_neg h, decide_eq_false (show ¬ okPort n from fun h2 => h h2.1)]
end Go.Proofs.Ytocnbpbbmleahaa.L08
namespace Go.Proofs.Ytocnbpbbmleahaa.L08
open Go Go.RowKit Go.Proofs.Ytocnbpbbmleahaa.Q Go.Proofs.Ytocnbpbbmleahaa.Base Go.Proofs.Ytocnbpbbmleahaa.L04 Go.Proofs.YtocnbpbbmleahaaW.PrintWords Go.Proofs.YtocnbpbbmleahaaW.PrintMore
set_option linter.unusedVariables false
set_option linter.unusedSimpArgs false
theorem repeat8 : strings_Repeat.f ⟨#[0]⟩ 8 = some (mkB [0, 0, 0, 0, 0, 0, 0, 0]) := by decide +kernel
theorem repeat7 : strings_Repeat.f ⟨#[0]⟩ 7 = some (mkB [0, 0, 0, 0, 0, 0, 0]) := by decide +kernel
def okT (a b : Int) (o : ByteArray) : Prop := okPort a ∧ okPort b ∧ o.size ≤ 40 ∧ o.size % 4 = 0
instance (a b : Int) (o : ByteArray) : Decidable (okT a b o) := inferInstanceAs (Decidable (_ ∧ _))
def tcpL (a b : Int) (o s : ByteArray) : List UInt8 :=
  two a ++ two b ++ [0, 0, 0, 0, 0, 0, 0, 0] ++ [UInt8.ofNat (4 * (20 + o.size))] ++ [0, 0, 0, 0, 0, 0, 0] ++ o.data.toList ++ s.data.toList
def tcpS (a b : Int) (o s : ByteArray) : ByteArray × Int := if okT a b o then (mkB (tcpL a b o s), 0) else (mkB [], 1)
theorem app_mkB8 (l : List UInt8) (y : ByteArray) : mkB l ++ y = mkB (l ++ y.data.toList) := by
  conv => lhs; rw [← mkB_eta y]
  rw [mkB_app]
theorem tcp_no (k : Nat) (o s x : ByteArray) : port_TCP.j0 (k + 1) o s x true = some (mkB [], 1) := by simp only [port_TCP.j0, if_true]; rfl
theorem tcp_eq (a b : Int) (o s : ByteArray) (hs : s.size ≤ 140737488351232) (k : Nat) (hk : 30 ≤ k) : port_TCP.f k a b o s = some (tcpS a b o s) := by
  obtain ⟨k, rfl⟩ : ∃ m, k = m + 1 := ⟨k - 1, by omega⟩
  unfold port_TCP.f port_ports.f tcpS
  have size2 : ∀ n : Int, (putS n 2).1.size ≤ 2 := by
    intro n
    by_cases h : okPort n
    · rw [putS_two h]; simp only [mkB_size, two_length]; omega
    · rw [putS_two_bad h]; simp only [mkB_size, List.length_nil]; omega
  have small : ∀ x y : ByteArray × Int, x.1.size ≤ 2 → y.1.size ≤ 2 → x.1.size + y.1.size ≤ 9223372036854775807 := fun _ _ _ _ => by omega
  rw [put_eq a 2 _ (by omega), Option.bind_some, put_eq b 2 _ (by omega), Option.bind_some, if_pos (small _ _ (size2 a) (size2 b)), Option.bind_some]
  by_cases ha : okPort a
  case neg =>
    have hm : ¬ (mx (putS a 2).2 (putS b 2).2 = 0) := by
      rw [putS_two_bad ha]
      by_cases hb : okPort b
      · rw [putS_two hb]; show ¬ (mx 1 0 = 0); decide
      · rw [putS_two_bad hb]; show ¬ (mx 1 1 = 0); decide
    rw [if_neg hm, tcp_no, if_neg (fun h : okT a b o => ha h.1)]
  by_cases hb : okPort b
  case neg =>
    have hm : ¬ (mx (putS a 2).2 (putS b 2).2 = 0) := by
      rw [putS_two ha, putS_two_bad hb]; show ¬ (mx 0 1 = 0); decide
    rw [if_neg hm, tcp_no, if_neg (fun h : okT a b o => hb h.2.1)]
  rw [putS_two ha, putS_two hb]
  dsimp only
  rw [if_pos (by decide)]
  by_cases c1 : o.size ≤ 40
  case neg => rw [if_pos (by omega), tcp_no, if_neg (fun h : okT a b o => c1 h.2.2.1)]
  rw [if_neg (by omega)]
  by_cases c2 : o.size % 4 = 0
  case neg => rw [show ((o.size : Int) % 4 != 0) = true by rw [bne_iff_ne]; omega, tcp_no, if_neg (fun h : okT a b o => c2 h.2.2.2)]
  rw [show ((o.size : Int) % 4 != 0) = false by rw [bne_eq_false_iff_eq]; omega, if_pos ⟨ha, hb, c1, c2⟩]
  have e1 : wrap64 (wrap64 (Int.tdiv (wrap64 (20 + (o.size : Int))) 4) * 16) % 256 = ((4 * (20 + o.size) : Nat) : Int) := by
    rw [w64 (n := 20 + (o.size : Int)) (by omega) (by omega), Int.tdiv_eq_ediv_of_nonneg (by omega), w64 (n := (20 + (o.size : Int)) / 4) (by omega) (by omega), w64 (by omega) (by omega)]
    omega
  have e2 : strOfNums ([((4 * (20 + o.size) : Nat) : Int)] : List Int) = mkB [UInt8.ofNat (4 * (20 + o.size))] := by rw [nums_mkB]; rfl
  simp only [port_TCP.j0]
  rw [if_neg (by decide), repeat8, Option.bind_some, mkB_app, e1]
  clear e1
  rw [if_pos (by simp only [mkB_size, List.length_append, two_length, List.length_cons, List.length_nil]; omega), mkB_app, Option.bind_some, e2, if_pos (by simp only [mkB_size, List.length_append, two_length, List.length_cons, List.length_nil]; omega), mkB_app, repeat7, Option.bind_some,
    if_pos (by simp only [mkB_size, List.length_append, two_length, List.length_cons, List.length_nil]; omega), mkB_app, if_pos (by simp only [mkB_size, List.length_append, two_length, List.length_cons, List.length_nil]; omega), app_mkB8,
    if_pos (by simp only [mkB_size, List.length_append, two_length, List.length_cons, List.length_nil, len]; omega), app_mkB8]
  rfl
theorem reftcp_no (k : Nat) (a b : Int) (o s : ByteArray) (n : Int) : rillmeterref08_TCP.j0 (k + 1) a b o s n true = some (mkB [], false) := by simp only [rillmeterref08_TCP.j0, if_true]; rfl
theorem reftcp_eq (a b : Int) (o s : ByteArray) (hs : s.size ≤ 140737488351232) (k : Nat) (hk : 30 ≤ k) : rillmeterref08_TCP.f k a b o s = some ((tcpS a b o s).1, decide ((tcpS a b o s).2 = 0)) := by
  obtain ⟨k, rfl⟩ : ∃ m, k = m + 1 := ⟨k - 1, by omega⟩
  have no : ¬ okT a b o → rillmeterref08_TCP.j0 (k + 1) a b o s (o.size : Int) true = some ((tcpS a b o s).1, decide ((tcpS a b o s).2 = 0)) := by
    intro h
    unfold tcpS
    rw [if_neg h, reftcp_no]; rfl
  unfold rillmeterref08_TCP.f
  rw [refport_ok, Option.bind_some]
  by_cases ha : okPort a
  case neg => rw [decide_eq_false ha, if_neg (by decide), no (fun h : okT a b o => ha h.1)]
  rw [decide_eq_true ha, if_pos rfl, refport_ok, Option.bind_some]
  by_cases hb : okPort b
  case neg => rw [decide_eq_false hb, if_neg (by decide), no (fun h : okT a b o => hb h.2.1)]
  rw [decide_eq_true hb, if_pos rfl]
  by_cases c1 : o.size ≤ 40
  case neg => rw [if_pos (by omega), no (fun h : okT a b o => c1 h.2.2.1)]
  rw [if_neg (by omega)]
  by_cases c2 : o.size % 4 = 0
  case neg => rw [decide_eq_true (by omega), no (fun h : okT a b o => c2 h.2.2.2)]
  have e1 : wrap64 (4 * wrap64 (20 + (o.size : Int))) % 256 = ((4 * (20 + o.size) : Nat) : Int) := by
    rw [w64 (n := 20 + (o.size : Int)) (by omega) (by omega), w64 (by omega) (by omega)]; omega
  have e2 : strOfNums ([((4 * (20 + o.size) : Nat) : Int)] : List Int) = mkB [UInt8.ofNat (4 * (20 + o.size))] := by rw [nums_mkB]; rfl
  have y1 : strOfNums (List.replicate 8 0 : List Int) = mkB [0, 0, 0, 0, 0, 0, 0, 0] := by rw [nums_mkB]; rfl
  have y2 : (mkB [0, 0, 0, 0, 0, 0, 0, 0]).extract 0 7 = mkB [0, 0, 0, 0, 0, 0, 0] := by rw [mkB_extract]; rfl
  have y3 : ((mkB [0, 0, 0, 0, 0, 0, 0, 0]).size : Int) = 8 := rfl
  rw [decide_eq_false (by omega)]
  unfold tcpS
  rw [if_pos ⟨ha, hb, c1, c2⟩]
  simp only [rillmeterref08_TCP.j0]
  rw [if_neg (by decide), if_pos (by decide), Option.bind_some, y1, reftwo_eq a ha, Option.bind_some, reftwo_eq b hb, Option.bind_some, e1]
  clear e1
  rw [if_pos (by simp only [mkB_size, List.length_append, two_length, List.length_cons, List.length_nil]; omega), mkB_app, if_pos (by simp only [mkB_size, List.length_append, two_length, List.length_cons, List.length_nil]; omega), mkB_app, Option.bind_some, e2,
    if_pos (by simp only [mkB_size, List.length_append, two_length, List.length_cons, List.length_nil]; omega), mkB_app, if_pos (by decide), y3, if_pos (by decide), y2,
    if_pos (by simp only [mkB_size, List.length_append, two_length, List.length_cons, List.length_nil]; omega), mkB_app, if_pos (by simp only [mkB_size, List.length_append, two_length, List.length_cons, List.length_nil]; omega), app_mkB8,
    if_pos (by simp only [mkB_size, List.length_append, two_length, List.length_cons, List.length_nil, len]; omega), app_mkB8]
  rfl
theorem num_two9 (n : Int) (h : okPort n) : ((num (two n) : Nat) : Int) = n := by
  unfold two okPort at *
  rw [num_enc, Nat.mod_eq_of_lt (by simp only [show (256 : Nat) ^ 2 = 65536 from rfl]; omega)]; omega
theorem port_tcp (a b : Int) (o s : ByteArray) (h : okT a b o) : portS 6 (mkB (tcpL a b o s)) = (a, b, s, 0) := by
  obtain ⟨ha, hb, h1, h2⟩ := h
  obtain ⟨a0, a1, ea⟩ : ∃ a0 a1, two a = [a0, a1] := ⟨_, _, rfl⟩
  obtain ⟨b0, b1, eb⟩ : ∃ b0 b1, two b = [b0, b1] := ⟨_, _, rfl⟩
  have na := num_two9 a ha
  have nb := num_two9 b hb
  have hl := len s
  have ho := len o
  have hall : tcpL a b o s = [a0, a1, b0, b1, 0, 0, 0, 0, 0, 0, 0, 0, UInt8.ofNat (4 * (20 + o.size)), 0, 0, 0, 0, 0, 0, 0] ++ (o.data.toList ++ s.data.toList) := by unfold tcpL; rw [ea, eb]; simp
  rw [hall]
  have h12 : bt (mkB ([a0, a1, b0, b1, 0, 0, 0, 0, 0, 0, 0, 0, UInt8.ofNat (4 * (20 + o.size)), 0, 0, 0, 0, 0, 0, 0] ++ (o.data.toList ++ s.data.toList))) 12 = 4 * (20 + (o.size : Int)) := by
    rw [bt_mkB]
    show (((UInt8.ofNat (4 * (20 + o.size))).toNat : Nat) : Int) = _
    rw [ofNat_mod]; omega
  have h02 : ((at_ (mkB ([a0, a1, b0, b1, 0, 0, 0, 0, 0, 0, 0, 0, UInt8.ofNat (4 * (20 + o.size)), 0, 0, 0, 0, 0, 0, 0] ++ (o.data.toList ++ s.data.toList))) 0 2 : Nat) : Int) = a := by rw [← na, ea]; rfl
  have h24 : ((at_ (mkB ([a0, a1, b0, b1, 0, 0, 0, 0, 0, 0, 0, 0, UInt8.ofNat (4 * (20 + o.size)), 0, 0, 0, 0, 0, 0, 0] ++ (o.data.toList ++ s.data.toList))) 2 4 : Nat) : Int) = b := by rw [← nb, eb]; rfl
  have hsz : (mkB ([a0, a1, b0, b1, 0, 0, 0, 0, 0, 0, 0, 0, UInt8.ofNat (4 * (20 + o.size)), 0, 0, 0, 0, 0, 0, 0] ++ (o.data.toList ++ s.data.toList))).size = 20 + (o.size + s.size) := by
    rw [mkB_size, List.length_append, List.length_append, hl, ho]; rfl
  have hx : (mkB ([a0, a1, b0, b1, 0, 0, 0, 0, 0, 0, 0, 0, UInt8.ofNat (4 * (20 + o.size)), 0, 0, 0, 0, 0, 0, 0] ++ (o.data.toList ++ s.data.toList))).extract (20 + o.size) (20 + (o.size + s.size)) = s := by
    rw [mkB_extract, ← List.append_assoc, List.drop_left' (by rw [List.length_append, ho]; rfl), List.take_of_length_le (by omega), mkB_eta]
  unfold portS
  rw [if_pos rfl, hsz, h12, if_neg (by omega)]
  have hq : 4 * (4 * (20 + (o.size : Int)) / 16) = 20 + (o.size : Int) := by omega
  rw [hq, if_neg (by omega), h02, h24, show (20 + (o.size : Int)).toNat = 20 + o.size by omega, hx]
end Go.Proofs.Ytocnbpbbmleahaa.L08
