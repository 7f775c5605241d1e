/- What the printed functions answer, told by plain functions on bytes: octet.Cut and octet.Take. What the printed functions answer, told by plain functions on bytes: octet.Put. Numbers and pieces at places of a text; two bytes of a number. Keys of flows (layer 9), told by plain functions on bytes. Keys of flows (layer 9): the reference's Right and Key, and the flow of a flow's key. -/
import Derived.Test.YtfdhifigndmgaaaBase
import Derived.Test.YtfdhifigndmgaaaQx3
import Derived.Test.YtfdhifigndmgaaaQx7
import Derived.Test.YtfdhifigndmgaaaQx5
import Derived.Test.YtfdhifigndmgaaaQx8
import Derived.Test.YtfdhifigndmgaaaQx2
import Derived.Test.YtfdhifigndmgaaaQx6
import Derived.Test.YtfdhifigndmgaaaQx4
namespace Go.Proofs.Ytfdhifigndmgaaa.L04
open Go Go.RowKit Go.Proofs.Ytfdhifigndmgaaa.Q Go.Proofs.Ytfdhifigndmgaaa.Base Go.Proofs.YtfdhifigndmgaaaW.PrintWords Go.Proofs.YtfdhifigndmgaaaW.PrintMore
set_option linter.unusedVariables false
set_option linter.unusedSimpArgs false
def cutS (s : ByteArray) (b : Int) : ByteArray × ByteArray × Int :=
  if b < 0 then (mkB [], mkB [], 1) else if (s.size : Int) < b then (mkB [], mkB [], 2) else (s.extract 0 b.toNat, s.extract b.toNat s.size, 0)
theorem cut_eq (s : ByteArray) (b : Int) : octet_Cut.f s b = some (cutS s b) := by
  unfold octet_Cut.f cutS
  by_cases h : b < 0
  · rw [if_pos h, if_pos h]; rfl
  · rw [if_neg h, if_neg h]
    by_cases h1 : (s.size : Int) < b
    · rw [if_pos h1, if_pos h1]; rfl
    · rw [if_neg h1, if_neg h1, if_pos (by omega), if_pos (by omega)]
theorem take_loop (s rest : ByteArray) (hs : s.size ≤ 7) (d : Nat) : ∀ (k : Nat) (i n : Nat), i + d = s.size → n = num (s.data.toList.take i) → d < k →
    octet_Take.l0 k s rest (n : Int) (s.size : Int) (i : Int) = some ((num s.data.toList : Int), rest, 0) := by
  induction d with
  | zero =>
    intro k i n hi hn hk
    obtain ⟨k, rfl⟩ : ∃ m, k = m + 1 := ⟨k - 1, by omega⟩
    simp only [octet_Take.l0]
    rw [if_neg (by omega), hn, List.take_of_length_le (by rw [len]; omega)]
  | succ d ih =>
    intro k i n hi hn hk
    obtain ⟨k, rfl⟩ : ∃ m, k = m + 1 := ⟨k - 1, by omega⟩
    have hlt : i < s.data.toList.length := by rw [len]; omega
    have hb : bt s (i : Int) = ((s.data.toList[i]).toNat : Int) := bt_get s i hlt
    have hbl : (s.data.toList[i]).toNat < 256 := UInt8.toNat_lt _
    have hnl : n < 256 ^ 6 := by
      rw [hn]
      refine Nat.lt_of_lt_of_le (num_lt _) (Nat.pow_le_pow_right (by omega) ?_)
      rw [List.length_take]; omega
    have hstep : num (s.data.toList.take (i + 1)) = n * 256 + (s.data.toList[i]).toNat := by
      rw [List.take_succ_eq_append_getElem hlt, num_snoc, hn]
    simp only [octet_Take.l0]
    rw [if_pos (by omega), if_pos (by omega), if_pos (by omega)]
    have e1 : Go.bits .or .i64 (wrap64 ((n : Int) * 256)) (wrap64 (bt s (i : Int))) = ((num (s.data.toList.take (i + 1)) : Nat) : Int) := by
      rw [w64 (by omega) (by omega), hb, w64 (by omega) (by omega), or_join _ _ (by omega) (by omega) (by omega) (by omega), hstep]
      omega
    have e2 : wrap64 ((i : Int) + 1) = ((i + 1 : Nat) : Int) := by rw [w64 (by omega) (by omega)]; omega
    rw [e1, e2]
    exact ih k (i + 1) _ (by omega) rfl (by omega)
def takeS (s : ByteArray) (b : Int) : Int × ByteArray × Int :=
  if b < 1 ∨ 7 < b then (0, mkB [], 1) else if (s.size : Int) < b then (0, mkB [], 2)
  else ((num (s.data.toList.take b.toNat) : Int), s.extract b.toNat s.size, 0)
theorem take_eq (s : ByteArray) (b : Int) (k : Nat) (hk : 10 ≤ k) : octet_Take.f k s b = some (takeS s b) := by
  obtain ⟨k, rfl⟩ : ∃ m, k = m + 1 := ⟨k - 1, by omega⟩
  unfold octet_Take.f takeS
  by_cases h : b < 1
  · rw [if_pos h, if_pos (.inl h)]; simp only [octet_Take.j0, if_true]; rfl
  · rw [if_neg h]
    by_cases h7 : b > 7
    · rw [if_pos (.inr h7), decide_eq_true h7]; simp only [octet_Take.j0, if_true]; rfl
    · have h8 : ¬ (b < 1 ∨ 7 < b) := by omega
      have h9 : ¬ b < 0 := by omega
      rw [if_neg h8, decide_eq_false h7]; simp only [octet_Take.j0, Bool.false_eq_true, if_false]; rw [cut_eq]
      unfold cutS
      rw [if_neg h9]
      by_cases h1 : (s.size : Int) < b
      · rw [if_pos h1, if_pos h1]; rfl
      · rw [if_neg h1, if_neg h1]; simp only [Option.bind_some, if_true]
        have hz : (s.extract 0 b.toNat).size = b.toNat := by rw [ByteArray.size_extract]; omega
        have := take_loop (s.extract 0 b.toNat) (s.extract b.toNat s.size) (by omega) b.toNat k 0 0 (by omega) (by simp [num]) (by omega)
        rw [hz] at this ⊢
        rw [show ((0 : Nat) : Int) = 0 from rfl] at this
        rw [this]
        have e : (s.extract 0 b.toNat).data.toList = s.data.toList.take b.toNat := by
          have := mkB_extract s.data.toList 0 b.toNat
          rw [mkB_eta] at this
          rw [this, mkB_data]; simp
        rw [e]
end Go.Proofs.Ytfdhifigndmgaaa.L04
namespace Go.Proofs.Ytfdhifigndmgaaa.L04
open Go Go.RowKit Go.Proofs.Ytfdhifigndmgaaa.Q Go.Proofs.Ytfdhifigndmgaaa.Base Go.Proofs.YtfdhifigndmgaaaW.PrintWords Go.Proofs.YtfdhifigndmgaaaW.PrintMore
set_option linter.unusedVariables false
set_option linter.unusedSimpArgs false
theorem shr_at (a y : Int) (h0 : 0 ≤ y) (h1 : y ≤ 64) : shr .i64 a y = a / 2 ^ y.toNat := by
  unfold shr
  rw [Nat.min_eq_left (by show y.toNat ≤ 64; omega)]
/-- The digits of a number, from the i-th on. -/
def digs (n b : Nat) : Nat → Nat → List Nat
  | _, 0 => []
  | i, d + 1 => (n / 2 ^ (8 * (b - 1 - i)) % 256) :: digs n b (i + 1) d
theorem put_loop (a : Nat) (b : Nat) (hb : b ≤ 7) (d : Nat) : ∀ (k : Nat) (i : Nat) (xs : List Int), i + d = b → xs.length = b → d < k →
    octet_Put.l0 k (a : Int) (b : Int) xs (b : Int) (i : Int) = some (strOfNums (xs.take i ++ (digs a b i d).map fun n : Nat => (n : Int)), 0) := by
  induction d with
  | zero =>
    intro k i xs hi hx hk
    obtain ⟨k, rfl⟩ : ∃ m, k = m + 1 := ⟨k - 1, by omega⟩
    simp only [octet_Put.l0]
    rw [if_neg (by omega)]
    simp [digs, List.take_of_length_le (show xs.length ≤ i by omega)]
  | succ d ih =>
    intro k i xs hi hx hk
    obtain ⟨k, rfl⟩ : ∃ m, k = m + 1 := ⟨k - 1, by omega⟩
    simp only [octet_Put.l0]
    have e0 : wrap64 (8 * wrap64 (wrap64 ((b : Int) - 1) - (i : Int))) = ((8 * (b - 1 - i) : Nat) : Int) := by
      rw [w64 (n := (b : Int) - 1) (by omega) (by omega), w64 (n := (b : Int) - 1 - i) (by omega) (by omega), w64 (by omega) (by omega)]
      omega
    rw [e0, if_pos (by omega), if_pos (by omega), if_pos (by omega), if_pos (by omega), shr_at _ _ (by omega) (by omega)]
    have e2 : wrap64 ((i : Int) + 1) = ((i + 1 : Nat) : Int) := by rw [w64 (by omega) (by omega)]; omega
    rw [e2, ih k (i + 1) _ (by omega) (by simp [hx]) (by omega)]
    have e3 : ((a : Int) / 2 ^ ((8 * (b - 1 - i) : Nat) : Int).toNat % 256) = ((a / 2 ^ (8 * (b - 1 - i)) % 256 : Nat) : Int) := by
      rw [Int.toNat_natCast]; simp
    have e4 : ((i : Int)).toNat = i := by omega
    rw [e3, e4]
    congr 3
    rw [List.take_succ_eq_append_getElem (by simp; omega), List.getElem_set_self, List.take_set_of_le (Nat.le_refl _)]
    simp [digs]
theorem digs_enc (n b : Nat) (hb : b ≤ 7) : strOfNums ((digs n b 0 b).map fun n : Nat => (n : Int)) = mkB (enc n b) := by
  rw [nums_nat]
  congr 1
  have h : b = 0 ∨ b = 1 ∨ b = 2 ∨ b = 3 ∨ b = 4 ∨ b = 5 ∨ b = 6 ∨ b = 7 := by omega
  have key : ∀ m : Nat, (UInt8.ofNat (m % 256) = UInt8.ofNat m) := by
    intro m; apply UInt8.toNat_inj.1; simp
  rcases h with rfl | rfl | rfl | rfl | rfl | rfl | rfl | rfl <;> simp [digs, enc, Nat.div_div_eq_div_mul, key]
def putS (a b : Int) : ByteArray × Int :=
  if b < 1 ∨ 7 < b ∨ a < 0 ∨ (256 ^ b.toNat : Int) ≤ a then (mkB [], 1) else (mkB (enc a.toNat b.toNat), 0)
theorem pow8 (b : Nat) : (2 : Int) ^ (8 * b) = 256 ^ b := by
  rw [Int.pow_mul]; rfl
theorem put_eq (a b : Int) (k : Nat) (hk : 12 ≤ k) : octet_Put.f k a b = some (putS a b) := by
  obtain ⟨k, rfl⟩ : ∃ m, k = m + 1 := ⟨k - 1, by omega⟩
  unfold octet_Put.f putS
  by_cases h1 : b < 1
  · rw [if_pos h1, if_pos (.inl h1)]; simp only [octet_Put.j0, if_true]; rfl
  rw [if_neg h1]
  by_cases h7 : b > 7
  · rw [if_pos h7, if_pos (.inr (.inl h7))]; simp only [octet_Put.j0, if_true]; rfl
  rw [if_neg h7]
  by_cases h0 : a < 0
  · rw [if_pos h0, if_pos (.inr (.inr (.inl h0)))]; simp only [octet_Put.j0, if_true]; rfl
  rw [if_neg h0]
  obtain ⟨B, rfl⟩ := Int.eq_ofNat_of_zero_le (show 0 ≤ b by omega)
  obtain ⟨n, rfl⟩ := Int.eq_ofNat_of_zero_le (show 0 ≤ a by omega)
  have e0 : wrap64 (8 * (B : Int)) = ((8 * B : Nat) : Int) := by rw [w64 (by omega) (by omega)]; omega
  rw [e0, if_pos (by omega), shr_at _ _ (by omega) (by omega)]
  have e1 : (2 : Int) ^ ((8 * B : Nat) : Int).toNat = 256 ^ B := by rw [← pow8]; rfl
  have e2 : ((B : Int)).toNat = B := rfl
  have hp : (0 : Int) < 256 ^ B := Int.pow_pos (by omega)
  rw [e1, e2]
  by_cases hg : (256 ^ B : Int) ≤ (n : Int)
  · rw [if_pos (.inr (.inr (.inr hg)))]
    simp only [octet_Put.j0]
    have : (n : Int) / 256 ^ B ≠ 0 := by
      intro h
      have h2 := Int.mul_ediv_add_emod (n : Int) (256 ^ B)
      have h3 := Int.emod_lt_of_pos (n : Int) hp
      rw [h, Int.mul_zero] at h2
      omega
    rw [if_pos (by simpa using this)]; rfl
  · rw [if_neg (by omega)]
    simp only [octet_Put.j0]
    have hz : (n : Int) / 256 ^ B = 0 := Int.ediv_eq_zero_of_lt (by omega) (by omega)
    rw [hz, if_neg (by simp), if_pos (by omega), if_pos (by omega)]
    simp only [Option.bind_some, List.length_replicate, e2]
    have := put_loop n B (by omega) B k 0 (List.replicate B 0) (by omega) (by simp) (by omega)
    rw [show ((0 : Nat) : Int) = 0 from rfl] at this
    rw [this, List.take_zero, List.nil_append, digs_enc n B (by omega)]
    rfl
end Go.Proofs.Ytfdhifigndmgaaa.L04
namespace Go.Proofs.Ytfdhifigndmgaaa.LAt
open Go Go.RowKit Go.Proofs.Ytfdhifigndmgaaa.Q Go.Proofs.Ytfdhifigndmgaaa.Base Go.Proofs.Ytfdhifigndmgaaa.L04 Go.Proofs.YtfdhifigndmgaaaW.PrintWords Go.Proofs.YtfdhifigndmgaaaW.PrintMore
set_option linter.unusedVariables false
set_option linter.unusedSimpArgs false
/-- The number of the bytes from i to j. -/
def at_ (s : ByteArray) (i j : Nat) : Nat := num ((s.data.toList.drop i).take (j - i))
theorem extract_list (s : ByteArray) (a b : Nat) : (s.extract a b).data.toList = (s.data.toList.drop a).take (b - a) := by
  have := mkB_extract s.data.toList a b
  rw [mkB_eta] at this
  rw [this, mkB_data]
theorem app_list (x y : ByteArray) : (x ++ y).data.toList = x.data.toList ++ y.data.toList := by
  conv => lhs; rw [← mkB_eta x, ← mkB_eta y, mkB_app]
  rfl
/-- Take of a piece that begins at a place. -/
theorem take_at (s : ByteArray) (i b : Nat) (hb : 1 ≤ b ∧ b ≤ 7) (hi : i + b ≤ s.size) (k : Nat) (hk : 10 ≤ k) :
    octet_Take.f k (s.extract i s.size) (b : Int) = some (((at_ s i (i + b) : Nat) : Int), s.extract (i + b) s.size, 0) := by
  rw [take_eq _ _ _ hk]
  have hz : (s.extract i s.size).size = s.size - i := by rw [ByteArray.size_extract]; omega
  unfold takeS
  rw [if_neg (by omega), if_neg (by omega)]
  simp only [extract_list, Int.toNat_natCast]
  have e1 : num (List.take b (List.take (s.size - i) (List.drop i s.data.toList))) = at_ s i (i + b) := by
    unfold at_
    rw [List.take_take, show min b (s.size - i) = i + b - i by omega]
  have e2 : (s.extract i s.size).extract b (s.extract i s.size).size = s.extract (i + b) s.size := by
    rw [hz, ByteArray.extract_extract]
    congr 1; omega
  rw [e1, e2]
def two (n : Int) : List UInt8 := enc n.toNat 2
def one (n : Int) : List UInt8 := enc n.toNat 1
theorem two_length (n : Int) : (two n).length = 2 := enc_length _ _
theorem one_length (n : Int) : (one n).length = 1 := enc_length _ _
theorem putS_two {n : Int} (h0 : 0 ≤ n) (h1 : n ≤ 65535) : putS n 2 = (mkB (two n), 0) := by
  unfold putS
  rw [if_neg (by simp only [show (2 : Int).toNat = 2 from rfl]; omega)]; rfl
theorem putS_one {n : Int} (h0 : 0 ≤ n) (h1 : n ≤ 255) : putS n 1 = (mkB (one n), 0) := by
  unfold putS
  rw [if_neg (by simp only [show (1 : Int).toNat = 1 from rfl]; omega)]; rfl
theorem num_two {n : Int} (h0 : 0 ≤ n) (h1 : n ≤ 65535) : ((num (two n) : Nat) : Int) = n := by
  unfold two
  rw [num_enc, Nat.mod_eq_of_lt (by simp only [show (256 : Nat) ^ 2 = 65536 from rfl]; omega)]; omega
theorem num_one {n : Int} (h0 : 0 ≤ n) (h1 : n ≤ 255) : ((num (one n) : Nat) : Int) = n := by
  unfold one
  rw [num_enc, Nat.mod_eq_of_lt (by simp only [show (256 : Nat) ^ 1 = 256 from rfl]; omega)]; omega
end Go.Proofs.Ytfdhifigndmgaaa.LAt
namespace Go.Proofs.Ytfdhifigndmgaaa.L09
open Go Go.RowKit Go.Proofs.Ytfdhifigndmgaaa.Q Go.Proofs.Ytfdhifigndmgaaa.Base Go.Proofs.Ytfdhifigndmgaaa.L04 Go.Proofs.Ytfdhifigndmgaaa.LAt Go.Proofs.YtfdhifigndmgaaaW.PrintWords Go.Proofs.YtfdhifigndmgaaaW.PrintMore
set_option linter.unusedVariables false
set_option linter.unusedSimpArgs false
structure Fl where
  src : ByteArray
  dst : ByteArray
  proto : Int
  sp : Int
  dp : Int
def okF (f : Fl) : Prop := f.src.size = 16 ∧ f.dst.size = 16 ∧ (0 ≤ f.proto ∧ f.proto ≤ 255) ∧ (0 ≤ f.sp ∧ f.sp ≤ 65535) ∧ (0 ≤ f.dp ∧ f.dp ≤ 65535)
instance (f : Fl) : Decidable (okF f) := by unfold okF; infer_instance
def keyL (f : Fl) : List UInt8 := f.src.data.toList ++ f.dst.data.toList ++ one f.proto ++ two f.sp ++ two f.dp
def keyS (f : Fl) : ByteArray × Int := if okF f then (mkB (keyL f), 0) else (mkB [], 1)
theorem put_small (n : Int) (b : Nat) (hb : b = 1 ∨ b = 2) : (putS n (b : Int)).1.size ≤ 2 ∧ ((putS n (b : Int)).2 = 0 ∨ (putS n (b : Int)).2 = 1) := by
  unfold putS
  split
  · exact ⟨by simp [mkB_size], .inr rfl⟩
  · refine ⟨?_, .inl rfl⟩
    simp only [mkB_size, enc_length]; omega
theorem put1_ok (n : Int) : (putS n 1).2 = 0 ↔ (0 ≤ n ∧ n ≤ 255) := by
  unfold putS
  simp only [show (1 : Int).toNat = 1 from rfl]
  split
  · constructor
    · intro h; exact absurd h (by decide)
    · intro h; omega
  · constructor
    · intro _; omega
    · intro _; rfl
theorem put2_ok (n : Int) : (putS n 2).2 = 0 ↔ (0 ≤ n ∧ n ≤ 65535) := by
  unfold putS
  simp only [show (2 : Int).toNat = 2 from rfl]
  split
  · constructor
    · intro h; exact absurd h (by decide)
    · intro h; omega
  · constructor
    · intro _; omega
    · intro _; rfl
theorem mx3 (a b c : Int) (ha : a = 0 ∨ a = 1) (hb : b = 0 ∨ b = 1) (hc : c = 0 ∨ c = 1) : mx (mx a b) c = 0 ↔ a = 0 ∧ b = 0 ∧ c = 0 := by
  rcases ha with rfl | rfl <;> rcases hb with rfl | rfl <;> rcases hc with rfl | rfl <;> decide
theorem key_eq (f : Fl) (k : Nat) (hk : 20 ≤ k) : flow_Key.f k f.src f.dst f.proto f.sp f.dp = some (keyS f) := by
  unfold flow_Key.f keyS
  rw [put_eq _ _ _ (by omega), Option.bind_some, put_eq _ _ _ (by omega), Option.bind_some, put_eq _ _ _ (by omega), Option.bind_some]
  by_cases c1 : f.src.size = 16
  case neg => rw [if_neg (by omega), if_neg (fun o : okF f => c1 o.1)]; rfl
  by_cases c2 : f.dst.size = 16
  case neg => rw [if_pos (by omega), if_neg (by omega), if_neg (fun o : okF f => c2 o.2.1)]; rfl
  rw [if_pos (by omega), if_pos (by omega)]
  have p1 := put_small f.proto 1 (by omega)
  have p2 := put_small f.sp 2 (by omega)
  have p3 := put_small f.dp 2 (by omega)
  have m := mx3 _ _ _ p1.2 p2.2 p3.2
  rw [show ((1 : Nat) : Int) = 1 from rfl, show ((2 : Nat) : Int) = 2 from rfl, put1_ok, put2_ok, put2_ok] at m
  by_cases c3 : (0 ≤ f.proto ∧ f.proto ≤ 255) ∧ (0 ≤ f.sp ∧ f.sp ≤ 65535) ∧ (0 ≤ f.dp ∧ f.dp ≤ 65535)
  case neg => rw [if_neg (fun h => c3 (m.1 h)), if_neg (fun o : okF f => c3 o.2.2)]; rfl
  have hok : okF f := ⟨c1, c2, c3⟩
  rw [if_pos (m.2 c3), if_pos hok, putS_one c3.1.1 c3.1.2, putS_two c3.2.1.1 c3.2.1.2, putS_two c3.2.2.1 c3.2.2.2]
  have e : f.src ++ f.dst = mkB (f.src.data.toList ++ f.dst.data.toList) := by rw [← mkB_eta (f.src ++ f.dst), app_list]
  have hl1 := len f.src
  have hl2 := len f.dst
  simp only [e, mkB_app, mkB_size, List.length_append, one_length, two_length, hl1, hl2]
  rw [if_pos (by omega), if_pos (by omega), if_pos (by omega), if_pos (by omega)]
  rfl
theorem fright_eq (f : Fl) (k : Nat) (hk : 20 ≤ k) : flow_Right.f k f.src f.dst f.proto f.sp f.dp = some (decide (okF f)) := by
  unfold flow_Right.f
  rw [key_eq f k hk, Option.bind_some]
  unfold keyS
  by_cases h : okF f
  · rw [if_pos h, decide_eq_true h]; rfl
  · rw [if_neg h, decide_eq_false h]; rfl
/-- The flow of a key. -/
def ofS (s : ByteArray) : Fl := ⟨s.extract 0 16, s.extract 16 32, (at_ s 32 33 : Nat), (at_ s 33 35 : Nat), (at_ s 35 37 : Nat)⟩
theorem of_eq (s : ByteArray) (h : s.size = 37) (k : Nat) (hk : 20 ≤ k) : flow_Of.f k s = some ((ofS s).src, (ofS s).dst, (ofS s).proto, (ofS s).sp, (ofS s).dp, 0) := by
  unfold flow_Of.f
  have t1 := take_at s 32 1 (by omega) (by omega) k (by omega)
  have t2 := take_at s 33 2 (by omega) (by omega) k (by omega)
  have t3 := take_at s 35 2 (by omega) (by omega) k (by omega)
  simp only [Nat.reduceAdd, show ((1 : Nat) : Int) = 1 from rfl, show ((2 : Nat) : Int) = 2 from rfl] at t1 t2 t3
  rw [if_pos (by omega), if_pos (by decide), if_pos (by omega), if_pos (by decide), if_pos (by omega), t1]
  simp only [Option.bind_some]
  rw [t2]
  simp only [Option.bind_some]
  rw [t3]; rfl
theorem source_eq (s : ByteArray) : flow_Source.f s = some (if s.size = 37 then s.extract 0 16 else mkB []) := by
  unfold flow_Source.f
  by_cases h : s.size = 37
  · rw [if_pos (by omega), if_pos (by decide), if_pos (by omega), if_pos h]
  · rw [if_neg (by omega), if_neg h]; rfl
theorem target_eq (s : ByteArray) : flow_Target.f s = some (if s.size = 37 then s.extract 16 32 else mkB []) := by
  unfold flow_Target.f
  by_cases h : s.size = 37
  · rw [if_pos (by omega), if_pos (by decide), if_pos (by omega), if_pos h]
  · rw [if_neg (by omega), if_neg h]; rfl
theorem awake_eq (k : Nat) (hk : 40 ≤ k) : rillmeterlaw09_awake.f k = some true := by
  unfold rillmeterlaw09_awake.f
  have := key_eq ⟨⟨#[115, 115, 115, 115, 115, 115, 115, 115, 115, 115, 115, 115, 115, 115, 115, 115]⟩, ⟨#[100, 100, 100, 100, 100, 100, 100, 100, 100, 100, 100, 100, 100, 100, 100, 100]⟩, 17, 258, 1⟩ k (by omega)
  rw [this, Option.bind_some, of_eq _ (by decide +kernel) k (by omega), Option.bind_some]
  decide +kernel
end Go.Proofs.Ytfdhifigndmgaaa.L09
namespace Go.Proofs.Ytfdhifigndmgaaa.L09
open Go Go.RowKit Go.Proofs.Ytfdhifigndmgaaa.Q Go.Proofs.Ytfdhifigndmgaaa.Base Go.Proofs.Ytfdhifigndmgaaa.L04 Go.Proofs.Ytfdhifigndmgaaa.LAt Go.Proofs.YtfdhifigndmgaaaW.PrintWords Go.Proofs.YtfdhifigndmgaaaW.PrintMore
set_option linter.unusedVariables false
set_option linter.unusedSimpArgs false
theorem refright_eq (f : Fl) (k : Nat) : rillmeterref09_Right.f (k + 4) f.src f.dst f.proto f.sp f.dp = some (decide (okF f)) := by
  unfold rillmeterref09_Right.f
  rw [Option.bind_some]
  obtain ⟨w, hw⟩ : ∃ w, w = wrap64 (257 * f.proto) := ⟨_, rfl⟩
  rw [← hw]
  have r0 : rd [f.sp, f.dp, w] 0 = f.sp := rfl
  have r1 : rd [f.sp, f.dp, w] 1 = f.dp := rfl
  have r2 : rd [f.sp, f.dp, w] 2 = w := rfl
  have w1 : wrap64 (0 + 1) = 1 := by unfold wrap64; omega
  have w2 : wrap64 (1 + 1) = 2 := by unfold wrap64; omega
  have w3 : wrap64 (2 + 1) = 3 := by unfold wrap64; omega
  have ln : (([f.sp, f.dp, w] : List Int).length : Int) = 3 := rfl
  have hin : (0 ≤ f.proto ∧ f.proto ≤ 255) → 0 ≤ w ∧ w ≤ 65535 := by
    intro h
    rw [hw, w64 (by omega) (by omega)]; omega
  simp only [rillmeterref09_Right.l0, ln, r0, r1, r2, w1, w2, w3]
  rw [if_pos (by decide), if_pos (by decide), if_pos (by decide)]
  by_cases c1 : 0 ≤ f.sp ∧ f.sp ≤ 65535
  case neg =>
    rw [decide_eq_false (fun o : okF f => c1 o.2.2.2.1)]
    by_cases a : f.sp < 0
    · rw [if_pos a]
    · rw [if_neg a, if_pos (by omega)]
  rw [if_neg (by omega), if_neg (by omega), if_pos (by decide), if_pos (by decide), if_pos (by decide)]
  by_cases c2 : 0 ≤ f.dp ∧ f.dp ≤ 65535
  case neg =>
    rw [decide_eq_false (fun o : okF f => c2 o.2.2.2.2)]
    by_cases a : f.dp < 0
    · rw [if_pos a]
    · rw [if_neg a, if_pos (by omega)]
  rw [if_neg (by omega), if_neg (by omega), if_pos (by decide), if_pos (by decide), if_pos (by decide)]
  by_cases c3 : 0 ≤ w ∧ w ≤ 65535
  case neg =>
    rw [decide_eq_false (fun o : okF f => c3 (hin o.2.2.1))]
    by_cases a : w < 0
    · rw [if_pos a]
    · rw [if_neg a, if_pos (by omega)]
  rw [if_neg (by omega), if_neg (by omega), if_neg (by decide)]
  clear hin
  by_cases c4 : f.src.size = 16
  case neg => rw [if_neg (by omega), decide_eq_false (fun o : okF f => c4 o.1)]
  by_cases c5 : f.dst.size = 16
  case neg => rw [if_pos (by omega), if_neg (by omega), decide_eq_false (fun o : okF f => c5 o.2.1)]
  rw [if_pos (by omega), if_pos (by omega)]
  by_cases c6 : f.proto ≥ 0
  case neg => rw [if_neg c6, decide_eq_false (fun o : okF f => c6 o.2.2.1.1)]
  rw [if_pos c6]
  by_cases c7 : f.proto < 256
  · rw [decide_eq_true c7, decide_eq_true (show okF f from ⟨c4, c5, ⟨c6, by omega⟩, c1, c2⟩)]
  · rw [decide_eq_false c7, decide_eq_false (fun o : okF f => c7 (by have := o.2.2.1.2; omega))]
theorem two_list (n : Int) (h : 0 ≤ n ∧ n ≤ 65535) : two n = [UInt8.ofNat ((wrap64 (Int.tdiv n 256)) % 256).toNat, UInt8.ofNat ((Int.tmod n 256) % 256).toNat] := by
  have e1 : wrap64 (Int.tdiv n 256) % 256 = ((n.toNat / 256 : Nat) : Int) := by
    rw [Int.tdiv_eq_ediv_of_nonneg h.1, w64 (by omega) (by omega), Int.emod_eq_of_lt (by omega) (by omega)]; omega
  have e2 : Int.tmod n 256 % 256 = ((n.toNat % 256 : Nat) : Int) := by
    rw [Int.tmod_eq_emod_of_nonneg h.1]; omega
  rw [e1, e2]
  unfold two
  simp only [Int.toNat_natCast, enc, List.nil_append, List.cons_append]
  congr 2
  apply UInt8.toNat_inj.1
  simp
theorem refkey_eq (f : Fl) (h : okF f) : rillmeterref09_Key.f f.src f.dst f.proto f.sp f.dp = some (mkB (keyL f)) := by
  obtain ⟨h1, h2, h3, h4, h5⟩ := h
  unfold rillmeterref09_Key.f
  rw [Option.bind_some, nums_mkB]
  simp only [List.map_cons, List.map_nil]
  have z : (mkB [UInt8.ofNat (f.proto % 256).toNat, UInt8.ofNat ((wrap64 (Int.tdiv f.sp 256)) % 256).toNat, UInt8.ofNat ((Int.tmod f.sp 256) % 256).toNat, UInt8.ofNat ((wrap64 (Int.tdiv f.dp 256)) % 256).toNat, UInt8.ofNat ((Int.tmod f.dp 256) % 256).toNat]).size = 5 := rfl
  rw [if_pos (by omega), if_pos (by rw [ByteArray.size_append]; omega)]
  congr 1
  unfold keyL
  rw [two_list _ h4, two_list _ h5, show one f.proto = [UInt8.ofNat (f.proto % 256).toNat] by rw [Int.emod_eq_of_lt (by omega) (by omega)]; rfl]
  apply ByteArray.ext
  apply Array.toList_inj.mp
  simp only [app_list, mkB_data, List.append_assoc, List.cons_append, List.nil_append]
theorem mid9 {l a b c : List UInt8} (h : l = a ++ (b ++ c)) (i n : Nat) (hi : a.length = i) (hn : b.length = n) : (l.drop i).take n = b := by
  subst hi hn
  rw [h, List.drop_left, List.take_left]
theorem of_key (f : Fl) (h : okF f) : ofS (mkB (keyL f)) = f ∧ (mkB (keyL f)).size = 37 := by
  obtain ⟨h1, h2, h3, h4, h5⟩ := h
  have hsz : (mkB (keyL f)).size = 37 := by
    rw [mkB_size]; unfold keyL; simp only [List.length_append, len, one_length, two_length]; omega
  refine ⟨?_, hsz⟩
  have l1 : f.src.data.toList.length = 16 := by rw [len]; exact h1
  have l2 : f.dst.data.toList.length = 16 := by rw [len]; exact h2
  have m0 := mid9 (l := keyL f) (a := []) (b := f.src.data.toList) (c := f.dst.data.toList ++ one f.proto ++ two f.sp ++ two f.dp) (by unfold keyL; simp only [List.append_assoc, List.nil_append]) 0 16 rfl l1
  have m1 := mid9 (l := keyL f) (a := f.src.data.toList) (b := f.dst.data.toList) (c := one f.proto ++ two f.sp ++ two f.dp) (by unfold keyL; simp only [List.append_assoc]) 16 16 l1 l2
  have m2 := mid9 (l := keyL f) (a := f.src.data.toList ++ f.dst.data.toList) (b := one f.proto) (c := two f.sp ++ two f.dp) (by unfold keyL; simp only [List.append_assoc]) 32 1 (by rw [List.length_append]; omega) (one_length _)
  have m3 := mid9 (l := keyL f) (a := f.src.data.toList ++ f.dst.data.toList ++ one f.proto) (b := two f.sp) (c := two f.dp) (by unfold keyL; simp only [List.append_assoc]) 33 2 (by rw [List.length_append, List.length_append, one_length]; omega) (two_length _)
  have m4 := mid9 (l := keyL f) (a := f.src.data.toList ++ f.dst.data.toList ++ one f.proto ++ two f.sp) (b := two f.dp) (c := []) (by unfold keyL; simp only [List.append_assoc, List.append_nil]) 35 2 (by rw [List.length_append, List.length_append, List.length_append, one_length, two_length]; omega) (two_length _)
  unfold ofS at_
  rw [mkB_extract, mkB_extract, mkB_data]
  simp only [Nat.reduceSub]
  rw [m0, m1, m2, m3, m4, num_one h3.1 h3.2, num_two h4.1 h4.2, num_two h5.1 h5.2, mkB_eta, mkB_eta]
end Go.Proofs.Ytfdhifigndmgaaa.L09
