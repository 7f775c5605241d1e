/- What the printed functions answer, told by plain functions on bytes: octet.Cut and octet.Take. What the printed functions answer, told by plain functions on bytes: octet.Put. Numbers and pieces at places of a text; two bytes of a number. What the printed functions of layer 5 (ether) answer, told by plain functions on bytes. More on layer 5: frames that are too short, and what the writer gives back. Layer 5 (ether): any frame is right or not, as the reference says, and what is written is taken back. -/
import Derived.Test.YtngcelombflnfaaBase
import Derived.Laws.Bits128
import Derived.Test.YtngcelombflnfaaQx4
import Derived.Test.YtngcelombflnfaaQx14
import Derived.Test.YtngcelombflnfaaQx6
import Derived.Test.YtngcelombflnfaaQx5
import Derived.Test.YtngcelombflnfaaQx3
import Derived.Test.YtngcelombflnfaaQx2
import Derived.Test.YtngcelombflnfaaQx13
import Derived.Test.YtngcelombflnfaaQx9
import Derived.Test.YtngcelombflnfaaQx8
import Derived.Test.YtngcelombflnfaaQx17
import Derived.Test.YtngcelombflnfaaQx15
import Derived.Test.YtngcelombflnfaaQx16
namespace Go.Proofs.Ytngcelombflnfaa.L04
open Go Go.RowKit Go.Proofs.Ytngcelombflnfaa.Q Go.Proofs.Ytngcelombflnfaa.Base Go.Proofs.YtngcelombflnfaaW.PrintWords Go.Proofs.YtngcelombflnfaaW.PrintMore
set_option linter.unusedVariables false
set_option linter.unusedSimpArgs false
def cutS (s : ByteArray) (b : Int) : ByteArray × ByteArray × Int :=
  if b < 0 then (mkB [], mkB [], 1) else if (s.size : Int) < b then (mkB [], mkB [], 2) else (s.extract 0 b.toNat, s.extract b.toNat s.size, 0)
theorem cut_eq (s : ByteArray) (b : Int) : octet_Cut.f s b = some (cutS s b) := by
  unfold octet_Cut.f cutS
  by_cases h : b < 0
  · rw [if_pos h, if_pos h]; rfl
  · rw [if_neg h, if_neg h]
    by_cases h1 : (s.size : Int) < b
    · rw [if_pos h1, if_pos h1]; rfl
    · rw [if_neg h1, if_neg h1, if_pos (by omega), if_pos (by omega)]
theorem take_loop (s rest : ByteArray) (hs : s.size ≤ 7) (d : Nat) : ∀ (k : Nat) (i n : Nat), i + d = s.size → n = num (s.data.toList.take i) → d < k →
    octet_Take.l0 k s rest (n : Int) (s.size : Int) (i : Int) = some ((num s.data.toList : Int), rest, 0) := by
  induction d with
  | zero =>
    intro k i n hi hn hk
    obtain ⟨k, rfl⟩ : ∃ m, k = m + 1 := ⟨k - 1, by omega⟩
    simp only [octet_Take.l0]
    rw [if_neg (by omega), hn, List.take_of_length_le (by rw [len]; omega)]
  | succ d ih =>
    intro k i n hi hn hk
    obtain ⟨k, rfl⟩ : ∃ m, k = m + 1 := ⟨k - 1, by omega⟩
    have hlt : i < s.data.toList.length := by rw [len]; omega
    have hb : bt s (i : Int) = ((s.data.toList[i]).toNat : Int) := bt_get s i hlt
    have hbl : (s.data.toList[i]).toNat < 256 := UInt8.toNat_lt _
    have hnl : n < 256 ^ 6 := by
      rw [hn]
      refine Nat.lt_of_lt_of_le (num_lt _) (Nat.pow_le_pow_right (by omega) ?_)
      rw [List.length_take]; omega
    have hstep : num (s.data.toList.take (i + 1)) = n * 256 + (s.data.toList[i]).toNat := by
      rw [List.take_succ_eq_append_getElem hlt, num_snoc, hn]
    simp only [octet_Take.l0]
    rw [if_pos (by omega), if_pos (by omega), if_pos (by omega)]
    have e1 : Go.bits .or .i64 (wrap64 ((n : Int) * 256)) (wrap64 (bt s (i : Int))) = ((num (s.data.toList.take (i + 1)) : Nat) : Int) := by
      rw [w64 (by omega) (by omega), hb, w64 (by omega) (by omega), or_join _ _ (by omega) (by omega) (by omega) (by omega), hstep]
      omega
    have e2 : wrap64 ((i : Int) + 1) = ((i + 1 : Nat) : Int) := by rw [w64 (by omega) (by omega)]; omega
    rw [e1, e2]
    exact ih k (i + 1) _ (by omega) rfl (by omega)
def takeS (s : ByteArray) (b : Int) : Int × ByteArray × Int :=
  if b < 1 ∨ 7 < b then (0, mkB [], 1) else if (s.size : Int) < b then (0, mkB [], 2)
  else ((num (s.data.toList.take b.toNat) : Int), s.extract b.toNat s.size, 0)
theorem take_eq (s : ByteArray) (b : Int) (k : Nat) (hk : 10 ≤ k) : octet_Take.f k s b = some (takeS s b) := by
  obtain ⟨k, rfl⟩ : ∃ m, k = m + 1 := ⟨k - 1, by omega⟩
  unfold octet_Take.f takeS
  by_cases h : b < 1
  · rw [if_pos h, if_pos (.inl h)]; simp only [octet_Take.j0, if_true]; rfl
  · rw [if_neg h]
    by_cases h7 : b > 7
    · rw [if_pos (.inr h7), decide_eq_true h7]; simp only [octet_Take.j0, if_true]; rfl
    · have h8 : ¬ (b < 1 ∨ 7 < b) := by omega
      have h9 : ¬ b < 0 := by omega
      rw [if_neg h8, decide_eq_false h7]; simp only [octet_Take.j0, Bool.false_eq_true, if_false]; rw [cut_eq]
      unfold cutS
      rw [if_neg h9]
      by_cases h1 : (s.size : Int) < b
      · rw [if_pos h1, if_pos h1]; rfl
      · rw [if_neg h1, if_neg h1]; simp only [Option.bind_some, if_true]
        have hz : (s.extract 0 b.toNat).size = b.toNat := by rw [ByteArray.size_extract]; omega
        have := take_loop (s.extract 0 b.toNat) (s.extract b.toNat s.size) (by omega) b.toNat k 0 0 (by omega) (by simp [num]) (by omega)
        rw [hz] at this ⊢
        rw [show ((0 : Nat) : Int) = 0 from rfl] at this
        rw [this]
        have e : (s.extract 0 b.toNat).data.toList = s.data.toList.take b.toNat := by
          have := mkB_extract s.data.toList 0 b.toNat
          rw [mkB_eta] at this
          rw [this, mkB_data]; simp
        rw [e]
end Go.Proofs.Ytngcelombflnfaa.L04
namespace Go.Proofs.Ytngcelombflnfaa.L04
open Go Go.RowKit Go.Proofs.Ytngcelombflnfaa.Q Go.Proofs.Ytngcelombflnfaa.Base Go.Proofs.YtngcelombflnfaaW.PrintWords Go.Proofs.YtngcelombflnfaaW.PrintMore
set_option linter.unusedVariables false
set_option linter.unusedSimpArgs false
theorem shr_at (a y : Int) (h0 : 0 ≤ y) (h1 : y ≤ 64) : shr .i64 a y = a / 2 ^ y.toNat := by
  unfold shr
  rw [Nat.min_eq_left (by show y.toNat ≤ 64; omega)]
/-- The digits of a number, from the i-th on. -/
def digs (n b : Nat) : Nat → Nat → List Nat
  | _, 0 => []
  | i, d + 1 => (n / 2 ^ (8 * (b - 1 - i)) % 256) :: digs n b (i + 1) d
theorem put_loop (a : Nat) (b : Nat) (hb : b ≤ 7) (d : Nat) : ∀ (k : Nat) (i : Nat) (xs : List Int), i + d = b → xs.length = b → d < k →
    octet_Put.l0 k (a : Int) (b : Int) xs (b : Int) (i : Int) = some (strOfNums (xs.take i ++ (digs a b i d).map fun n : Nat => (n : Int)), 0) := by
  induction d with
  | zero =>
    intro k i xs hi hx hk
    obtain ⟨k, rfl⟩ : ∃ m, k = m + 1 := ⟨k - 1, by omega⟩
    simp only [octet_Put.l0]
    rw [if_neg (by omega)]
    simp [digs, List.take_of_length_le (show xs.length ≤ i by omega)]
  | succ d ih =>
    intro k i xs hi hx hk
    obtain ⟨k, rfl⟩ : ∃ m, k = m + 1 := ⟨k - 1, by omega⟩
    simp only [octet_Put.l0]
    have e0 : wrap64 (8 * wrap64 (wrap64 ((b : Int) - 1) - (i : Int))) = ((8 * (b - 1 - i) : Nat) : Int) := by
      rw [w64 (n := (b : Int) - 1) (by omega) (by omega), w64 (n := (b : Int) - 1 - i) (by omega) (by omega), w64 (by omega) (by omega)]
      omega
    rw [e0, if_pos (by omega), if_pos (by omega), if_pos (by omega), if_pos (by omega), shr_at _ _ (by omega) (by omega)]
    have e2 : wrap64 ((i : Int) + 1) = ((i + 1 : Nat) : Int) := by rw [w64 (by omega) (by omega)]; omega
    rw [e2, ih k (i + 1) _ (by omega) (by simp [hx]) (by omega)]
    have e3 : ((a : Int) / 2 ^ ((8 * (b - 1 - i) : Nat) : Int).toNat % 256) = ((a / 2 ^ (8 * (b - 1 - i)) % 256 : Nat) : Int) := by
      rw [Int.toNat_natCast]; simp
    have e4 : ((i : Int)).toNat = i := by omega
    rw [e3, e4]
    congr 3
    rw [List.take_succ_eq_append_getElem (by simp; omega), List.getElem_set_self, List.take_set_of_le (Nat.le_refl _)]
    simp [digs]
theorem digs_enc (n b : Nat) (hb : b ≤ 7) : strOfNums ((digs n b 0 b).map fun n : Nat => (n : Int)) = mkB (enc n b) := by
  rw [nums_nat]
  congr 1
  have h : b = 0 ∨ b = 1 ∨ b = 2 ∨ b = 3 ∨ b = 4 ∨ b = 5 ∨ b = 6 ∨ b = 7 := by omega
  have key : ∀ m : Nat, (UInt8.ofNat (m % 256) = UInt8.ofNat m) := by
    intro m; apply UInt8.toNat_inj.1; simp
  rcases h with rfl | rfl | rfl | rfl | rfl | rfl | rfl | rfl <;> simp [digs, enc, Nat.div_div_eq_div_mul, key]
def putS (a b : Int) : ByteArray × Int :=
  if b < 1 ∨ 7 < b ∨ a < 0 ∨ (256 ^ b.toNat : Int) ≤ a then (mkB [], 1) else (mkB (enc a.toNat b.toNat), 0)
theorem pow8 (b : Nat) : (2 : Int) ^ (8 * b) = 256 ^ b := by
  rw [Int.pow_mul]; rfl
theorem put_eq (a b : Int) (k : Nat) (hk : 12 ≤ k) : octet_Put.f k a b = some (putS a b) := by
  obtain ⟨k, rfl⟩ : ∃ m, k = m + 1 := ⟨k - 1, by omega⟩
  unfold octet_Put.f putS
  by_cases h1 : b < 1
  · rw [if_pos h1, if_pos (.inl h1)]; simp only [octet_Put.j0, if_true]; rfl
  rw [if_neg h1]
  by_cases h7 : b > 7
  · rw [if_pos h7, if_pos (.inr (.inl h7))]; simp only [octet_Put.j0, if_true]; rfl
  rw [if_neg h7]
  by_cases h0 : a < 0
  · rw [if_pos h0, if_pos (.inr (.inr (.inl h0)))]; simp only [octet_Put.j0, if_true]; rfl
  rw [if_neg h0]
  obtain ⟨B, rfl⟩ := Int.eq_ofNat_of_zero_le (show 0 ≤ b by omega)
  obtain ⟨n, rfl⟩ := Int.eq_ofNat_of_zero_le (show 0 ≤ a by omega)
  have e0 : wrap64 (8 * (B : Int)) = ((8 * B : Nat) : Int) := by rw [w64 (by omega) (by omega)]; omega
  rw [e0, if_pos (by omega), shr_at _ _ (by omega) (by omega)]
  have e1 : (2 : Int) ^ ((8 * B : Nat) : Int).toNat = 256 ^ B := by rw [← pow8]; rfl
  have e2 : ((B : Int)).toNat = B := rfl
  have hp : (0 : Int) < 256 ^ B := Int.pow_pos (by omega)
  rw [e1, e2]
  by_cases hg : (256 ^ B : Int) ≤ (n : Int)
  · rw [if_pos (.inr (.inr (.inr hg)))]
    simp only [octet_Put.j0]
    have : (n : Int) / 256 ^ B ≠ 0 := by
      intro h
      have h2 := Int.mul_ediv_add_emod (n : Int) (256 ^ B)
      have h3 := Int.emod_lt_of_pos (n : Int) hp
      rw [h, Int.mul_zero] at h2
      omega
    rw [if_pos (by simpa using this)]; rfl
  · rw [if_neg (by omega)]
    simp only [octet_Put.j0]
    have hz : (n : Int) / 256 ^ B = 0 := Int.ediv_eq_zero_of_lt (by omega) (by omega)
    rw [hz, if_neg (by simp), if_pos (by omega), if_pos (by omega)]
    simp only [Option.bind_some, List.length_replicate, e2]
    have := put_loop n B (by omega) B k 0 (List.replicate B 0) (by omega) (by simp) (by omega)
    rw [show ((0 : Nat) : Int) = 0 from rfl] at this
    rw [this, List.take_zero, List.nil_append, digs_enc n B (by omega)]
    rfl
end Go.Proofs.Ytngcelombflnfaa.L04
namespace Go.Proofs.Ytngcelombflnfaa.LAt
open Go Go.RowKit Go.Proofs.Ytngcelombflnfaa.Q Go.Proofs.Ytngcelombflnfaa.Base Go.Proofs.Ytngcelombflnfaa.L04 Go.Proofs.YtngcelombflnfaaW.PrintWords Go.Proofs.YtngcelombflnfaaW.PrintMore
set_option linter.unusedVariables false
set_option linter.unusedSimpArgs false
/-- The number of the bytes from i to j. -/
def at_ (s : ByteArray) (i j : Nat) : Nat := num ((s.data.toList.drop i).take (j - i))
theorem extract_list (s : ByteArray) (a b : Nat) : (s.extract a b).data.toList = (s.data.toList.drop a).take (b - a) := by
  have := mkB_extract s.data.toList a b
  rw [mkB_eta] at this
  rw [this, mkB_data]
theorem app_list (x y : ByteArray) : (x ++ y).data.toList = x.data.toList ++ y.data.toList := by
  conv => lhs; rw [← mkB_eta x, ← mkB_eta y, mkB_app]
  rfl
theorem app_mkB (l : List UInt8) (y : ByteArray) : mkB l ++ y = mkB (l ++ y.data.toList) := by
  conv => lhs; rw [← mkB_eta y]
  rw [mkB_app]
/-- Take of a piece that begins at a place. -/
theorem take_at (s : ByteArray) (i b : Nat) (hb : 1 ≤ b ∧ b ≤ 7) (hi : i + b ≤ s.size) (k : Nat) (hk : 10 ≤ k) :
    octet_Take.f k (s.extract i s.size) (b : Int) = some (((at_ s i (i + b) : Nat) : Int), s.extract (i + b) s.size, 0) := by
  rw [take_eq _ _ _ hk]
  have hz : (s.extract i s.size).size = s.size - i := by rw [ByteArray.size_extract]; omega
  unfold takeS
  rw [if_neg (by omega), if_neg (by omega)]
  simp only [extract_list, Int.toNat_natCast]
  have e1 : num (List.take b (List.take (s.size - i) (List.drop i s.data.toList))) = at_ s i (i + b) := by
    unfold at_
    rw [List.take_take, show min b (s.size - i) = i + b - i by omega]
  have e2 : (s.extract i s.size).extract b (s.extract i s.size).size = s.extract (i + b) s.size := by
    rw [hz, ByteArray.extract_extract]
    congr 1; omega
  rw [e1, e2]
def two (n : Int) : List UInt8 := enc n.toNat 2
theorem two_length (n : Int) : (two n).length = 2 := enc_length _ _
theorem putS_two {n : Int} (h0 : 0 ≤ n) (h1 : n ≤ 65535) : putS n 2 = (mkB (two n), 0) := by
  unfold putS
  rw [if_neg (by simp only [show (2 : Int).toNat = 2 from rfl]; omega)]; rfl
theorem num_two {n : Int} (h0 : 0 ≤ n) (h1 : n ≤ 65535) : ((num (two n) : Nat) : Int) = n := by
  unfold two
  rw [num_enc, Nat.mod_eq_of_lt (by simp only [show (256 : Nat) ^ 2 = 65536 from rfl]; omega)]; omega
end Go.Proofs.Ytngcelombflnfaa.LAt
namespace Go.Proofs.Ytngcelombflnfaa.L05
open Go Go.RowKit Go.Proofs.Ytngcelombflnfaa.Q Go.Proofs.Ytngcelombflnfaa.Base Go.Proofs.Ytngcelombflnfaa.L04 Go.Proofs.Ytngcelombflnfaa.LAt Go.Proofs.YtngcelombflnfaaW.PrintWords Go.Proofs.YtngcelombflnfaaW.PrintMore
set_option linter.unusedVariables false
set_option linter.unusedSimpArgs false
abbrev Tg := S39
abbrev Rg := S53
def isTag (n : Int) : Bool := n == 33024 || n == 34984
theorem tag_eq (n : Int) : ether_tag.f n = some (isTag n) := by
  unfold ether_tag.f isTag
  by_cases h : n = 33024
  · rw [if_pos h]; simp [h]
  · rw [if_neg h, beq_eq_false_iff_ne.mpr h]; rfl
theorem reftag_eq (n : Int) : rillmeterref05_tag.f n = some (isTag n) := by
  unfold rillmeterref05_tag.f isTag
  by_cases h : n = 33024
  · rw [if_pos h]; simp [h]
  · rw [if_neg h, beq_eq_false_iff_ne.mpr h]; rfl
def is2 (n : Int) : Bool := decide (0 ≤ n ∧ n ≤ 65535)
theorem two_eq (n : Int) : ether_two.f n = some (is2 n) := by
  unfold ether_two.f is2
  by_cases h : n ≥ 0
  · rw [if_pos h]
    by_cases h1 : n ≤ 65535
    · rw [decide_eq_true h1, decide_eq_true (show 0 ≤ n ∧ n ≤ 65535 from ⟨h, h1⟩)]
    · rw [decide_eq_false h1, decide_eq_false (show ¬ (0 ≤ n ∧ n ≤ 65535) from fun h2 => h1 h2.2)]
  · rw [if_neg h, decide_eq_false (show ¬ (0 ≤ n ∧ n ≤ 65535) from fun h2 => h h2.1)]
abbrev Pr := Int × Int
def t1 (p : Pr) : Tg := ⟨p.1, p.2⟩
def t2 (p : Pr) : Rg := ⟨p.1, p.2⟩
theorem rd1 (l : List Pr) (i : Nat) (h : i < l.length) : rd_T39 (l.map t1) (i : Int) = t1 l[i] := by
  unfold rd_T39
  rw [Int.toNat_natCast, List.getD_eq_getElem?_getD, List.getElem?_eq_getElem (by rw [List.length_map]; exact h), List.getElem_map]; rfl
theorem rd2 (l : List Pr) (i : Nat) (h : i < l.length) : rd_T53 (l.map t2) (i : Int) = t2 l[i] := by
  unfold rd_T53
  rw [Int.toNat_natCast, List.getD_eq_getElem?_getD, List.getElem?_eq_getElem (by rw [List.length_map]; exact h), List.getElem_map]; rfl
def tg (s : ByteArray) (p : Nat) : Pr := (((at_ s p (p + 2) : Nat) : Int), ((at_ s (p + 2) (p + 4) : Nat) : Int))
/-- From a place on, with the tags so far: the tags, the type and where the body begins; or the error's number. -/
def tk (s : ByteArray) : Nat → Nat → List Pr → Except Int (List Pr × Int × Nat)
  | 0, _, _ => .error 9
  | f + 1, p, tags =>
    if p + 2 ≤ s.size then
      (if isTag (at_ s p (p + 2) : Nat) = true then
        (if tags.length = 2 then .error 9 else if p + 4 ≤ s.size then tk s f (p + 4) (tags ++ [tg s p]) else .error 2)
       else .ok (tags, (at_ s p (p + 2) : Nat), p + 2))
    else .error 2
theorem take_short (s : ByteArray) (p : Nat) (hp : p ≤ s.size) (h : ¬ p + 2 ≤ s.size) (k : Nat) (hk : 10 ≤ k) : octet_Take.f k (s.extract p s.size) 2 = some (0, mkB [], 2) := by
  rw [take_eq _ _ _ hk]
  unfold takeS
  have hz : (s.extract p s.size).size = s.size - p := by rw [ByteArray.size_extract]; omega
  rw [if_neg (by omega), if_pos (by omega)]
abbrev Out (T : Type) := ByteArray × ByteArray × List T × Int × ByteArray × Int
def out {T : Type} (t : Pr → T) (s d r : ByteArray) : Except Int (List Pr × Int × Nat) → Out T
  | .error e => (mkB [], mkB [], [], 0, mkB [], e)
  | .ok (tags, n, p) => (d, r, tags.map t, n, s.extract p s.size, 0)
theorem take_loop (s d r : ByteArray) (f : Nat) : ∀ (p : Nat) (tags : List Pr) (y : Int) (k : Nat), p ≤ s.size → tags.length + f = 3 → tags.length ≤ 2 → 20 + f ≤ k →
    ether_Take.l0 k (s.extract p s.size) d r (tags.map t1) y = some (out t1 s d r (tk s f p tags)) := by
  induction f with
  | zero => intro p tags y k hp ht h2 hk; omega
  | succ f ih =>
    intro p tags y k hp ht h22 hk
    obtain ⟨k, rfl⟩ : ∃ m, k = m + 1 := ⟨k - 1, by omega⟩
    simp only [ether_Take.l0]
    by_cases h2 : p + 2 ≤ s.size
    · have e := take_at s p 2 (by omega) h2 k (by omega)
      rw [show ((2 : Nat) : Int) = 2 from rfl] at e
      rw [e]
      simp only [Option.bind_some, if_true, tag_eq]
      unfold tk
      rw [if_pos h2]
      by_cases ht1 : isTag (at_ s p (p + 2) : Nat) = true
      · rw [if_pos ht1, if_pos ht1]
        by_cases hl : tags.length = 2
        · rw [if_pos (by rw [List.length_map]; omega), if_pos hl]; rfl
        · rw [if_neg (by rw [List.length_map]; omega), if_neg hl]
          by_cases h4 : p + 4 ≤ s.size
          · have e4 := take_at s (p + 2) 2 (by omega) (by omega) k (by omega)
            rw [show ((2 : Nat) : Int) = 2 from rfl, show p + 2 + 2 = p + 4 from rfl] at e4
            rw [e4]
            simp only [Option.bind_some, if_true]
            rw [if_pos (by rw [List.length_map]; omega), if_pos h4]
            have := ih (p + 4) (tags ++ [tg s p]) ((at_ s p (p + 2) : Nat) : Int) k h4 (by simp; omega) (by simp; omega) (by omega)
            rw [List.map_append] at this
            exact this
          · rw [take_short s (p + 2) (by omega) (by omega) k (by omega), if_neg h4]
            simp only [Option.bind_some]
            rw [if_neg (by decide)]; rfl
      · rw [if_neg ht1, if_neg ht1]; rfl
    · rw [take_short s p hp h2 k (by omega)]
      simp only [Option.bind_some]
      unfold tk
      rw [if_neg h2, if_neg (by decide)]; rfl
def tk0 (s : ByteArray) : Except Int (List Pr × Int × Nat) := if s.size < 12 then .error 2 else tk s 3 12 []
def res {T : Type} (t : Pr → T) (s : ByteArray) : Out T := out t s (s.extract 0 6) (s.extract 6 12) (tk0 s)
theorem cutS_ok (s : ByteArray) (h : 6 ≤ s.size) : cutS s 6 = (s.extract 0 6, s.extract 6 s.size, 0) := by
  unfold cutS; rw [if_neg (by omega), if_neg (by omega)]; rfl
theorem cutS_no (s : ByteArray) (h : ¬ 6 ≤ s.size) : cutS s 6 = (mkB [], mkB [], 2) := by
  unfold cutS; rw [if_neg (by omega), if_pos (by omega)]
theorem ethtake_eq (s : ByteArray) (k : Nat) (hk : 30 ≤ k) : ether_Take.f k s = some (res t1 s) := by
  unfold ether_Take.f res tk0
  rw [cut_eq, Option.bind_some]
  by_cases c1 : 6 ≤ s.size
  · rw [cutS_ok s c1]
    simp only [if_true, cut_eq, Option.bind_some]
    have hz : (s.extract 6 s.size).size = s.size - 6 := by rw [ByteArray.size_extract]; omega
    by_cases c2 : 12 ≤ s.size
    · rw [cutS_ok _ (by omega)]
      simp only [if_true]
      have x1 : (s.extract 6 s.size).extract 0 6 = s.extract 6 12 := by rw [ByteArray.extract_extract]; congr 1; omega
      have x2 : (s.extract 6 s.size).extract 6 (s.extract 6 s.size).size = s.extract 12 s.size := by rw [hz, ByteArray.extract_extract]; congr 1; omega
      rw [x1, x2, if_neg (by omega)]
      exact take_loop s (s.extract 0 6) (s.extract 6 12) 3 12 [] 0 k c2 rfl (by decide) (by omega)
    · rw [cutS_no _ (by omega)]
      dsimp only
      rw [if_neg (show ¬ (2 : Int) = 0 by decide), if_pos (by omega)]; rfl
  · rw [cutS_no _ c1]
    dsimp only
    rw [if_neg (show ¬ (2 : Int) = 0 by decide), if_pos (by omega)]; rfl
theorem ref_loop (l : List Pr) (d r : ByteArray) (n : Int) (hl : l.length < 1000) (j : Nat) : ∀ (i k : Nat), i + j = l.length → j < k →
    rillmeterlaw05_ref.l0 k (l.map t1) (l.length : Int) (i : Int) d r ((l.take i).map t2) n = some (d, r, l.map t2, n) := by
  induction j with
  | zero =>
    intro i k hi hk
    obtain ⟨k, rfl⟩ : ∃ m, k = m + 1 := ⟨k - 1, by omega⟩
    simp only [rillmeterlaw05_ref.l0]
    rw [if_neg (by omega), List.take_of_length_le (by omega)]
  | succ j ih =>
    intro i k hi hk
    obtain ⟨k, rfl⟩ : ∃ m, k = m + 1 := ⟨k - 1, by omega⟩
    simp only [rillmeterlaw05_ref.l0]
    rw [if_pos (by omega), if_pos (by omega), if_pos (by rw [List.length_map]; omega), if_pos (by rw [List.length_map, List.length_take]; omega), rd1 l i (by omega)]
    rw [show wrap64 ((i : Int) + 1) = ((i + 1 : Nat) : Int) by rw [w64 (by omega) (by omega)]; omega]
    have := ih (i + 1) k (by omega) (by omega)
    rw [List.take_succ_eq_append_getElem (by omega), List.map_append] at this
    exact this
theorem ref_eq (l : List Pr) (d r : ByteArray) (n : Int) (hl : l.length < 1000) (k : Nat) (hk : l.length < k) : rillmeterlaw05_ref.f k d r (l.map t1) n = some (d, r, l.map t2, n) := by
  unfold rillmeterlaw05_ref.f
  rw [List.length_map]
  exact ref_loop l d r n hl l.length 0 k (by omega) hk
theorem equal_loop (l : List Pr) (d r : ByteArray) (n : Int) (hl : l.length < 1000) (j : Nat) : ∀ (i k : Nat), i + j = l.length → j < k →
    rillmeterref05_Equal.l0 k (i : Int) d r (l.map t2) n d r (l.map t2) n = some true := by
  induction j with
  | zero =>
    intro i k hi hk
    obtain ⟨k, rfl⟩ : ∃ m, k = m + 1 := ⟨k - 1, by omega⟩
    simp only [rillmeterref05_Equal.l0]
    rw [if_neg (by rw [List.length_map]; omega)]
  | succ j ih =>
    intro i k hi hk
    obtain ⟨k, rfl⟩ : ∃ m, k = m + 1 := ⟨k - 1, by omega⟩
    simp only [rillmeterref05_Equal.l0]
    rw [if_pos (by rw [List.length_map]; omega), if_pos (by omega), if_pos (by rw [List.length_map]; omega), if_neg (by simp)]
    rw [show wrap64 ((i : Int) + 1) = ((i + 1 : Nat) : Int) by rw [w64 (by omega) (by omega)]; omega]
    exact ih (i + 1) k (by omega) (by omega)
theorem equal_eq (l : List Pr) (d r : ByteArray) (n : Int) (hl : l.length < 1000) (k : Nat) (hk : l.length + 1 < k) : rillmeterref05_Equal.f k d r (l.map t2) n d r (l.map t2) n = some true := by
  unfold rillmeterref05_Equal.f
  obtain ⟨k, rfl⟩ : ∃ m, k = m + 1 := ⟨k - 1, by omega⟩
  rw [if_pos rfl, if_pos rfl, if_pos rfl]
  simp only [rillmeterref05_Equal.j0]
  rw [if_neg (by simp)]
  exact equal_loop l d r n hl l.length 0 k (by omega) (by omega)
abbrev okT (p : Pr) : Prop := isTag p.1 = true ∧ is2 p.2 = true
theorem right1_ok (p : Pr) (h : okT p) : ether_Right_1.f p.1 p.2 = some false := by
  unfold ether_Right_1.f
  rw [tag_eq, Option.bind_some, if_pos h.1, two_eq, Option.bind_some, h.2]; rfl
theorem index_ok (l : List Pr) (hl : l.length < 1000) (h : ∀ p ∈ l, okT p) (j : Nat) : ∀ (i k : Nat), i + j = l.length → j < k →
    slices_IndexFunc_of_26_28.l0 k (l.map t1) (l.length : Int) (i : Int) = some (-1) := by
  induction j with
  | zero =>
    intro i k hi hk
    obtain ⟨k, rfl⟩ : ∃ m, k = m + 1 := ⟨k - 1, by omega⟩
    simp only [slices_IndexFunc_of_26_28.l0]
    rw [if_neg (by omega)]
  | succ j ih =>
    intro i k hi hk
    obtain ⟨k, rfl⟩ : ∃ m, k = m + 1 := ⟨k - 1, by omega⟩
    simp only [slices_IndexFunc_of_26_28.l0]
    rw [if_pos (by omega), if_pos (by omega), if_pos (by rw [List.length_map]; omega), rd1 l i (by omega)]
    have := right1_ok l[i] (h _ (List.getElem_mem _))
    simp only [t1]
    rw [this, Option.bind_some, if_neg (by decide)]
    rw [show wrap64 ((i : Int) + 1) = ((i + 1 : Nat) : Int) by rw [w64 (by omega) (by omega)]; omega]
    exact ih (i + 1) k (by omega) (by omega)
theorem right_ok (d r : ByteArray) (l : List Pr) (n : Int) (hd : d.size = 6) (hr : r.size = 6) (hl : l.length ≤ 2) (hn : is2 n = true) (ht : ¬ isTag n = true) (h : ∀ p ∈ l, okT p) (k : Nat) (hk : 5 ≤ k) :
    ether_Right.f k d r (l.map t1) n = some true := by
  unfold ether_Right.f
  rw [if_pos (by omega), if_pos (by omega), if_pos (by rw [List.length_map]; omega), two_eq, Option.bind_some, if_pos hn, tag_eq, Option.bind_some, if_neg ht]
  unfold slices_ContainsFunc_of_26_25.f slices_IndexFunc_of_26_28.f
  have := index_ok l (by omega) h l.length 0 k (by omega) (by omega)
  rw [List.length_map, show (0 : Int) = ((0 : Nat) : Int) from rfl, this]; rfl
theorem and4095 (n : Int) : bits .and .i64 n 4095 = n % 4096 := by
  have h127 : (BitVec.ofInt 64 4095).toNat = 2 ^ 12 - 1 := by decide
  have key : (BitVec.ofInt 64 n &&& BitVec.ofInt 64 4095).toNat = (n % ((2 ^ 64 : Nat) : Int)).toNat % 2 ^ 12 := by
    rw [BitVec.toNat_and, BitVec.toNat_ofInt, h127, Nat.and_two_pow_sub_one_eq_mod]
  show IntKind.i64.wrap ((BitVec.ofInt 64 n &&& BitVec.ofInt 64 4095).toNat : Nat) = n % 4096
  rw [key, IntKind.wrap_i64]
  omega
theorem id_eq (x n : Int) : ether_ID.f x n = some (n % 4096) := by unfold ether_ID.f; rw [and4095]
theorem awake_eq (k : Nat) (hk : 40 ≤ k) : rillmeterlaw05_awake.f k = some true := by
  unfold rillmeterlaw05_awake.f
  have e : res t1 (⟨#[97, 97, 97, 97, 97, 97, 98, 98, 98, 98, 98, 98, 8, 0, 120]⟩ : ByteArray) = (mkB [97, 97, 97, 97, 97, 97], mkB [98, 98, 98, 98, 98, 98], [], 2048, mkB [120], 0) := by
    have : tk0 (⟨#[97, 97, 97, 97, 97, 97, 98, 98, 98, 98, 98, 98, 8, 0, 120]⟩ : ByteArray) = .ok ([], 2048, 14) := by
      have h : at_ (⟨#[97, 97, 97, 97, 97, 97, 98, 98, 98, 98, 98, 98, 8, 0, 120]⟩ : ByteArray) 12 (12 + 2) = 2048 := by decide +kernel
      unfold tk0 tk
      rw [if_neg (by decide +kernel), if_pos (by decide +kernel), h, if_neg (by decide +kernel)]; rfl
    unfold res
    rw [this]; rfl
  rw [ethtake_eq _ _ (by omega), e, Option.bind_some]
  have r := right_ok (mkB [97, 97, 97, 97, 97, 97]) (mkB [98, 98, 98, 98, 98, 98]) [] 2048 rfl rfl (by decide) (by decide) (by decide) (by simp) k (by omega)
  simp only [mkB_toList, if_true, List.map_nil] at r ⊢
  rw [r, Option.bind_some, if_pos rfl, id_eq]; rfl
end Go.Proofs.Ytngcelombflnfaa.L05
namespace Go.Proofs.Ytngcelombflnfaa.L05
open Go Go.RowKit Go.Proofs.Ytngcelombflnfaa.Q Go.Proofs.Ytngcelombflnfaa.Base Go.Proofs.Ytngcelombflnfaa.L04 Go.Proofs.Ytngcelombflnfaa.LAt Go.Proofs.YtngcelombflnfaaW.PrintWords Go.Proofs.YtngcelombflnfaaW.PrintMore
set_option linter.unusedVariables false
set_option linter.unusedSimpArgs false
theorem res_ok {T : Type} (t : Pr → T) (s : ByteArray) (ts : List Pr) (n : Int) (q : Nat) (h : tk0 s = .ok (ts, n, q)) : res t s = (s.extract 0 6, s.extract 6 12, ts.map t, n, s.extract q s.size, 0) := by unfold res; rw [h]; rfl
def encT (l : List Pr) : List UInt8 := l.flatMap fun p => two p.1 ++ two p.2
theorem is2_r {n : Int} (h : is2 n = true) : 0 ≤ n ∧ n ≤ 65535 := of_decide_eq_true h
theorem tag_r {n : Int} (h : isTag n = true) : 0 ≤ n ∧ n ≤ 65535 := by
  unfold isTag at h
  rw [Bool.or_eq_true, beq_iff_eq, beq_iff_eq] at h
  omega
theorem ethput_loop (b d r : ByteArray) (l : List Pr) (n : Int) (hl : l.length ≤ 2) (hn : is2 n = true) (h : ∀ p ∈ l, okT p) (hb : b.size ≤ 140737488351232) (j : Nat) : ∀ (i k : Nat) (x : List UInt8), i + j = l.length → 30 + j ≤ k → x.length ≤ 1000 * i + 1000 →
    ether_Put.l0 k b (mkB x) (l.map t1) (l.length : Int) (i : Int) d r (l.map t1) n = some (mkB (x ++ (encT (l.drop i) ++ (two n ++ b.data.toList))), 0) := by
  have hn2 := is2_r hn
  induction j with
  | zero =>
    intro i k x hi hk hx
    obtain ⟨k, rfl⟩ : ∃ m, k = m + 1 := ⟨k - 1, by omega⟩
    simp only [ether_Put.l0]
    have e : mkB (x ++ two n) ++ b = mkB (x ++ two n ++ b.data.toList) := by rw [app_mkB]
    rw [if_neg (by omega), put_eq _ _ _ (by omega), Option.bind_some, putS_two hn2.1 hn2.2]
    dsimp only
    rw [if_pos (by simp only [mkB_size, two_length]; omega), mkB_app, if_pos (by simp only [mkB_size, List.length_append, two_length]; omega), e, List.drop_eq_nil_of_le (by omega)]
    simp [encT]
  | succ j ih =>
    intro i k x hi hk hx
    obtain ⟨k, rfl⟩ : ∃ m, k = m + 1 := ⟨k - 1, by omega⟩
    simp only [ether_Put.l0]
    have ho := h l[i] (List.getElem_mem _)
    have r1 := tag_r ho.1
    have r2 := is2_r ho.2
    rw [if_pos (by omega), if_pos (by omega), if_pos (by rw [List.length_map]; omega), rd1 l i (by omega)]
    simp only [t1]
    rw [put_eq _ _ _ (by omega), Option.bind_some, put_eq _ _ _ (by omega), Option.bind_some, putS_two r1.1 r1.2, putS_two r2.1 r2.2]
    dsimp only
    rw [if_pos (by simp only [mkB_size, two_length]; omega), mkB_app, if_pos (by simp only [mkB_size, List.length_append, two_length]; omega), mkB_app]
    rw [show wrap64 ((i : Int) + 1) = ((i + 1 : Nat) : Int) by rw [w64 (by omega) (by omega)]; omega]
    have := ih (i + 1) k (x ++ (two l[i].1 ++ two l[i].2)) (by omega) (by omega) (by simp only [List.length_append, two_length]; omega)
    refine this.trans ?_
    unfold encT
    rw [List.drop_eq_getElem_cons (show i < l.length by omega), List.flatMap_cons]
    simp only [List.append_assoc]
theorem ethput_ok (d r b : ByteArray) (l : List Pr) (n : Int) (hd : d.size = 6) (hr : r.size = 6) (hl : l.length ≤ 2) (hn : is2 n = true) (ht : ¬ isTag n = true) (h : ∀ p ∈ l, okT p) (hb : b.size ≤ 140737488351232) (k : Nat) (hk : 40 ≤ k) :
    ether_Put.f k d r (l.map t1) n b = some (mkB (d.data.toList ++ r.data.toList ++ (encT l ++ (two n ++ b.data.toList))), 0) := by
  unfold ether_Put.f
  rw [right_ok d r l n hd hr hl hn ht h k (by omega), Option.bind_some, if_pos rfl, if_pos (by omega), List.length_map]
  have e : d ++ r = mkB (d.data.toList ++ r.data.toList) := by rw [← mkB_eta (d ++ r), app_list]
  have hl1 := len d
  have hl2 := len r
  rw [e]
  have := ethput_loop b d r l n hl hn h hb l.length 0 k (d.data.toList ++ r.data.toList) (by omega) (by omega) (by rw [List.length_append]; omega)
  rw [List.drop_zero] at this
  exact this
end Go.Proofs.Ytngcelombflnfaa.L05
namespace Go.Proofs.Ytngcelombflnfaa.L05
open Go Go.RowKit Go.Proofs.Ytngcelombflnfaa.Q Go.Proofs.Ytngcelombflnfaa.Base Go.Proofs.Ytngcelombflnfaa.L04 Go.Proofs.Ytngcelombflnfaa.LAt Go.Proofs.YtngcelombflnfaaW.PrintWords Go.Proofs.YtngcelombflnfaaW.PrintMore
set_option linter.unusedVariables false
set_option linter.unusedSimpArgs false
def okP (p : Pr) : Bool := isTag p.1 && is2 p.2
def allT : List Pr → Bool
  | [] => true
  | p :: r => okP p && allT r
theorem allT_iff (l : List Pr) : allT l = true ↔ ∀ p ∈ l, okT p := by
  induction l with
  | nil => simp [allT]
  | cons p r ih => simp [allT, okP, ih, okT]
theorem right1_eq (p : Pr) : ether_Right_1.f p.1 p.2 = some (!okP p) := by
  unfold ether_Right_1.f okP
  rw [tag_eq, Option.bind_some]
  cases isTag p.1
  · rw [if_neg (by decide)]; rfl
  · rw [if_pos rfl, two_eq, Option.bind_some]; rfl
theorem index_any (l : List Pr) (hl : l.length < 1000) (j : Nat) : ∀ (i k : Nat), i + j = l.length → j < k →
    ∃ m : Int, slices_IndexFunc_of_26_28.l0 k (l.map t1) (l.length : Int) (i : Int) = some m ∧ (!decide (m ≥ 0)) = allT (l.drop i) := by
  induction j with
  | zero =>
    intro i k hi hk
    obtain ⟨k, rfl⟩ : ∃ m, k = m + 1 := ⟨k - 1, by omega⟩
    refine ⟨-1, ?_, by rw [List.drop_eq_nil_of_le (by omega)]; rfl⟩
    simp only [slices_IndexFunc_of_26_28.l0]
    rw [if_neg (by omega)]
  | succ j ih =>
    intro i k hi hk
    obtain ⟨k, rfl⟩ : ∃ m, k = m + 1 := ⟨k - 1, by omega⟩
    obtain ⟨m, h1, h2⟩ := ih (i + 1) k (by omega) (by omega)
    simp only [slices_IndexFunc_of_26_28.l0]
    rw [if_pos (by omega), if_pos (by omega), if_pos (by rw [List.length_map]; omega), rd1 l i (by omega)]
    have := right1_eq l[i]
    simp only [t1]
    rw [this, Option.bind_some, show wrap64 ((i : Int) + 1) = ((i + 1 : Nat) : Int) by rw [w64 (by omega) (by omega)]; omega, List.drop_eq_getElem_cons (show i < l.length by omega), allT]
    cases okP l[i]
    · refine ⟨i, by rw [if_pos (by decide)], ?_⟩
      rw [decide_eq_true (by omega)]; rfl
    · refine ⟨m, by rw [if_neg (by decide)]; exact h1, ?_⟩
      rw [h2]; rfl
def okE (d r : ByteArray) (l : List Pr) (n : Int) : Prop := d.size = 6 ∧ r.size = 6 ∧ l.length ≤ 2 ∧ is2 n = true ∧ isTag n = false
instance (d r : ByteArray) (l : List Pr) (n : Int) : Decidable (okE d r l n) := by unfold okE; infer_instance
def rt (d r : ByteArray) (l : List Pr) (n : Int) : Bool := allT l && decide (okE d r l n)
theorem ethright_eq (d r : ByteArray) (l : List Pr) (n : Int) (hl : l.length < 1000) (k : Nat) (hk : l.length < k) : ether_Right.f k d r (l.map t1) n = some (rt d r l n) := by
  unfold ether_Right.f rt
  rw [List.length_map]
  by_cases c1 : d.size = 6
  case neg => rw [if_neg (by omega), decide_eq_false (fun o : okE d r l n => c1 o.1), Bool.and_false]
  by_cases c2 : r.size = 6
  case neg => rw [if_pos (by omega), if_neg (by omega), decide_eq_false (fun o : okE d r l n => c2 o.2.1), Bool.and_false]
  by_cases c3 : l.length ≤ 2
  case neg => rw [if_pos (by omega), if_pos (by omega), if_neg (by omega), decide_eq_false (fun o : okE d r l n => c3 o.2.2.1), Bool.and_false]
  rw [if_pos (by omega), if_pos (by omega), if_pos (by omega), two_eq, Option.bind_some]
  cases c4 : is2 n
  · rw [if_neg (by decide), decide_eq_false (fun o : okE d r l n => by have := o.2.2.2.1; rw [c4] at this; cases this), Bool.and_false]
  rw [if_pos rfl, tag_eq, Option.bind_some]
  cases c5 : isTag n
  case true => rw [if_pos rfl, decide_eq_false (fun o : okE d r l n => by have := o.2.2.2.2; rw [c5] at this; cases this), Bool.and_false]
  rw [if_neg (by decide), decide_eq_true (show okE d r l n from ⟨c1, c2, c3, c4, c5⟩), Bool.and_true]
  unfold slices_ContainsFunc_of_26_25.f slices_IndexFunc_of_26_28.f
  obtain ⟨m, h1, h2⟩ := index_any l hl l.length 0 k (by omega) hk
  rw [List.drop_zero] at h2
  rw [List.length_map, show (0 : Int) = ((0 : Nat) : Int) from rfl, h1, Option.bind_some, Option.bind_some]
  rw [← h2]; rfl
theorem reftwo_eq (n : Int) : rillmeterref05_two.f n = some (is2 n) := by
  unfold rillmeterref05_two.f is2
  by_cases h : n ≥ 0
  · rw [if_pos h]
    by_cases h1 : n < 65536
    · rw [decide_eq_true h1, decide_eq_true (show 0 ≤ n ∧ n ≤ 65535 by omega)]
    · rw [decide_eq_false h1, decide_eq_false (show ¬ (0 ≤ n ∧ n ≤ 65535) by omega)]
  · rw [if_neg h, decide_eq_false (show ¬ (0 ≤ n ∧ n ≤ 65535) by omega)]
theorem refright_loop (d r : ByteArray) (l : List Pr) (n : Int) (hl : l.length < 1000) (j : Nat) : ∀ (i k : Nat), i + j = l.length → j < k →
    rillmeterref05_Right.l0 k (i : Int) d r (l.map t2) n = some (allT (l.drop i) && decide (okE d r l n)) := by
  induction j with
  | zero =>
    intro i k hi hk
    obtain ⟨k, rfl⟩ : ∃ m, k = m + 1 := ⟨k - 1, by omega⟩
    simp only [rillmeterref05_Right.l0]
    rw [List.drop_eq_nil_of_le (by omega), allT, Bool.true_and, List.length_map, if_neg (by omega)]
    by_cases c1 : d.size = 6
    case neg => rw [if_neg (by omega), decide_eq_false (fun o : okE d r l n => c1 o.1)]
    by_cases c2 : r.size = 6
    case neg => rw [if_pos (by omega), if_neg (by omega), decide_eq_false (fun o : okE d r l n => c2 o.2.1)]
    by_cases c3 : l.length ≤ 2
    case neg => rw [if_pos (by omega), if_pos (by omega), if_neg (by omega), decide_eq_false (fun o : okE d r l n => c3 o.2.2.1)]
    rw [if_pos (by omega), if_pos (by omega), if_pos (by omega), reftwo_eq, Option.bind_some]
    cases c4 : is2 n
    · rw [if_neg (by decide), decide_eq_false (fun o : okE d r l n => by have := o.2.2.2.1; rw [c4] at this; cases this)]
    rw [if_pos rfl, reftag_eq, Option.bind_some]
    cases c5 : isTag n
    case true => rw [decide_eq_false (fun o : okE d r l n => by have := o.2.2.2.2; rw [c5] at this; cases this)]; rfl
    rw [decide_eq_true (show okE d r l n from ⟨c1, c2, c3, c4, c5⟩)]; rfl
  | succ j ih =>
    intro i k hi hk
    obtain ⟨k, rfl⟩ : ∃ m, k = m + 1 := ⟨k - 1, by omega⟩
    have hr := ih (i + 1) k (by omega) (by omega)
    simp only [rillmeterref05_Right.l0]
    rw [if_pos (by rw [List.length_map]; omega), if_pos (by omega), rd2 l i (by omega), show wrap64 ((i : Int) + 1) = ((i + 1 : Nat) : Int) by rw [w64 (by omega) (by omega)]; omega, hr, List.drop_eq_getElem_cons (show i < l.length by omega), allT]
    simp only [t2]
    rw [reftag_eq, Option.bind_some]
    unfold okP
    cases isTag l[i].1
    · rw [if_neg (by decide)]; rfl
    rw [if_pos rfl, reftwo_eq, Option.bind_some]
    cases is2 l[i].2
    · rw [if_neg (by decide)]; rfl
    · rw [if_pos rfl]; rfl
theorem refethright_eq (d r : ByteArray) (l : List Pr) (n : Int) (hl : l.length < 1000) (k : Nat) (hk : l.length < k) : rillmeterref05_Right.f k d r (l.map t2) n = some (rt d r l n) := by
  unfold rillmeterref05_Right.f rt
  have := refright_loop d r l n hl l.length 0 k (by omega) hk
  rw [List.drop_zero] at this
  exact this
theorem bytes_eq (n : Int) (h : 0 ≤ n ∧ n ≤ 65535) : rillmeterref05_bytes.f n = some (mkB (two n)) := by
  unfold rillmeterref05_bytes.f two
  have e1 : wrap64 (Int.tdiv n 256) % 256 = ((n.toNat / 256 : Nat) : Int) := by
    rw [Int.tdiv_eq_ediv_of_nonneg h.1, w64 (by omega) (by omega), Int.emod_eq_of_lt (by omega) (by omega)]; omega
  have e2 : Int.tmod n 256 % 256 = ((n.toNat % 256 : Nat) : Int) := by
    rw [Int.tmod_eq_emod_of_nonneg h.1]; omega
  rw [nums_mkB, e1, e2]
  simp only [List.map_cons, List.map_nil, Int.toNat_natCast, enc, List.nil_append, List.cons_append]
  congr 3
  congr 1
  apply UInt8.toNat_inj.1
  simp
theorem refput_loop (d r : ByteArray) (l : List Pr) (n : Int) (hl : l.length ≤ 2) (hn : is2 n = true) (h : ∀ p ∈ l, okT p) (j : Nat) : ∀ (i k : Nat) (x : List UInt8), i + j = l.length → j < k → x.length ≤ 1000 * i + 1000 →
    rillmeterref05_Put.l0 k (mkB x) (i : Int) d r (l.map t2) n = some (mkB (x ++ (encT (l.drop i) ++ two n))) := by
  have hn2 := is2_r hn
  induction j with
  | zero =>
    intro i k x hi hk hx
    obtain ⟨k, rfl⟩ : ∃ m, k = m + 1 := ⟨k - 1, by omega⟩
    simp only [rillmeterref05_Put.l0]
    rw [if_neg (by rw [List.length_map]; omega), bytes_eq n hn2, Option.bind_some, if_pos (by simp only [mkB_size, two_length]; omega), mkB_app, List.drop_eq_nil_of_le (by omega)]
    simp [encT]
  | succ j ih =>
    intro i k x hi hk hx
    obtain ⟨k, rfl⟩ : ∃ m, k = m + 1 := ⟨k - 1, by omega⟩
    simp only [rillmeterref05_Put.l0]
    have ho := h l[i] (List.getElem_mem _)
    have r1 := tag_r ho.1
    have r2 := is2_r ho.2
    rw [if_pos (by rw [List.length_map]; omega), if_pos (by omega), rd2 l i (by omega)]
    simp only [t2]
    rw [bytes_eq _ r1, Option.bind_some, if_pos (by simp only [mkB_size, two_length]; omega), bytes_eq _ r2, Option.bind_some, mkB_app, if_pos (by simp only [mkB_size, List.length_append, two_length]; omega), mkB_app]
    rw [show wrap64 ((i : Int) + 1) = ((i + 1 : Nat) : Int) by rw [w64 (by omega) (by omega)]; omega]
    have := ih (i + 1) k (x ++ two l[i].1 ++ two l[i].2) (by omega) (by omega) (by simp only [List.length_append, two_length]; omega)
    refine this.trans ?_
    unfold encT
    rw [List.drop_eq_getElem_cons (show i < l.length by omega), List.flatMap_cons]
    simp only [List.append_assoc]
theorem refethput_eq (d r : ByteArray) (l : List Pr) (n : Int) (hd : d.size = 6) (hr : r.size = 6) (hl : l.length ≤ 2) (hn : is2 n = true) (h : ∀ p ∈ l, okT p) (k : Nat) (hk : l.length < k) :
    rillmeterref05_Put.f k d r (l.map t2) n = some (mkB (d.data.toList ++ r.data.toList ++ (encT l ++ two n))) := by
  unfold rillmeterref05_Put.f
  have e : d ++ r = mkB (d.data.toList ++ r.data.toList) := by rw [← mkB_eta (d ++ r), app_list]
  have hl1 := len d
  have hl2 := len r
  rw [if_pos (by omega), e]
  have := refput_loop d r l n hl hn h l.length 0 k (d.data.toList ++ r.data.toList) (by omega) hk (by rw [List.length_append]; omega)
  rw [List.drop_zero] at this
  exact this
theorem at_of {s : ByteArray} {p : Nat} {n : Int} {tl : List UInt8} (h : s.data.toList.drop p = two n ++ tl) (hn : 0 ≤ n ∧ n ≤ 65535) : p + 2 ≤ s.size ∧ ((at_ s p (p + 2) : Nat) : Int) = n ∧ s.data.toList.drop (p + 2) = tl := by
  have h1 := congrArg List.length h
  rw [List.length_drop, List.length_append, two_length, len] at h1
  refine ⟨by omega, ?_, ?_⟩
  · unfold at_
    rw [h, show p + 2 - p = 2 by omega, List.take_left' (two_length n), num_two hn.1 hn.2]
  · rw [← List.drop_drop, h, List.drop_left' (two_length n)]
theorem tk_enc (s : ByteArray) (n : Int) (hn : is2 n = true) (ht : isTag n = false) (l : List Pr) : ∀ (f p : Nat) (tags : List Pr) (rest : List UInt8), s.data.toList.drop p = encT l ++ (two n ++ rest) → (∀ q ∈ l, okT q) → tags.length + l.length ≤ 2 → l.length < f →
    ∃ q, tk s f p tags = .ok (tags ++ l, n, q) ∧ s.data.toList.drop q = rest ∧ q ≤ s.size := by
  induction l with
  | nil =>
    intro f p tags rest hd _ _ hf
    obtain ⟨f, rfl⟩ : ∃ m, f = m + 1 := ⟨f - 1, by omega⟩
    obtain ⟨h1, h2, h3⟩ := at_of (n := n) (tl := rest) (by rw [hd]; rfl) (is2_r hn)
    refine ⟨p + 2, ?_, h3, h1⟩
    unfold tk
    rw [if_pos h1, h2, if_neg (by rw [ht]; decide), List.append_nil]
  | cons a l ih =>
    intro f p tags rest hd hok hl hf
    rw [List.length_cons] at hl hf
    obtain ⟨f, rfl⟩ : ∃ m, f = m + 1 := ⟨f - 1, by omega⟩
    have ho := hok a List.mem_cons_self
    have r1 := tag_r ho.1
    have r2 := is2_r ho.2
    have e0 : encT (a :: l) = two a.1 ++ (two a.2 ++ encT l) := by unfold encT; rw [List.flatMap_cons, List.append_assoc]
    rw [e0, List.append_assoc, List.append_assoc] at hd
    obtain ⟨h1, h2, h3⟩ := at_of hd r1
    obtain ⟨g1, g2, g3⟩ := at_of h3 r2
    obtain ⟨q, q1, q2, q3⟩ := ih f (p + 4) (tags ++ [a]) rest g3 (fun x hx => hok x (List.mem_cons_of_mem _ hx)) (by rw [List.length_append]; simp only [List.length_cons, List.length_nil]; omega) (by omega)
    refine ⟨q, ?_, q2, q3⟩
    have etg : tg s p = a := by
      unfold tg
      rw [h2, show ((at_ s (p + 2) (p + 4) : Nat) : Int) = a.2 from g2]
    unfold tk
    rw [if_pos h1, h2, if_pos ho.1, if_neg (by omega), if_pos (by omega), etg, q1, List.append_assoc]; rfl
theorem take_put (d r b : ByteArray) (l : List Pr) (n : Int) (hd : d.size = 6) (hr : r.size = 6) (hl : l.length ≤ 2) (hn : is2 n = true) (ht : isTag n = false) (h : ∀ p ∈ l, okT p) :
    res t1 (mkB (d.data.toList ++ r.data.toList ++ (encT l ++ (two n ++ b.data.toList)))) = (d, r, l.map t1, n, b, 0) := by
  obtain ⟨s, hs⟩ : ∃ s, s = mkB (d.data.toList ++ r.data.toList ++ (encT l ++ (two n ++ b.data.toList))) := ⟨_, rfl⟩
  have hl1 := len d
  have hl2 := len r
  have hsl : s.data.toList = d.data.toList ++ r.data.toList ++ (encT l ++ (two n ++ b.data.toList)) := by rw [hs, mkB_data]
  have hsz : 12 ≤ s.size := by rw [← len, hsl]; simp only [List.length_append]; omega
  have h12 : s.data.toList.drop 12 = encT l ++ (two n ++ b.data.toList) := by rw [hsl, List.drop_left' (by rw [List.length_append]; omega)]
  obtain ⟨q, q1, q2, q3⟩ := tk_enc s n hn ht l 3 12 [] b.data.toList h12 h (by simpa using hl) (by omega)
  have e0 : tk0 s = .ok (l, n, q) := by unfold tk0; rw [if_neg (by omega), q1, List.nil_append]
  rw [← hs, res_ok t1 s l n q e0]
  have x1 : s.extract 0 6 = d := by
    apply ByteArray.ext; apply Array.toList_inj.mp
    rw [extract_list, hsl, List.drop_zero, List.append_assoc, List.take_left' (by omega)]
  have x2 : s.extract 6 12 = r := by
    apply ByteArray.ext; apply Array.toList_inj.mp
    rw [extract_list, hsl, List.append_assoc, List.drop_left' (by omega), List.take_left' (by omega)]
  have x3 : s.extract q s.size = b := by
    apply ByteArray.ext; apply Array.toList_inj.mp
    have := congrArg List.length q2
    rw [List.length_drop, len] at this
    rw [extract_list, q2, List.take_of_length_le (by omega)]
  rw [x1, x2, x3]
theorem ethput_no (d r b : ByteArray) (l : List Pr) (n : Int) (hl : l.length < 1000) (hn : rt d r l n = false) (k : Nat) (hk : l.length < k) : ether_Put.f k d r (l.map t1) n b = some (mkB [], 1) := by
  unfold ether_Put.f
  rw [ethright_eq d r l n hl k hk, Option.bind_some, hn, if_neg (by decide)]; rfl
end Go.Proofs.Ytngcelombflnfaa.L05
