/- What the printed functions of layer 5 (ether) answer, told by plain functions on bytes. -/
import Derived.Test.YtngcelombflnfaaLAt
import Derived.Laws.Bits128
import Derived.Test.YtngcelombflnfaaQx3
import Derived.Test.YtngcelombflnfaaQx4
import Derived.Test.YtngcelombflnfaaQx5
import Derived.Test.YtngcelombflnfaaQx6
import Derived.Test.YtngcelombflnfaaQx7
import Derived.Test.YtngcelombflnfaaQx8
import Derived.Test.YtngcelombflnfaaQx9
import Derived.Test.YtngcelombflnfaaQx10
namespace Go.Proofs.Ytngcelombflnfaa.L05
open Go Go.RowKit Go.Proofs.Ytngcelombflnfaa.Q Go.Proofs.Ytngcelombflnfaa.Base Go.Proofs.Ytngcelombflnfaa.L04 Go.Proofs.Ytngcelombflnfaa.LAt Go.Proofs.YtngcelombflnfaaW.PrintWords Go.Proofs.YtngcelombflnfaaW.PrintMore
set_option linter.unusedVariables false
set_option linter.unusedSimpArgs false

abbrev Tg := S39
abbrev Rg := S53
def isTag (n : Int) : Bool := n == 33024 || n == 34984
theorem tag_eq (n : Int) : ether_tag.f n = some (isTag n) := by
  unfold ether_tag.f isTag
  by_cases h : n = 33024
  · rw [if_pos h]; simp [h]
  · rw [if_neg h, beq_eq_false_iff_ne.mpr h]; rfl
theorem reftag_eq (n : Int) : rillmeterref05_tag.f n = some (isTag n) := by
  unfold rillmeterref05_tag.f isTag
  by_cases h : n = 33024
  · rw [if_pos h]; simp [h]
  · rw [if_neg h, beq_eq_false_iff_ne.mpr h]; rfl
def is2 (n : Int) : Bool := decide (0 ≤ n ∧ n ≤ 65535)
theorem two_eq (n : Int) : ether_two.f n = some (is2 n) := by
  unfold ether_two.f is2
  by_cases h : n ≥ 0
  · rw [if_pos h]
    by_cases h1 : n ≤ 65535
    · rw [decide_eq_true h1, decide_eq_true (show 0 ≤ n ∧ n ≤ 65535 from ⟨h, h1⟩)]
    · rw [decide_eq_false h1, decide_eq_false (show ¬ (0 ≤ n ∧ n ≤ 65535) from fun h2 => h1 h2.2)]
  · rw [if_neg h, decide_eq_false (show ¬ (0 ≤ n ∧ n ≤ 65535) from fun h2 => h h2.1)]
abbrev Pr := Int × Int
def t1 (p : Pr) : Tg := ⟨p.1, p.2⟩
def t2 (p : Pr) : Rg := ⟨p.1, p.2⟩
theorem rd1 (l : List Pr) (i : Nat) (h : i < l.length) : rd_T39 (l.map t1) (i : Int) = t1 l[i] := by
  unfold rd_T39
  rw [Int.toNat_natCast, List.getD_eq_getElem?_getD, List.getElem?_eq_getElem (by rw [List.length_map]; exact h), List.getElem_map]; rfl
theorem rd2 (l : List Pr) (i : Nat) (h : i < l.length) : rd_T53 (l.map t2) (i : Int) = t2 l[i] := by
  unfold rd_T53
  rw [Int.toNat_natCast, List.getD_eq_getElem?_getD, List.getElem?_eq_getElem (by rw [List.length_map]; exact h), List.getElem_map]; rfl

/-! ### Take -/
def tg (s : ByteArray) (p : Nat) : Pr := (((at_ s p (p + 2) : Nat) : Int), ((at_ s (p + 2) (p + 4) : Nat) : Int))
/-- From a place on, with the tags so far: the tags, the type and where the body begins; or the error's number. -/
def tk (s : ByteArray) : Nat → Nat → List Pr → Except Int (List Pr × Int × Nat)
  | 0, _, _ => .error 9
  | f + 1, p, tags =>
    if p + 2 ≤ s.size then
      (if isTag (at_ s p (p + 2) : Nat) = true then
        (if tags.length = 2 then .error 9 else if p + 4 ≤ s.size then tk s f (p + 4) (tags ++ [tg s p]) else .error 2)
       else .ok (tags, (at_ s p (p + 2) : Nat), p + 2))
    else .error 2
theorem take_short (s : ByteArray) (p : Nat) (hp : p ≤ s.size) (h : ¬ p + 2 ≤ s.size) (k : Nat) (hk : 10 ≤ k) : octet_Take.f k (s.extract p s.size) 2 = some (0, mkB [], 2) := by
  rw [take_eq _ _ _ hk]
  unfold takeS
  have hz : (s.extract p s.size).size = s.size - p := by rw [ByteArray.size_extract]; omega
  rw [if_neg (by omega), if_pos (by omega)]
abbrev Out (T : Type) := ByteArray × ByteArray × List T × Int × ByteArray × Int
def out {T : Type} (t : Pr → T) (s d r : ByteArray) : Except Int (List Pr × Int × Nat) → Out T
  | .error e => (mkB [], mkB [], [], 0, mkB [], e)
  | .ok (tags, n, p) => (d, r, tags.map t, n, s.extract p s.size, 0)
theorem take_loop (s d r : ByteArray) (f : Nat) : ∀ (p : Nat) (tags : List Pr) (y : Int) (k : Nat), p ≤ s.size → tags.length + f = 3 → tags.length ≤ 2 → 20 + f ≤ k →
    ether_Take.l0 k (s.extract p s.size) d r (tags.map t1) y = some (out t1 s d r (tk s f p tags)) := by
  induction f with
  | zero => intro p tags y k hp ht h2 hk; omega
  | succ f ih =>
    intro p tags y k hp ht h22 hk
    obtain ⟨k, rfl⟩ : ∃ m, k = m + 1 := ⟨k - 1, by omega⟩
    simp only [ether_Take.l0]
    by_cases h2 : p + 2 ≤ s.size
    · have e := take_at s p 2 (by omega) h2 k (by omega)
      rw [show ((2 : Nat) : Int) = 2 from rfl] at e
      rw [e]
      simp only [Option.bind_some, if_true, tag_eq]
      unfold tk
      rw [if_pos h2]
      by_cases ht1 : isTag (at_ s p (p + 2) : Nat) = true
      · rw [if_pos ht1, if_pos ht1]
        by_cases hl : tags.length = 2
        · rw [if_pos (by rw [List.length_map]; omega), if_pos hl]; rfl
        · rw [if_neg (by rw [List.length_map]; omega), if_neg hl]
          by_cases h4 : p + 4 ≤ s.size
          · have e4 := take_at s (p + 2) 2 (by omega) (by omega) k (by omega)
            rw [show ((2 : Nat) : Int) = 2 from rfl, show p + 2 + 2 = p + 4 from rfl] at e4
            rw [e4]
            simp only [Option.bind_some, if_true]
            rw [if_pos (by rw [List.length_map]; omega), if_pos h4]
            have := ih (p + 4) (tags ++ [tg s p]) ((at_ s p (p + 2) : Nat) : Int) k h4 (by simp; omega) (by simp; omega) (by omega)
            rw [List.map_append] at this
            exact this
          · rw [take_short s (p + 2) (by omega) (by omega) k (by omega), if_neg h4]
            simp only [Option.bind_some]
            rw [if_neg (by decide)]; rfl
      · rw [if_neg ht1, if_neg ht1]; rfl
    · rw [take_short s p hp h2 k (by omega)]
      simp only [Option.bind_some]
      unfold tk
      rw [if_neg h2, if_neg (by decide)]; rfl
def tk0 (s : ByteArray) : Except Int (List Pr × Int × Nat) := if s.size < 12 then .error 2 else tk s 3 12 []
def res {T : Type} (t : Pr → T) (s : ByteArray) : Out T := out t s (s.extract 0 6) (s.extract 6 12) (tk0 s)
theorem cutS_ok (s : ByteArray) (h : 6 ≤ s.size) : cutS s 6 = (s.extract 0 6, s.extract 6 s.size, 0) := by
  unfold cutS; rw [if_neg (by omega), if_neg (by omega)]; rfl
theorem cutS_no (s : ByteArray) (h : ¬ 6 ≤ s.size) : cutS s 6 = (mkB [], mkB [], 2) := by
  unfold cutS; rw [if_neg (by omega), if_pos (by omega)]
theorem ethtake_eq (s : ByteArray) (k : Nat) (hk : 30 ≤ k) : ether_Take.f k s = some (res t1 s) := by
  unfold ether_Take.f res tk0
  rw [cut_eq, Option.bind_some]
  by_cases c1 : 6 ≤ s.size
  · rw [cutS_ok s c1]
    simp only [if_true, cut_eq, Option.bind_some]
    have hz : (s.extract 6 s.size).size = s.size - 6 := by rw [ByteArray.size_extract]; omega
    by_cases c2 : 12 ≤ s.size
    · rw [cutS_ok _ (by omega)]
      simp only [if_true]
      have x1 : (s.extract 6 s.size).extract 0 6 = s.extract 6 12 := by rw [ByteArray.extract_extract]; congr 1; omega
      have x2 : (s.extract 6 s.size).extract 6 (s.extract 6 s.size).size = s.extract 12 s.size := by rw [hz, ByteArray.extract_extract]; congr 1; omega
      rw [x1, x2, if_neg (by omega)]
      exact take_loop s (s.extract 0 6) (s.extract 6 12) 3 12 [] 0 k c2 rfl (by decide) (by omega)
    · rw [cutS_no _ (by omega)]
      dsimp only
      rw [if_neg (show ¬ (2 : Int) = 0 by decide), if_pos (by omega)]; rfl
  · rw [cutS_no _ c1]
    dsimp only
    rw [if_neg (show ¬ (2 : Int) = 0 by decide), if_pos (by omega)]; rfl
theorem reftake_loop (s d r : ByteArray) (hs : s.size ≤ 140737488351232) (f : Nat) : ∀ (p : Nat) (tags : List Pr) (k : Nat), p ≤ s.size → tags.length + f = 3 → tags.length ≤ 2 → 2 + f ≤ k →
    rillmeterref05_Take.l0 k s (p : Int) d r (tags.map t2) 0 = some (out t2 s d r (tk s f p tags)) := by
  induction f with
  | zero => intro p tags k hp ht h2 hk; omega
  | succ f ih =>
    intro p tags k hp ht h22 hk
    obtain ⟨k, rfl⟩ : ∃ m, k = m + 1 := ⟨k - 1, by omega⟩
    simp only [rillmeterref05_Take.l0]
    have w1 : wrap64 ((p : Int) + 1) = ((p + 1 : Nat) : Int) := by rw [w64 (by omega) (by omega)]; omega
    have w2 : wrap64 ((p : Int) + 2) = ((p + 2 : Nat) : Int) := by rw [w64 (by omega) (by omega)]; omega
    have w3 : wrap64 (((p + 2 : Nat) : Int) + 1) = ((p + 3 : Nat) : Int) := by rw [w64 (by omega) (by omega)]; omega
    have w4 : wrap64 (((p + 2 : Nat) : Int) + 2) = ((p + 4 : Nat) : Int) := by rw [w64 (by omega) (by omega)]; omega
    have num2 : ∀ q : Nat, q + 1 < s.size → wrap64 (wrap64 (256 * wrap64 (bt s (q : Int))) + wrap64 (bt s ((q + 1 : Nat) : Int))) = ((at_ s q (q + 2) : Nat) : Int) := by
      intro q hq
      have b1 := bt_range s (q : Int)
      have b2 := bt_range s ((q + 1 : Nat) : Int)
      rw [at_two s q hq, w64 (n := bt s (q : Int)) (by omega) (by omega), w64 (n := bt s ((q + 1 : Nat) : Int)) (by omega) (by omega), w64 (n := 256 * bt s (q : Int)) (by omega) (by omega), w64 (by omega) (by omega)]
    rw [w1, w2, w3, w4]
    unfold tk
    by_cases h2 : p + 2 ≤ s.size
    · rw [if_pos (by omega), if_pos (by omega), if_pos (by omega), if_pos (by omega), num2 p (by omega), reftag_eq, Option.bind_some, if_pos h2]
      by_cases ht1 : isTag (at_ s p (p + 2) : Nat) = true
      · rw [if_pos ht1, if_pos ht1]
        by_cases hl : tags.length = 2
        · rw [if_pos (by rw [List.length_map]; omega), if_pos hl]; rfl
        · rw [if_neg (by rw [List.length_map]; omega), if_neg hl]
          by_cases h4 : p + 4 ≤ s.size
          · rw [if_neg (by omega), if_pos (by omega), if_pos (by omega), if_pos (by omega), if_pos (by omega), if_pos (by rw [List.length_map]; omega), if_pos h4, num2 (p + 2) (by omega)]
            have := ih (p + 4) (tags ++ [tg s p]) k h4 (by simp; omega) (by simp; omega) (by omega)
            rw [List.map_append] at this
            exact this
          · rw [if_pos (by omega), if_neg h4]; rfl
      · rw [if_neg ht1, if_neg ht1, if_pos (by omega), if_pos (by omega)]; rfl
    · rw [if_neg (by omega), if_neg h2]; rfl
theorem tk_end (s : ByteArray) (f p : Nat) (tags : List Pr) (h : ¬ p + 2 ≤ s.size) : tk s (f + 1) p tags = .error 2 := by
  unfold tk; rw [if_neg h]
theorem refethtake_eq (s : ByteArray) (hs : s.size ≤ 140737488351232) (k : Nat) (hk : 10 ≤ k) : rillmeterref05_Take.f k s = some (res t2 s) := by
  unfold rillmeterref05_Take.f res tk0
  by_cases c : s.size < 14
  · rw [if_pos (by omega)]
    by_cases c2 : s.size < 12
    · rw [if_pos c2]; rfl
    · rw [if_neg c2, tk_end _ _ _ _ (by omega)]; rfl
  · rw [if_neg (by omega), if_pos (by decide), if_pos (by omega), if_pos (by decide), if_pos (by omega), if_neg (by omega)]
    exact reftake_loop s _ _ hs 3 12 [] k (by omega) rfl (by decide) (by omega)
theorem tk_len (s : ByteArray) (f : Nat) : ∀ (p : Nat) (tags : List Pr) (ts : List Pr) (n : Int) (q : Nat), tags.length ≤ 2 → tk s f p tags = .ok (ts, n, q) → ts.length ≤ 2 := by
  induction f with
  | zero => intro p tags ts n q h e; cases e
  | succ f ih =>
    intro p tags ts n q h e
    unfold tk at e
    split at e
    · split at e
      · split at e
        · cases e
        · split at e
          · exact ih _ _ _ _ _ (by simp; omega) e
          · cases e
      · cases e; exact h
    · cases e

/-! ### the reference's tags, and equal frames -/
theorem ref_loop (l : List Pr) (d r : ByteArray) (n : Int) (hl : l.length < 1000) (j : Nat) : ∀ (i k : Nat), i + j = l.length → j < k →
    rillmeterlaw05_ref.l0 k (l.map t1) (l.length : Int) (i : Int) d r ((l.take i).map t2) n = some (d, r, l.map t2, n) := by
  induction j with
  | zero =>
    intro i k hi hk
    obtain ⟨k, rfl⟩ : ∃ m, k = m + 1 := ⟨k - 1, by omega⟩
    simp only [rillmeterlaw05_ref.l0]
    rw [if_neg (by omega), List.take_of_length_le (by omega)]
  | succ j ih =>
    intro i k hi hk
    obtain ⟨k, rfl⟩ : ∃ m, k = m + 1 := ⟨k - 1, by omega⟩
    simp only [rillmeterlaw05_ref.l0]
    rw [if_pos (by omega), if_pos (by omega), if_pos (by rw [List.length_map]; omega), if_pos (by rw [List.length_map, List.length_take]; omega), rd1 l i (by omega)]
    rw [show wrap64 ((i : Int) + 1) = ((i + 1 : Nat) : Int) by rw [w64 (by omega) (by omega)]; omega]
    have := ih (i + 1) k (by omega) (by omega)
    rw [List.take_succ_eq_append_getElem (by omega), List.map_append] at this
    exact this
theorem ref_eq (l : List Pr) (d r : ByteArray) (n : Int) (hl : l.length < 1000) (k : Nat) (hk : l.length < k) : rillmeterlaw05_ref.f k d r (l.map t1) n = some (d, r, l.map t2, n) := by
  unfold rillmeterlaw05_ref.f
  rw [List.length_map]
  exact ref_loop l d r n hl l.length 0 k (by omega) hk
theorem equal_loop (l : List Pr) (d r : ByteArray) (n : Int) (hl : l.length < 1000) (j : Nat) : ∀ (i k : Nat), i + j = l.length → j < k →
    rillmeterref05_Equal.l0 k (i : Int) d r (l.map t2) n d r (l.map t2) n = some true := by
  induction j with
  | zero =>
    intro i k hi hk
    obtain ⟨k, rfl⟩ : ∃ m, k = m + 1 := ⟨k - 1, by omega⟩
    simp only [rillmeterref05_Equal.l0]
    rw [if_neg (by rw [List.length_map]; omega)]
  | succ j ih =>
    intro i k hi hk
    obtain ⟨k, rfl⟩ : ∃ m, k = m + 1 := ⟨k - 1, by omega⟩
    simp only [rillmeterref05_Equal.l0]
    rw [if_pos (by rw [List.length_map]; omega), if_pos (by omega), if_pos (by rw [List.length_map]; omega), if_neg (by simp)]
    rw [show wrap64 ((i : Int) + 1) = ((i + 1 : Nat) : Int) by rw [w64 (by omega) (by omega)]; omega]
    exact ih (i + 1) k (by omega) (by omega)
theorem equal_eq (l : List Pr) (d r : ByteArray) (n : Int) (hl : l.length < 1000) (k : Nat) (hk : l.length + 1 < k) : rillmeterref05_Equal.f k d r (l.map t2) n d r (l.map t2) n = some true := by
  unfold rillmeterref05_Equal.f
  obtain ⟨k, rfl⟩ : ∃ m, k = m + 1 := ⟨k - 1, by omega⟩
  rw [if_pos rfl, if_pos rfl, if_pos rfl]
  simp only [rillmeterref05_Equal.j0]
  rw [if_neg (by simp)]
  exact equal_loop l d r n hl l.length 0 k (by omega) (by omega)
theorem equal_nil (k : Nat) (hk : 5 ≤ k) : rillmeterref05_Equal.f k (mkB []) (mkB []) [] 0 (mkB []) (mkB []) [] 0 = some true := equal_eq [] (mkB []) (mkB []) 0 (by decide) k (by simp; omega)
theorem ref_nil (k : Nat) (hk : 5 ≤ k) : rillmeterlaw05_ref.f k (mkB []) (mkB []) [] 0 = some (mkB [], mkB [], [], 0) := ref_eq [] (mkB []) (mkB []) 0 (by decide) k (by simp; omega)

/-! ### Right -/
abbrev okT (p : Pr) : Prop := isTag p.1 = true ∧ is2 p.2 = true
theorem right1_ok (p : Pr) (h : okT p) : ether_Right_1.f p.1 p.2 = some false := by
  unfold ether_Right_1.f
  rw [tag_eq, Option.bind_some, if_pos h.1, two_eq, Option.bind_some, h.2]; rfl
theorem index_ok (l : List Pr) (hl : l.length < 1000) (h : ∀ p ∈ l, okT p) (j : Nat) : ∀ (i k : Nat), i + j = l.length → j < k →
    slices_IndexFunc_of_26_28.l0 k (l.map t1) (l.length : Int) (i : Int) = some (-1) := by
  induction j with
  | zero =>
    intro i k hi hk
    obtain ⟨k, rfl⟩ : ∃ m, k = m + 1 := ⟨k - 1, by omega⟩
    simp only [slices_IndexFunc_of_26_28.l0]
    rw [if_neg (by omega)]
  | succ j ih =>
    intro i k hi hk
    obtain ⟨k, rfl⟩ : ∃ m, k = m + 1 := ⟨k - 1, by omega⟩
    simp only [slices_IndexFunc_of_26_28.l0]
    rw [if_pos (by omega), if_pos (by omega), if_pos (by rw [List.length_map]; omega), rd1 l i (by omega)]
    have := right1_ok l[i] (h _ (List.getElem_mem _))
    simp only [t1]
    rw [this, Option.bind_some, if_neg (by decide)]
    rw [show wrap64 ((i : Int) + 1) = ((i + 1 : Nat) : Int) by rw [w64 (by omega) (by omega)]; omega]
    exact ih (i + 1) k (by omega) (by omega)
theorem right_ok (d r : ByteArray) (l : List Pr) (n : Int) (hd : d.size = 6) (hr : r.size = 6) (hl : l.length ≤ 2) (hn : is2 n = true) (ht : ¬ isTag n = true) (h : ∀ p ∈ l, okT p) (k : Nat) (hk : 5 ≤ k) :
    ether_Right.f k d r (l.map t1) n = some true := by
  unfold ether_Right.f
  rw [if_pos (by omega), if_pos (by omega), if_pos (by rw [List.length_map]; omega), two_eq, Option.bind_some, if_pos hn, tag_eq, Option.bind_some, if_neg ht]
  unfold slices_ContainsFunc_of_26_25.f slices_IndexFunc_of_26_28.f
  have := index_ok l (by omega) h l.length 0 k (by omega) (by omega)
  rw [List.length_map, show (0 : Int) = ((0 : Nat) : Int) from rfl, this]; rfl

/-! ### ID and awake -/
theorem and4095 (n : Int) : bits .and .i64 n 4095 = n % 4096 := by
  have h127 : (BitVec.ofInt 64 4095).toNat = 2 ^ 12 - 1 := by decide
  have key : (BitVec.ofInt 64 n &&& BitVec.ofInt 64 4095).toNat = (n % ((2 ^ 64 : Nat) : Int)).toNat % 2 ^ 12 := by
    rw [BitVec.toNat_and, BitVec.toNat_ofInt, h127, Nat.and_two_pow_sub_one_eq_mod]
  show IntKind.i64.wrap ((BitVec.ofInt 64 n &&& BitVec.ofInt 64 4095).toNat : Nat) = n % 4096
  rw [key, IntKind.wrap_i64]
  omega
theorem id_eq (x n : Int) : ether_ID.f x n = some (n % 4096) := by unfold ether_ID.f; rw [and4095]
theorem awake_eq (k : Nat) (hk : 40 ≤ k) : rillmeterlaw05_awake.f k = some true := by
  unfold rillmeterlaw05_awake.f
  have e : res t1 (⟨#[97, 97, 97, 97, 97, 97, 98, 98, 98, 98, 98, 98, 8, 0, 120]⟩ : ByteArray) = (mkB [97, 97, 97, 97, 97, 97], mkB [98, 98, 98, 98, 98, 98], [], 2048, mkB [120], 0) := by
    have : tk0 (⟨#[97, 97, 97, 97, 97, 97, 98, 98, 98, 98, 98, 98, 8, 0, 120]⟩ : ByteArray) = .ok ([], 2048, 14) := by
      have h : at_ (⟨#[97, 97, 97, 97, 97, 97, 98, 98, 98, 98, 98, 98, 8, 0, 120]⟩ : ByteArray) 12 (12 + 2) = 2048 := by decide +kernel
      unfold tk0 tk
      rw [if_neg (by decide +kernel), if_pos (by decide +kernel), h, if_neg (by decide +kernel)]; rfl
    unfold res
    rw [this]; rfl
  rw [ethtake_eq _ _ (by omega), e, Option.bind_some]
  have r := right_ok (mkB [97, 97, 97, 97, 97, 97]) (mkB [98, 98, 98, 98, 98, 98]) [] 2048 rfl rfl (by decide) (by decide) (by decide) (by simp) k (by omega)
  simp only [mkB_toList, if_true, List.map_nil] at r ⊢
  rw [r, Option.bind_some, if_pos rfl, id_eq]; rfl
end Go.Proofs.Ytngcelombflnfaa.L05
