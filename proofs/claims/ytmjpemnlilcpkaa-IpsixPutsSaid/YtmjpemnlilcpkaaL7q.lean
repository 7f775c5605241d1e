/- Layer 7 (ipsix): the reference, where it takes. -/
import Derived.Test.YtmjpemnlilcpkaaL7
import Derived.Test.YtmjpemnlilcpkaaL7n
import Derived.Test.YtmjpemnlilcpkaaQx13
import Derived.Test.YtmjpemnlilcpkaaQx14
import Derived.Test.YtmjpemnlilcpkaaQx17
namespace Go.Proofs.Ytmjpemnlilcpkaa.L07
open Go Go.RowKit Go.Proofs.Ytmjpemnlilcpkaa.Q Go.Proofs.Ytmjpemnlilcpkaa.Base Go.Proofs.Ytmjpemnlilcpkaa.L04 Go.Proofs.Ytmjpemnlilcpkaa.LAt Go.Proofs.YtmjpemnlilcpkaaW.PrintWords Go.Proofs.YtmjpemnlilcpkaaW.PrintMore
set_option linter.unusedVariables false
set_option linter.unusedSimpArgs false
theorem refext_eq (n : Int) : rillmeterref07_extension.f n = some (isExt n) := ext_eq n
theorem refj_true (k : Nat) (b src dst : ByteArray) (c la ho kind : Int) (l : List Rx) : rillmeterref07_Take.j1 (k + 1) b true c la ho kind src dst l = some (0, 0, 0, 0, mkB [], mkB [], [], mkB [], 15) := by
  simp only [rillmeterref07_Take.j1, if_true]; rfl
theorem reftake_loop (b src dst : ByteArray) (c la ho : Int) (f : Nat) : ∀ (p : Nat) (kind : Int) (l : List Ex) (k : Nat), p ≤ b.size → l.length + f = 9 → l.length ≤ 8 → 2 * f + 2 < k →
    rillmeterref07_Take.l0 k (b.extract p b.size) c la ho kind src dst (l.map t2) = some (outH t2 b c la ho src dst (cs b f p kind l)) := by
  induction f with
  | zero => intro p kind l k hp h1 h2 hk; omega
  | succ f ih =>
    intro p kind l k hp h1 h2 hk
    obtain ⟨k, rfl⟩ : ∃ m, k = m + 2 := ⟨k - 2, by omega⟩
    have hz : (b.extract p b.size).size = b.size - p := by rw [ByteArray.size_extract]; omega
    rw [show k + 2 = (k + 1) + 1 from rfl]
    simp only [rillmeterref07_Take.l0]
    unfold cs
    rw [refext_eq, Option.bind_some, List.length_map]
    by_cases hx : isExt kind = true
    case neg => rw [if_neg hx, if_neg hx]; rfl
    rw [if_pos hx, if_pos hx]
    by_cases c1 : b.size < p + 8
    · rw [if_pos (by omega), refj_true]
      unfold extS
      rw [if_pos c1]; rfl
    rw [if_neg (by omega)]
    have main : ¬ (l.length = 8 ∨ (kind = 0 ∧ l.length > 0)) → rillmeterref07_Take.j1 (k + 1) (b.extract p b.size) false c la ho kind src dst (l.map t2) = some (outH t2 b c la ho src dst (match extS b p kind with
      | none => .error 15
      | some (d, n, q) => if l.length = 8 ∨ (kind = 0 ∧ l.length > 0) then .error 15 else cs b f q n (l ++ [(kind, d)]))) := by
      intro hn
      simp only [rillmeterref07_Take.j1]
      rw [if_neg (by decide), hz, List.length_map]
      have b0 : bt (b.extract p b.size) 0 = bt b (p : Int) := bt_ext b p 0 (by omega)
      have b1 : bt (b.extract p b.size) 1 = bt b ((p + 1 : Nat) : Int) := bt_ext b p 1 (by omega)
      have r0 := bt_range b (p : Int)
      have r1 := bt_range b ((p + 1 : Nat) : Int)
      rw [b0, b1, w64 (n := bt b (p : Int)) (by omega) (by omega)]
      have e : wrap64 (8 * wrap64 (wrap64 (bt b ((p + 1 : Nat) : Int)) + 1)) = ((xl b p : Nat) : Int) := by
        rw [w64 (n := bt b ((p + 1 : Nat) : Int)) (by omega) (by omega), w64 (n := bt b ((p + 1 : Nat) : Int) + 1) (by omega) (by omega), w64 (by omega) (by omega)]
        unfold xl; omega
      have hxl : 8 ≤ xl b p := by unfold xl; omega
      rw [e]
      unfold extS
      rw [if_neg c1]
      by_cases c2 : kind = 44
      · rw [if_pos c2, if_pos c2, if_pos (by decide), if_pos (by omega), if_pos (by omega), if_pos (by omega), ext2 b p 1 8 (by omega), ext2e b p 8 hp]
        simp only [if_neg hn]
        have := ih (p + 8) (bt b (p : Int)) (l ++ [(kind, b.extract (p + 1) (p + 8))]) k (by omega) (by simp; omega) (by simp; omega) (by omega)
        rw [List.map_append] at this
        exact this
      rw [if_neg c2, if_neg c2, if_pos (by omega)]
      by_cases c3 : b.size < p + xl b p
      · rw [if_pos (by omega), if_pos c3]; rfl
      rw [if_neg (by omega), if_neg c3, if_pos (by omega), if_pos (by omega), if_pos (by omega), if_pos (by omega), if_pos (by omega), Int.toNat_natCast, ext2 b p 2 _ (by omega), ext2e b p _ hp]
      simp only [if_neg hn]
      have := ih (p + xl b p) (bt b (p : Int)) (l ++ [(kind, b.extract (p + 2) (p + xl b p))]) k (by omega) (by simp; omega) (by simp; omega) (by omega)
      rw [List.map_append] at this
      exact this
    have errs : (l.length = 8 ∨ (kind = 0 ∧ l.length > 0)) → (match extS b p kind with
      | none => Except.error 15
      | some (d, n, q) => if l.length = 8 ∨ (kind = 0 ∧ l.length > 0) then Except.error 15 else cs b f q n (l ++ [(kind, d)])) = Except.error 15 := by
      intro hy
      cases extS b p kind with
      | none => rfl
      | some v => simp only [if_pos hy]
    by_cases c8 : l.length = 8
    · rw [if_pos (by omega), refj_true]; exact (congrArg (fun z => some (outH t2 b c la ho src dst z)) (errs (.inl c8))).symm
    rw [if_neg (by omega)]
    by_cases c0 : kind = 0
    · rw [if_pos c0]
      by_cases cl : (l.length : Int) > 0
      · rw [decide_eq_true cl, refj_true]; exact (congrArg (fun z => some (outH t2 b c la ho src dst z)) (errs (.inr ⟨c0, by omega⟩))).symm
      · rw [decide_eq_false cl]; exact main (by omega)
    · rw [if_neg c0]; exact main (by omega)
theorem reftake6_eq (s : ByteArray) (hs : s.size ≤ 140737488351232) (k : Nat) (hk : 21 ≤ k) : rillmeterref07_Take.f k s = some (take6 t2 s) := by
  unfold rillmeterref07_Take.f take6
  by_cases c1 : s.size < 40
  · rw [if_pos (by omega), if_pos c1]; rfl
  have b0 := bt_range s 0
  have b6 := bt_range s 6
  have b7 := bt_range s 7
  have l4 := at_lt s 0 4
  have l6 := at_lt s 4 6
  have ht := at_top s (by omega)
  simp only [show (256 : Nat) ^ (4 - 0) = 4294967296 from rfl, show (256 : Nat) ^ (6 - 4) = 65536 from rfl] at l4 l6
  rw [if_neg (by omega), if_neg c1, if_pos (by omega), w64 (n := bt s 0) (by omega) (by omega), Int.tdiv_eq_ediv_of_nonneg (by omega), w64 (by omega) (by omega)]
  by_cases c2 : at_ s 0 4 / 268435456 = 6
  case neg => rw [if_neg (by omega), if_pos c2]; rfl
  rw [if_neg (show ¬ (at_ s 0 4 / 268435456 ≠ 6) by omega), if_pos (by omega), if_pos (by decide), if_pos (by omega), refnum_eq s 4 6 (by omega) k (by omega), Option.bind_some, w64 (n := 40 + ((at_ s 4 6 : Nat) : Int)) (by omega) (by omega)]
  by_cases c3 : s.size < 40 + at_ s 4 6
  · rw [if_pos (by omega), if_pos c3]; rfl
  rw [if_neg (by omega), if_neg c3, if_pos (by decide), if_pos (by omega), refnum_eq s 0 4 (by omega) k (by omega), Option.bind_some, if_pos (by omega), if_pos (by omega), if_pos (by decide), if_pos (by omega), if_pos (by decide), if_pos (by omega), if_pos (by omega), if_pos (by omega), w64 (n := bt s 7) (by omega) (by omega), w64 (n := bt s 6) (by omega) (by omega)]
  have e1 : ((40 + ((at_ s 4 6 : Nat) : Int) : Int)).toNat = 40 + at_ s 4 6 := by omega
  have e2 : Int.tmod (wrap64 (Int.tdiv ((at_ s 0 4 : Nat) : Int) 1048576)) 256 = ((at_ s 0 4 / 1048576 % 256 : Nat) : Int) := by
    rw [Int.tdiv_eq_ediv_of_nonneg (by omega), w64 (by omega) (by omega), Int.tmod_eq_emod_of_nonneg (by omega)]; omega
  have e3 : Int.tmod ((at_ s 0 4 : Nat) : Int) 1048576 = ((at_ s 0 4 % 1048576 : Nat) : Int) := by
    rw [Int.tmod_eq_emod_of_nonneg (by omega)]; omega
  rw [e1, e2, e3]
  have := reftake_loop (body6 s) (s.extract 8 24) (s.extract 24 40) ((at_ s 0 4 / 1048576 % 256 : Nat) : Int) ((at_ s 0 4 % 1048576 : Nat) : Int) (bt s 7) 9 0 (bt s 6) [] k (by omega) rfl (by simp) (by omega)
  rw [ext_all] at this
  exact this

theorem refpiece_loop (l : List Ex) (c la ho pr : Int) (src dst : ByteArray) (hl : l.length < 5864062014805) (r : List Ex) : ∀ (k i : Nat), l.drop i = r → i ≤ l.length → r.length < k →
    rillmeterref07_Piece.l0 k (i : Int) c la ho pr src dst (l.map t2) = some (pieceB r) := by
  induction r with
  | nil =>
    intro k i hd hi hk
    obtain ⟨k, rfl⟩ : ∃ m, k = m + 1 := ⟨k - 1, by omega⟩
    have := congrArg List.length hd
    rw [List.length_drop, List.length_nil] at this
    simp only [rillmeterref07_Piece.l0]
    rw [if_neg (by rw [List.length_map]; omega)]; rfl
  | cons p r ih =>
    intro k i hd hi hk
    rw [List.length_cons] at hk
    obtain ⟨k, rfl⟩ : ∃ m, k = m + 1 := ⟨k - 1, by omega⟩
    obtain ⟨h1, h2, h3⟩ := drop_len hd
    have hrec := ih k (i + 1) h3 (by omega) (by omega)
    have e1 : wrap64 ((i : Int) + 1) = ((i + 1 : Nat) : Int) := by rw [w64 (by omega) (by omega)]; omega
    simp only [rillmeterref07_Piece.l0]
    rw [if_pos (by rw [List.length_map]; omega), if_pos (by omega), rd2 hd, e1, hrec, show (t2 p).f0 = p.1 from rfl, show (t2 p).f1 = p.2 from rfl, pieceB]
    have b1 := bt_range p.2 1
    have b2 := bt_range p.2 2
    unfold piece1
    by_cases c1 : p.1 = 44
    case neg => rw [if_neg c1, decide_eq_false (fun h => c1 h.1)]; rfl
    by_cases c2 : 2 < p.2.size
    case neg => rw [if_pos c1, if_neg (by omega), decide_eq_false (fun h => c2 h.2.1)]; rfl
    rw [if_pos c1, if_pos (by omega), if_pos (by omega)]
    by_cases c3 : bt p.2 1 > 0
    · rw [if_pos c3, decide_eq_true ⟨c1, c2, by omega⟩]; rfl
    rw [if_neg c3, if_pos (by omega)]
    by_cases c4 : bt p.2 2 > 7
    · rw [if_pos c4, decide_eq_true ⟨c1, c2, by omega⟩]; rfl
    · rw [if_neg c4, decide_eq_false (fun h => by omega)]; rfl
theorem refpiece_eq (l : List Ex) (c la ho pr : Int) (src dst : ByteArray) (hl : l.length < 5864062014805) (k : Nat) (hk : l.length < k) : rillmeterref07_Piece.f k c la ho pr src dst (l.map t2) = some (pieceB l) := by
  unfold rillmeterref07_Piece.f
  exact refpiece_loop l c la ho pr src dst hl l k 0 rfl (by omega) hk

end Go.Proofs.Ytmjpemnlilcpkaa.L07
