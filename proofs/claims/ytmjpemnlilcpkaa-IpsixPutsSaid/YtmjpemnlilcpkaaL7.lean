/- What the printed functions of layer 7 (ipsix) answer, told by plain functions on bytes. Layer 7 (ipsix): what is right, and what is written, told by plain functions on lists. Layer 7 (ipsix): what Put writes, and that Take and Put are each other's inverses. Layer 7 (ipsix): Take, told by a plain function; what is taken is written again, and what is written is taken. Layer 7 (ipsix): small lemmas for its statements. -/
import Derived.Test.YtmjpemnlilcpkaaL7a
import Derived.Test.YtmjpemnlilcpkaaQx4
import Derived.Test.YtmjpemnlilcpkaaQx5
import Derived.Test.YtmjpemnlilcpkaaQx6
import Derived.Test.YtmjpemnlilcpkaaQx9
import Derived.Test.YtmjpemnlilcpkaaQx15
import Derived.Test.YtmjpemnlilcpkaaQx16
import Derived.Test.YtmjpemnlilcpkaaQx11
import Derived.Test.YtmjpemnlilcpkaaQx12
import Derived.Test.YtmjpemnlilcpkaaQx8
import Derived.Test.YtmjpemnlilcpkaaQx13
namespace Go.Proofs.Ytmjpemnlilcpkaa.L07
open Go Go.RowKit Go.Proofs.Ytmjpemnlilcpkaa.Q Go.Proofs.Ytmjpemnlilcpkaa.Base Go.Proofs.Ytmjpemnlilcpkaa.L04 Go.Proofs.Ytmjpemnlilcpkaa.LAt Go.Proofs.YtmjpemnlilcpkaaW.PrintWords Go.Proofs.YtmjpemnlilcpkaaW.PrintMore
set_option linter.unusedVariables false
set_option linter.unusedSimpArgs false

abbrev Xe := S49
abbrev Rx := S57
abbrev Ex := Int × ByteArray
def t1 (p : Ex) : Xe := ⟨p.1, p.2⟩
def t2 (p : Ex) : Rx := ⟨p.1, p.2⟩
def isExt (n : Int) : Bool := n == 0 || n == 43 || n == 44 || n == 60
theorem ext_eq (n : Int) : ipsix_extension.f n = some (isExt n) := by
  unfold ipsix_extension.f isExt
  by_cases h : n = 0
  · rw [if_pos h]; simp [h]
  rw [if_neg h, beq_eq_false_iff_ne.mpr h]
  by_cases h1 : n = 43
  · rw [if_pos h1]; simp [h1]
  rw [if_neg h1, beq_eq_false_iff_ne.mpr h1]
  by_cases h2 : n = 44
  · rw [if_pos h2]; simp [h2]
  rw [if_neg h2, beq_eq_false_iff_ne.mpr h2]; rfl
theorem bt_ext (b : ByteArray) (p i : Nat) (h : p + i < b.size) : bt (b.extract p b.size) (i : Int) = bt b ((p + i : Nat) : Int) := by
  have hz : (b.extract p b.size).size = b.size - p := by rw [ByteArray.size_extract]; omega
  have a1 := at_one (b.extract p b.size) i (by omega)
  have a2 := at_one b (p + i) h
  rw [← a1, ← a2]
  unfold at_
  rw [extract_list, show i + 1 - i = 1 by omega, show p + i + 1 - (p + i) = 1 by omega, List.drop_take, List.drop_drop, List.take_take]
  congr 3; omega
def xl (b : ByteArray) (p : Nat) : Nat := 8 + 8 * (bt b ((p + 1 : Nat) : Int)).toNat
def extS (b : ByteArray) (p : Nat) (kind : Int) : Option (ByteArray × Int × Nat) :=
  if b.size < p + 8 then none
  else if kind = 44 then some (b.extract (p + 1) (p + 8), bt b (p : Int), p + 8)
  else if b.size < p + xl b p then none
  else some (b.extract (p + 2) (p + xl b p), bt b (p : Int), p + xl b p)
def extO (b : ByteArray) (kind : Int) : Option (ByteArray × Int × Nat) → Int × ByteArray × Int × ByteArray × Bool
  | none => (0, mkB [], 0, mkB [], false)
  | some (d, n, q) => (kind, d, n, b.extract q b.size, true)
theorem ext2 (b : ByteArray) (p i j : Nat) (h : p + j ≤ b.size) : (b.extract p b.size).extract i j = b.extract (p + i) (p + j) := by
  rw [ByteArray.extract_extract, show min (p + j) b.size = p + j by omega]
theorem ext2e (b : ByteArray) (p i : Nat) (h : p ≤ b.size) : (b.extract p b.size).extract i (b.size - p) = b.extract (p + i) b.size := by
  rw [ByteArray.extract_extract, show min (p + (b.size - p)) b.size = b.size by omega]
theorem xt_eq (b : ByteArray) (p : Nat) (kind : Int) (hp : p ≤ b.size) : ipsix_ext.f kind (b.extract p b.size) = some (extO b kind (extS b p kind)) := by
  have hz : (b.extract p b.size).size = b.size - p := by rw [ByteArray.size_extract]; omega
  unfold ipsix_ext.f extS
  rw [hz]
  by_cases c1 : b.size < p + 8
  · rw [if_pos (by omega), if_pos c1]; rfl
  rw [if_neg (by omega), if_neg c1]
  have b0 : bt (b.extract p b.size) 0 = bt b (p : Int) := bt_ext b p 0 (by omega)
  have b1 : bt (b.extract p b.size) 1 = bt b ((p + 1 : Nat) : Int) := bt_ext b p 1 (by omega)
  have r0 := bt_range b (p : Int)
  have r1 := bt_range b ((p + 1 : Nat) : Int)
  rw [b0, b1, w64 (n := bt b (p : Int)) (by omega) (by omega)]
  by_cases c2 : kind = 44
  · rw [if_pos c2, if_pos c2, if_pos (by decide), if_pos (by omega), if_pos (by omega), ext2 b p 1 8 (by omega), ext2e b p 8 hp]
    simp only [extO]
  rw [if_neg c2, if_neg c2, if_pos (by omega)]
  have e : wrap64 (8 + wrap64 (8 * wrap64 (bt b ((p + 1 : Nat) : Int)))) = ((xl b p : Nat) : Int) := by
    rw [w64 (n := bt b ((p + 1 : Nat) : Int)) (by omega) (by omega), w64 (n := 8 * bt b ((p + 1 : Nat) : Int)) (by omega) (by omega), w64 (by omega) (by omega)]
    unfold xl; omega
  have hx : 8 ≤ xl b p := by unfold xl; omega
  rw [e]
  by_cases c3 : b.size < p + xl b p
  · rw [if_pos (by omega), if_pos c3]; rfl
  rw [if_neg (by omega), if_neg c3, if_pos (by omega), if_pos (by omega), if_pos (by omega), if_pos (by omega), Int.toNat_natCast, ext2 b p 2 _ (by omega), ext2e b p _ hp]
  simp only [extO]
theorem extS_le {b : ByteArray} {p : Nat} {kind : Int} {d : ByteArray} {n : Int} {q : Nat} (h : extS b p kind = some (d, n, q)) : p + 8 ≤ q ∧ q ≤ b.size := by
  unfold extS at h
  split at h
  · cases h
  · split at h
    · cases h; omega
    · split at h
      · cases h
      · cases h
        have : 8 ≤ xl b p := by unfold xl; omega
        omega

/-! ### Take -/
def cs (b : ByteArray) : Nat → Nat → Int → List Ex → Except Int (List Ex × Int × Nat)
  | 0, _, _, _ => .error 15
  | f + 1, p, kind, l =>
    if isExt kind = true then
      match extS b p kind with
      | none => .error 15
      | some (d, n, q) => if l.length = 8 ∨ (kind = 0 ∧ l.length > 0) then .error 15 else cs b f q n (l ++ [(kind, d)])
    else .ok (l, kind, p)
abbrev Hd (T : Type) := Int × Int × Int × Int × ByteArray × ByteArray × List T × ByteArray × Int
def outH {T : Type} (t : Ex → T) (b : ByteArray) (c la ho : Int) (src dst : ByteArray) : Except Int (List Ex × Int × Nat) → Hd T
  | .error e => (0, 0, 0, 0, mkB [], mkB [], [], mkB [], e)
  | .ok (l, kind, q) => (c, la, ho, kind, src, dst, l.map t, b.extract q b.size, 0)
theorem take_loop (b src dst : ByteArray) (c la ho : Int) (f : Nat) : ∀ (p : Nat) (kind : Int) (l : List Ex) (k : Nat), p ≤ b.size → l.length + f = 9 → l.length ≤ 8 → f < k →
    ipsix_Take.l0 k (b.extract p b.size) c la ho kind src dst (l.map t1) = some (outH t1 b c la ho src dst (cs b f p kind l)) := by
  induction f with
  | zero => intro p kind l k hp h1 h2 hk; omega
  | succ f ih =>
    intro p kind l k hp h1 h2 hk
    obtain ⟨k, rfl⟩ : ∃ m, k = m + 1 := ⟨k - 1, by omega⟩
    simp only [ipsix_Take.l0]
    unfold cs
    rw [ext_eq, Option.bind_some]
    by_cases hx : isExt kind = true
    · rw [if_pos hx, if_pos hx, xt_eq b p kind hp, Option.bind_some]
      cases e : extS b p kind with
      | none => rfl
      | some v =>
        obtain ⟨d, n, q⟩ := v
        have hq := extS_le e
        simp only [extO, if_true, List.length_map]
        by_cases c8 : l.length = 8
        · rw [if_pos (by omega), if_pos (.inl c8)]; rfl
        rw [if_neg (by omega)]
        have := ih q n (l ++ [(kind, d)]) k hq.2 (by simp; omega) (by simp; omega) (by omega)
        rw [List.map_append] at this
        by_cases c0 : kind = 0
        · rw [if_pos c0]
          by_cases cl : (l.length : Int) > 0
          · rw [if_pos cl, if_pos (.inr ⟨c0, by omega⟩)]; rfl
          · rw [if_neg cl, if_pos (by omega), if_neg (by omega)]; exact this
        · rw [if_neg c0, if_pos (by omega), if_neg (by omega)]; exact this
    · rw [if_neg hx, if_neg hx]; rfl
end Go.Proofs.Ytmjpemnlilcpkaa.L07
namespace Go.Proofs.Ytmjpemnlilcpkaa.L07
open Go Go.RowKit Go.Proofs.Ytmjpemnlilcpkaa.Q Go.Proofs.Ytmjpemnlilcpkaa.Base Go.Proofs.Ytmjpemnlilcpkaa.L04 Go.Proofs.Ytmjpemnlilcpkaa.LAt Go.Proofs.YtmjpemnlilcpkaaW.PrintWords Go.Proofs.YtmjpemnlilcpkaaW.PrintMore
set_option linter.unusedVariables false
set_option linter.unusedSimpArgs false

/-! ### reading a chain -/
theorem getq {l : List Ex} {i : Nat} {p : Ex} {r : List Ex} (h : l.drop i = p :: r) : l[i]? = some p := by
  have e : (l.drop i)[0]? = l[i + 0]? := List.getElem?_drop
  rw [h] at e
  exact e.symm
theorem rd1 {l : List Ex} {i : Nat} {p : Ex} {r : List Ex} (h : l.drop i = p :: r) : rd_T49 (l.map t1) (i : Int) = t1 p := by
  have h0 : l[i]? = some p := getq h
  unfold rd_T49
  rw [List.getD_eq_getElem?_getD, Int.toNat_natCast, List.getElem?_map, h0]; rfl
theorem rd2 {l : List Ex} {i : Nat} {p : Ex} {r : List Ex} (h : l.drop i = p :: r) : rd_T57 (l.map t2) (i : Int) = t2 p := by
  have h0 : l[i]? = some p := getq h
  unfold rd_T57
  rw [List.getD_eq_getElem?_getD, Int.toNat_natCast, List.getElem?_map, h0]; rfl
theorem drop_len {l : List Ex} {i : Nat} {p : Ex} {r : List Ex} (h : l.drop i = p :: r) : i < l.length ∧ l.length = i + 1 + r.length ∧ l.drop (i + 1) = r := by
  have h1 := congrArg List.length h
  rw [List.length_drop, List.length_cons] at h1
  refine ⟨by omega, by omega, ?_⟩
  rw [← List.drop_drop, h]; rfl

/-! ### what is right -/
def okE (p : Ex) : Bool := if p.1 = 44 then decide (p.2.size = 7) else isExt p.1 && (decide (6 ≤ p.2.size) && (decide (p.2.size ≤ 2046) && decide (p.2.size % 8 = 6)))
def okC : Bool → List Ex → Bool
  | _, [] => true
  | fst, p :: r => okE p && ((p.1 != 0 || fst) && okC false r)
theorem okC_cons (f : Bool) (p : Ex) (r : List Ex) : okC f (p :: r) = (okE p && ((p.1 != 0 || f) && okC false r)) := rfl
structure H6 where
  cl : Int
  la : Int
  ho : Int
  pr : Int
  src : ByteArray
  dst : ByteArray
  ch : List Ex
def okR (h : H6) : Prop :=
  (0 ≤ h.cl ∧ h.cl < 256) ∧ (0 ≤ h.ho ∧ h.ho < 256) ∧ (0 ≤ h.la ∧ h.la < 1048576) ∧ (0 ≤ h.pr ∧ h.pr < 256) ∧ isExt h.pr = false ∧ h.src.size = 16 ∧ h.dst.size = 16 ∧ h.ch.length ≤ 8
instance (h : H6) : Decidable (okR h) := by unfold okR; infer_instance
def right (h : H6) : Bool := okC true h.ch && decide (okR h)
theorem within_eq (a b : Int) : ipsix_within.f a b = some (decide (0 ≤ a ∧ a < b)) := by
  unfold ipsix_within.f
  by_cases h : a ≥ 0
  · rw [if_pos h]
    by_cases h1 : a < b
    · rw [decide_eq_true h1, decide_eq_true (show 0 ≤ a ∧ a < b from ⟨h, h1⟩)]
    · rw [decide_eq_false h1, decide_eq_false (show ¬ (0 ≤ a ∧ a < b) from fun h2 => h1 h2.2)]
  · rw [if_neg h, decide_eq_false (show ¬ (0 ≤ a ∧ a < b) from fun h2 => h h2.1)]
theorem extright_eq (p : Ex) (hp : p.2.size ≤ 140737488351232) : ipsix_Ext_right.f (t1 p).f0 (t1 p).f1 = some (okE p) := by
  unfold ipsix_Ext_right.f okE
  show (if p.1 = 44 then some ((p.2.size : Int) == 7) else _) = _
  by_cases h : p.1 = 44
  · rw [if_pos h, if_pos h]
    by_cases h7 : p.2.size = 7
    · rw [decide_eq_true h7, beq_iff_eq.mpr (by omega)]
    · rw [decide_eq_false h7, beq_eq_false_iff_ne.mpr (by omega)]
  rw [if_neg h, if_neg h]
  show (ipsix_extension.f p.1).bind _ = _
  rw [ext_eq, Option.bind_some]
  cases isExt p.1
  · rw [if_neg (by decide)]; rfl
  rw [if_pos rfl, Bool.true_and]
  show (if (p.2.size : Int) ≥ 6 then if (p.2.size : Int) ≤ 2046 then some (Int.tmod (wrap64 ((p.2.size : Int) - 6)) 8 == 0) else some false else some false) = _
  by_cases h6 : 6 ≤ p.2.size
  case neg => rw [if_neg (by omega), decide_eq_false h6]; rfl
  rw [if_pos (by omega), decide_eq_true h6, Bool.true_and]
  by_cases h2 : p.2.size ≤ 2046
  case neg => rw [if_neg (by omega), decide_eq_false h2]; rfl
  rw [if_pos (by omega), decide_eq_true h2, Bool.true_and, w64 (by omega) (by omega), Int.tmod_eq_emod_of_nonneg (by omega)]
  by_cases h8 : p.2.size % 8 = 6
  · rw [decide_eq_true h8, beq_iff_eq.mpr (by omega)]
  · rw [decide_eq_false h8, beq_eq_false_iff_ne.mpr (by omega)]
theorem tail_eq (h : H6) : (ipsix_within.f h.cl 256).bind (fun t105 => (if t105 = true then ((ipsix_within.f h.ho 256).bind fun t106 => (if t106 = true then ((ipsix_within.f h.la 1048576).bind fun t107 => (if t107 = true then ((ipsix_within.f h.pr 256).bind fun t108 => (if t108 = true then ((ipsix_extension.f h.pr).bind fun t109 => (if t109 = true then (some false) else (if (h.src.size : Int) = 16 then (if (h.dst.size : Int) = 16 then (some (decide ((((h.ch.map t1).length : Nat) : Int) ≤ 8))) else (some false)) else (some false)))) else (some false))) else (some false))) else (some false))) else (some false))) = some (decide (okR h)) := by
  simp only [within_eq, ext_eq, Option.bind_some, List.length_map]
  by_cases c1 : 0 ≤ h.cl ∧ h.cl < 256
  case neg => rw [decide_eq_false c1, if_neg (by decide), decide_eq_false (fun r : okR h => c1 r.1)]
  by_cases c2 : 0 ≤ h.ho ∧ h.ho < 256
  case neg => rw [decide_eq_true c1, if_pos rfl, decide_eq_false c2, if_neg (by decide), decide_eq_false (fun r : okR h => c2 r.2.1)]
  by_cases c3 : 0 ≤ h.la ∧ h.la < 1048576
  case neg => rw [decide_eq_true c1, if_pos rfl, decide_eq_true c2, if_pos rfl, decide_eq_false c3, if_neg (by decide), decide_eq_false (fun r : okR h => c3 r.2.2.1)]
  by_cases c4 : 0 ≤ h.pr ∧ h.pr < 256
  case neg => rw [decide_eq_true c1, if_pos rfl, decide_eq_true c2, if_pos rfl, decide_eq_true c3, if_pos rfl, decide_eq_false c4, if_neg (by decide), decide_eq_false (fun r : okR h => c4 r.2.2.2.1)]
  rw [decide_eq_true c1, if_pos rfl, decide_eq_true c2, if_pos rfl, decide_eq_true c3, if_pos rfl, decide_eq_true c4, if_pos rfl]
  cases c5 : isExt h.pr
  case true => rw [if_pos rfl, decide_eq_false (fun r : okR h => by have := r.2.2.2.2.1; rw [c5] at this; cases this)]
  rw [if_neg (by decide)]
  by_cases c6 : h.src.size = 16
  case neg => rw [if_neg (by omega), decide_eq_false (fun r : okR h => c6 r.2.2.2.2.2.1)]
  by_cases c7 : h.dst.size = 16
  case neg => rw [if_pos (by omega), if_neg (by omega), decide_eq_false (fun r : okR h => c7 r.2.2.2.2.2.2.1)]
  rw [if_pos (by omega), if_pos (by omega)]
  by_cases c8 : h.ch.length ≤ 8
  · rw [decide_eq_true (show ((h.ch.length : Nat) : Int) ≤ 8 by omega), decide_eq_true (show okR h from ⟨c1, c2, c3, c4, c5, c6, c7, c8⟩)]
  · rw [decide_eq_false (show ¬ ((h.ch.length : Nat) : Int) ≤ 8 by omega), decide_eq_false (fun r : okR h => c8 r.2.2.2.2.2.2.2)]
def small (l : List Ex) : Prop := l.length < 5864062014805 ∧ ∀ p ∈ l, p.2.size ≤ 140737488351232
theorem small_drop {l : List Ex} {i : Nat} {p : Ex} {r : List Ex} (hs : small l) (h : l.drop i = p :: r) : p.2.size ≤ 140737488351232 :=
  hs.2 p (List.mem_of_mem_drop (i := i) (by rw [h]; exact List.mem_cons_self))
theorem right_loop (h : H6) (hs : small h.ch) (r : List Ex) : ∀ (k i : Nat), h.ch.drop i = r → i ≤ h.ch.length → r.length < k →
    ipsix_Right.l0 k (h.ch.map t1) ((h.ch.map t1).length : Int) (i : Int) h.cl h.la h.ho h.pr h.src h.dst (h.ch.map t1) = some (okC (decide (i = 0)) r && decide (okR h)) := by
  have hlen := hs.1
  induction r with
  | nil =>
    intro k i hd hi hk
    obtain ⟨k, rfl⟩ : ∃ m, k = m + 1 := ⟨k - 1, by omega⟩
    have := congrArg List.length hd
    rw [List.length_drop, List.length_nil] at this
    simp only [ipsix_Right.l0]
    rw [if_neg (by rw [List.length_map]; omega), tail_eq]; rfl
  | cons p r ih =>
    intro k i hd hi hk
    rw [List.length_cons] at hk
    obtain ⟨k, rfl⟩ : ∃ m, k = m + 1 := ⟨k - 1, by omega⟩
    obtain ⟨h1, h2, h3⟩ := drop_len hd
    have hp := small_drop hs hd
    have hrec := ih k (i + 1) h3 (by omega) (by omega)
    simp only [ipsix_Right.l0]
    rw [if_pos (by rw [List.length_map]; omega), if_pos (by omega), if_pos (by rw [List.length_map]; omega), rd1 hd, extright_eq p hp, Option.bind_some]
    have e1 : wrap64 ((i : Int) + 1) = ((i + 1 : Nat) : Int) := by rw [w64 (by omega) (by omega)]; omega
    rw [e1, hrec, decide_eq_false (show ¬ i + 1 = 0 by omega)]
    rw [okC_cons]
    cases okE p
    · rw [if_neg (by decide)]; rfl
    rw [if_pos rfl, Bool.true_and]
    show (if p.1 = 0 then _ else _) = _
    by_cases c0 : p.1 = 0
    · rw [if_pos c0, show (p.1 != 0) = false by rw [c0]; rfl]
      by_cases ci : i = 0
      · rw [if_neg (by omega), decide_eq_true ci]; rfl
      · rw [if_pos (by omega), decide_eq_false ci]; rfl
    · rw [if_neg c0, show (p.1 != 0) = true from bne_iff_ne.mpr c0]; rfl
theorem right_eq (h : H6) (hs : small h.ch) (k : Nat) (hk : h.ch.length < k) : ipsix_Right.f k h.cl h.la h.ho h.pr h.src h.dst (h.ch.map t1) = some (right h) := by
  unfold ipsix_Right.f
  exact right_loop h hs h.ch k 0 rfl (by omega) hk
/-! ### ref, Equal -/
theorem ref_loop (l : List Ex) (c la ho pr : Int) (src dst : ByteArray) (hl : l.length < 5864062014805) (r : List Ex) : ∀ (k i : Nat), l.drop i = r → i ≤ l.length → r.length < k →
    rillmeterlaw07_ref.l0 k (l.map t1) ((l.map t1).length : Int) (i : Int) c la ho pr src dst ((l.take i).map t2) = some (c, la, ho, pr, src, dst, l.map t2) := by
  induction r with
  | nil =>
    intro k i hd hi hk
    obtain ⟨k, rfl⟩ : ∃ m, k = m + 1 := ⟨k - 1, by omega⟩
    have := congrArg List.length hd
    rw [List.length_drop, List.length_nil] at this
    simp only [rillmeterlaw07_ref.l0]
    rw [if_neg (by rw [List.length_map]; omega), List.take_of_length_le (by omega)]
  | cons p r ih =>
    intro k i hd hi hk
    rw [List.length_cons] at hk
    obtain ⟨k, rfl⟩ : ∃ m, k = m + 1 := ⟨k - 1, by omega⟩
    obtain ⟨h1, h2, h3⟩ := drop_len hd
    have hrec := ih k (i + 1) h3 (by omega) (by omega)
    simp only [rillmeterlaw07_ref.l0]
    have e1 : wrap64 ((i : Int) + 1) = ((i + 1 : Nat) : Int) := by rw [w64 (by omega) (by omega)]; omega
    rw [if_pos (by rw [List.length_map]; omega), if_pos (by omega), if_pos (by rw [List.length_map]; omega), if_pos (by rw [List.length_map, List.length_take]; omega), rd1 hd, e1]
    have h0 : l[i]? = some p := getq hd
    have e2 : l.take (i + 1) = l.take i ++ [p] := by rw [List.take_add_one, h0]; rfl
    rw [e2, List.map_append] at hrec
    exact hrec
theorem ref_eq (l : List Ex) (c la ho pr : Int) (src dst : ByteArray) (hl : l.length < 5864062014805) (k : Nat) (hk : l.length < k) :
    rillmeterlaw07_ref.f k c la ho pr src dst (l.map t1) = some (c, la, ho, pr, src, dst, l.map t2) := by
  unfold rillmeterlaw07_ref.f
  exact ref_loop l c la ho pr src dst hl l k 0 rfl (by omega) hk
theorem equal_loop (l : List Ex) (c la ho pr : Int) (src dst : ByteArray) (c' la' ho' pr' : Int) (src' dst' : ByteArray) (hl : l.length < 5864062014805) (r : List Ex) : ∀ (k i : Nat), l.drop i = r → i ≤ l.length → r.length < k →
    rillmeterref07_Equal.l0 k (i : Int) c la ho pr src dst (l.map t2) c' la' ho' pr' src' dst' (l.map t2) = some true := by
  induction r with
  | nil =>
    intro k i hd hi hk
    obtain ⟨k, rfl⟩ : ∃ m, k = m + 1 := ⟨k - 1, by omega⟩
    have := congrArg List.length hd
    rw [List.length_drop, List.length_nil] at this
    simp only [rillmeterref07_Equal.l0]
    rw [if_neg (by rw [List.length_map]; omega)]
  | cons p r ih =>
    intro k i hd hi hk
    rw [List.length_cons] at hk
    obtain ⟨k, rfl⟩ : ∃ m, k = m + 1 := ⟨k - 1, by omega⟩
    obtain ⟨h1, h2, h3⟩ := drop_len hd
    have hrec := ih k (i + 1) h3 (by omega) (by omega)
    simp only [rillmeterref07_Equal.l0]
    have e1 : wrap64 ((i : Int) + 1) = ((i + 1 : Nat) : Int) := by rw [w64 (by omega) (by omega)]; omega
    rw [if_pos (by rw [List.length_map]; omega), if_pos (by omega), if_pos (by rw [List.length_map]; omega), if_neg (by simp), e1]
    exact hrec
theorem equal_eq (l : List Ex) (c la ho pr : Int) (src dst : ByteArray) (hl : l.length < 5864062014805) (k : Nat) (hk : l.length + 1 < k) :
    rillmeterref07_Equal.f k c la ho pr src dst (l.map t2) c la ho pr src dst (l.map t2) = some true := by
  obtain ⟨k, rfl⟩ : ∃ m, k = m + 1 := ⟨k - 1, by omega⟩
  unfold rillmeterref07_Equal.f
  rw [if_pos rfl, if_pos rfl, if_pos rfl, if_pos rfl, if_pos rfl, if_pos rfl]
  simp only [rillmeterref07_Equal.j0]
  rw [if_neg (by simp)]
  exact equal_loop l c la ho pr src dst c la ho pr src dst hl l k 0 rfl (by omega) (by omega)
end Go.Proofs.Ytmjpemnlilcpkaa.L07
namespace Go.Proofs.Ytmjpemnlilcpkaa.L07
open Go Go.RowKit Go.Proofs.Ytmjpemnlilcpkaa.Q Go.Proofs.Ytmjpemnlilcpkaa.Base Go.Proofs.Ytmjpemnlilcpkaa.L04 Go.Proofs.Ytmjpemnlilcpkaa.LAt Go.Proofs.YtmjpemnlilcpkaaW.PrintWords Go.Proofs.YtmjpemnlilcpkaaW.PrintMore
set_option linter.unusedVariables false
set_option linter.unusedSimpArgs false

/-! ### Put -/
theorem t1_f0 (p : Ex) : (t1 p).f0 = p.1 := rfl
theorem t1_f1 (p : Ex) : (t1 p).f1 = p.2 := rfl
theorem t2_f0 (p : Ex) : (t2 p).f0 = p.1 := rfl
theorem t2_f1 (p : Ex) : (t2 p).f1 = p.2 := rfl
def kindOf (r : List Ex) (pr : Int) : Int := match r with | [] => pr | q :: _ => q.1
theorem kindOf_cons (q : Ex) (r : List Ex) (pr : Int) : kindOf (q :: r) pr = q.1 := rfl
def encE (p : Ex) : List UInt8 := if p.1 = 44 then p.2.data.toList else one (((p.2.size : Int) - 6) / 8) ++ p.2.data.toList
def encC (pr : Int) : List Ex → List UInt8
  | [] => []
  | p :: r => one (kindOf r pr) ++ encE p ++ encC pr r
theorem encC_cons (pr : Int) (p : Ex) (r : List Ex) : encC pr (p :: r) = one (kindOf r pr) ++ encE p ++ encC pr r := rfl
def word (h : H6) : Int := 1610612736 + h.cl * 1048576 + h.la
def put6 (h : H6) (body : ByteArray) : List UInt8 :=
  enc (word h).toNat 4 ++ two (((encC h.pr h.ch).length + body.size : Nat) : Int) ++ one (kindOf h.ch h.pr) ++ one h.ho ++ h.src.data.toList ++ h.dst.data.toList ++ (encC h.pr h.ch ++ body.data.toList)
def fits (h : H6) (body : ByteArray) : Prop := (encC h.pr h.ch).length + body.size ≤ 65535
instance (h : H6) (b : ByteArray) : Decidable (fits h b) := by unfold fits; infer_instance
theorem okE_size {p : Ex} (h : okE p = true) : p.2.size ≤ 2046 ∧ (p.1 = 44 → p.2.size = 7) ∧ (p.1 ≠ 44 → 6 ≤ p.2.size ∧ p.2.size % 8 = 6) ∧ isExt p.1 = true := by
  unfold okE at h
  by_cases c : p.1 = 44
  · rw [if_pos c] at h
    have := of_decide_eq_true h
    exact ⟨by omega, fun _ => this, fun d => absurd c d, by rw [c]; rfl⟩
  · rw [if_neg c] at h
    simp only [Bool.and_eq_true, decide_eq_true_eq] at h
    exact ⟨h.2.2.1, fun d => absurd d c, fun _ => ⟨h.2.1, h.2.2.2⟩, h.1⟩
theorem isExt_range {n : Int} (h : isExt n = true) : 0 ≤ n ∧ n ≤ 60 := by
  unfold isExt at h
  simp only [Bool.or_eq_true, beq_iff_eq] at h
  omega
theorem encE_len {p : Ex} (h : okE p = true) : (encE p).length ≤ 2047 := by
  have hs := okE_size h
  unfold encE
  by_cases c : p.1 = 44
  · rw [if_pos c, len]; omega
  · rw [if_neg c, List.length_append, one_length, len]; omega
theorem okC_tail {f : Bool} {p : Ex} {r : List Ex} (h : okC f (p :: r) = true) : okE p = true ∧ (p.1 = 0 → f = true) ∧ okC false r = true := by
  rw [okC_cons] at h
  simp only [Bool.and_eq_true, Bool.or_eq_true, bne_iff_ne] at h
  exact ⟨h.1, fun c => h.2.1.resolve_left (fun d => d c), h.2.2⟩
theorem okC_weak {r : List Ex} {f : Bool} (h : okC false r = true) : okC f r = true := by
  cases r with
  | nil => rfl
  | cons p r =>
    obtain ⟨h1, h2, h3⟩ := okC_tail h
    rw [okC_cons, h1, h3]
    have : p.1 ≠ 0 := fun c => by have := h2 c; cases this
    rw [bne_iff_ne.mpr this]; rfl
theorem encC_len (pr : Int) {f : Bool} (r : List Ex) (h : okC f r = true) : (encC pr r).length ≤ 2048 * r.length := by
  induction r generalizing f with
  | nil => simp [encC]
  | cons p r ih =>
    obtain ⟨h1, h2, h3⟩ := okC_tail h
    have := ih h3
    have := encE_len h1
    rw [encC_cons, List.length_append, List.length_append, one_length, List.length_cons]; omega
theorem kindOf_range {f : Bool} {r : List Ex} {pr : Int} (h : okC f r = true) (hp : 0 ≤ pr ∧ pr < 256) : 0 ≤ kindOf r pr ∧ kindOf r pr ≤ 255 := by
  cases r with
  | nil => exact ⟨hp.1, by show pr ≤ 255; omega⟩
  | cons p r =>
    have := isExt_range (okE_size (okC_tail h).1).2.2.2
    rw [kindOf_cons]; omega
theorem put_one {n : Int} (h : 0 ≤ n ∧ n ≤ 255) (k : Nat) (hk : 12 ≤ k) : ipsix_put.f k n 1 = some (mkB (one n)) := by
  unfold ipsix_put.f
  rw [put_eq _ _ _ hk, Option.bind_some, putS_one h.1 h.2]
theorem put_two {n : Int} (h : 0 ≤ n ∧ n ≤ 65535) (k : Nat) (hk : 12 ≤ k) : ipsix_put.f k n 2 = some (mkB (two n)) := by
  unfold ipsix_put.f
  rw [put_eq _ _ _ hk, Option.bind_some, putS_two h.1 h.2]
theorem put_four {n : Int} (h : 0 ≤ n ∧ n < 4294967296) (k : Nat) (hk : 12 ≤ k) : ipsix_put.f k n 4 = some (mkB (enc n.toNat 4)) := by
  unfold ipsix_put.f
  rw [put_eq _ _ _ hk, Option.bind_some]
  unfold putS
  rw [if_neg (by simp only [show (4 : Int).toNat = 4 from rfl]; omega)]; rfl
theorem hkind_eq (h : H6) (i : Nat) {r : List Ex} (hd : h.ch.drop i = r) : ipsix_Header_kind.f h.cl h.la h.ho h.pr h.src h.dst (h.ch.map t1) (i : Int) = some (kindOf r h.pr) := by
  unfold ipsix_Header_kind.f
  rw [List.length_map]
  cases r with
  | nil =>
    have := congrArg List.length hd
    rw [List.length_drop, List.length_nil] at this
    rw [if_neg (by omega)]; rfl
  | cons p r =>
    obtain ⟨h1, h2, h3⟩ := drop_len hd
    rw [if_pos (by omega), if_pos (by omega), rd1 hd]; rfl
theorem put_loop (h : H6) (body : ByteArray) (hb : body.size ≤ 140737488351232) (hR : okR h) (hC : okC true h.ch = true) (r : List Ex) : ∀ (k i : Nat) (acc : List UInt8) (f : Bool), h.ch.drop i = r → okC f r = true → i ≤ h.ch.length →
    acc ++ encC h.pr r = encC h.pr h.ch → r.length + 14 < k →
    ipsix_Put.l0 k body (mkB acc) (h.ch.map t1) ((h.ch.map t1).length : Int) (i : Int) h.cl h.la h.ho h.pr h.src h.dst (h.ch.map t1) =
      some (if fits h body then (mkB (put6 h body), 0) else (mkB [], 1)) := by
  have hl := hR.2.2.2.2.2.2.2
  have hE := encC_len h.pr h.ch hC
  induction r with
  | nil =>
    intro k i acc f hd hf hi ha hk
    obtain ⟨k, rfl⟩ : ∃ m, k = m + 1 := ⟨k - 1, by omega⟩
    have h0 := congrArg List.length hd
    rw [List.length_drop, List.length_nil] at h0
    rw [encC, List.append_nil] at ha
    subst ha
    simp only [ipsix_Put.l0]
    have hz : (mkB (encC h.pr h.ch)).size = (encC h.pr h.ch).length := rfl
    have hz2 : (mkB (encC h.pr h.ch) ++ body).size = (encC h.pr h.ch).length + body.size := by rw [ByteArray.size_append, hz]
    rw [if_neg (by rw [List.length_map]; omega), if_pos (by omega), hz2]
    by_cases hfit : fits h body
    case neg =>
      have hfit' := hfit
      unfold fits at hfit'
      rw [if_neg hfit, if_pos (by omega)]; rfl
    have hfit' := hfit
    unfold fits at hfit'
    have r1 := hR.1
    have r2 := hR.2.1
    have r3 := hR.2.2.1
    have r6 := hR.2.2.2.2.2.1
    have r7 := hR.2.2.2.2.2.2.1
    have hw : wrap64 (wrap64 (1610612736 + wrap64 (h.cl * 1048576)) + h.la) = word h := by
      rw [w64 (n := h.cl * 1048576) (by omega) (by omega), w64 (n := 1610612736 + h.cl * 1048576) (by omega) (by omega), w64 (by omega) (by omega)]; rfl
    have hk0 := hkind_eq h 0 (r := h.ch) rfl
    rw [show ((0 : Nat) : Int) = 0 from rfl] at hk0
    rw [if_pos hfit, if_neg (by omega), hw, put_four (by unfold word; omega) _ (by omega), Option.bind_some, put_two (by omega) _ (by omega), Option.bind_some, hk0, Option.bind_some,
      put_one (kindOf_range hC hR.2.2.2.1) _ (by omega), Option.bind_some, put_one (by omega) _ (by omega), Option.bind_some]
    have s1 : (mkB (enc (word h).toNat 4)).size = 4 := by rw [mkB_size, enc_length]
    have s2 : (mkB (two (((encC h.pr h.ch).length + body.size : Nat) : Int))).size = 2 := by rw [mkB_size, two_length]
    have s3 : (mkB (one (kindOf h.ch h.pr))).size = 1 := by rw [mkB_size, one_length]
    have s4 : (mkB (one h.ho)).size = 1 := by rw [mkB_size, one_length]
    rw [if_pos (by omega), if_pos (by simp only [ByteArray.size_append]; omega), if_pos (by simp only [ByteArray.size_append]; omega), if_pos (by simp only [ByteArray.size_append]; omega), if_pos (by simp only [ByteArray.size_append]; omega), if_pos (by simp only [ByteArray.size_append, hz]; omega)]
    unfold put6
    congr 2
  | cons p r ih =>
    intro k i acc f hd hf hi ha hk
    rw [List.length_cons] at hk
    obtain ⟨k, rfl⟩ : ∃ m, k = m + 1 := ⟨k - 1, by omega⟩
    obtain ⟨h1, h2, h3⟩ := drop_len hd
    have c1 := (okC_tail hf).1
    have c3 := (okC_tail hf).2.2
    have hs := (okE_size c1).1
    rw [encC_cons] at ha
    have hlen : acc.length ≤ (encC h.pr h.ch).length := by rw [← ha, List.length_append]; exact Nat.le_add_right _ _
    have e1 : wrap64 ((i : Int) + 1) = ((i + 1 : Nat) : Int) := by rw [w64 (by omega) (by omega)]; omega
    have hrec := ih k (i + 1) (acc ++ one (kindOf r h.pr) ++ encE p) false h3 c3 (by omega) (by rw [← ha]; simp only [List.append_assoc]) (by omega)
    simp only [ipsix_Put.l0]
    rw [if_pos (by rw [List.length_map]; omega), if_pos (by omega), if_pos (by rw [List.length_map]; omega), e1, hkind_eq h (i + 1) h3, Option.bind_some,
      put_one (kindOf_range c3 hR.2.2.2.1) _ (by omega), Option.bind_some, rd1 hd]
    rw [show (t1 p).f0 = p.1 from rfl, show (t1 p).f1 = p.2 from rfl]
    have z1 : (mkB (one (kindOf r h.pr))).size = 1 := by rw [mkB_size, one_length]
    have z0 : (mkB acc).size = acc.length := rfl
    rw [if_pos (by omega)]
    by_cases c4 : p.1 = 44
    · have ee : encE p = p.2.data.toList := by unfold encE; rw [if_pos c4]
      rw [ee] at hrec
      rw [if_pos c4, if_pos (by rw [ByteArray.size_append]; omega), mkB_app, app_mkB]
      exact hrec
    · have ee : encE p = one (((p.2.size : Int) - 6) / 8) ++ p.2.data.toList := by unfold encE; rw [if_neg c4]
      rw [ee] at hrec
      have h6 := (okE_size c1).2.2.1 c4
      have ew : wrap64 (Int.tdiv (wrap64 ((p.2.size : Int) - 6)) 8) = ((p.2.size : Int) - 6) / 8 := by
        rw [w64 (n := (p.2.size : Int) - 6) (by omega) (by omega), Int.tdiv_eq_ediv_of_nonneg (by omega), w64 (by omega) (by omega)]
      have z2 : (mkB (one (((p.2.size : Int) - 6) / 8))).size = 1 := by rw [mkB_size, one_length]
      rw [if_neg c4, ew, put_one (by omega) _ (by omega), Option.bind_some, if_pos (by omega), if_pos (by simp only [ByteArray.size_append]; omega), mkB_app, app_mkB, app_list, mkB_data]
      exact hrec
def put6S (h : H6) (body : ByteArray) : ByteArray × Int := if right h = true ∧ fits h body then (mkB (put6 h body), 0) else (mkB [], 1)
theorem right_iff (h : H6) : right h = true ↔ okC true h.ch = true ∧ okR h := by
  unfold right
  rw [Bool.and_eq_true, decide_eq_true_eq]
theorem put6_eq (h : H6) (hs : small h.ch) (body : ByteArray) (hb : body.size ≤ 140737488351232) (k : Nat) (hk : h.ch.length + 14 < k) :
    ipsix_Put.f k h.cl h.la h.ho h.pr h.src h.dst (h.ch.map t1) body = some (put6S h body) := by
  unfold ipsix_Put.f put6S
  rw [right_eq h hs _ (by omega), Option.bind_some]
  cases hr : right h
  · rw [if_neg (by decide), if_neg (fun q => by cases q.1)]; rfl
  · obtain ⟨hC, hR⟩ := (right_iff h).mp hr
    have := put_loop h body hb hR hC h.ch k 0 [] true rfl hC (by omega) rfl hk
    rw [if_pos rfl]
    refine this.trans ?_
    by_cases hf : fits h body
    · rw [if_pos hf, if_pos ⟨rfl, hf⟩]
    · rw [if_neg hf, if_neg (fun q => hf q.2)]

/-! ### the reference's Put -/
end Go.Proofs.Ytmjpemnlilcpkaa.L07
namespace Go.Proofs.Ytmjpemnlilcpkaa.L07
open Go Go.RowKit Go.Proofs.Ytmjpemnlilcpkaa.Q Go.Proofs.Ytmjpemnlilcpkaa.Base Go.Proofs.Ytmjpemnlilcpkaa.L04 Go.Proofs.Ytmjpemnlilcpkaa.LAt Go.Proofs.YtmjpemnlilcpkaaW.PrintWords Go.Proofs.YtmjpemnlilcpkaaW.PrintMore
set_option linter.unusedVariables false
set_option linter.unusedSimpArgs false

/-! ### Take -/
theorem and_255 (x : Int) (h0 : 0 ≤ x) (h1 : x < 9223372036854775808) : Go.bits .and .i64 x 255 = x % 256 :=
  bits_mask .i64 63 (by decide) i64_keeps 8 (by decide) x h0 (by omega)
theorem and_20 (x : Int) (h0 : 0 ≤ x) (h1 : x < 9223372036854775808) : Go.bits .and .i64 x 1048575 = x % 1048576 :=
  bits_mask .i64 63 (by decide) i64_keeps 20 (by decide) x h0 (by omega)
theorem at_top (s : ByteArray) (h : 40 ≤ s.size) : ((at_ s 0 4 / 268435456 : Nat) : Int) = bt s 0 / 16 := by
  have hl : 0 < s.data.toList.length := by rw [len]; omega
  have hb := bt_get s 0 hl
  rw [show ((0 : Nat) : Int) = 0 from rfl] at hb
  have e : at_ s 0 4 = (s.data.toList[0]).toNat * 256 ^ 3 + num ((s.data.toList.drop 1).take 3) := by
    unfold at_
    rw [List.drop_zero]
    have e1 : s.data.toList = s.data.toList[0] :: s.data.toList.drop 1 := by
      have := List.drop_eq_getElem_cons hl
      rw [List.drop_zero] at this; exact this
    have e2 : s.data.toList.take 4 = s.data.toList[0] :: (s.data.toList.drop 1).take 3 := by
      conv => lhs; rw [e1]
      rfl
    rw [show 4 - 0 = 4 from rfl, e2, num]
    have : ((s.data.toList.drop 1).take 3).length = 3 := by rw [List.length_take, List.length_drop, len]; omega
    rw [this]
  have hr := num_lt ((s.data.toList.drop 1).take 3)
  have h3 : ((s.data.toList.drop 1).take 3).length = 3 := by rw [List.length_take, List.length_drop, len]; omega
  rw [h3] at hr
  generalize num ((s.data.toList.drop 1).take 3) = m at e hr
  rw [hb, e]
  simp only [show (256 : Nat) ^ 3 = 16777216 from rfl] at hr ⊢
  omega
def body6 (s : ByteArray) : ByteArray := s.extract 40 (40 + at_ s 4 6)
def chain6 (s : ByteArray) : Except Int (List Ex × Int × Nat) := cs (body6 s) 9 0 (bt s 6) []
def take6 {T : Type} (t : Ex → T) (s : ByteArray) : Hd T :=
  if s.size < 40 then outH t s 0 0 0 s s (.error 2)
  else if at_ s 0 4 / 268435456 ≠ 6 then outH t s 0 0 0 s s (.error 10)
  else if s.size < 40 + at_ s 4 6 then outH t s 0 0 0 s s (.error 13)
  else outH t (body6 s) ((at_ s 0 4 / 1048576 % 256 : Nat) : Int) ((at_ s 0 4 % 1048576 : Nat) : Int) (bt s 7) (s.extract 8 24) (s.extract 24 40) (chain6 s)
theorem body6_size (s : ByteArray) (h : 40 + at_ s 4 6 ≤ s.size) : (body6 s).size = at_ s 4 6 := by unfold body6; rw [ByteArray.size_extract]; omega
theorem ext_all (b : ByteArray) : b.extract 0 b.size = b := by
  apply ByteArray.ext
  apply Array.toList_inj.mp
  rw [extract_list, List.drop_zero, List.take_of_length_le (by rw [len]; omega)]
theorem take6_eq (s : ByteArray) (hs : s.size ≤ 140737488351232) (k : Nat) (hk : 20 ≤ k) : ipsix_Take.f k s = some (take6 t1 s) := by
  unfold ipsix_Take.f take6
  by_cases c1 : s.size < 40
  · rw [if_pos (by omega), if_pos c1]; rfl
  have a1 := take_at s 0 4 (by omega) (by omega) k (by omega)
  have a2 := take_at s 4 2 (by omega) (by omega) k (by omega)
  rw [ext_all] at a1
  rw [show ((4 : Nat) : Int) = 4 from rfl] at a1
  rw [show ((2 : Nat) : Int) = 2 from rfl] at a2
  have b6 := bt_range s 6
  have b7 := bt_range s 7
  have l4 := at_lt s 0 4
  have l6 := at_lt s 4 6
  simp only [show (256 : Nat) ^ (4 - 0) = 4294967296 from rfl, show (256 : Nat) ^ (6 - 4) = 65536 from rfl] at l4 l6
  rw [if_neg (by omega), if_neg c1, a1, Option.bind_some, if_pos (by omega), a2, Option.bind_some]
  simp only [Nat.zero_add, show 4 + 2 = 6 from rfl]
  rw [if_pos (by omega), if_pos (by omega), if_pos (by decide), if_pos (by omega), if_pos (by decide), if_pos (by omega)]
  by_cases c2 : at_ s 0 4 / 268435456 = 6
  case neg => rw [if_neg (by omega), if_pos c2]; rfl
  rw [if_pos (by omega), w64 (n := (s.size : Int) - 40) (by omega) (by omega), if_neg (show ¬ (at_ s 0 4 / 268435456 ≠ 6) by omega)]
  by_cases c3 : s.size < 40 + at_ s 4 6
  · rw [if_pos (by omega), if_pos c3]; rfl
  rw [if_neg (by omega), if_neg c3, w64 (n := 40 + ((at_ s 4 6 : Nat) : Int)) (by omega) (by omega), if_pos (by omega), if_pos (by omega), and_255 _ (by omega) (by omega), and_20 _ (by omega) (by omega), w64 (n := bt s 7) (by omega) (by omega), w64 (n := bt s 6) (by omega) (by omega)]
  have e1 : ((40 + ((at_ s 4 6 : Nat) : Int) : Int)).toNat = 40 + at_ s 4 6 := by omega
  have e2 : ((at_ s 0 4 : Nat) : Int) / 1048576 % 256 = ((at_ s 0 4 / 1048576 % 256 : Nat) : Int) := by omega
  have e3 : ((at_ s 0 4 : Nat) : Int) % 1048576 = ((at_ s 0 4 % 1048576 : Nat) : Int) := by omega
  rw [e1, e2, e3]
  have := take_loop (body6 s) (s.extract 8 24) (s.extract 24 40) ((at_ s 0 4 / 1048576 % 256 : Nat) : Int) ((at_ s 0 4 % 1048576 : Nat) : Int) (bt s 7) 9 0 (bt s 6) [] k (by omega) rfl (by simp) (by omega)
  rw [ext_all] at this
  exact this
/-! ### what is written is taken -/
theorem one_cons (n : Int) : one n = [UInt8.ofNat n.toNat] := rfl
theorem bt_cons {b : ByteArray} {p : Nat} {x : UInt8} {tl : List UInt8} (h : b.data.toList.drop p = x :: tl) : p < b.size ∧ bt b (p : Int) = (x.toNat : Int) ∧ b.data.toList.drop (p + 1) = tl := by
  have h1 := congrArg List.length h
  rw [List.length_drop, List.length_cons, len] at h1
  have hl : p < b.data.toList.length := by rw [len]; omega
  have h2 := List.drop_eq_getElem_cons hl
  rw [h] at h2
  simp only [List.cons.injEq] at h2
  exact ⟨by omega, by rw [bt_get b p hl, h2.1], h2.2.symm⟩
theorem bt_one {b : ByteArray} {p : Nat} {n : Int} {tl : List UInt8} (h : b.data.toList.drop p = one n ++ tl) (hn : 0 ≤ n ∧ n ≤ 255) : p < b.size ∧ bt b (p : Int) = n ∧ b.data.toList.drop (p + 1) = tl := by
  obtain ⟨h1, h2, h3⟩ := bt_cons (x := UInt8.ofNat n.toNat) (tl := tl) (by rw [h, one_cons]; rfl)
  refine ⟨h1, ?_, h3⟩
  rw [h2, ofNat_mod]; omega
theorem extract_mid {b d : ByteArray} {p : Nat} {tl : List UInt8} (h : b.data.toList.drop p = d.data.toList ++ tl) (n : Nat) (hn : n = p + d.size) : b.extract p n = d ∧ b.data.toList.drop n = tl := by
  subst hn
  constructor
  · apply ByteArray.ext
    apply Array.toList_inj.mp
    rw [extract_list, h, Nat.add_sub_cancel_left, ← len, List.take_left]
  · rw [← List.drop_drop, h, ← len, List.drop_left]
theorem cs_enc (b : ByteArray) (pr : Int) (hp : 0 ≤ pr ∧ pr < 256) (hx : isExt pr = false) (r : List Ex) : ∀ (f p : Nat) (l : List Ex) (fst : Bool) (rest : List UInt8), b.data.toList.drop p = encC pr r ++ rest → okC fst r = true → (fst = true → l = []) →
    l.length + r.length ≤ 8 → r.length < f → ∃ q, cs b f p (kindOf r pr) l = .ok (l ++ r, pr, q) ∧ b.data.toList.drop q = rest := by
  induction r with
  | nil =>
    intro f p l fst rest hd _ _ _ hf
    obtain ⟨f, rfl⟩ : ∃ m, f = m + 1 := ⟨f - 1, by omega⟩
    refine ⟨p, ?_, hd⟩
    unfold cs kindOf
    simp only
    rw [if_neg (by rw [hx]; decide), List.append_nil]
  | cons q r ih =>
    intro f p l fst rest hd hok hfst hl hf
    rw [List.length_cons] at hl hf
    obtain ⟨f, rfl⟩ : ∃ m, f = m + 1 := ⟨f - 1, by omega⟩
    have c1 := (okC_tail hok).1
    have c2 := (okC_tail hok).2.1
    have c3 := (okC_tail hok).2.2
    have hs := okE_size c1
    have hk := kindOf_range c3 hp
    rw [encC_cons, List.append_assoc, List.append_assoc] at hd
    obtain ⟨d1, d2, d3⟩ := bt_one hd hk
    have hE : extS b p q.1 = some (q.2, kindOf r pr, p + 1 + (encE q).length) ∧ b.data.toList.drop (p + 1 + (encE q).length) = encC pr r ++ rest := by
      by_cases c4 : q.1 = 44
      · have ee : encE q = q.2.data.toList := by unfold encE; rw [if_pos c4]
        have h7 := hs.2.1 c4
        clear hs c2
        rw [ee] at d3
        have hlen := congrArg List.length d3
        rw [List.length_drop, len, List.length_append, len] at hlen
        obtain ⟨x1, x2⟩ := extract_mid d3 (p + 1 + q.2.size) rfl
        rw [ee, len]
        refine ⟨?_, x2⟩
        unfold extS
        rw [if_neg (by omega), if_pos c4, d2, show p + 8 = p + 1 + q.2.size by omega, x1]
      · have ee : encE q = one (((q.2.size : Int) - 6) / 8) ++ q.2.data.toList := by unfold encE; rw [if_neg c4]
        have h6 := hs.2.2.1 c4
        have h2 := hs.1
        clear hs c2
        rw [ee, List.append_assoc] at d3
        obtain ⟨g1, g2, g3⟩ := bt_one d3 (by omega)
        have hlen := congrArg List.length g3
        rw [List.length_drop, len, List.length_append, len] at hlen
        obtain ⟨x1, x2⟩ := extract_mid g3 (p + 1 + 1 + q.2.size) rfl
        have hxl : xl b p = 2 + q.2.size := by unfold xl; rw [g2]; omega
        have el : p + 1 + (encE q).length = p + 1 + 1 + q.2.size := by rw [ee, List.length_append, one_length, len]; omega
        rw [el]
        refine ⟨?_, x2⟩
        unfold extS
        rw [if_neg (by omega), if_neg c4, hxl, if_neg (by omega), d2, show p + (2 + q.2.size) = p + 1 + 1 + q.2.size by omega, show p + 2 = p + 1 + 1 by omega, x1]
    have hx2 := hs.2.2.2
    obtain ⟨hE1, hE2⟩ := hE
    obtain ⟨z, hz1, hz2⟩ := ih f _ (l ++ [q]) false rest hE2 c3 (fun h => by cases h) (by rw [List.length_append]; simp only [List.length_cons, List.length_nil]; omega) (by omega)
    refine ⟨z, ?_, hz2⟩
    rw [kindOf_cons]
    unfold cs
    rw [if_pos hx2, hE1]
    simp only
    have : ¬ (l.length = 8 ∨ (q.1 = 0 ∧ l.length > 0)) := by
      rintro (h | ⟨h, h'⟩)
      · omega
      · rw [hfst (c2 h)] at h'; exact absurd h' (by decide)
    rw [if_neg this]
    refine hz1.trans ?_
    rw [List.append_assoc]; rfl
theorem mid {l a b c : List UInt8} (h : l = a ++ (b ++ c)) (i n : Nat) (hi : a.length = i) (hn : b.length = n) : (l.drop i).take n = b := by
  subst hi hn
  rw [h, List.drop_left, List.take_left]
theorem put6_length (h : H6) (hR : okR h) (body : ByteArray) : (put6 h body).length = 40 + ((encC h.pr h.ch).length + body.size) := by
  have r6 := hR.2.2.2.2.2.1
  have r7 := hR.2.2.2.2.2.2.1
  unfold put6
  simp only [List.length_append, enc_length, two_length, one_length, len, r6, r7]
theorem num_enc4 (n : Int) (h : 0 ≤ n ∧ n < 4294967296) : num (enc n.toNat 4) = n.toNat := by
  rw [num_enc, Nat.mod_eq_of_lt (by simp only [show (256 : Nat) ^ 4 = 4294967296 from rfl]; omega)]
theorem take_put {T : Type} (t : Ex → T) (h : H6) (body more : ByteArray) (hr : right h = true) (hf : fits h body) :
    take6 t (mkB (put6 h body) ++ more) = (h.cl, h.la, h.ho, h.pr, h.src, h.dst, h.ch.map t, body, 0) := by
  obtain ⟨hC, hR⟩ := (right_iff h).mp hr
  have hl := put6_length h hR body
  obtain ⟨s, hs⟩ : ∃ s, s = mkB (put6 h body) ++ more := ⟨_, rfl⟩
  rw [← hs]
  have hsl : s.data.toList = put6 h body ++ more.data.toList := by rw [hs, app_list, mkB_data]
  have hsz : s.size = 40 + ((encC h.pr h.ch).length + body.size) + more.size := by rw [← len, hsl, List.length_append, hl, len]
  have hw : 0 ≤ word h ∧ word h < 4294967296 := by
    have r1 := hR.1
    have r3 := hR.2.2.1
    unfold word; omega
  have hk := kindOf_range hC hR.2.2.2.1
  have hho := hR.2.1
  have r6 := hR.2.2.2.2.2.1
  have r7 := hR.2.2.2.2.2.2.1
  have hf' := hf
  unfold fits at hf'
  unfold put6 at hsl
  obtain ⟨W, hW⟩ : ∃ W, W = enc (word h).toNat 4 := ⟨_, rfl⟩
  obtain ⟨Z, hZ⟩ : ∃ Z, Z = two (((encC h.pr h.ch).length + body.size : Nat) : Int) := ⟨_, rfl⟩
  obtain ⟨K, hK⟩ : ∃ K, K = one (kindOf h.ch h.pr) := ⟨_, rfl⟩
  obtain ⟨O, hO⟩ : ∃ O, O = one h.ho := ⟨_, rfl⟩
  obtain ⟨E, hE⟩ : ∃ E, E = encC h.pr h.ch := ⟨_, rfl⟩
  rw [← hW, ← hZ, ← hK, ← hO, ← hE] at hsl
  have lW : W.length = 4 := by rw [hW, enc_length]
  have lZ : Z.length = 2 := by rw [hZ, two_length]
  have lK : K.length = 1 := by rw [hK, one_length]
  have lO : O.length = 1 := by rw [hO, one_length]
  have lS : h.src.data.toList.length = 16 := by rw [len]; exact r6
  have lD : h.dst.data.toList.length = 16 := by rw [len]; exact r7
  have lB : body.data.toList.length = body.size := len body
  have lE : (encC h.pr h.ch).length = E.length := by rw [hE]
  have m0 := mid (l := s.data.toList) (a := []) (b := W) (c := Z ++ K ++ O ++ h.src.data.toList ++ h.dst.data.toList ++ (E ++ body.data.toList) ++ more.data.toList) (by rw [hsl]; simp only [List.append_assoc, List.nil_append]) 0 4 rfl lW
  have m4 := mid (l := s.data.toList) (a := W) (b := Z) (c := K ++ O ++ h.src.data.toList ++ h.dst.data.toList ++ (E ++ body.data.toList) ++ more.data.toList) (by rw [hsl]; simp only [List.append_assoc]) 4 2 lW lZ
  have m6 : s.data.toList.drop 6 = one (kindOf h.ch h.pr) ++ (O ++ h.src.data.toList ++ h.dst.data.toList ++ (E ++ body.data.toList) ++ more.data.toList) := by
    have e : s.data.toList = (W ++ Z) ++ (K ++ (O ++ h.src.data.toList ++ h.dst.data.toList ++ (E ++ body.data.toList) ++ more.data.toList)) := by rw [hsl]; simp only [List.append_assoc]
    rw [e, List.drop_left' (by rw [List.length_append]; omega), hK]
  obtain ⟨_, k6, m7⟩ := bt_one m6 hk
  rw [hO] at m7
  simp only [List.append_assoc] at m7
  obtain ⟨_, k7, m8⟩ := bt_one m7 (by omega)
  have x8 := extract_mid m8 24 (by omega)
  have x24 := extract_mid x8.2 40 (by omega)
  have a0 : at_ s 0 4 = (word h).toNat := by unfold at_; rw [show 4 - 0 = 4 from rfl, m0, hW, num_enc4 _ hw]
  have a4 : at_ s 4 6 = (encC h.pr h.ch).length + body.size := by
    unfold at_; rw [show 6 - 4 = 2 from rfl, m4, hZ]
    have := num_two (n := (((encC h.pr h.ch).length + body.size : Nat) : Int)) (by omega) (by omega)
    omega
  have xb : body6 s = mkB (E ++ body.data.toList) := by
    unfold body6
    refine (extract_mid (d := mkB (E ++ body.data.toList)) (tl := more.data.toList) ?_ _ ?_).1
    · rw [x24.2, mkB_data]; simp only [List.append_assoc]
    · rw [a4, mkB_size, List.length_append, lE, lB]
  have hch : ∃ q, chain6 s = .ok (h.ch, h.pr, q) ∧ (body6 s).data.toList.drop q = body.data.toList := by
    have := cs_enc (body6 s) h.pr hR.2.2.2.1 hR.2.2.2.2.1 h.ch 9 0 [] true body.data.toList (by rw [xb, mkB_data, hE]; rfl) hC (fun _ => rfl) (by simp; exact hR.2.2.2.2.2.2.2) (by have := hR.2.2.2.2.2.2.2; omega)
    obtain ⟨q, q1, q2⟩ := this
    refine ⟨q, ?_, q2⟩
    unfold chain6
    have k6' : bt s 6 = kindOf h.ch h.pr := k6
    rw [k6', q1, List.nil_append]
  obtain ⟨q, q1, q2⟩ := hch
  have k7' : bt s 7 = h.ho := k7
  unfold take6
  have r1 := hR.1
  have r3 := hR.2.2.1
  have hwd : (word h).toNat / 268435456 = 6 ∧ (((word h).toNat / 1048576 % 256 : Nat) : Int) = h.cl ∧ (((word h).toNat % 1048576 : Nat) : Int) = h.la := by
    unfold word; omega
  rw [if_neg (by omega), a0, if_neg (by omega), a4, if_neg (by omega), q1, k7', hwd.2.1, hwd.2.2, x8.1, x24.1]
  unfold outH
  simp only
  have : (body6 s).extract q (body6 s).size = body := by
    have h2 := congrArg List.length q2
    rw [List.length_drop, len, len] at h2
    apply ByteArray.ext
    apply Array.toList_inj.mp
    rw [extract_list, q2, List.take_of_length_le (by rw [len]; omega)]
  rw [this]

/-! ### what is taken is written -/
theorem one_bt (s : ByteArray) (i : Nat) (h : i < s.size) : one (bt s (i : Int)) = (s.data.toList.drop i).take 1 := by
  have h1 := at_one s i h
  have h2 := enc_at s i 1 (by omega)
  unfold one
  rw [← h1, Int.toNat_natCast]; exact h2
theorem drop_split (l : List UInt8) (i n : Nat) : l.drop i = (l.drop i).take n ++ l.drop (i + n) := by
  rw [← List.drop_drop, List.take_append_drop]
theorem cs_dec (b : ByteArray) (f : Nat) : ∀ (p : Nat) (kind : Int) (l l' : List Ex) (kind' : Int) (q : Nat), p ≤ b.size → l.length ≤ 8 → (0 ≤ kind ∧ kind ≤ 255) → cs b f p kind l = .ok (l', kind', q) →
    ∃ r, l' = l ++ r ∧ okC l.isEmpty r = true ∧ kind = kindOf r kind' ∧ q ≤ b.size ∧ b.data.toList.drop p = encC kind' r ++ b.data.toList.drop q ∧ isExt kind' = false ∧ (0 ≤ kind' ∧ kind' ≤ 255) ∧ l'.length ≤ 8 := by
  induction f with
  | zero => intro p kind l l' kind' q _ _ _ h; cases h
  | succ f ih =>
    intro p kind l l' kind' q hp hl hk h
    unfold cs at h
    by_cases hx : isExt kind = true
    case neg =>
      rw [if_neg hx] at h
      cases h
      exact ⟨[], (List.append_nil _).symm, rfl, rfl, hp, rfl, by simpa using hx, hk, hl⟩
    rw [if_pos hx] at h
    cases he : extS b p kind with
    | none => rw [he] at h; cases h
    | some v =>
      obtain ⟨d, n, q1⟩ := v
      rw [he] at h
      simp only at h
      by_cases hc : l.length = 8 ∨ (kind = 0 ∧ l.length > 0)
      · rw [if_pos hc] at h; cases h
      rw [if_neg hc] at h
      have hq := extS_le he
      have hn : n = bt b (p : Int) := by
        unfold extS at he
        split at he
        · cases he
        · split at he
          · cases he; rfl
          · split at he
            · cases he
            · cases he; rfl
      have hb := bt_range b (p : Int)
      obtain ⟨r, e1, e2, e3, e4, e5, e6, e7, e8⟩ := ih q1 n (l ++ [(kind, d)]) l' kind' q hq.2 (by rw [List.length_append]; simp only [List.length_cons, List.length_nil]; omega) (by omega) h
      have hd : okE (kind, d) = true ∧ b.data.toList.drop (p + 1) = encE (kind, d) ++ b.data.toList.drop q1 := by
        unfold extS at he
        by_cases c1 : b.size < p + 8
        · rw [if_pos c1] at he; cases he
        rw [if_neg c1] at he
        by_cases c4 : kind = 44
        · rw [if_pos c4] at he
          cases he
          constructor
          · unfold okE
            rw [if_pos c4]
            exact decide_eq_true (by show (b.extract (p + 1) (p + 8)).size = 7; rw [ByteArray.size_extract]; omega)
          · unfold encE
            rw [if_pos c4]
            show _ = (b.extract (p + 1) (p + 8)).data.toList ++ _
            rw [extract_list, show p + 8 - (p + 1) = 7 by omega]
            exact drop_split _ (p + 1) 7
        · rw [if_neg c4] at he
          by_cases c3 : b.size < p + xl b p
          · rw [if_pos c3] at he; cases he
          rw [if_neg c3] at he
          have hb1 := bt_range b ((p + 1 : Nat) : Int)
          have hxl : xl b p = 8 + 8 * (bt b ((p + 1 : Nat) : Int)).toNat := rfl
          cases he
          have hz : (b.extract (p + 2) (p + xl b p)).size = xl b p - 2 := by rw [ByteArray.size_extract]; omega
          constructor
          · unfold okE
            rw [if_neg c4]
            show (isExt kind && _) = true
            rw [hx, Bool.true_and]
            show (decide (6 ≤ (b.extract (p + 2) (p + xl b p)).size) && (decide ((b.extract (p + 2) (p + xl b p)).size ≤ 2046) && decide ((b.extract (p + 2) (p + xl b p)).size % 8 = 6))) = true
            rw [hz, decide_eq_true (by omega), decide_eq_true (by omega), decide_eq_true (by omega)]; rfl
          · unfold encE
            rw [if_neg c4]
            show _ = one ((((b.extract (p + 2) (p + xl b p)).size : Int) - 6) / 8) ++ (b.extract (p + 2) (p + xl b p)).data.toList ++ _
            have e0 : (((b.extract (p + 2) (p + xl b p)).size : Int) - 6) / 8 = bt b ((p + 1 : Nat) : Int) := by rw [hz]; omega
            rw [e0, one_bt b (p + 1) (by omega), extract_list, show p + xl b p - (p + 2) = xl b p - 2 by omega, drop_split b.data.toList (p + 1) 1, List.append_assoc]
            congr 1
            · rw [← drop_split]
            · rw [show p + 1 + 1 = p + 2 by omega]
              refine (drop_split b.data.toList (p + 2) (xl b p - 2)).trans ?_
              rw [show p + 2 + (xl b p - 2) = p + xl b p by omega]
      obtain ⟨hd1, hd2⟩ := hd
      refine ⟨(kind, d) :: r, ?_, ?_, rfl, e4, ?_, e6, e7, e8⟩
      · rw [e1, List.append_assoc]; rfl
      · rw [okC_cons, hd1, Bool.true_and]
        have hne : (l ++ [(kind, d)]).isEmpty = false := by cases l <;> rfl
        rw [hne] at e2
        rw [e2, Bool.and_true]
        show (kind != 0 || l.isEmpty) = true
        by_cases h0 : kind = 0
        · have : l = [] := by
            cases l with
            | nil => rfl
            | cons a l => exact absurd (Or.inr ⟨h0, by simp⟩) hc
          rw [this]; simp
        · rw [bne_iff_ne.mpr h0]; rfl
      · rw [encC_cons, ← e3, hn, one_bt b p (by omega), List.append_assoc, List.append_assoc, ← e5, ← hd2]
        exact drop_split _ p 1
/-- What Take tells, where it refuses nothing. -/
def ok6 (s : ByteArray) : Prop := 40 ≤ s.size ∧ at_ s 0 4 / 268435456 = 6 ∧ 40 + at_ s 4 6 ≤ s.size
theorem take6_ok {T : Type} (t : Ex → T) {s : ByteArray} (h : ok6 s) :
    take6 t s = outH t (body6 s) ((at_ s 0 4 / 1048576 % 256 : Nat) : Int) ((at_ s 0 4 % 1048576 : Nat) : Int) (bt s 7) (s.extract 8 24) (s.extract 24 40) (chain6 s) := by
  obtain ⟨h1, h2, h3⟩ := h
  unfold take6
  rw [if_neg (by omega), if_neg (by omega), if_neg (by omega)]
/-- Either Take refuses, or what is taken is a right header, that is written as it stood there. -/
theorem take6_cases (s : ByteArray) : (∃ e, (e = 2 ∨ e = 10 ∨ e = 13 ∨ e = 15) ∧ ∀ (T : Type) (t : Ex → T), take6 t s = (0, 0, 0, 0, mkB [], mkB [], [], mkB [], e)) ∨
    ∃ (h : H6) (body : ByteArray), (∀ (T : Type) (t : Ex → T), take6 t s = (h.cl, h.la, h.ho, h.pr, h.src, h.dst, h.ch.map t, body, 0)) ∧ right h = true ∧ fits h body ∧ put6 h body = s.data.toList.take (40 + at_ s 4 6) ∧ ok6 s := by
  by_cases c1 : s.size < 40
  · exact .inl ⟨2, .inl rfl, fun T t => by unfold take6; rw [if_pos c1]; rfl⟩
  by_cases c2 : at_ s 0 4 / 268435456 = 6
  case neg => exact .inl ⟨10, .inr (.inl rfl), fun T t => by unfold take6; rw [if_neg c1, if_pos c2]; rfl⟩
  by_cases c3 : s.size < 40 + at_ s 4 6
  · exact .inl ⟨13, .inr (.inr (.inl rfl)), fun T t => by unfold take6; rw [if_neg c1, if_neg (by omega), if_pos c3]; rfl⟩
  have hok : ok6 s := ⟨by omega, c2, by omega⟩
  cases hc : chain6 s with
  | error e =>
    have : e = 15 := by
      have : ∀ (f p : Nat) (kind : Int) (l : List Ex) (e : Int), cs (body6 s) f p kind l = .error e → e = 15 := by
        intro f
        induction f with
        | zero => intro p kind l e h; cases h; rfl
        | succ f ih =>
          intro p kind l e h
          unfold cs at h
          by_cases hx : isExt kind = true
          · rw [if_pos hx] at h
            cases he : extS (body6 s) p kind with
            | none => rw [he] at h; cases h; rfl
            | some v =>
              rw [he] at h
              simp only at h
              split at h
              · cases h; rfl
              · exact ih _ _ _ _ h
          · rw [if_neg hx] at h; cases h
      exact this _ _ _ _ _ hc
    exact .inl ⟨15, .inr (.inr (.inr rfl)), fun T t => by rw [take6_ok t hok, hc, this]; rfl⟩
  | ok v =>
    obtain ⟨l', pr, q⟩ := v
    have b6 := bt_range s 6
    have b7 := bt_range s 7
    have hbz := body6_size s (by omega)
    obtain ⟨r, e1, e2, e3, e4, e5, e6, e7, e8⟩ := cs_dec (body6 s) 9 0 (bt s 6) [] l' pr q (by omega) (by simp) (by omega) hc
    rw [List.nil_append] at e1
    subst e1
    rw [List.drop_zero] at e5
    have hq := congrArg List.length e5
    rw [List.length_append, List.length_drop, len] at hq
    have hbody : ((body6 s).extract q (body6 s).size).size = (body6 s).size - q := by rw [ByteArray.size_extract]; omega
    have l4 := at_lt s 0 4
    have l6 := at_lt s 4 6
    simp only [show (256 : Nat) ^ (4 - 0) = 4294967296 from rfl, show (256 : Nat) ^ (6 - 4) = 65536 from rfl] at l4 l6
    refine .inr ⟨⟨((at_ s 0 4 / 1048576 % 256 : Nat) : Int), ((at_ s 0 4 % 1048576 : Nat) : Int), bt s 7, pr, s.extract 8 24, s.extract 24 40, l'⟩, (body6 s).extract q (body6 s).size, fun T t => by rw [take6_ok t hok, hc]; rfl, ?_, ?_, ?_, hok⟩
    · refine (right_iff _).mpr ⟨e2, ⟨by simp only; omega, by simp only; omega⟩, ⟨by simp only; omega, by simp only; omega⟩, ⟨by simp only; omega, by simp only; omega⟩, ⟨by simp only; omega, by simp only; omega⟩, e6, ?_, ?_, e8⟩
      · show (s.extract 8 24).size = 16
        rw [ByteArray.size_extract]; omega
      · show (s.extract 24 40).size = 16
        rw [ByteArray.size_extract]; omega
    · unfold fits
      simp only
      omega
    · unfold put6 word
      simp only
      have w1 : (1610612736 + ((at_ s 0 4 / 1048576 % 256 : Nat) : Int) * 1048576 + ((at_ s 0 4 % 1048576 : Nat) : Int)).toNat = at_ s 0 4 := by omega
      have w2 : (encC pr l').length + ((body6 s).extract q (body6 s).size).size = at_ s 4 6 := by omega
      have w3 := enc_at s 0 4 (by omega)
      have w4 := enc_at s 4 2 (by omega)
      have w6 := one_bt s 6 (by omega)
      have w7 := one_bt s 7 (by omega)
      have k6 : ((6 : Nat) : Int) = 6 := rfl
      have k7 : ((7 : Nat) : Int) = 7 := rfl
      rw [k6] at w6
      rw [k7] at w7
      rw [w1, w2, ← e3, w6, w7]
      unfold two
      rw [Int.toNat_natCast]
      rw [show enc (at_ s 0 4) 4 = _ from w3, show enc (at_ s 4 6) 2 = _ from w4, extract_list, extract_list, extract_list, List.take_of_length_le (i := (body6 s).size - q) (by rw [List.length_drop, len]; omega), ← e5]
      unfold body6
      rw [extract_list, show 40 + at_ s 4 6 - 40 = at_ s 4 6 by omega]
      generalize s.data.toList = L
      rw [List.drop_zero]
      simp only [Nat.reduceSub]
      rw [show 40 + at_ s 4 6 = 4 + (2 + (1 + (1 + (16 + (16 + at_ s 4 6))))) by omega]
      simp only [List.take_add, List.drop_drop, List.append_assoc, Nat.reduceAdd]

/-! ### Piece -/
def piece1 (p : Ex) : Bool := decide (p.1 = 44 ∧ 2 < p.2.size ∧ 8 ≤ 256 * bt p.2 1 + bt p.2 2)
theorem piece1_eq (p : Ex) : ipsix_Piece_1.f (t1 p).f0 (t1 p).f1 = some (piece1 p) := by
  unfold ipsix_Piece_1.f piece1
  rw [show (t1 p).f0 = p.1 from rfl, show (t1 p).f1 = p.2 from rfl]
  have b1 := bt_range p.2 1
  have b2 := bt_range p.2 2
  by_cases c1 : p.1 = 44
  case neg => rw [if_neg c1, decide_eq_false (fun h => c1 h.1)]
  by_cases c2 : 2 < p.2.size
  case neg => rw [if_pos c1, if_neg (by omega), decide_eq_false (fun h => c2 h.2.1)]
  rw [if_pos c1, if_pos (by omega), if_pos (by omega), if_pos (by omega), w64 (n := bt p.2 1) (by omega) (by omega), w64 (n := bt p.2 2) (by omega) (by omega), w64 (n := bt p.2 1 * 256) (by omega) (by omega), w64 (by omega) (by omega)]
  by_cases c3 : 8 ≤ 256 * bt p.2 1 + bt p.2 2
  · rw [decide_eq_true (by omega), decide_eq_true ⟨c1, c2, c3⟩]
  · rw [decide_eq_false (by omega), decide_eq_false (fun h => c3 h.2.2)]
def pieceB : List Ex → Bool
  | [] => false
  | p :: r => piece1 p || pieceB r
theorem index_loop (l : List Ex) (hl : l.length < 5864062014805) (r : List Ex) : ∀ (k i : Nat), l.drop i = r → i ≤ l.length → r.length < k →
    ∃ n : Int, slices_IndexFunc_of_26_34.l0 k (l.map t1) ((l.map t1).length : Int) (i : Int) = some n ∧ decide (n ≥ 0) = pieceB r := by
  induction r with
  | nil =>
    intro k i hd hi hk
    obtain ⟨k, rfl⟩ : ∃ m, k = m + 1 := ⟨k - 1, by omega⟩
    have := congrArg List.length hd
    rw [List.length_drop, List.length_nil] at this
    refine ⟨-1, ?_, rfl⟩
    simp only [slices_IndexFunc_of_26_34.l0]
    rw [if_neg (by rw [List.length_map]; omega)]
  | cons p r ih =>
    intro k i hd hi hk
    rw [List.length_cons] at hk
    obtain ⟨k, rfl⟩ : ∃ m, k = m + 1 := ⟨k - 1, by omega⟩
    obtain ⟨h1, h2, h3⟩ := drop_len hd
    obtain ⟨n, g1, g2⟩ := ih k (i + 1) h3 (by omega) (by omega)
    simp only [slices_IndexFunc_of_26_34.l0]
    have e1 : wrap64 ((i : Int) + 1) = ((i + 1 : Nat) : Int) := by rw [w64 (by omega) (by omega)]; omega
    rw [if_pos (by rw [List.length_map]; omega), if_pos (by omega), if_pos (by rw [List.length_map]; omega), rd1 hd, piece1_eq, Option.bind_some, e1]
    cases hp : piece1 p
    · rw [if_neg (by decide)]
      refine ⟨n, g1, ?_⟩
      rw [g2, pieceB, hp]; rfl
    · rw [if_pos rfl]
      refine ⟨i, rfl, ?_⟩
      rw [pieceB, hp, decide_eq_true (by omega)]; rfl
theorem piece_eq (l : List Ex) (c la ho pr : Int) (src dst : ByteArray) (hl : l.length < 5864062014805) (k : Nat) (hk : l.length < k) : ipsix_Piece.f k c la ho pr src dst (l.map t1) = some (pieceB l) := by
  obtain ⟨n, g1, g2⟩ := index_loop l hl l k 0 rfl (by omega) hk
  unfold ipsix_Piece.f slices_ContainsFunc_of_26_25.f slices_IndexFunc_of_26_34.f
  rw [show ((0 : Nat) : Int) = 0 from rfl] at g1
  rw [g1, Option.bind_some, Option.bind_some, g2]
/-! ### the fixed answer -/
def hA : H6 := ⟨0, 0, 0, 17, ⟨#[115, 115, 115, 115, 115, 115, 115, 115, 115, 115, 115, 115, 115, 115, 115, 115]⟩, ⟨#[100, 100, 100, 100, 100, 100, 100, 100, 100, 100, 100, 100, 100, 100, 100, 100]⟩, [(60, ⟨#[97, 98, 99, 100, 101, 102]⟩)]⟩
theorem awake_eq (k : Nat) (hk : 40 ≤ k) : rillmeterlaw07_awake.f k = some true := by
  have hs : small hA.ch := by
    constructor
    · show 1 < 5864062014805; omega
    · intro p hp
      rw [List.mem_singleton.mp hp]
      show 6 ≤ 140737488351232; omega
  have hr : right hA = true := by decide +kernel
  have hf : fits hA ⟨#[120]⟩ := by unfold fits; decide +kernel
  have e1 := put6_eq hA hs ⟨#[120]⟩ (by show 1 ≤ 140737488351232; omega) k (by show 1 + 14 < k; omega)
  have hz : (mkB (put6 hA ⟨#[120]⟩)).size = 49 := by rw [mkB_size]; decide +kernel
  have e2 := take6_eq (mkB (put6 hA ⟨#[120]⟩)) (by omega) k (by omega)
  have e3 := take_put t1 hA ⟨#[120]⟩ (mkB []) hr hf
  rw [show mkB (put6 hA ⟨#[120]⟩) ++ mkB [] = mkB (put6 hA ⟨#[120]⟩) by rw [mkB_app, List.append_nil]] at e3
  unfold put6S at e1
  rw [if_pos ⟨hr, hf⟩] at e1
  have e4 := piece_eq hA.ch hA.cl hA.la hA.ho hA.pr hA.src hA.dst hs.1 k (by show 1 < k; omega)
  unfold rillmeterlaw07_awake.f
  refine (congrArg (fun x => Option.bind x _) e1).trans ?_
  rw [Option.bind_some]
  dsimp only
  rw [e2, e3, Option.bind_some]
  dsimp only
  rw [if_pos (by omega), if_pos rfl, if_pos (show hA.pr = 17 from rfl), if_pos (show ((hA.ch.map t1).length : Int) = 1 from rfl), if_pos (by rw [toL]), if_pos rfl, e4, Option.bind_some]
  decide +kernel
end Go.Proofs.Ytmjpemnlilcpkaa.L07
namespace Go.Proofs.Ytmjpemnlilcpkaa.L07
open Go Go.RowKit Go.Proofs.Ytmjpemnlilcpkaa.Q Go.Proofs.Ytmjpemnlilcpkaa.Base Go.Proofs.Ytmjpemnlilcpkaa.L04 Go.Proofs.Ytmjpemnlilcpkaa.LAt Go.Proofs.YtmjpemnlilcpkaaW.PrintWords Go.Proofs.YtmjpemnlilcpkaaW.PrintMore
theorem put6S_yes {h : H6} {body : ByteArray} (hr : right h = true) (hf : fits h body) : put6S h body = (mkB (put6 h body), 0) := by unfold put6S; rw [if_pos ⟨hr, hf⟩]
theorem put6S_no {h : H6} {body : ByteArray} (hn : ¬ (right h = true ∧ fits h body)) : put6S h body = (mkB [], 1) := by unfold put6S; rw [if_neg hn]
theorem small_of (h : H6) (hr : right h = true) : small h.ch := by
  obtain ⟨hC, hR⟩ := (right_iff h).mp hr
  have hl := hR.2.2.2.2.2.2.2
  refine ⟨by omega, ?_⟩
  have : ∀ (r : List Ex) (f : Bool), okC f r = true → ∀ p ∈ r, p.2.size ≤ 140737488351232 := by
    intro r
    induction r with
    | nil => intro f _ p hp; cases hp
    | cons a r ih =>
      intro f hf p hp
      rcases List.mem_cons.mp hp with rfl | hp
      · have := (okE_size (okC_tail hf).1).1; omega
      · exact ih false (okC_tail hf).2.2 p hp
  exact this _ _ hC
theorem ok6_app {s : ByteArray} (h : ok6 s) (t : ByteArray) : ok6 (s ++ t) ∧ at_ (s ++ t) 4 6 = at_ s 4 6 ∧ ∀ (T : Type) (f : Ex → T), take6 f (s ++ t) = take6 f s := by
  obtain ⟨h1, h2, h3⟩ := h
  have a0 := at_app s t 0 4 (by omega)
  have a4 := at_app s t 4 6 (by omega)
  have hz : (s ++ t).size = s.size + t.size := ByteArray.size_append
  have hok : ok6 (s ++ t) := ⟨by omega, by rw [a0]; exact h2, by rw [a4]; omega⟩
  have eb : body6 (s ++ t) = body6 s := by unfold body6; rw [a4, ext_app _ _ _ _ (by omega)]
  have b6 : bt (s ++ t) 6 = bt s 6 := bt_app s t 6 (by omega)
  have b7 : bt (s ++ t) 7 = bt s 7 := bt_app s t 7 (by omega)
  have ec : chain6 (s ++ t) = chain6 s := by unfold chain6; rw [eb, b6]
  refine ⟨hok, a4, fun T f => ?_⟩
  rw [take6_ok f hok, take6_ok f ⟨h1, h2, h3⟩, a0, eb, b7, ec, ext_app _ _ _ _ (by omega), ext_app _ _ _ _ (by omega)]
end Go.Proofs.Ytmjpemnlilcpkaa.L07
