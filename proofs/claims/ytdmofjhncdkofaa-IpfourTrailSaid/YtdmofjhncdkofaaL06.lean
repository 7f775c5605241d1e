/- What the printed functions of layer 6 (ipfour) answer, told by plain functions on bytes. -/
import Derived.Test.YtdmofjhncdkofaaLAt
import Derived.Test.YtdmofjhncdkofaaL4Sum
import Derived.Test.YtdmofjhncdkofaaQx3
import Derived.Test.YtdmofjhncdkofaaQx5
import Derived.Test.YtdmofjhncdkofaaQx8
import Derived.Test.YtdmofjhncdkofaaQx6
import Derived.Test.YtdmofjhncdkofaaQx9
import Derived.Test.YtdmofjhncdkofaaQx7
namespace Go.Proofs.Ytdmofjhncdkofaa.L06
open Go Go.RowKit Go.Proofs.Ytdmofjhncdkofaa.Q Go.Proofs.Ytdmofjhncdkofaa.Base Go.Proofs.Ytdmofjhncdkofaa.L04 Go.Proofs.Ytdmofjhncdkofaa.LAt Go.Proofs.YtdmofjhncdkofaaW.PrintWords Go.Proofs.YtdmofjhncdkofaaW.PrintMore
set_option linter.unusedVariables false
set_option linter.unusedSimpArgs false

structure H4 where
  tos : Int
  id : Int
  flags : Int
  off : Int
  ttl : Int
  proto : Int
  src : ByteArray
  dst : ByteArray
  opt : ByteArray
/-- A right header. -/
def right (h : H4) : Prop :=
  (0 ≤ h.tos ∧ h.tos < 256) ∧ (0 ≤ h.ttl ∧ h.ttl < 256) ∧ (0 ≤ h.proto ∧ h.proto < 256) ∧ (0 ≤ h.id ∧ h.id < 65536) ∧ (0 ≤ h.flags ∧ h.flags < 8) ∧ (0 ≤ h.off ∧ h.off < 8192) ∧
    h.src.size = 4 ∧ h.dst.size = 4 ∧ h.opt.size ≤ 40 ∧ h.opt.size % 4 = 0
instance (h : H4) : Decidable (right h) := by unfold right; infer_instance
theorem within_eq (a b : Int) : ipfour_within.f a b = some (decide (0 ≤ a ∧ a < b)) := by
  unfold ipfour_within.f
  by_cases h : a ≥ 0
  · rw [if_pos h]
    by_cases h1 : a < b
    · rw [decide_eq_true h1, decide_eq_true (show 0 ≤ a ∧ a < b from ⟨h, h1⟩)]
    · rw [decide_eq_false h1, decide_eq_false (show ¬ (0 ≤ a ∧ a < b) from fun h2 => h1 h2.2)]
  · rw [if_neg h, decide_eq_false (show ¬ (0 ≤ a ∧ a < b) from fun h2 => h h2.1)]
theorem right_eq (h : H4) : ipfour_Right.f h.tos h.id h.flags h.off h.ttl h.proto h.src h.dst h.opt = some (decide (right h)) := by
  unfold ipfour_Right.f
  simp only [within_eq, Option.bind_some]
  by_cases c1 : 0 ≤ h.tos ∧ h.tos < 256
  case neg => rw [decide_eq_false c1, if_neg (by decide), decide_eq_false (fun r : right h => c1 r.1)]
  by_cases c2 : 0 ≤ h.ttl ∧ h.ttl < 256
  case neg => rw [decide_eq_true c1, if_pos rfl, decide_eq_false c2, if_neg (by decide), decide_eq_false (fun r : right h => c2 r.2.1)]
  by_cases c3 : 0 ≤ h.proto ∧ h.proto < 256
  case neg => rw [decide_eq_true c1, if_pos rfl, decide_eq_true c2, if_pos rfl, decide_eq_false c3, if_neg (by decide), decide_eq_false (fun r : right h => c3 r.2.2.1)]
  by_cases c4 : 0 ≤ h.id ∧ h.id < 65536
  case neg => rw [decide_eq_true c1, if_pos rfl, decide_eq_true c2, if_pos rfl, decide_eq_true c3, if_pos rfl, decide_eq_false c4, if_neg (by decide), decide_eq_false (fun r : right h => c4 r.2.2.2.1)]
  by_cases c5 : 0 ≤ h.flags ∧ h.flags < 8
  case neg => rw [decide_eq_true c1, if_pos rfl, decide_eq_true c2, if_pos rfl, decide_eq_true c3, if_pos rfl, decide_eq_true c4, if_pos rfl, decide_eq_false c5, if_neg (by decide), decide_eq_false (fun r : right h => c5 r.2.2.2.2.1)]
  by_cases c6 : 0 ≤ h.off ∧ h.off < 8192
  case neg => rw [decide_eq_true c1, if_pos rfl, decide_eq_true c2, if_pos rfl, decide_eq_true c3, if_pos rfl, decide_eq_true c4, if_pos rfl, decide_eq_true c5, if_pos rfl, decide_eq_false c6, if_neg (by decide), decide_eq_false (fun r : right h => c6 r.2.2.2.2.2.1)]
  rw [decide_eq_true c1, if_pos rfl, decide_eq_true c2, if_pos rfl, decide_eq_true c3, if_pos rfl, decide_eq_true c4, if_pos rfl, decide_eq_true c5, if_pos rfl, decide_eq_true c6, if_pos rfl]
  by_cases c7 : h.src.size = 4
  case neg => rw [if_neg (by omega), decide_eq_false (fun r : right h => c7 r.2.2.2.2.2.2.1)]
  by_cases c8 : h.dst.size = 4
  case neg => rw [if_pos (by omega), if_neg (by omega), decide_eq_false (fun r : right h => c8 r.2.2.2.2.2.2.2.1)]
  by_cases c9 : h.opt.size ≤ 40
  case neg => rw [if_pos (by omega), if_pos (by omega), if_neg (by omega), decide_eq_false (fun r : right h => c9 r.2.2.2.2.2.2.2.2.1)]
  rw [if_pos (by omega), if_pos (by omega), if_pos (by omega)]
  by_cases c10 : h.opt.size % 4 = 0
  · rw [decide_eq_true (show right h from ⟨c1, c2, c3, c4, c5, c6, c7, c8, c9, c10⟩), show ((h.opt.size : Int) % 4 == 0) = true from beq_iff_eq.mpr (by omega)]
  · rw [decide_eq_false (fun r : right h => c10 r.2.2.2.2.2.2.2.2.2), show ((h.opt.size : Int) % 4 == 0) = false from beq_eq_false_iff_ne.mpr (by omega)]

/-! ### Put -/
def head (h : H4) (n : Nat) : List UInt8 :=
  one (64 + (20 + (h.opt.size : Int)) / 4) ++ one h.tos ++ two (20 + (h.opt.size : Int) + n) ++ two h.id ++ two (h.flags * 8192 + h.off) ++ one h.ttl ++ one h.proto
def tail (h : H4) : List UInt8 := h.src.data.toList ++ h.dst.data.toList ++ h.opt.data.toList
def sum4 (h : H4) (n : Nat) : Nat := isum (head h n ++ [0, 0] ++ tail h)
def put4 (h : H4) (body : ByteArray) : List UInt8 := head h body.size ++ two (sum4 h body.size) ++ tail h ++ body.data.toList
def ok4 (h : H4) (body : ByteArray) : Prop := right h ∧ 20 + h.opt.size + body.size ≤ 65535
instance (h : H4) (b : ByteArray) : Decidable (ok4 h b) := by unfold ok4; infer_instance
def put4S (h : H4) (body : ByteArray) : ByteArray × Int := if ok4 h body then (mkB (put4 h body), 0) else (mkB [], 1)
theorem head_length (h : H4) (n : Nat) : (head h n).length = 10 := by unfold head; simp only [List.length_append, two_length, one_length]
theorem tail_length {h : H4} (r : right h) : (tail h).length = 8 + h.opt.size := by
  unfold tail; simp only [List.length_append, len]; have := r.2.2.2.2.2.2.1; have := r.2.2.2.2.2.2.2.1; omega
theorem put1 (n : Int) (h0 : 0 ≤ n) (h1 : n ≤ 255) (k : Nat) (hk : 12 ≤ k) : ipfour_put.f k n 1 = some (mkB (one n)) := by
  unfold ipfour_put.f; rw [put_eq _ _ _ hk, putS_one h0 h1]; rfl
theorem put2 (n : Int) (h0 : 0 ≤ n) (h1 : n ≤ 65535) (k : Nat) (hk : 12 ≤ k) : ipfour_put.f k n 2 = some (mkB (two n)) := by
  unfold ipfour_put.f; rw [put_eq _ _ _ hk, putS_two h0 h1]; rfl
theorem put4_eq (h : H4) (body : ByteArray) (ho : h.opt.size ≤ 140737488351232) (hb : body.size ≤ 140737488351232) (k : Nat) (hk : 200 ≤ k) :
    ipfour_Put.f k h.tos h.id h.flags h.off h.ttl h.proto h.src h.dst h.opt body = some (put4S h body) := by
  obtain ⟨k, rfl⟩ : ∃ m, k = m + 1 := ⟨k - 1, by omega⟩
  have no : ∀ n, ipfour_Put.j0 (k + 1) body n true h.tos h.id h.flags h.off h.ttl h.proto h.src h.dst h.opt = some (mkB [], 1) := by
    intro n; simp only [ipfour_Put.j0, if_true]; rfl
  unfold ipfour_Put.f put4S
  rw [right_eq, Option.bind_some]
  have e1 : wrap64 (20 + (h.opt.size : Int)) = 20 + (h.opt.size : Int) := w64 (by omega) (by omega)
  have e2 : wrap64 (20 + (h.opt.size : Int) + (body.size : Int)) = 20 + (h.opt.size : Int) + (body.size : Int) := w64 (by omega) (by omega)
  rw [e1, e2]
  by_cases r : right h
  case neg => rw [decide_eq_false r, if_neg (by decide), if_neg (fun o : ok4 h body => r o.1), no]
  rw [decide_eq_true r, if_pos rfl]
  by_cases z : 20 + (h.opt.size : Int) + (body.size : Int) > 65535
  · rw [decide_eq_true z, if_neg (fun o : ok4 h body => by have := o.2; omega), no]
  rw [decide_eq_false z, if_pos (show ok4 h body from ⟨r, by omega⟩)]
  obtain ⟨c1, c2, c3, c4, c5, c6, c7, c8, c9, c10⟩ := id r
  have e3 : wrap64 (64 + wrap64 (Int.tdiv (20 + (h.opt.size : Int)) 4)) = 64 + (20 + (h.opt.size : Int)) / 4 := by
    rw [Int.tdiv_eq_ediv_of_nonneg (by omega), w64 (n := (20 + (h.opt.size : Int)) / 4) (by omega) (by omega), w64 (by omega) (by omega)]
  have e4 : wrap64 (wrap64 (h.flags * 8192) + h.off) = h.flags * 8192 + h.off := by
    rw [w64 (n := h.flags * 8192) (by omega) (by omega), w64 (by omega) (by omega)]
  simp only [ipfour_Put.j0, Bool.false_eq_true, if_false]
  rw [e3, e4, e2, put1 _ (by omega) (by omega) k (by omega), put1 h.tos (by omega) (by omega) k (by omega), put2 (20 + (h.opt.size : Int) + (body.size : Int)) (by omega) (by omega) k (by omega), put2 h.id (by omega) (by omega) k (by omega), put2 (h.flags * 8192 + h.off) (by omega) (by omega) k (by omega), put1 h.ttl (by omega) (by omega) k (by omega), put1 h.proto (by omega) (by omega) k (by omega)]
  simp only [Option.bind_some, mkB_app]
  have eh : (one (64 + (20 + (h.opt.size : Int)) / 4) ++ one h.tos ++ two (20 + (h.opt.size : Int) + (body.size : Int)) ++ two h.id ++ two (h.flags * 8192 + h.off) ++ one h.ttl ++ one h.proto) = head h body.size := rfl
  have et : h.src ++ h.dst ++ h.opt = mkB (tail h) := by
    rw [← mkB_eta (h.src ++ h.dst ++ h.opt), app_list, app_list]; rfl
  rw [eh, et, show (⟨#[0, 0]⟩ : ByteArray) = mkB [0, 0] from rfl]
  simp only [mkB_app, mkB_size, List.length_append, one_length, two_length, head_length, tail_length r]
  have es : octet_Sum.f k (mkB (head h body.size ++ [0, 0] ++ tail h)) = some ((sum4 h body.size : Nat) : Int) := by
    have hz : (mkB (head h body.size ++ [0, 0] ++ tail h)).size = 20 + h.opt.size := by
      rw [mkB_size]; simp only [List.length_append, head_length, tail_length r]; simp; omega
    rw [sum_eq _ (by omega) _ (by omega)]; rfl
  have hs4 : sum4 h body.size ≤ 65535 := isum_le _
  rw [es]
  simp only [Option.bind_some]
  rw [put2 _ (by omega) (by omega) k (by omega)]
  simp only [Option.bind_some, mkB_app, mkB_size, List.length_append, two_length, head_length, tail_length r]
  have ef : mkB (head h body.size ++ two ((sum4 h body.size : Nat) : Int) ++ tail h) ++ body = mkB (put4 h body) := by
    rw [app_mkB]; rfl
  rw [ef]
  repeat rw [if_pos (by first | omega | (simp; omega))]

/-! ### Take -/
def zero4 : H4 := ⟨0, 0, 0, 0, 0, 0, mkB [], mkB [], mkB []⟩
/-- What is told, as the function hands it back. -/
def tup (h : H4) (b : ByteArray) (e : Int) : Int × Int × Int × Int × Int × Int × ByteArray × ByteArray × ByteArray × ByteArray × Int :=
  (h.tos, h.id, h.flags, h.off, h.ttl, h.proto, h.src, h.dst, h.opt, b, e)
/-- How long the header says that it is. -/
def hlen (s : ByteArray) : Nat := 4 * ((bt s 0).toNat % 16)
def err4 (s : ByteArray) : Int :=
  if s.size < 20 then 2 else if bt s 0 / 16 ≠ 4 then 10 else if hlen s < 20 ∨ s.size < hlen s then 11
  else if at_ s 2 4 < hlen s ∨ s.size < at_ s 2 4 then 13 else if isum (s.data.toList.take (hlen s)) ≠ 0 then 12 else 0
def h4 (s : ByteArray) : H4 :=
  ⟨(at_ s 1 2 : Nat), (at_ s 4 6 : Nat), (at_ s 6 8 / 8192 : Nat), (at_ s 6 8 % 8192 : Nat), (at_ s 8 9 : Nat), (at_ s 9 10 : Nat), s.extract 12 16, s.extract 16 20, s.extract 20 (hlen s)⟩
def take4 (s : ByteArray) : Int × Int × Int × Int × Int × Int × ByteArray × ByteArray × ByteArray × ByteArray × Int :=
  if err4 s = 0 then tup (h4 s) (s.extract (hlen s) (at_ s 2 4)) 0 else tup zero4 (mkB []) (err4 s)
theorem itake_eq (s : ByteArray) (i b : Nat) (hb : 1 ≤ b ∧ b ≤ 7) (hi : i + b ≤ s.size) (k : Nat) (hk : 10 ≤ k) : ipfour_take.f k s (i : Int) (b : Int) = some ((at_ s i (i + b) : Nat) : Int) := by
  unfold ipfour_take.f
  rw [if_pos (by omega), if_pos (by omega), Int.toNat_natCast, take_at s i b hb hi k hk]; rfl
theorem and15 (x : Int) (h0 : 0 ≤ x) (h1 : x ≤ 255) : Go.bits .and .u8 x 15 = x % 16 := u8_and15 x h0 (by omega)
theorem and8191 (x : Int) (h0 : 0 ≤ x) (h1 : x < 9223372036854775808) : Go.bits .and .i64 x 8191 = x % 8192 :=
  bits_mask .i64 63 (by decide) i64_keeps 13 (by decide) x h0 (by omega)
theorem take4_err {s : ByteArray} {e : Int} (h : err4 s = e) (hne : e ≠ 0) : take4 s = tup zero4 (mkB []) e := by
  unfold take4; rw [h, if_neg hne]
theorem err4_1 {s : ByteArray} (c1 : s.size < 20) : err4 s = 2 := by unfold err4; rw [if_pos c1]
theorem err4_2 {s : ByteArray} (c1 : ¬ s.size < 20) (c2 : bt s 0 / 16 ≠ 4) : err4 s = 10 := by unfold err4; rw [if_neg c1, if_pos c2]
theorem err4_3 {s : ByteArray} (c1 : ¬ s.size < 20) (c2 : bt s 0 / 16 = 4) (c3 : hlen s < 20 ∨ s.size < hlen s) : err4 s = 11 := by unfold err4; rw [if_neg c1, if_neg (not_not_intro c2), if_pos c3]
theorem err4_4 {s : ByteArray} (c1 : ¬ s.size < 20) (c2 : bt s 0 / 16 = 4) (c3 : ¬ (hlen s < 20 ∨ s.size < hlen s)) (c4 : at_ s 2 4 < hlen s ∨ s.size < at_ s 2 4) : err4 s = 13 := by unfold err4; rw [if_neg c1, if_neg (not_not_intro c2), if_neg c3, if_pos c4]
theorem err4_5 {s : ByteArray} (c1 : ¬ s.size < 20) (c2 : bt s 0 / 16 = 4) (c3 : ¬ (hlen s < 20 ∨ s.size < hlen s)) (c4 : ¬ (at_ s 2 4 < hlen s ∨ s.size < at_ s 2 4)) (c5 : isum (s.data.toList.take (hlen s)) ≠ 0) : err4 s = 12 := by unfold err4; rw [if_neg c1, if_neg (not_not_intro c2), if_neg c3, if_neg c4, if_pos c5]
theorem err4_0 {s : ByteArray} (c1 : ¬ s.size < 20) (c2 : bt s 0 / 16 = 4) (c3 : ¬ (hlen s < 20 ∨ s.size < hlen s)) (c4 : ¬ (at_ s 2 4 < hlen s ∨ s.size < at_ s 2 4)) (c5 : isum (s.data.toList.take (hlen s)) = 0) : err4 s = 0 := by unfold err4; rw [if_neg c1, if_neg (not_not_intro c2), if_neg c3, if_neg c4, if_neg (not_not_intro c5)]
theorem err4_ok {s : ByteArray} (h : err4 s = 0) : ¬ s.size < 20 ∧ bt s 0 / 16 = 4 ∧ ¬ (hlen s < 20 ∨ s.size < hlen s) ∧ ¬ (at_ s 2 4 < hlen s ∨ s.size < at_ s 2 4) ∧ isum (s.data.toList.take (hlen s)) = 0 := by
  by_cases c1 : s.size < 20
  · rw [err4_1 c1] at h; exact absurd h (by decide)
  by_cases c2 : bt s 0 / 16 = 4
  case neg => rw [err4_2 c1 c2] at h; exact absurd h (by decide)
  by_cases c3 : hlen s < 20 ∨ s.size < hlen s
  · rw [err4_3 c1 c2 c3] at h; exact absurd h (by decide)
  by_cases c4 : at_ s 2 4 < hlen s ∨ s.size < at_ s 2 4
  · rw [err4_4 c1 c2 c3 c4] at h; exact absurd h (by decide)
  by_cases c5 : isum (s.data.toList.take (hlen s)) = 0
  case neg => rw [err4_5 c1 c2 c3 c4 c5] at h; exact absurd h (by decide)
  exact ⟨c1, c2, c3, c4, c5⟩
theorem hlen_le (s : ByteArray) : hlen s ≤ 60 := by unfold hlen; omega
theorem take4_eq (s : ByteArray) (hs : s.size ≤ 140737488351232) (k : Nat) (hk : 200 ≤ k) : ipfour_Take.f k s = some (take4 s) := by
  obtain ⟨k, rfl⟩ : ∃ m, k = m + 2 := ⟨k - 2, by omega⟩
  have hb := bt_range s 0
  have hq60 := hlen_le s
  unfold ipfour_Take.f
  by_cases c1 : s.size < 20
  · rw [if_pos (by omega), take4_err (err4_1 c1) (by decide)]; rfl
  rw [if_neg (by omega), if_pos (by omega)]
  have t2 := itake_eq s 2 2 (by omega) (by omega) (k + 2) (by omega)
  rw [show ((2 : Nat) : Int) = 2 from rfl, show 2 + 2 = 4 from rfl] at t2
  rw [t2, Option.bind_some]
  by_cases c2 : bt s 0 / 16 = 4
  case neg => rw [if_neg c2, take4_err (err4_2 c1 c2) (by decide)]; rfl
  rw [if_pos c2]
  have eq : wrap64 (4 * wrap64 (Go.bits .and .u8 (bt s 0) 15)) = ((hlen s : Nat) : Int) := by
    rw [and15 _ hb.1 hb.2, w64 (n := bt s 0 % 16) (by omega) (by omega), w64 (by omega) (by omega)]
    unfold hlen; omega
  rw [eq]
  have bad0 : ∀ n, ipfour_Take.j0 (k + 2) s (hlen s : Int) n true = some (tup zero4 (mkB []) 11) := by
    intro n; rw [show k + 2 = (k + 1) + 1 from rfl]; simp only [ipfour_Take.j0, if_true]; rfl
  by_cases c3 : hlen s < 20
  · rw [if_pos (by omega), bad0, take4_err (err4_3 c1 c2 (.inl c3)) (by decide)]
  rw [if_neg (by omega)]
  by_cases c4 : s.size < hlen s
  · rw [decide_eq_true (by omega), bad0, take4_err (err4_3 c1 c2 (.inr c4)) (by decide)]
  have c34 : ¬ (hlen s < 20 ∨ s.size < hlen s) := by omega
  rw [decide_eq_false (by omega), show k + 2 = (k + 1) + 1 from rfl]
  simp only [ipfour_Take.j0, Bool.false_eq_true, if_false]
  have bad1 : ipfour_Take.j1 (k + 1) s (hlen s : Int) (at_ s 2 4 : Int) true = some (tup zero4 (mkB []) 13) := by simp only [ipfour_Take.j1, if_true]; rfl
  by_cases c5 : at_ s 2 4 < hlen s
  · rw [if_pos (by omega), bad1, take4_err (err4_4 c1 c2 c34 (.inl c5)) (by decide)]
  rw [if_neg (by omega)]
  by_cases c6 : s.size < at_ s 2 4
  · rw [decide_eq_true (by omega), bad1, take4_err (err4_4 c1 c2 c34 (.inr c6)) (by decide)]
  have c56 : ¬ (at_ s 2 4 < hlen s ∨ s.size < at_ s 2 4) := by omega
  rw [decide_eq_false (by omega)]
  simp only [ipfour_Take.j1, Bool.false_eq_true, if_false]
  have es : octet_Sum.f k (s.extract 0 ((hlen s : Nat) : Int).toNat) = some ((isum (s.data.toList.take (hlen s)) : Nat) : Int) := by
    rw [sum_eq _ (by rw [ByteArray.size_extract]; omega) _ (by rw [ByteArray.size_extract]; omega), extract_list]; simp
  rw [if_pos (by omega), if_pos (by omega), es, Option.bind_some]
  by_cases c7 : isum (s.data.toList.take (hlen s)) = 0
  case neg => rw [if_neg (by omega), take4_err (err4_5 c1 c2 c34 c56 c7) (by decide)]; rfl
  have t6 := itake_eq s 6 2 (by omega) (by omega) k (by omega)
  have t1 := itake_eq s 1 1 (by omega) (by omega) k (by omega)
  have t4 := itake_eq s 4 2 (by omega) (by omega) k (by omega)
  have t8 := itake_eq s 8 1 (by omega) (by omega) k (by omega)
  have t9 := itake_eq s 9 1 (by omega) (by omega) k (by omega)
  simp only [show ((6 : Nat) : Int) = 6 from rfl, show ((2 : Nat) : Int) = 2 from rfl, show ((1 : Nat) : Int) = 1 from rfl, show ((4 : Nat) : Int) = 4 from rfl, show ((8 : Nat) : Int) = 8 from rfl, show ((9 : Nat) : Int) = 9 from rfl, Nat.reduceAdd] at t6 t1 t4 t8 t9
  rw [if_pos (by omega), t6, t1, t4, t8, t9]
  simp only [Option.bind_some]
  have h68 := at_lt s 6 8
  rw [if_pos (by decide), if_pos (by omega), if_pos (by decide), if_pos (by omega), if_pos (by omega), if_pos (by omega), if_pos (by omega), and8191 _ (by omega) (by omega)]
  unfold take4
  rw [if_pos (err4_0 c1 c2 c34 c56 c7)]
  unfold tup h4
  simp
theorem awake_eq (k : Nat) (hk : 200 ≤ k) : rillmeterlaw06_awake.f k = some true := by
  unfold rillmeterlaw06_awake.f
  have := put4_eq ⟨0, 0, 0, 0, 64, 17, ⟨#[10, 0, 0, 1]⟩, ⟨#[10, 0, 0, 2]⟩, ⟨#[]⟩⟩ ⟨#[]⟩ (by decide) (by decide) k hk
  rw [this, Option.bind_some]
  decide +kernel
end Go.Proofs.Ytdmofjhncdkofaa.L06
