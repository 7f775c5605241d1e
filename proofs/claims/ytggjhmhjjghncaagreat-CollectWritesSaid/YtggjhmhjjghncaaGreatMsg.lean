/- collect.Announce and collect.Message: what they answer. -/
import Derived.Test.YtggjhmhjjghncaaGreatPut
namespace Go.Proofs.YtggjhmhjjghncaaGreat
open Go.Run Go
namespace Oct
open Ty
set_option maxRecDepth 1000000
theorem layP_call {n : Nat} {σ : St} : cc (n + 1) 9 [] σ = some (.agg [i 300, st σ.next 0 4 3], σ.push fldB) := by
  show callK (C M) TT (n + 1) 9 [] σ = _
  rw [call_new (t := TT) (spec := layP) rfl rfl]
  rfl
section
variable {σ : St} {fb tb sb : Nat} {t d : Int} {x : List UInt8}
theorem bsl81 : bslO (C M) 81 1 [(0, .agg [i 300, st fb 0 4 3])] σ = .new (tplB fb) (fun a => .one (st a 0 1 2)) := by kernel_rfl
theorem bld83t : bldO (C M) 83 [(0, (I 2)), (1, .one (st tb 0 1 2))] σ = .val (.agg [i 2, st tb 0 1 2, s []]) := by kernel_rfl
theorem bld83d : bldO (C M) 83 [(0, (I 300)), (2, S x)] σ = .val (.agg [i 300, .slice none 0 (.ex 0), s x]) := by kernel_rfl
theorem bsl84t : bslO (C M) 84 1 [(0, .agg [i 2, st tb 0 1 2, s []])] σ = .new (setTB tb) (fun a => .one (st a 0 1 3)) := by kernel_rfl
theorem bsl84d : bslO (C M) 84 1 [(0, .agg [i 300, .slice none 0 (.ex 0), s x])] σ = .new (setDB x) (fun a => .one (st a 0 1 3)) := by kernel_rfl
theorem bld86 : bldO (C M) 86 [(0, I t), (2, I d), (3, .one (st sb 0 1 3))] σ = .val (.agg (msgC t 0 d sb)) := by kernel_rfl
end
def annOk (d t : Int) : Bool := fits 4 t && fits 4 0 && fits 4 d
def annV (d t : Int) : AV := if annOk d t = true then .tup [S (msgBytes t 0 d (setBytes 2 bodyL)), I 0] else .tup [S [], I 1]
theorem ann_run {n : Nat} {d t : Int} : Yl (cc (n + 4) 5 [I d, I t] σE) (fun v _ => v = annV d t) := by
  refine y_body rfl Tryz.func5 (by kernel_rfl) ?_
  rw [F5_eq]
  unfold K5_0
  refine y_cal rfl (layP_call) ?_
  refine y_new (bsl81) ?_
  refine y_val (bld83t) ?_
  refine y_new (bsl84t) ?_
  refine y_val (bld86) ?_
  have hS : SetAt (((σE.push fldB).push (tplB σE.next)).push (setTB (σE.push fldB).next)) ((σE.push fldB).push (tplB σE.next)).next 2 (st (σE.push fldB).next 0 1 2) [] bodyL := by
    refine .tpl (by decide) ?_ (by decide) ?_ (by decide) ?_ (fb := σE.next)
    · rw [St.get_push, if_pos (by rfl)]
    · rw [St.get_push, if_neg (by decide), St.get_push, if_pos (by rfl)]
    · rw [St.get_push, if_neg (by decide), St.get_push, if_neg (by decide), St.get_push, if_pos (by rfl)]
  cases hr : (fits 4 t && fits 4 0 && fits 4 d) with
  | false =>
    obtain ⟨v, σ', h1, rfl, _⟩ := put_no (n := n) (t := t) (q := 0) (d := d) hS hr
    refine y_cal rfl (h1) ?_
    refine y_val (rfl) ?_
    refine y_val (rfl) ?_
    refine y_ret2 ?_
    unfold annV annOk
    rw [hr]; rfl
  | true =>
    obtain ⟨v, σ', h1, rfl, _⟩ := put_yes (n := n) (t := t) (q := 0) (d := d) hS hr (by decide)
    refine y_cal rfl (h1) ?_
    refine y_val (rfl) ?_
    refine y_val (rfl) ?_
    refine y_ret2 ?_
    unfold annV annOk
    rw [hr]; rfl

/-! A record. -/
structure RecAt (lo : Nat) (σ : St) (ta fb jb : Nat) (vals : List CV) (vb : Nat) (acc : List UInt8) : Prop where
  t : ta < lo ∧ σ.get ta = some (.cells [i 300, st fb 0 4 3] 35 true)
  f : fb < lo ∧ σ.get fb = some fldB
  v : vb < lo ∧ σ.get vb = some (.cells vals 9 true)
  b : BAt lo σ jb acc
def Ex (lo : Nat) (σ σ' : St) : Prop := σ.next ≤ σ'.next ∧ ∀ j, j < lo → σ'.get j = σ.get j
theorem RecAt.ex {lo : Nat} {σ σ' : St} {ta fb jb : Nat} {vals : List CV} {vb : Nat} {acc acc' : List UInt8} (h : RecAt lo σ ta fb jb vals vb acc) (e : ∀ j, j < lo → σ'.get j = σ.get j) (hb : BAt lo σ' jb acc') : RecAt lo σ' ta fb jb vals vb acc' :=
  ⟨⟨h.t.1, (e _ h.t.1).trans h.t.2⟩, ⟨h.f.1, (e _ h.f.1).trans h.f.2⟩, ⟨h.v.1, (e _ h.v.1).trans h.v.2⟩, hb⟩
section
variable {n lo fuel ta fb jb vb j : Nat} {σ : St} {vals : List CV} {acc x : List UInt8} {Q : AV → St → Prop}
/-- a field of a fixed length: another length -/
theorem rec_bad {fl : Nat} (h : RecAt lo σ ta fb jb vals vb acc) (hj : j < 4) (hf : nth fieldsL (0 + j * 3 + 1) = some (i (fl : Nat))) (hx : nth vals (0 + j * 1) = some (s x)) (h5 : fl ≠ 65535) (hl : x.length ≠ fl) :
    Yl (L21_6 M (cc (n + 3)) (fuel + 1) (P ta 0) (P jb 0) (.one (st vb 0 4 1)) (I 4) (I (j : Nat)) σ) (fun v _ => v = .tup [S [], I 1]) := by
  rw [L21_6_succ]
  unfold L21_6_b
  refine y_val (o_lss) ?_
  unfold K21_7
  refine y_ift (decide_eq_true (by omega)) ?_
  unfold K21_8
  refine y_val (o_iad un88 sz9 hj) ?_
  refine y_val (o_ld h.v.2 rfl (partA_one ag9 hx)) ?_
  unfold K21_10
  refine y_val (fa35_1) ?_
  refine y_val (o_ld h.t.2 rfl (partA_one ag33 rfl)) ?_
  refine y_val (o_iad un33 sz41 hj) ?_
  refine y_val (fa41_1) ?_
  refine y_val (o_ld h.f.2 rfl (partA_one ag3 hf)) ?_
  refine y_val (o_neq) ?_
  have e1 : (!((fl : Int) == 65535)) = true := by
    have : ((fl : Int) == 65535) = false := by simp only [beq_eq_false_iff_ne, ne_eq]; omega
    rw [this]; rfl
  have e2 : (!((x.length : Int) == (fl : Int))) = true := by
    have : ((x.length : Int) == (fl : Int)) = false := by simp only [beq_eq_false_iff_ne, ne_eq]; omega
    rw [this]; rfl
  rw [e1]
  refine y_gon rfl (rfl) ?_
  refine y_gon rfl (o_slen un9) ?_
  refine y_gon rfl (rfl) ?_
  refine y_gon rfl (o_neq) ?_
  rw [e2]
  refine y_val (rfl) ?_
  refine y_goff rfl ?_
  refine y_goff rfl ?_
  refine y_goff rfl ?_
  refine y_val (rfl) ?_
  refine y_ift (rfl) ?_
  exact y_ret2 rfl
/-- a field of a fixed length -/
theorem rec_fix {fl : Nat} (h : RecAt lo σ ta fb jb vals vb acc) (hj : j < 4) (hf : nth fieldsL (0 + j * 3 + 1) = some (i (fl : Nat))) (hx : nth vals (0 + j * 1) = some (s x)) (h5 : fl < 65535) (hl : x.length = fl) (ha : acc.length ≤ 1000000)
    (hk : ∀ σ', RecAt lo σ' ta fb jb vals vb (acc ++ x) → Ex lo σ σ' → Yl (L21_6 M (cc (n + 3)) fuel (P ta 0) (P jb 0) (.one (st vb 0 4 1)) (I 4) (I ((j + 1 : Nat) : Int)) σ') Q) :
    Yl (L21_6 M (cc (n + 3)) (fuel + 1) (P ta 0) (P jb 0) (.one (st vb 0 4 1)) (I 4) (I (j : Nat)) σ) Q := by
  rw [L21_6_succ]
  unfold L21_6_b
  refine y_val (o_lss) ?_
  unfold K21_7
  refine y_ift (decide_eq_true (by omega)) ?_
  unfold K21_8
  refine y_val (o_iad un88 sz9 hj) ?_
  refine y_val (o_ld h.v.2 rfl (partA_one ag9 hx)) ?_
  unfold K21_10
  refine y_val (fa35_1) ?_
  refine y_val (o_ld h.t.2 rfl (partA_one ag33 rfl)) ?_
  refine y_val (o_iad un33 sz41 hj) ?_
  refine y_val (fa41_1) ?_
  refine y_val (o_ld h.f.2 rfl (partA_one ag3 hf)) ?_
  refine y_val (o_neq) ?_
  have e0 : ((fl : Int) == 65535) = false := by simp only [beq_eq_false_iff_ne, ne_eq]; omega
  have e2 : (!((x.length : Int) == (fl : Int))) = false := by rw [hl]; simp
  rw [e0]
  refine y_gon rfl (rfl) ?_
  refine y_gon rfl (o_slen un9) ?_
  refine y_gon rfl (rfl) ?_
  refine y_gon rfl (o_neq) ?_
  rw [e2]
  refine y_val (rfl) ?_
  refine y_gon rfl (rfl) ?_
  refine y_gon rfl (o_slen un9) ?_
  refine y_gon rfl (o_gtr) ?_
  rw [decide_eq_false (by omega)]
  refine y_val (rfl) ?_
  refine y_iff (rfl) ?_
  refine y_val (o_eql) ?_
  rw [e0]
  refine y_goff rfl ?_
  refine y_goff rfl ?_
  refine y_goff rfl ?_
  refine y_val (rfl) ?_
  refine y_iff (rfl) ?_
  refine y_val (o_eql) ?_
  rw [e0]
  refine y_iff (rfl) ?_
  unfold K21_11
  obtain ⟨σ', w1, w2, w3, w4⟩ := write_run (tab := TT) (n := n + 1) (t := x) rfl rfl h.b (by omega)
  refine y_cal rfl (w1) ?_
  unfold K21_9
  refine y_val (o_add) ?_
  rw [wrap_id (by omega) (by omega)]
  exact hk σ' (h.ex w4 w2) ⟨w3, w4⟩
def lenB (x : List UInt8) : List UInt8 := if x.length < 255 then beS 1 (x.length : Nat) else beS 1 255 ++ beS 2 (x.length : Nat)
theorem lenB_len {x : List UInt8} : (lenB x).length ≤ 3 := by
  unfold lenB
  split
  · exact Nat.le_trans (beS_le _ _) (by omega)
  · rw [List.length_append]; have := beS_le 1 255; have := beS_le 2 (x.length : Nat); omega
/-- a field of any length -/
theorem rec_any (h : RecAt lo σ ta fb jb vals vb acc) (hj : j < 4) (hf : nth fieldsL (0 + j * 3 + 1) = some (i 65535)) (hx : nth vals (0 + j * 1) = some (s x)) (hl : x.length ≤ 65535) (ha : acc.length ≤ 1000000)
    (hk : ∀ σ', RecAt lo σ' ta fb jb vals vb (acc ++ lenB x ++ x) → Ex lo σ σ' → Yl (L21_6 M (cc (n + 3)) fuel (P ta 0) (P jb 0) (.one (st vb 0 4 1)) (I 4) (I ((j + 1 : Nat) : Int)) σ') Q) :
    Yl (L21_6 M (cc (n + 3)) (fuel + 1) (P ta 0) (P jb 0) (.one (st vb 0 4 1)) (I 4) (I (j : Nat)) σ) Q := by
  have hlb := lenB_len (x := x)
  rw [L21_6_succ]
  unfold L21_6_b
  refine y_val (o_lss) ?_
  unfold K21_7
  refine y_ift (decide_eq_true (by omega)) ?_
  unfold K21_8
  refine y_val (o_iad un88 sz9 hj) ?_
  refine y_val (o_ld h.v.2 rfl (partA_one ag9 hx)) ?_
  unfold K21_10
  refine y_val (fa35_1) ?_
  refine y_val (o_ld h.t.2 rfl (partA_one ag33 rfl)) ?_
  refine y_val (o_iad un33 sz41 hj) ?_
  refine y_val (fa41_1) ?_
  refine y_val (o_ld h.f.2 rfl (partA_one ag3 hf)) ?_
  refine y_val (o_neq) ?_
  refine y_goff rfl ?_
  refine y_goff rfl ?_
  refine y_goff rfl ?_
  refine y_goff rfl ?_
  refine y_val (rfl) ?_
  refine y_gon rfl (rfl) ?_
  refine y_gon rfl (o_slen un9) ?_
  refine y_gon rfl (o_gtr) ?_
  rw [decide_eq_false (by omega)]
  refine y_val (rfl) ?_
  refine y_iff (rfl) ?_
  refine y_val (o_eql) ?_
  refine y_gon rfl (rfl) ?_
  refine y_gon rfl (o_slen un9) ?_
  refine y_gon rfl (o_lss) ?_
  by_cases hs : x.length < 255
  · have he : lenB x = beS 1 (x.length : Nat) := by unfold lenB; rw [if_pos hs]
    rw [he] at hk hlb
    rw [decide_eq_true (by omega)]
    obtain ⟨σ1, w1, w2, w3, w4⟩ := write_run (tab := TT) (n := n + 1) (t := beS 1 (x.length : Nat)) rfl rfl h.b (by omega)
    refine y_val (rfl) ?_
    refine y_ift (rfl) ?_
    refine y_val (o_slen un9) ?_
    refine y_cal rfl (num_call (k := 1) (by omega) (by omega)) ?_
    refine y_cal rfl (w1) ?_
    unfold K21_11
    obtain ⟨σ', u1, u2, u3, u4⟩ := write_run (tab := TT) (n := n + 1) (t := x) rfl rfl w2 (by rw [List.length_append]; omega)
    refine y_cal rfl (u1) ?_
    unfold K21_9
    refine y_val (o_add) ?_
    rw [wrap_id (by omega) (by omega)]
    exact hk σ' (h.ex (fun j hj => (u4 j hj).trans (w4 j hj)) u2) ⟨by omega, fun j hj => (u4 j hj).trans (w4 j hj)⟩
  · have he : lenB x = beS 1 255 ++ beS 2 (x.length : Nat) := by unfold lenB; rw [if_neg hs]
    rw [he] at hk hlb
    rw [decide_eq_false (by omega)]
    have k1 := beS_le 1 255
    have k2 := beS_le 2 (x.length : Nat)
    obtain ⟨σ1, w1, w2, w3, w4⟩ := write_run (tab := TT) (n := n + 1) (t := beS 1 255 ++ beS 2 (x.length : Nat)) rfl rfl h.b (by omega)
    refine y_val (rfl) ?_
    refine y_iff (rfl) ?_
    refine y_val (o_eql) ?_
    refine y_ift (rfl) ?_
    refine y_cal rfl (num_call (k := 1) (by omega) (by omega)) ?_
    refine y_val (o_slen un9) ?_
    refine y_cal rfl (num_call (k := 2) (by omega) (by omega)) ?_
    refine y_val (o_sadd (by omega)) ?_
    refine y_cal rfl (w1) ?_
    unfold K21_11
    obtain ⟨σ', u1, u2, u3, u4⟩ := write_run (tab := TT) (n := n + 1) (t := x) rfl rfl w2 (by rw [List.length_append]; omega)
    refine y_cal rfl (u1) ?_
    unfold K21_9
    refine y_val (o_add) ?_
    rw [wrap_id (by omega) (by omega)]
    exact hk σ' (h.ex (fun j hj => (u4 j hj).trans (w4 j hj)) u2) ⟨by omega, fun j hj => (u4 j hj).trans (w4 j hj)⟩
end
end Oct
end Go.Proofs.YtggjhmhjjghncaaGreat
