/- The document's Record, Announce and Message. -/
import Derived.Test.YtggjhmhjjghncaaGreatRef2
namespace Go.Proofs.YtggjhmhjjghncaaGreat
open Go.Run Go
namespace Oct
open Ty
set_option maxRecDepth 1000000
structure RrcAt (σ : St) (ta fb : Nat) (vals : List CV) (vb : Nat) : Prop where
  t : σ.get ta = some (.cells [i 300, st fb 0 4 3] 39 true)
  f : σ.get fb = some fldRB
  v : σ.get vb = some (.cells vals 9 true)
section
variable {n fuel ta fb vb j : Nat} {σ : St} {vals : List CV} {acc x : List UInt8} {Q : AV → St → Prop}
theorem rrec_bad {fl : Nat} (h : RrcAt σ ta fb vals vb) (hj : j < 4) (hf : nth fieldsL (0 + j * 3 + 1) = some (i (fl : Nat))) (hx : nth vals (0 + j * 1) = some (s x)) (h5 : fl ≠ 65535) (hl : x.length ≠ fl) (hx5 : x.length ≤ 65535) :
    Yl (L25_6 M (cc (n + 1)) (fuel + 1) (.one (st vb 0 4 1)) (P ta 0) (S acc) (I (j : Nat)) σ) (fun v σ' => v = .tup [S [], B false] ∧ σ' = σ) := by
  rw [L25_6_succ]
  unfold L25_6_b
  refine y_val (o_len un88) ?_
  refine y_val (o_lss) ?_
  refine y_ift (decide_eq_true (by omega)) ?_
  unfold K25_7
  refine y_val (o_iad un88 sz9 hj) ?_
  refine y_val (o_ld h.v rfl (partA_one ag9 hx)) ?_
  refine y_val (o_slen un9) ?_
  unfold K25_9
  have e1 : (!((fl : Int) == 65535)) = true := by
    have : ((fl : Int) == 65535) = false := by simp only [beq_eq_false_iff_ne, ne_eq]; omega
    rw [this]; rfl
  have e2 : (!((fl : Int) == (x.length : Int))) = true := by
    have : ((fl : Int) == (x.length : Int)) = false := by simp only [beq_eq_false_iff_ne, ne_eq]; omega
    rw [this]; rfl
  refine y_val (o_gtr) ?_
  rw [decide_eq_false (by omega)]
  refine y_gon rfl (fa39_1) ?_
  refine y_gon rfl (o_ld h.t rfl (partA_one ag37 rfl)) ?_
  refine y_gon rfl (rfl) ?_
  refine y_gon rfl (o_iad un37 sz42 hj) ?_
  refine y_gon rfl (fa42_1) ?_
  refine y_gon rfl (o_ld h.f rfl (partA_one ag3 hf)) ?_
  refine y_gon rfl (o_neq) ?_
  rw [e1]
  refine y_gon rfl (rfl) ?_
  refine y_gon rfl (fa39_1) ?_
  refine y_gon rfl (o_ld h.t rfl (partA_one ag37 rfl)) ?_
  refine y_gon rfl (rfl) ?_
  refine y_gon rfl (o_iad un37 sz42 hj) ?_
  refine y_gon rfl (fa42_1) ?_
  refine y_gon rfl (o_ld h.f rfl (partA_one ag3 hf)) ?_
  refine y_gon rfl (rfl) ?_
  refine y_gon rfl (o_neq) ?_
  rw [e2]
  refine y_gon rfl (rfl) ?_
  refine y_val (rfl) ?_
  refine y_ift (rfl) ?_
  exact y_ret2 ⟨rfl, rfl⟩
theorem rrec_fix {fl : Nat} (h : RrcAt σ ta fb vals vb) (hj : j < 4) (hf : nth fieldsL (0 + j * 3 + 1) = some (i (fl : Nat))) (hx : nth vals (0 + j * 1) = some (s x)) (h5 : fl < 65535) (hl : x.length = fl) (ha : acc.length ≤ 1000000)
    (hk : Yl (L25_6 M (cc (n + 1)) fuel (.one (st vb 0 4 1)) (P ta 0) (S (acc ++ x)) (I ((j + 1 : Nat) : Int)) σ) Q) :
    Yl (L25_6 M (cc (n + 1)) (fuel + 1) (.one (st vb 0 4 1)) (P ta 0) (S acc) (I (j : Nat)) σ) Q := by
  rw [L25_6_succ]
  unfold L25_6_b
  refine y_val (o_len un88) ?_
  refine y_val (o_lss) ?_
  refine y_ift (decide_eq_true (by omega)) ?_
  unfold K25_7
  refine y_val (o_iad un88 sz9 hj) ?_
  refine y_val (o_ld h.v rfl (partA_one ag9 hx)) ?_
  refine y_val (o_slen un9) ?_
  unfold K25_9
  have e0 : ((fl : Int) == 65535) = false := by simp only [beq_eq_false_iff_ne, ne_eq]; omega
  have e1 : (!((fl : Int) == 65535)) = true := by rw [e0]; rfl
  have e2 : (!((fl : Int) == (x.length : Int))) = false := by rw [hl]; simp
  refine y_val (o_gtr) ?_
  rw [decide_eq_false (by omega)]
  refine y_gon rfl (fa39_1) ?_
  refine y_gon rfl (o_ld h.t rfl (partA_one ag37 rfl)) ?_
  refine y_gon rfl (rfl) ?_
  refine y_gon rfl (o_iad un37 sz42 hj) ?_
  refine y_gon rfl (fa42_1) ?_
  refine y_gon rfl (o_ld h.f rfl (partA_one ag3 hf)) ?_
  refine y_gon rfl (o_neq) ?_
  rw [e1]
  refine y_gon rfl (rfl) ?_
  refine y_gon rfl (fa39_1) ?_
  refine y_gon rfl (o_ld h.t rfl (partA_one ag37 rfl)) ?_
  refine y_gon rfl (rfl) ?_
  refine y_gon rfl (o_iad un37 sz42 hj) ?_
  refine y_gon rfl (fa42_1) ?_
  refine y_gon rfl (o_ld h.f rfl (partA_one ag3 hf)) ?_
  refine y_gon rfl (rfl) ?_
  refine y_gon rfl (o_neq) ?_
  rw [e2]
  refine y_gon rfl (rfl) ?_
  refine y_val (rfl) ?_
  refine y_iff (rfl) ?_
  unfold K25_10
  refine y_val (fa39_1) ?_
  refine y_val (o_ld h.t rfl (partA_one ag37 rfl)) ?_
  refine y_val (o_iad un37 sz42 hj) ?_
  refine y_val (fa42_1) ?_
  refine y_val (o_ld h.f rfl (partA_one ag3 hf)) ?_
  refine y_val (o_eql) ?_
  rw [e0]
  refine y_goff rfl ?_
  refine y_goff rfl ?_
  refine y_val (rfl) ?_
  refine y_iff (rfl) ?_
  refine y_val (fa39_1) ?_
  refine y_val (o_ld h.t rfl (partA_one ag37 rfl)) ?_
  refine y_val (o_iad un37 sz42 hj) ?_
  refine y_val (fa42_1) ?_
  refine y_val (o_ld h.f rfl (partA_one ag3 hf)) ?_
  refine y_val (o_eql) ?_
  rw [e0]
  refine y_iff (rfl) ?_
  unfold K25_11
  refine y_val (o_iad un88 sz9 hj) ?_
  refine y_val (o_ld h.v rfl (partA_one ag9 hx)) ?_
  show Yl (bnd (binO (C M) .add 9 (S acc) (S x)) _ _) _
  refine y_val (o_sadd (by omega)) ?_
  unfold K25_8
  refine y_val (o_add) ?_
  rw [wrap_id (by omega) (by omega)]
  exact hk
theorem rrec_any (h : RrcAt σ ta fb vals vb) (hj : j < 4) (hf : nth fieldsL (0 + j * 3 + 1) = some (i 65535)) (hx : nth vals (0 + j * 1) = some (s x)) (hl : x.length ≤ 65535) (ha : acc.length ≤ 1000000)
    (hk : Yl (L25_6 M (cc (n + 1)) fuel (.one (st vb 0 4 1)) (P ta 0) (S (acc ++ lenB x ++ x)) (I ((j + 1 : Nat) : Int)) σ) Q) :
    Yl (L25_6 M (cc (n + 1)) (fuel + 1) (.one (st vb 0 4 1)) (P ta 0) (S acc) (I (j : Nat)) σ) Q := by
  rw [L25_6_succ]
  unfold L25_6_b
  refine y_val (o_len un88) ?_
  refine y_val (o_lss) ?_
  refine y_ift (decide_eq_true (by omega)) ?_
  unfold K25_7
  refine y_val (o_iad un88 sz9 hj) ?_
  refine y_val (o_ld h.v rfl (partA_one ag9 hx)) ?_
  refine y_val (o_slen un9) ?_
  unfold K25_9
  refine y_val (o_gtr) ?_
  rw [decide_eq_false (by omega)]
  refine y_gon rfl (fa39_1) ?_
  refine y_gon rfl (o_ld h.t rfl (partA_one ag37 rfl)) ?_
  refine y_gon rfl (rfl) ?_
  refine y_gon rfl (o_iad un37 sz42 hj) ?_
  refine y_gon rfl (fa42_1) ?_
  refine y_gon rfl (o_ld h.f rfl (partA_one ag3 hf)) ?_
  refine y_gon rfl (o_neq) ?_
  refine y_gon rfl (rfl) ?_
  refine y_goff rfl ?_
  refine y_goff rfl ?_
  refine y_goff rfl ?_
  refine y_goff rfl ?_
  refine y_goff rfl ?_
  refine y_goff rfl ?_
  refine y_goff rfl ?_
  refine y_goff rfl ?_
  refine y_gon rfl (rfl) ?_
  refine y_val (rfl) ?_
  refine y_iff (rfl) ?_
  unfold K25_10
  refine y_val (fa39_1) ?_
  refine y_val (o_ld h.t rfl (partA_one ag37 rfl)) ?_
  refine y_val (o_iad un37 sz42 hj) ?_
  refine y_val (fa42_1) ?_
  refine y_val (o_ld h.f rfl (partA_one ag3 hf)) ?_
  refine y_val (o_eql) ?_
  refine y_gon rfl (rfl) ?_
  refine y_gon rfl (o_lss) ?_
  by_cases hs : x.length < 255
  · have he : lenB x = beS 1 (x.length : Nat) := by unfold lenB; rw [if_pos hs]
    have k1 := beS_le 1 (x.length : Nat)
    rw [he] at hk
    rw [decide_eq_true (by omega)]
    refine y_val (rfl) ?_
    refine y_ift (rfl) ?_
    refine y_cal rfl (rnum_call (k := 1) (by omega) (by omega)) ?_
    refine y_val (o_sadd (by omega)) ?_
    unfold K25_11
    refine y_val (o_iad un88 sz9 hj) ?_
    refine y_val (o_ld h.v rfl (partA_one ag9 hx)) ?_
    show Yl (bnd (binO (C M) .add 9 (S _) (S x)) _ _) _
    refine y_val (o_sadd (by simp only [List.length_append]; omega)) ?_
    unfold K25_8
    refine y_val (o_add) ?_
    rw [wrap_id (by omega) (by omega)]
    exact hk
  · have he : lenB x = beS 1 255 ++ beS 2 (x.length : Nat) := by unfold lenB; rw [if_neg hs]
    have k1 := beS_le 1 255
    have k2 := beS_le 2 (x.length : Nat)
    rw [he, ← List.append_assoc] at hk
    rw [decide_eq_false (by omega)]
    refine y_val (rfl) ?_
    refine y_iff (rfl) ?_
    refine y_val (fa39_1) ?_
    refine y_val (o_ld h.t rfl (partA_one ag37 rfl)) ?_
    refine y_val (o_iad un37 sz42 hj) ?_
    refine y_val (fa42_1) ?_
    refine y_val (o_ld h.f rfl (partA_one ag3 hf)) ?_
    refine y_val (o_eql) ?_
    refine y_ift (rfl) ?_
    refine y_cal rfl (rnum_call (k := 1) (by omega) (by omega)) ?_
    refine y_val (o_sadd (by omega)) ?_
    refine y_cal rfl (rnum_call (k := 2) (by omega) (by omega)) ?_
    refine y_val (o_sadd (by simp only [List.length_append]; omega)) ?_
    unfold K25_11
    refine y_val (o_iad un88 sz9 hj) ?_
    refine y_val (o_ld h.v rfl (partA_one ag9 hx)) ?_
    show Yl (bnd (binO (C M) .add 9 (S _) (S x)) _ _) _
    refine y_val (o_sadd (by simp only [List.length_append]; omega)) ?_
    unfold K25_8
    refine y_val (o_add) ?_
    rw [wrap_id (by omega) (by omega)]
    exact hk
end
theorem rrec_run {n fb vb : Nat} {σ : St} {a b c d : List UInt8} (hf : fb < σ.next ∧ σ.get fb = some fldRB) (hv : vb < σ.next ∧ σ.get vb = some (valsB a b c d)) (ha : a.length ≤ 4) (hb : b.length ≤ 2) (hc : c.length ≤ 2) (hd : d.length ≤ 65535) :
    Yl (cc (n + 2) 25 [.agg [i 300, st fb 0 4 3], .one (st vb 0 4 1)] σ) (fun v σ' => v = (if a.length = 4 ∧ b.length = 2 ∧ c.length = 2 then .tup [S (recBytes a b c d), B true] else .tup [S [], B false]) ∧ Ext σ σ') := by
  refine y_body rfl Tryz.func25 (by kernel_rfl) ?_
  rw [F25_eq]
  unfold K25_0
  refine y_new (rfl) ?_
  have ht : (σ.push (.cells [i 300, st fb 0 4 3] 39 true)).get σ.next = some (.cells [i 300, st fb 0 4 3] 39 true) := by rw [St.get_push, if_pos rfl]
  generalize hσ1 : σ.push (.cells [i 300, st fb 0 4 3] 39 true) = σ1 at ht
  have e1 : Ext σ σ1 := by rw [← hσ1]; exact Ext.push _ _
  have hR : RrcAt σ1 σ.next fb (valsL a b c d) vb := ⟨ht, (e1.2 fb hf.1).trans hf.2, (e1.2 vb hv.1).trans hv.2⟩
  unfold K25_1
  refine y_val (o_len un88) ?_
  refine y_val (fa39_1) ?_
  refine y_val (o_ld ht rfl (partA_one ag37 rfl)) ?_
  refine y_val (o_len un37) ?_
  refine y_val (o_neq) ?_
  refine y_iff (by simp) ?_
  unfold K25_2 K25_3 K25_5
  have l0 := lenB_len (x := d)
  have key : ∀ fuel, Yl (L25_6 M (cc (n + 1)) (fuel + 1 + 1 + 1 + 1 + 1) (.one (st vb 0 4 1)) (P σ.next 0) (S []) (I ((0 : Nat) : Int)) σ1) (fun v σ' => v = (if a.length = 4 ∧ b.length = 2 ∧ c.length = 2 then .tup [S (recBytes a b c d), B true] else .tup [S [], B false]) ∧ σ' = σ1) := by
    intro fuel
    by_cases h4 : a.length = 4
    · refine rrec_fix (fl := 4) (x := a) hR (by omega) rfl rfl (by omega) h4 (by simp) ?_
      by_cases h2 : b.length = 2
      · refine rrec_fix (fl := 2) (x := b) hR (by omega) rfl rfl (by omega) h2 (by simp only [List.length_append, List.length_nil]; omega) ?_
        by_cases h3 : c.length = 2
        · refine rrec_fix (fl := 2) (x := c) hR (by omega) rfl rfl (by omega) h3 (by simp only [List.length_append, List.length_nil]; omega) ?_
          refine rrec_any (x := d) hR (by omega) rfl rfl hd (by simp only [List.length_append, List.length_nil]; omega) ?_
          rw [L25_6_succ]
          unfold L25_6_b
          refine y_val (o_len un88) ?_
          refine y_val (o_lss) ?_
          refine y_iff (decide_eq_false (by omega)) ?_
          unfold K25_4
          rw [if_pos ⟨h4, h2, h3⟩, List.nil_append]
          exact y_ret2 ⟨rfl, rfl⟩
        · rw [if_neg (fun e => h3 e.2.2)]
          exact rrec_bad (fl := 2) (x := c) hR (by omega) rfl rfl (by omega) h3 (by omega)
      · rw [if_neg (fun e => h2 e.2.1)]
        exact rrec_bad (fl := 2) (x := b) hR (by omega) rfl rfl (by omega) h2 (by omega)
    · rw [if_neg (fun e => h4 e.1)]
      exact rrec_bad (fl := 4) (x := a) hR (by omega) rfl rfl (by omega) h4 (by omega)
  exact (key 999995).mono fun v σ' hv => ⟨hv.1, by rw [hv.2]; exact e1⟩

/-! Announce and Message. -/
theorem layR_call {n : Nat} {σ : St} : cc (n + 1) 11 [] σ = some (.agg [i 300, st σ.next 0 4 3], σ.push fldRB) := by
  show callK (C M) TT (n + 1) 11 [] σ = _
  rw [call_new (t := TT) (spec := layR) rfl rfl]
  rfl
section
variable {σ : St} {fb tb sb : Nat} {t d : Int} {x : List UInt8}
theorem bsl89 : bslO (C M) 89 1 [(0, .agg [i 300, st fb 0 4 3])] σ = .new (tplRB fb) (fun a => .one (st a 0 1 2)) := by kernel_rfl
theorem bld91t : bldO (C M) 91 [(0, (I 2)), (1, .one (st tb 0 1 2))] σ = .val (.agg [i 2, st tb 0 1 2, s []]) := by kernel_rfl
theorem bld91d : bldO (C M) 91 [(0, (I 300)), (2, S x)] σ = .val (.agg [i 300, .slice none 0 (.ex 0), s x]) := by kernel_rfl
theorem bsl92t : bslO (C M) 92 1 [(0, .agg [i 2, st tb 0 1 2, s []])] σ = .new (setTRB tb) (fun a => .one (st a 0 1 3)) := by kernel_rfl
theorem bsl92d : bslO (C M) 92 1 [(0, .agg [i 300, .slice none 0 (.ex 0), s x])] σ = .new (setDRB x) (fun a => .one (st a 0 1 3)) := by kernel_rfl
theorem bld94 : bldO (C M) 94 [(0, I t), (2, I d), (3, .one (st sb 0 1 3))] σ = .val (.agg (msgC t 0 d sb)) := by kernel_rfl
theorem new94 : newO (C M) 94 σ = .new (.cells [i 0, i 0, i 0, .slice none 0 (.ex 0)] 94 true) (fun a => P a 0) := by kernel_rfl
end
def rmsg (t d id : Int) (body : List UInt8) : List UInt8 := beS 2 10 ++ beS 2 (4 + ((beS 4 t ++ beS 4 0 ++ beS 4 d ++ beS 2 id ++ beS 2 (4 + (body.length : Nat)) ++ body).length : Nat)) ++ (beS 4 t ++ beS 4 0 ++ beS 4 d ++ beS 2 id ++ beS 2 (4 + (body.length : Nat)) ++ body)
theorem rann_run {n : Nat} {d t : Int} : Yl (cc (n + 4) 7 [I d, I t] σE) (fun v _ => v = .tup [S (rmsg t d 2 bodyL), B (annOk d t)]) := by
  refine y_body rfl Tryz.func7 (by kernel_rfl) ?_
  rw [F7_eq]
  unfold K7_0
  refine y_cal rfl (layR_call) ?_
  refine y_new (bsl89) ?_
  refine y_val (bld91t) ?_
  refine y_new (bsl92t) ?_
  refine y_val (bld94) ?_
  have hS : RetAt (((σE.push fldRB).push (tplRB σE.next)).push (setTRB (σE.push fldRB).next)) ((σE.push fldRB).push (tplRB σE.next)).next 2 (st (σE.push fldRB).next 0 1 2) [] bodyL := by
    refine .tpl (by decide) ?_ (by decide) ?_ (by decide) ?_ (fb := σE.next)
    · rw [St.get_push, if_pos (by rfl)]
    · rw [St.get_push, if_neg (by decide), St.get_push, if_pos (by rfl)]
    · rw [St.get_push, if_neg (by decide), St.get_push, if_neg (by decide), St.get_push, if_pos (by rfl)]
  generalize ((σE.push fldRB).push (tplRB σE.next)).push (setTRB (σE.push fldRB).next) = σ1 at hS
  generalize ((σE.push fldRB).push (tplRB σE.next)).next = sb at hS
  refine y_new (new94) ?_
  refine y_st (o_st (by rw [St.get_push, if_pos rfl]) rfl sz94 rfl rfl) ?_
  generalize hσ2 : (σ1.push (.cells [i 0, i 0, i 0, .slice none 0 (.ex 0)] 94 true)).put σ1.next (.cells [i t, i 0, i d, st sb 0 1 3] 94 true) = σ2
  have e2 : Ext σ1 σ2 := by rw [← hσ2]; exact (Ext.push _ _).put _ (Nat.le_refl _)
  have n2 : σ2.next = σ1.next + 1 := by rw [← hσ2]; rfl
  have hm2 : σ2.get σ1.next = some (.cells (msgC t 0 d sb) 94 true) := by rw [← hσ2, St.get_put, if_pos rfl]; rfl
  obtain ⟨v, σ3, p1, rfl, p2⟩ := rput_yes (n := n + 1) (t := t) (q := 0) (d := d) (hS.ext e2) (by decide)
  have hm3 := (p2.2 σ1.next (by omega)).trans hm2
  obtain ⟨v, σ4, r1, rfl, r2⟩ := rright_run (n := n + 1) (t := t) (q := 0) (d := d) ((hS.ext e2).ext p2)
  refine y_val (o_ld hm2 rfl (partA_agg ag94 sz94 rfl)) ?_
  refine y_cal rfl (p1) ?_
  refine y_val (rfl) ?_
  refine y_val (rfl) ?_
  refine y_val (o_ld hm3 rfl (partA_agg ag94 sz94 rfl)) ?_
  refine y_cal rfl (r1) ?_
  exact y_ret2 rfl
def rmesOk (sw ep pt of t : Int) : Bool := partsOk ep pt of && annOk sw t
def rmesV (sw ep pt of : Int) (d : List UInt8) (t : Int) : AV := if rmesOk sw ep pt of t = true then .tup [S (rmsg t sw 300 (recOf ep pt of d)), B true] else .tup [S [], B false]
theorem rmes_run {n : Nat} {sw ep pt of t : Int} {d : List UInt8} (hd : d.length ≤ 4096) : Yl (cc (n + 5) 8 [.agg (pieceL sw ep pt of d), I t] σE) (fun v _ => v = rmesV sw ep pt of d t) := by
  have n0 : σE.next = 0 := rfl
  refine y_body rfl Tryz.func8 (by kernel_rfl) ?_
  rw [F8_eq]
  unfold K8_0
  have hp : (σE.push (.cells (pieceL sw ep pt of d) 32 true)).get σE.next = some (.cells (pieceL sw ep pt of d) 32 true) := by rw [St.get_push, if_pos rfl]
  have rputc : ∀ {k : Nat} {a : Int} {σ : St}, 1 ≤ k → k ≤ 7 → cc (n + 3 + 1) 24 [I a, I (k : Nat)] σ = some (.tup [S (beS k a), B (fits k a)], σ) := fun h1 h7 => call_flat (t := TT) (spec := rputSpec) rfl (rput_spec h1 h7)
  refine y_new (rfl) ?_
  refine y_val (fa32_1) ?_
  refine y_val (o_ld hp rfl (partA_one ag3 rfl)) ?_
  refine y_cal rfl (rputc (k := 4) (by omega) (by omega)) ?_
  refine y_val (rfl) ?_
  refine y_val (rfl) ?_
  refine y_val (fa32_2) ?_
  refine y_val (o_ld hp rfl (partA_one ag3 rfl)) ?_
  refine y_cal rfl (rputc (k := 2) (by omega) (by omega)) ?_
  refine y_val (rfl) ?_
  refine y_val (rfl) ?_
  refine y_val (fa32_3) ?_
  refine y_val (o_ld hp rfl (partA_one ag3 rfl)) ?_
  refine y_cal rfl (rputc (k := 2) (by omega) (by omega)) ?_
  refine y_val (rfl) ?_
  refine y_val (rfl) ?_
  generalize hσ1 : σE.push (.cells (pieceL sw ep pt of d) 32 true) = σ1 at hp
  have n1 : σ1.next = 1 := by rw [← hσ1]; rfl
  refine y_at ?_
  refine y_din ?_
  have hp2 : (σ1.gap 13).get σE.next = some (.cells (pieceL sw ep pt of d) 32 true) := hp
  have n2 : (σ1.gap 13).next = 14 := by rw [St.next_gap, n1]
  have hp3 : ((σ1.gap 13).push fldRB).get σE.next = some (.cells (pieceL sw ep pt of d) 32 true) := by rw [St.get_push, if_neg (by omega)]; exact hp2
  refine y_dcall rfl (layR_call) ?_
  refine y_dval (fa32_4) ?_
  refine y_dsam rfl (o_ld hp3 rfl (partA_one ag9 rfl)) (by rw [eqIn_ok (o_ld hp3 rfl (partA_one ag9 rfl)) rfl, eqIn_ok (o_ld hp2 rfl (partA_one ag9 rfl)) rfl]; rfl) ?_
  refine y_dnew (bsl88) ?_
  have n3 : ((σ1.gap 13).push fldRB).next = 15 := by rw [St.next_push, n2]
  have n7 : Nat.add σ1.next 6 = 7 := by rw [n1]
  rw [n7]
  generalize hσ4 : ((σ1.gap 13).push fldRB).lay 7 (valsB (beS 4 ep) (beS 2 pt) (beS 2 of) d) = σ4
  have n4 : σ4.next = 15 := by rw [← hσ4]; exact n3
  have hp4 : σ4.get σE.next = some (.cells (pieceL sw ep pt of d) 32 true) := by rw [← hσ4, St.get_lay, if_neg (by omega)]; exact hp3
  have hf4 : σ4.get (σ1.gap 13).next = some fldRB := by rw [← hσ4, St.get_lay, if_neg (by omega), St.get_push, if_pos rfl]
  have hv4 : σ4.get 7 = some (valsB (beS 4 ep) (beS 2 pt) (beS 2 of) d) := by rw [← hσ4, St.get_lay, if_pos rfl]
  obtain ⟨v, σ5, r1, rfl, r2⟩ := rrec_run (n := n + 2) (σ := σ4) (fb := (σ1.gap 13).next) (vb := 7) (d := d) ⟨by omega, hf4⟩ ⟨by omega, hv4⟩ (beS_le 4 ep) (beS_le 2 pt) (beS_le 2 of) (by omega)
  have hp5 := (r2.2 σE.next (by omega)).trans hp4
  have key : ∀ {k : Nat} {a : Int}, 0 < k → (beS k a).length = k → fits k a = true := fun {k a} hk hl => by
    cases hf : fits k a with
    | true => rfl
    | false => rw [beS_no hf] at hl; simp only [List.length_nil] at hl; omega
  have hlen : (recBytes (beS 4 ep) (beS 2 pt) (beS 2 of) d).length ≤ 65000 := by
    unfold recBytes
    have h1 := lenB_len (x := d)
    have := beS_le 4 ep
    have := beS_le 2 pt
    have := beS_le 2 of
    simp only [List.length_append]
    omega
  cases hok : partsOk ep pt of with
  | true =>
    have hok' := hok
    unfold partsOk at hok
    simp only [Bool.and_eq_true] at hok
    obtain ⟨⟨o1, o2⟩, o3⟩ := hok
    rw [if_pos ⟨beS_len o1, beS_len o2, beS_len o3⟩] at r1
    rw [o1, o2, o3]
    refine y_dcall rfl (r1) ?_
    refine y_dval (rfl) ?_
    refine y_dval (rfl) ?_
    refine y_val (fa32_0) ?_
    refine y_val (o_ld hp5 rfl (partA_one ag3 rfl)) ?_
    refine y_val (bld91d) ?_
    refine y_new (bsl92d) ?_
    refine y_val (bld94) ?_
    have hS : RetAt (σ5.push (setDRB (recBytes (beS 4 ep) (beS 2 pt) (beS 2 of) d))) σ5.next 300 (.slice none 0 (.ex 0)) (recBytes (beS 4 ep) (beS 2 pt) (beS 2 of) d) (recBytes (beS 4 ep) (beS 2 pt) (beS 2 of) d) :=
      .data (by rw [St.next_push]; omega) (by rw [St.get_push, if_pos rfl])
    generalize σ5.push (setDRB (recBytes (beS 4 ep) (beS 2 pt) (beS 2 of) d)) = σ6 at hS
    generalize σ5.next = sb at hS
    refine y_new (new94) ?_
    refine y_st (o_st (by rw [St.get_push, if_pos rfl]) rfl sz94 rfl rfl) ?_
    generalize hσ7 : (σ6.push (.cells [i 0, i 0, i 0, .slice none 0 (.ex 0)] 94 true)).put σ6.next (.cells [i t, i 0, i sw, st sb 0 1 3] 94 true) = σ7
    have e7 : Ext σ6 σ7 := by rw [← hσ7]; exact (Ext.push _ _).put _ (Nat.le_refl _)
    have n7' : σ7.next = σ6.next + 1 := by rw [← hσ7]; rfl
    have hm7 : σ7.get σ6.next = some (.cells (msgC t 0 sw sb) 94 true) := by rw [← hσ7, St.get_put, if_pos rfl]; rfl
    obtain ⟨v, σ8, q1, rfl, q2⟩ := rright_run (n := n + 2) (t := t) (q := 0) (d := sw) (hS.ext e7)
    have hm8 := (q2.2 σ6.next (by omega)).trans hm7
    obtain ⟨v, σ9, p1, rfl, p2⟩ := rput_yes (n := n + 2) (t := t) (q := 0) (d := sw) ((hS.ext e7).ext q2) hlen
    refine y_val (rfl) ?_
    refine y_gon rfl (rfl) ?_
    refine y_gon rfl (rfl) ?_
    refine y_val (rfl) ?_
    refine y_gon rfl (rfl) ?_
    refine y_gon rfl (rfl) ?_
    refine y_val (rfl) ?_
    refine y_gon rfl (rfl) ?_
    refine y_gon rfl (rfl) ?_
    refine y_val (rfl) ?_
    refine y_gon rfl (o_ld hm7 rfl (partA_agg ag94 sz94 rfl)) ?_
    refine y_gcal rfl rfl (q1) ?_
    refine y_gon rfl (rfl) ?_
    refine y_val (rfl) ?_
    cases hr : (fits 4 t && fits 4 0 && fits 4 sw) with
    | false =>
      refine y_ift (rfl) ?_
      refine y_ret2 ?_
      unfold rmesV rmesOk annOk
      rw [hr, hok']; rfl
    | true =>
      refine y_iff (rfl) ?_
      refine y_val (o_ld hm8 rfl (partA_agg ag94 sz94 rfl)) ?_
      refine y_cal rfl (p1) ?_
      refine y_val (rfl) ?_
      refine y_val (rfl) ?_
      refine y_ret2 ?_
      unfold rmesV rmesOk annOk
      rw [hr, hok']; rfl
  | false =>
    rw [if_neg (fun ⟨l1, l2, l3⟩ => by
      have : partsOk ep pt of = true := by unfold partsOk; rw [key (by omega) l1, key (by omega) l2, key (by omega) l3]; rfl
      rw [this] at hok; cases hok)] at r1
    refine y_dcall rfl (r1) ?_
    refine y_dval (rfl) ?_
    refine y_dval (rfl) ?_
    refine y_val (fa32_0) ?_
    refine y_val (o_ld hp5 rfl (partA_one ag3 rfl)) ?_
    refine y_val (bld91d) ?_
    refine y_new (bsl92d) ?_
    refine y_val (bld94) ?_
    refine y_new (new94) ?_
    refine y_st (o_st (by rw [St.get_push, if_pos rfl]) rfl sz94 rfl rfl) ?_
    have fin : ∀ {σ : St}, Yl (retV (C M) [(none, S []), (none, B false)] σ) (fun v _ => v = rmesV sw ep pt of d t) := by
      intro σ
      refine y_ret2 ?_
      unfold rmesV rmesOk
      rw [hok]; rfl
    refine y_val (rfl) ?_
    cases h1 : fits 4 ep with
    | false =>
      refine y_goff rfl ?_
      refine y_goff rfl ?_
      refine y_val (rfl) ?_
      refine y_goff rfl ?_
      refine y_goff rfl ?_
      refine y_val (rfl) ?_
      refine y_goff rfl ?_
      refine y_goff rfl ?_
      refine y_val (rfl) ?_
      refine y_goff rfl ?_
      refine y_goff rfl ?_
      refine y_goff rfl ?_
      refine y_val (rfl) ?_
      refine y_ift (rfl) ?_
      exact fin
    | true =>
      refine y_gon rfl (rfl) ?_
      refine y_gon rfl (rfl) ?_
      refine y_val (rfl) ?_
      cases h2 : fits 2 pt with
      | false =>
        refine y_goff rfl ?_
        refine y_goff rfl ?_
        refine y_val (rfl) ?_
        refine y_goff rfl ?_
        refine y_goff rfl ?_
        refine y_val (rfl) ?_
        refine y_goff rfl ?_
        refine y_goff rfl ?_
        refine y_goff rfl ?_
        refine y_val (rfl) ?_
        refine y_ift (rfl) ?_
        exact fin
      | true =>
        refine y_gon rfl (rfl) ?_
        refine y_gon rfl (rfl) ?_
        refine y_val (rfl) ?_
        cases h3 : fits 2 of with
        | false =>
          refine y_goff rfl ?_
          refine y_goff rfl ?_
          refine y_val (rfl) ?_
          refine y_goff rfl ?_
          refine y_goff rfl ?_
          refine y_goff rfl ?_
          refine y_val (rfl) ?_
          refine y_ift (rfl) ?_
          exact fin
        | true =>
          have : partsOk ep pt of = true := by unfold partsOk; rw [h1, h2, h3]; rfl
          rw [this] at hok; cases hok
end Oct
end Go.Proofs.YtggjhmhjjghncaaGreat
