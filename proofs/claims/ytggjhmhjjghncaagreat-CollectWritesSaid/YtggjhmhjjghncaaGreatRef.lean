/- The document's Put, Right. -/
import Derived.Test.YtggjhmhjjghncaaGreatMsg2
namespace Go.Proofs.YtggjhmhjjghncaaGreat
open Go.Run Go
namespace Oct
open Ty
set_option maxRecDepth 1000000
def tplRB (fb : Nat) : Blk := .cells [i 300, st fb 0 4 3] 39 true
def setTRB (tb : Nat) : Blk := .cells [i 2, st tb 0 1 2, s []] 91 true
def setDRB (d : List UInt8) : Blk := .cells [i 300, .slice none 0 (.ex 0), s d] 91 true
/-- a set of the document's -/
inductive RetAt (σ : St) (sb : Nat) : Int → CV → List UInt8 → List UInt8 → Prop
  | tpl {tb fb : Nat} (h0 : sb < σ.next) (h1 : σ.get sb = some (setTRB tb)) (l2 : tb < σ.next) (h2 : σ.get tb = some (tplRB fb)) (l3 : fb < σ.next) (h3 : σ.get fb = some fldRB) : RetAt σ sb 2 (st tb 0 1 2) [] bodyL
  | data {d : List UInt8} (h0 : sb < σ.next) (h1 : σ.get sb = some (setDRB d)) : RetAt σ sb 300 (.slice none 0 (.ex 0)) d d
theorem RetAt.ext {σ σ' : St} {sb : Nat} {id : Int} {tv : CV} {d body : List UInt8} (h : RetAt σ sb id tv d body) (e : Ext σ σ') : RetAt σ' sb id tv d body := by
  have he := e.1
  cases h with
  | tpl h0 h1 l2 h2 l3 h3 => exact .tpl (by omega) ((e.2 _ h0).trans h1) (by omega) ((e.2 _ l2).trans h2) (by omega) ((e.2 _ l3).trans h3)
  | data h0 h1 => exact .data (by omega) ((e.2 _ h0).trans h1)
theorem RetAt.get {σ : St} {sb : Nat} {id : Int} {tv : CV} {d body : List UInt8} (h : RetAt σ sb id tv d body) : σ.get sb = some (.cells [i id, tv, s d] 91 true) := by cases h <;> assumption
theorem in_call {n : Nat} {σ : St} {t a b : Int} : cc (n + 1) 46 [I t, I a, I b] σ = some (B (decide (a ≤ t) && decide (t ≤ b)), σ) := call_flat (t := TT) (spec := inSpec) rfl rfl
theorem in4 (t : Int) : (decide (0 ≤ t) && decide (t ≤ 4294967295)) = fits 4 t := by
  unfold fits
  congr 1
  have e : ((256 ^ 4 : Nat) : Int) = 4294967296 := rfl
  rw [e]
  by_cases h : t ≤ 4294967295
  · rw [decide_eq_true h, decide_eq_true (by omega)]
  · rw [decide_eq_false h, decide_eq_false (by omega)]
theorem sound_call {n fb : Nat} {σ : St} (h : σ.get fb = some fldRB) : cc (n + 1) 47 [.agg [i 300, st fb 0 4 3]] σ = some (B true, σ) := by
  refine call_part (t := TT) (spec := fldSpec fldRB) rfl ?_
  unfold fldSpec
  exact if_pos ⟨fb, rfl, h⟩
theorem new91 {σ : St} : newO (C M) 91 σ = .new (.cells [i 0, .slice none 0 (.ex 0), s []] 91 true) (fun a => P a 0) := by kernel_rfl
theorem new39 {σ : St} : newO (C M) 39 σ = .new (.cells [i 0, .slice none 0 (.ex 0)] 39 true) (fun a => P a 0) := by kernel_rfl
theorem new42 {σ : St} : newO (C M) 42 σ = .new (.cells [i 0, i 0, i 0] 42 true) (fun a => P a 0) := by kernel_rfl

/-! Right. -/
theorem right2 {n ma sb : Nat} {σ : St} {t q d : Int} (hm : σ.get ma = some (.cells (msgC t q d sb) 94 true)) : Yl (K23_2 M (cc (n + 1)) (P ma 0) σ) (fun v σ' => v = B (fits 4 t && fits 4 q && fits 4 d) ∧ σ' = σ) := by
  unfold K23_2
  refine y_val (fa94_0) ?_
  refine y_val (o_ld hm rfl (partA_one ag3 rfl)) ?_
  refine y_cal rfl (in_call) ?_
  rw [in4]
  cases h1 : fits 4 t with
  | false =>
    refine y_goff rfl ?_
    refine y_goff rfl ?_
    refine y_goff rfl ?_
    refine y_val (rfl) ?_
    refine y_goff rfl ?_
    refine y_goff rfl ?_
    refine y_goff rfl ?_
    refine y_val (rfl) ?_
    exact y_ret0 ⟨by simp, rfl⟩
  | true =>
    refine y_gon rfl (fa94_1) ?_
    refine y_gon rfl (o_ld hm rfl (partA_one ag3 rfl)) ?_
    refine y_gcal rfl rfl (in_call) ?_
    rw [in4]
    refine y_val (rfl) ?_
    cases h2 : fits 4 q with
    | false =>
      refine y_goff rfl ?_
      refine y_goff rfl ?_
      refine y_goff rfl ?_
      refine y_val (rfl) ?_
      exact y_ret0 ⟨by simp, rfl⟩
    | true =>
      refine y_gon rfl (fa94_2) ?_
      refine y_gon rfl (o_ld hm rfl (partA_one ag3 rfl)) ?_
      refine y_gcal rfl rfl (in_call) ?_
      rw [in4]
      refine y_val (rfl) ?_
      exact y_ret0 ⟨by simp, rfl⟩
theorem rright_run {n sb : Nat} {σ : St} {t q d id : Int} {tv : CV} {x body : List UInt8} (h : RetAt σ sb id tv x body) :
    Yl (cc (n + 2) 23 [.agg (msgC t q d sb)] σ) (fun v σ' => v = B (fits 4 t && fits 4 q && fits 4 d) ∧ Ext σ σ') := by
  refine y_body rfl Tryz.func23 (by kernel_rfl) ?_
  rw [F23_eq]
  unfold K23_0
  have hm : (σ.push (.cells (msgC t q d sb) 94 true)).get σ.next = some (.cells (msgC t q d sb) 94 true) := by rw [St.get_push, if_pos rfl]
  refine y_new (rfl) ?_
  generalize hσ1 : σ.push (.cells (msgC t q d sb) 94 true) = σ1 at hm
  have e1 : Ext σ σ1 := by rw [← hσ1]; exact Ext.push _ _
  have n1 : σ1.next = σ.next + 1 := by rw [← hσ1]; rfl
  have hS1 := h.ext e1
  unfold K23_1 K23_3
  rw [show M = 999998 + 1 + 1 from rfl, L23_4_succ]
  unfold L23_4_b
  refine y_val (fa94_3) ?_
  refine y_val (o_ld hm rfl (partA_one ag92 rfl)) ?_
  refine y_val (o_len un92) ?_
  refine y_val (o_lss) ?_
  refine y_ift (decide_eq_true (by omega)) ?_
  unfold K23_5
  refine y_val (fa94_3) ?_
  refine y_val (o_ld hm rfl (partA_one ag92 rfl)) ?_
  refine y_val (o_iad (j := 0) un92 sz91 (by omega)) ?_
  refine y_val (o_ld hS1.get rfl (partA_agg ag91 sz91 rfl)) ?_
  refine y_new (new91) ?_
  refine y_st (o_st (by rw [St.get_push, if_pos rfl]) rfl sz91 rfl rfl) ?_
  generalize hσ2 : (σ1.push (.cells [i 0, .slice none 0 (.ex 0), s []] 91 true)).put σ1.next (.cells [i id, tv, s x] 91 true) = σ2
  have e2 : Ext σ1 σ2 := by rw [← hσ2]; exact (Ext.push _ _).put _ (Nat.le_refl _)
  have hc2 : σ2.get σ1.next = some (.cells [i id, tv, s x] 91 true) := by rw [← hσ2, St.get_put, if_pos rfl]
  have hm2 := (e2.2 σ.next (by omega)).trans hm
  have hS2 := hS1.ext e2
  -- what comes behind the set
  have fin : Yl (K23_6 M (cc (n + 1)) (L23_4 M (cc (n + 1)) (999998 + 1)) (P σ.next 0) (I 0) σ2) (fun v σ' => v = B (fits 4 t && fits 4 q && fits 4 d) ∧ Ext σ σ') := by
    unfold K23_6
    refine y_val (o_add) ?_
    rw [wrap_id (by omega) (by omega), L23_4_succ]
    unfold L23_4_b
    refine y_val (fa94_3) ?_
    refine y_val (o_ld hm2 rfl (partA_one ag92 rfl)) ?_
    refine y_val (o_len un92) ?_
    refine y_val (o_lss) ?_
    refine y_iff (decide_eq_false (by omega)) ?_
    exact (right2 hm2).mono fun v σ' hv => ⟨hv.1, by rw [hv.2]; exact e1.trans e2⟩
  unfold K23_7
  refine y_val (fa91_0) ?_
  refine y_val (o_ld hc2 rfl (partA_one ag3 rfl)) ?_
  refine y_val (o_eql) ?_
  cases hS2 with
  | tpl h0 h1 l2 h2 l3 h3 =>
    refine y_ift (rfl) ?_
    refine y_val (fa91_2) ?_
    refine y_val (o_ld hc2 rfl (partA_one ag9 rfl)) ?_
    refine y_val (o_slen un9) ?_
    refine y_val (o_gtr) ?_
    rw [decide_eq_false (by simp)]
    refine y_gon rfl (fa91_1) ?_
    refine y_gon rfl (o_ld hc2 rfl (partA_one ag89 rfl)) ?_
    refine y_gon rfl (o_len un89) ?_
    refine y_gon rfl (o_eql) ?_
    refine y_val (rfl) ?_
    refine y_iff (rfl) ?_
    unfold K23_8 K23_9
    rw [L23_10_succ]
    unfold L23_10_b
    refine y_val (fa91_1) ?_
    refine y_val (o_ld hc2 rfl (partA_one ag89 rfl)) ?_
    refine y_val (o_len un89) ?_
    refine y_val (o_lss) ?_
    refine y_ift (decide_eq_true (by omega)) ?_
    unfold K23_11
    refine y_val (fa91_1) ?_
    refine y_val (o_ld hc2 rfl (partA_one ag89 rfl)) ?_
    refine y_val (o_iad (j := 0) un89 sz39 (by omega)) ?_
    refine y_val (o_ld h2 rfl (partA_agg ag39 sz39 rfl)) ?_
    refine y_cal rfl (sound_call h3) ?_
    refine y_val (rfl) ?_
    refine y_iff (rfl) ?_
    unfold K23_12
    refine y_val (o_add) ?_
    rw [wrap_id (by omega) (by omega), L23_10_succ]
    unfold L23_10_b
    refine y_val (fa91_1) ?_
    refine y_val (o_ld hc2 rfl (partA_one ag89 rfl)) ?_
    refine y_val (o_len un89) ?_
    refine y_val (o_lss) ?_
    refine y_iff (decide_eq_false (by omega)) ?_
    exact fin
  | data h0 h1 =>
    refine y_iff (rfl) ?_
    refine y_val (fa91_0) ?_
    refine y_val (o_ld hc2 rfl (partA_one ag3 rfl)) ?_
    refine y_cal rfl (in_call) ?_
    refine y_val (rfl) ?_
    refine y_gon rfl (fa91_1) ?_
    refine y_gon rfl (o_ld hc2 rfl (partA_one ag89 rfl)) ?_
    refine y_gon rfl (o_len un89) ?_
    refine y_gon rfl (o_gtr) ?_
    refine y_val (rfl) ?_
    refine y_iff (rfl) ?_
    unfold K23_8 K23_9
    rw [L23_10_succ]
    unfold L23_10_b
    refine y_val (fa91_1) ?_
    refine y_val (o_ld hc2 rfl (partA_one ag89 rfl)) ?_
    refine y_val (o_len un89) ?_
    refine y_val (o_lss) ?_
    refine y_iff (decide_eq_false (by omega)) ?_
    exact fin
end Oct
end Go.Proofs.YtggjhmhjjghncaaGreat
