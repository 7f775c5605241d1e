/- The document's Put of a message of one set. -/
import Derived.Test.YtggjhmhjjghncaaGreatRef
namespace Go.Proofs.YtggjhmhjjghncaaGreat
open Go.Run Go
namespace Oct
open Ty
set_option maxRecDepth 1000000
section
variable {n j fb : Nat} {σ : St} {Q : AV → St → Prop} {t4 t6 t24 t25 t26 t33 t34 t35 : AV}
/-- a field -/
theorem fld_it {h5 : AV → AV → AV → AV → Kt} {h13 : AV → AV → AV → AV → AV → AV → AV → AV → AV → Kt} {fuel : Nat} {b : List UInt8} {fid fl fe : Int} (hF : σ.get fb = some fldRB) (hfb : fb < σ.next) (hj : j < 4) (hx : takeN 3 (dropN (0 + j * 3) fieldsL) = some [i fid, i fl, i fe])
    (h0 : fe ≠ 0) (h1 : 0 ≤ fid) (h2 : fid ≤ 100) (hb : b.length ≤ 1000)
    (hk : ∀ σ', Ext σ σ' → Yl (L22_20 M (cc (n + 1)) h5 h13 fuel t4 t6 (S (b ++ beS 2 (fid + 32768) ++ beS 2 fl ++ beS 4 fe)) t24 t25 t26 t33 t34 t35 (.one (st fb 0 4 3)) (I 4) (I ((j + 1 : Nat) : Int)) σ') Q) :
    Yl (L22_20 M (cc (n + 1)) h5 h13 (fuel + 1) t4 t6 (S b) t24 t25 t26 t33 t34 t35 (.one (st fb 0 4 3)) (I 4) (I (j : Nat)) σ) Q := by
  rw [L22_20_succ]
  unfold L22_20_b
  refine y_val (o_lss) ?_
  unfold K22_21
  refine y_ift (decide_eq_true (by omega)) ?_
  unfold K22_22
  refine y_val (o_iad un37 sz42 hj) ?_
  refine y_val (o_ld hF rfl (partA_agg ag42 sz42 hx)) ?_
  refine y_new (new42) ?_
  refine y_st (o_st (by rw [St.get_push, if_pos rfl]) rfl sz42 rfl rfl) ?_
  generalize hσ2 : (σ.push (.cells [i 0, i 0, i 0] 42 true)).put σ.next (.cells [i fid, i fl, i fe] 42 true) = σ2
  have e2 : Ext σ σ2 := by rw [← hσ2]; exact (Ext.push _ _).put _ (Nat.le_refl _)
  have hc : σ2.get σ.next = some (.cells [i fid, i fl, i fe] 42 true) := by rw [← hσ2, St.get_put, if_pos rfl]
  refine y_val (fa42_2) ?_
  refine y_val (o_ld hc rfl (partA_one ag3 rfl)) ?_
  refine y_val (o_eql) ?_
  have e0 : (fe == 0) = false := by simpa using h0
  rw [e0]
  refine y_iff (rfl) ?_
  refine y_din ?_
  refine y_dval (fa42_0) ?_
  refine y_dchk (o_ld hc rfl (partA_one ag3 rfl)) rfl ?_
  refine y_dval (o_add) ?_
  rw [wrap_id (by omega) (by omega)]
  have k1 := beS_le 2 (fid + 32768)
  have k2 := beS_le 2 fl
  have k3 := beS_le 4 fe
  refine y_dcall rfl (rnum_call (k := 2) (by omega) (by omega)) ?_
  refine y_dval (fa42_1) ?_
  refine y_dsam rfl (o_ld hc rfl (partA_one ag3 rfl)) (by rw [eqIn_ok (o_ld hc rfl (partA_one ag3 rfl)) rfl]; rfl) ?_
  refine y_dcall rfl (rnum_call (k := 2) (by omega) (by omega)) ?_
  refine y_dval (fa42_2) ?_
  refine y_dsam rfl (o_ld hc rfl (partA_one ag3 rfl)) (by rw [eqIn_ok (o_ld hc rfl (partA_one ag3 rfl)) rfl]; rfl) ?_
  refine y_dcall rfl (rnum_call (k := 4) (by omega) (by omega)) ?_
  refine y_dval (o_sadd (by omega)) ?_
  refine y_dval (o_sadd (by simp only [List.length_append]; omega)) ?_
  refine y_dval (o_sadd (by simp only [List.length_append]; omega)) ?_
  unfold K22_23
  refine y_val (o_add) ?_
  rw [wrap_id (by omega) (by omega)]
  exact hk σ2 e2
end
/-- what the document's fields make -/
theorem body_eq : ([] : List UInt8) ++ beS 2 300 ++ beS 2 4 ++ beS 2 (1 + 32768) ++ beS 2 4 ++ beS 4 9999 ++ beS 2 (2 + 32768) ++ beS 2 2 ++ beS 4 9999 ++ beS 2 (3 + 32768) ++ beS 2 2 ++ beS 4 9999 ++ beS 2 (4 + 32768) ++ beS 2 65535 ++ beS 4 9999 = bodyL := by decide +kernel
/-- a set's body -/
theorem set_body {n sb c : Nat} {σ : St} {id : Int} {tv : CV} {d body : List UInt8} {h5 : AV → AV → AV → AV → Kt} {t4 t24 t25 t26 : AV} {Q : AV → St → Prop} (h : RetAt σ sb id tv d body) (hc : c < σ.next ∧ σ.get c = some (.cells [i id, tv, s d] 91 true))
    (hk : ∀ σ', Ext σ σ' → Yl (K22_11 M (cc (n + 1)) h5 t4 (P c 0) (S body) t24 t25 t26 σ') Q) : Yl (K22_9 M (cc (n + 1)) h5 t4 (P c 0) t24 t25 t26 σ) Q := by
  unfold K22_9
  refine y_val (fa91_2) ?_
  refine y_val (o_ld hc.2 rfl (partA_one ag9 rfl)) ?_
  unfold K22_10
  cases h with
  | data h0 h1 =>
    refine y_val (fa91_1) ?_
    refine y_val (o_ld hc.2 rfl (partA_one ag89 rfl)) ?_
    refine y_val (o_len un89) ?_
    unfold K22_12
    have key : ∀ fuel, Yl (L22_13 M (cc (n + 1)) h5 (fuel + 1) t4 (P c 0) (S d) t24 t25 t26 (.one (.slice none 0 (.ex 0))) (I ((0 : Nat) : Int)) (I 0) σ) Q := by
      intro fuel
      rw [L22_13_succ]
      unfold L22_13_b
      refine y_val (o_lss) ?_
      unfold K22_14
      refine y_iff (decide_eq_false (by omega)) ?_
      exact hk σ (Ext.refl σ)
    exact key 999999
  | tpl h0 h1 l2 h2 l3 h3 =>
    rename_i tb fb
    refine y_val (fa91_1) ?_
    refine y_val (o_ld hc.2 rfl (partA_one ag89 rfl)) ?_
    refine y_val (o_len un89) ?_
    unfold K22_12
    have key : ∀ fuel, Yl (L22_13 M (cc (n + 1)) h5 (fuel + 1 + 1) t4 (P c 0) (S []) t24 t25 t26 (.one (st tb 0 1 2)) (I ((1 : Nat) : Int)) (I 0) σ) Q := by
      intro fuel
      rw [L22_13_succ]
      unfold L22_13_b
      refine y_val (o_lss) ?_
      unfold K22_14
      refine y_ift (decide_eq_true (by omega)) ?_
      unfold K22_15
      refine y_val (o_iad (j := 0) un89 sz39 (by omega)) ?_
      refine y_val (o_ld h2 rfl (partA_agg ag39 sz39 rfl)) ?_
      refine y_new (new39) ?_
      refine y_st (o_st (by rw [St.get_push, if_pos rfl]) rfl sz39 rfl rfl) ?_
      generalize hσ2 : (σ.push (.cells [i 0, .slice none 0 (.ex 0)] 39 true)).put σ.next (.cells [i 300, st fb 0 4 3] 39 true) = σ2
      have e2 : Ext σ σ2 := by rw [← hσ2]; exact (Ext.push _ _).put _ (Nat.le_refl _)
      have ht : σ2.get σ.next = some (.cells [i 300, st fb 0 4 3] 39 true) := by rw [← hσ2, St.get_put, if_pos rfl]
      have n2 : σ2.next = σ.next + 1 := by rw [← hσ2]; rfl
      have hF : σ2.get fb = some fldRB := (e2.2 fb l3).trans h3
      unfold K22_17
      refine y_din ?_
      refine y_dval (fa39_0) ?_
      refine y_dchk (o_ld ht rfl (partA_one ag3 rfl)) rfl ?_
      refine y_dcall rfl (rnum_call (k := 2) (by omega) (by omega)) ?_
      refine y_dval (fa39_1) ?_
      refine y_dsam rfl (o_ld ht rfl (partA_one ag37 rfl)) (by rw [eqIn_ok (o_ld ht rfl (partA_one ag37 rfl)) rfl]; rfl) ?_
      have hle : eqIn (bltO (C M) .len [37] [.one (st fb 0 4 3)]) (I ((4 : Nat) : Int)) σ2 = true := eqIn_ok (o_len un37) rfl
      refine y_dsam rfl (o_len un37) (by rw [hle]; rfl) ?_
      have k1 := beS_le 2 300
      have k2 := beS_le 2 ((4 : Nat) : Int)
      have k3 := beS_le 2 4
      have q1 := beS_le 2 (1 + 32768)
      have q2 := beS_le 2 (2 + 32768)
      have q3 := beS_le 2 (3 + 32768)
      have q4 := beS_le 2 2
      have q5 := beS_le 4 9999
      have q6 := beS_le 2 65535
      refine y_dcall rfl (rnum_call (k := 2) (by omega) (by omega)) ?_
      refine y_dval (o_sadd (by simp only [List.length_nil]; omega)) ?_
      refine y_dval (o_sadd (by simp only [List.length_append, List.length_nil]; omega)) ?_
      unfold K22_18
      refine y_val (fa39_1) ?_
      refine y_val (o_ld ht rfl (partA_one ag37 rfl)) ?_
      refine y_val (o_len un37) ?_
      unfold K22_19
      have fields : ∀ fuel2, Yl (L22_20 M (cc (n + 1)) h5 (L22_13 M (cc (n + 1)) h5 (fuel + 1)) (fuel2 + 1 + 1 + 1 + 1 + 1) t4 (P c 0) (S ([] ++ beS 2 300 ++ beS 2 4)) t24 t25 t26 (.one (st tb 0 1 2)) (I ((1 : Nat) : Int)) (I 0) (.one (st fb 0 4 3)) (I 4) (I ((0 : Nat) : Int)) σ2) Q := by
        intro fuel2
        refine fld_it (fid := 1) (fl := 4) (fe := 9999) hF (by omega) (by omega) rfl (by omega) (by omega) (by omega) (by simp only [List.length_append, List.length_nil]; omega) fun σ3 e3 => ?_
        refine fld_it (fid := 2) (fl := 2) (fe := 9999) ((e3.2 fb (by omega)).trans hF) (by have := e3.1; omega) (by omega) rfl (by omega) (by omega) (by omega) (by simp only [List.length_append, List.length_nil]; omega) fun σ4 e4 => ?_
        have e34 := e3.trans e4
        refine fld_it (fid := 3) (fl := 2) (fe := 9999) ((e34.2 fb (by omega)).trans hF) (by have := e34.1; omega) (by omega) rfl (by omega) (by omega) (by omega) (by simp only [List.length_append, List.length_nil]; omega) fun σ5 e5 => ?_
        have e35 := e34.trans e5
        refine fld_it (fid := 4) (fl := 65535) (fe := 9999) ((e35.2 fb (by omega)).trans hF) (by have := e35.1; omega) (by omega) rfl (by omega) (by omega) (by omega) (by simp only [List.length_append, List.length_nil]; omega) fun σ6 e6 => ?_
        have e36 := e35.trans e6
        rw [L22_20_succ]
        unfold L22_20_b
        refine y_val (o_lss) ?_
        unfold K22_21
        refine y_iff (decide_eq_false (by omega)) ?_
        rw [body_eq]
        unfold K22_16
        refine y_val (o_add) ?_
        rw [wrap_id (by omega) (by omega), L22_13_succ]
        unfold L22_13_b
        refine y_val (o_lss) ?_
        unfold K22_14
        refine y_iff (decide_eq_false (by omega)) ?_
        exact hk σ6 (e2.trans e36)
      exact fields 999995
    exact key 999998
/-- the document's bytes of a message -/
def rmsgBytes (t q d : Int) (b : List UInt8) : List UInt8 := beS 2 10 ++ beS 2 (4 + ((beS 4 t ++ beS 4 q ++ beS 4 d ++ b).length : Nat)) ++ (beS 4 t ++ beS 4 q ++ beS 4 d ++ b)
def rsetBytes (id : Int) (body : List UInt8) : List UInt8 := beS 2 id ++ beS 2 (4 + (body.length : Nat)) ++ body
theorem rput_yes {n sb : Nat} {σ : St} {t q d id : Int} {tv : CV} {x body : List UInt8} (h : RetAt σ sb id tv x body) (hl : body.length ≤ 65000) :
    Yl (cc (n + 2) 22 [.agg (msgC t q d sb)] σ) (fun v σ' => v = .tup [S (beS 2 10 ++ beS 2 (4 + ((beS 4 t ++ beS 4 q ++ beS 4 d ++ beS 2 id ++ beS 2 (4 + (body.length : Nat)) ++ body).length : Nat)) ++ (beS 4 t ++ beS 4 q ++ beS 4 d ++ beS 2 id ++ beS 2 (4 + (body.length : Nat)) ++ body)), B true] ∧ Ext σ σ') := by
  refine y_body rfl Tryz.func22 (by kernel_rfl) ?_
  rw [F22_eq]
  unfold K22_0
  have hm : (σ.push (.cells (msgC t q d sb) 94 true)).get σ.next = some (.cells (msgC t q d sb) 94 true) := by rw [St.get_push, if_pos rfl]
  refine y_new (rfl) ?_
  generalize hσ1 : σ.push (.cells (msgC t q d sb) 94 true) = σ1 at hm
  have e1 : Ext σ σ1 := by rw [← hσ1]; exact Ext.push _ _
  have n1 : σ1.next = σ.next + 1 := by rw [← hσ1]; rfl
  have hS1 := h.ext e1
  have k3 := beS_le 4 t
  have k4 := beS_le 4 q
  have k5 := beS_le 4 d
  have k6 := beS_le 2 id
  have k7 := beS_le 2 (4 + (body.length : Nat) : Int)
  have k8 := beS_le 2 10
  unfold K22_1
  refine y_din ?_
  refine y_dval (fa94_0) ?_
  refine y_dchk (o_ld hm rfl (partA_one ag3 rfl)) rfl ?_
  refine y_dcall rfl (rnum_call (k := 4) (by omega) (by omega)) ?_
  refine y_dval (fa94_1) ?_
  refine y_dsam rfl (o_ld hm rfl (partA_one ag3 rfl)) (by rw [eqIn_ok (o_ld hm rfl (partA_one ag3 rfl)) rfl]; rfl) ?_
  refine y_dcall rfl (rnum_call (k := 4) (by omega) (by omega)) ?_
  refine y_dval (fa94_2) ?_
  refine y_dsam rfl (o_ld hm rfl (partA_one ag3 rfl)) (by rw [eqIn_ok (o_ld hm rfl (partA_one ag3 rfl)) rfl]; rfl) ?_
  refine y_dcall rfl (rnum_call (k := 4) (by omega) (by omega)) ?_
  refine y_dval (o_sadd (by omega)) ?_
  refine y_dval (o_sadd (by simp only [List.length_append]; omega)) ?_
  unfold K22_2
  refine y_val (fa94_3) ?_
  refine y_val (o_ld hm rfl (partA_one ag92 rfl)) ?_
  refine y_val (o_len un92) ?_
  unfold K22_4
  have key : ∀ fuel, Yl (L22_5 M (cc (n + 1)) (fuel + 1 + 1) (S (beS 4 t ++ beS 4 q ++ beS 4 d)) (.one (st sb 0 1 3)) (I ((1 : Nat) : Int)) (I 0) σ1) (fun v σ' => v = .tup [S (beS 2 10 ++ beS 2 (4 + ((beS 4 t ++ beS 4 q ++ beS 4 d ++ beS 2 id ++ beS 2 (4 + (body.length : Nat)) ++ body).length : Nat)) ++ (beS 4 t ++ beS 4 q ++ beS 4 d ++ beS 2 id ++ beS 2 (4 + (body.length : Nat)) ++ body)), B true] ∧ Ext σ σ') := by
    intro fuel
    rw [L22_5_succ]
    unfold L22_5_b
    refine y_val (o_lss) ?_
    unfold K22_6
    refine y_ift (decide_eq_true (by omega)) ?_
    unfold K22_7
    refine y_val (o_iad (j := 0) un92 sz91 (by omega)) ?_
    refine y_val (o_ld hS1.get rfl (partA_agg ag91 sz91 rfl)) ?_
    refine y_new (new91) ?_
    refine y_st (o_st (by rw [St.get_push, if_pos rfl]) rfl sz91 rfl rfl) ?_
    generalize hσ2 : (σ1.push (.cells [i 0, .slice none 0 (.ex 0), s []] 91 true)).put σ1.next (.cells [i id, tv, s x] 91 true) = σ2
    have e2 : Ext σ1 σ2 := by rw [← hσ2]; exact (Ext.push _ _).put _ (Nat.le_refl _)
    have n2 : σ2.next = σ1.next + 1 := by rw [← hσ2]; rfl
    have hc2 : σ2.get σ1.next = some (.cells [i id, tv, s x] 91 true) := by rw [← hσ2, St.get_put, if_pos rfl]
    refine set_body (hS1.ext e2) ⟨by omega, hc2⟩ fun σ3 e3 => ?_
    have hc3 := (e3.2 σ1.next (by omega)).trans hc2
    unfold K22_11
    refine y_val (o_slen un9) ?_
    refine y_val (o_gtr) ?_
    refine y_iff (decide_eq_false (by omega)) ?_
    refine y_val (fa91_0) ?_
    refine y_val (o_ld hc3 rfl (partA_one ag3 rfl)) ?_
    refine y_cal rfl (rnum_call (k := 2) (by omega) (by omega)) ?_
    refine y_val (o_sadd (by simp only [List.length_append]; omega)) ?_
    refine y_val (o_slen un9) ?_
    refine y_val (o_add) ?_
    rw [wrap_id (by omega) (by omega)]
    refine y_cal rfl (rnum_call (k := 2) (by omega) (by omega)) ?_
    refine y_val (o_sadd (by simp only [List.length_append]; omega)) ?_
    refine y_val (o_sadd (by simp only [List.length_append]; omega)) ?_
    unfold K22_8
    refine y_val (o_add) ?_
    rw [wrap_id (by omega) (by omega), L22_5_succ]
    unfold L22_5_b
    refine y_val (o_lss) ?_
    unfold K22_6
    refine y_iff (decide_eq_false (by omega)) ?_
    unfold K22_3
    generalize hs : beS 4 t ++ beS 4 q ++ beS 4 d ++ beS 2 id ++ beS 2 (4 + (body.length : Nat)) ++ body = sx
    have hsl : sx.length ≤ body.length + 16 := by rw [← hs]; simp only [List.length_append]; omega
    have k9 := beS_le 2 (4 + (sx.length : Nat) : Int)
    refine y_val (o_slen un9) ?_
    refine y_val (o_gtr) ?_
    refine y_iff (decide_eq_false (by omega)) ?_
    refine y_cal rfl (rnum_call (k := 2) (by omega) (by omega)) ?_
    refine y_val (o_slen un9) ?_
    refine y_val (o_add) ?_
    rw [wrap_id (by omega) (by omega)]
    refine y_cal rfl (rnum_call (k := 2) (by omega) (by omega)) ?_
    refine y_val (o_sadd (by omega)) ?_
    refine y_val (o_sadd (by simp only [List.length_append]; omega)) ?_
    exact y_ret2 ⟨rfl, (e1.trans e2).trans e3⟩
  exact key 999998
end Oct
end Go.Proofs.YtggjhmhjjghncaaGreat
