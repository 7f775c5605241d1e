/- ipfix.Put of a message of one set. -/
import Derived.Test.YtggjhmhjjghncaaGreatTab
namespace Go.Proofs.YtggjhmhjjghncaaGreat
open Go.Run Go
namespace Oct
open Ty
set_option maxRecDepth 1000000
noncomputable abbrev cc (n : Nat) : CallF := callK (C M) TT n
/-- what there is stays -/
def Ext (σ σ' : St) : Prop := σ.next ≤ σ'.next ∧ ∀ i, i < σ.next → σ'.get i = σ.get i
theorem Ext.refl (σ : St) : Ext σ σ := ⟨Nat.le_refl _, fun _ _ => rfl⟩
theorem Ext.trans {a b c : St} (h : Ext a b) (h' : Ext b c) : Ext a c := ⟨Nat.le_trans h.1 h'.1, fun i hi => (h'.2 i (Nat.lt_of_lt_of_le hi h.1)).trans (h.2 i hi)⟩
theorem Ext.push (σ : St) (b : Blk) : Ext σ (σ.push b) := ⟨by rw [St.next_push]; omega, fun i hi => by rw [St.get_push, if_neg (by omega)]⟩
theorem Ext.put {σ σ' : St} (h : Ext σ σ') {j : Nat} (b : Blk) (hj : σ.next ≤ j) : Ext σ (σ'.put j b) := ⟨h.1, fun i hi => by rw [St.get_put, if_neg (by omega)]; exact h.2 i hi⟩
/-- a set that is right, at sb: the layout's, or bytes -/
inductive SetAt (σ : St) (sb : Nat) : Int → CV → List UInt8 → List UInt8 → Prop
  | tpl {tb fb : Nat} (h0 : sb < σ.next) (h1 : σ.get sb = some (setTB tb)) (l2 : tb < σ.next) (h2 : σ.get tb = some (tplB fb)) (l3 : fb < σ.next) (h3 : σ.get fb = some fldB) : SetAt σ sb 2 (st tb 0 1 2) [] bodyL
  | data {d : List UInt8} (h0 : sb < σ.next) (h1 : σ.get sb = some (setDB d)) : SetAt σ sb 300 (.slice none 0 (.ex 0)) d d
theorem SetAt.ext {σ σ' : St} {sb : Nat} {id : Int} {tv : CV} {d body : List UInt8} (h : SetAt σ sb id tv d body) (e : Ext σ σ') : SetAt σ' sb id tv d body := by
  have he := e.1
  cases h with
  | tpl h0 h1 l2 h2 l3 h3 => exact .tpl (by omega) ((e.2 _ h0).trans h1) (by omega) ((e.2 _ l2).trans h2) (by omega) ((e.2 _ l3).trans h3)
  | data h0 h1 => exact .data (by omega) ((e.2 _ h0).trans h1)
theorem SetAt.lt {σ : St} {sb : Nat} {id : Int} {tv : CV} {d body : List UInt8} (h : SetAt σ sb id tv d body) : sb < σ.next := by cases h <;> assumption
theorem SetAt.get {σ : St} {sb : Nat} {id : Int} {tv : CV} {d body : List UInt8} (h : SetAt σ sb id tv d body) : σ.get sb = some (.cells [i id, tv, s d] 83 true) := by cases h <;> assumption
theorem SetAt.con {σ : St} {sb : Nat} {id : Int} {tv : CV} {d body : List UInt8} (h : SetAt σ sb id tv d body) {n : Nat} : cc (n + 1) 69 [.one (st sb 0 1 3), fnV 70] σ = some (B false, σ) := by
  refine call_part (t := TT) (spec := conSpec) rfl ?_
  unfold conSpec
  refine if_pos ⟨sb, rfl, ?_⟩
  cases h with
  | tpl h0 h1 l2 h2 l3 h3 => exact .inl ⟨_, _, h1, h2, h3⟩
  | data h0 h1 => exact .inr ⟨_, h1⟩
theorem SetAt.bod {σ : St} {sb : Nat} {id : Int} {tv : CV} {d body : List UInt8} (h : SetAt σ sb id tv d body) (hl : body.length ≤ 65000) {n : Nat} : cc (n + 1) 39 [.agg [i id, tv, s d]] σ = some (S body, σ) := by
  refine call_part (t := TT) (spec := bodySpec) rfl ?_
  cases h with
  | tpl h0 h1 l2 h2 l3 h3 => exact body_T h2 h3
  | data h0 h1 => exact body_D (by omega)
theorem fits4 (t : Int) : (decide (0 ≤ t) && decide (t < 4294967296)) = fits 4 t := rfl
theorem within_call {n : Nat} {σ : St} {t : Int} : cc (n + 1) 68 [I t, I 0, I 4294967296] σ = some (B (fits 4 t), σ) := call_flat (t := TT) (spec := withinSpec) rfl rfl
theorem put_call {n k : Nat} {σ : St} {a : Int} (h1 : 1 ≤ k) (h7 : k ≤ 7) : cc (n + 1) 20 [I a, I (k : Nat)] σ = some (.tup [S (beS k a), I (if fits k a = true then 0 else 1)], σ) := call_flat (t := TT) (spec := putSpec) rfl (put_spec h1 h7)
theorem num_call {n k : Nat} {σ : St} {a : Int} (h1 : 1 ≤ k) (h7 : k ≤ 7) : cc (n + 1) 41 [I a, I (k : Nat)] σ = some (S (beS k a), σ) := call_flat (t := TT) (spec := numSpec) rfl (num_spec h1 h7)
theorem rnum_call {n k : Nat} {σ : St} {a : Int} (h1 : 1 ≤ k) (h7 : k ≤ 7) : cc (n + 1) 45 [I a, I (k : Nat)] σ = some (S (beS k a), σ) := call_flat (t := TT) (spec := numSpec) rfl (num_spec h1 h7)
/-- a message of one set -/
def msgC (t q d : Int) (sb : Nat) : List CV := [i t, i q, i d, st sb 0 1 3]
theorem right_run {n sb : Nat} {σ : St} {t q d id : Int} {tv : CV} {x body : List UInt8} (h : SetAt σ sb id tv x body) :
    ∃ σ', cc (n + 2) 38 [.agg (msgC t q d sb)] σ = some (B (fits 4 t && fits 4 q && fits 4 d), σ') ∧ Ext σ σ' := by
  refine ⟨σ.push (.cells (msgC t q d sb) 86 true), callK_body rfl Tryz.func38 (by kernel_rfl) ?_, Ext.push _ _⟩
  rw [F38_eq]
  refine Yl.eq ?_
  unfold K38_0
  have hm : (σ.push (.cells (msgC t q d sb) 86 true)).get σ.next = some (.cells (msgC t q d sb) 86 true) := by rw [St.get_push, if_pos rfl]
  refine y_new (rfl) ?_
  refine y_val (fa86_0) ?_
  refine y_val (o_ld hm rfl (partA_one ag3 rfl)) ?_
  refine y_cal rfl (within_call) ?_
  cases h1 : fits 4 t with
  | false =>
    refine y_goff rfl ?_
    refine y_goff rfl ?_
    refine y_goff rfl ?_
    refine y_val (rfl) ?_
    refine y_goff rfl ?_
    refine y_goff rfl ?_
    refine y_goff rfl ?_
    refine y_val (rfl) ?_
    refine y_goff rfl ?_
    refine y_goff rfl ?_
    refine y_goff rfl ?_
    refine y_goff rfl ?_
    refine y_val (rfl) ?_
    exact y_ret0 ⟨by simp, rfl⟩
  | true =>
    refine y_gon rfl (fa86_1) ?_
    refine y_gon rfl (o_ld hm rfl (partA_one ag3 rfl)) ?_
    refine y_gcal rfl rfl (within_call) ?_
    refine y_val (rfl) ?_
    cases h2 : fits 4 q with
    | false =>
      refine y_goff rfl ?_
      refine y_goff rfl ?_
      refine y_goff rfl ?_
      refine y_val (rfl) ?_
      refine y_goff rfl ?_
      refine y_goff rfl ?_
      refine y_goff rfl ?_
      refine y_goff rfl ?_
      refine y_val (rfl) ?_
      exact y_ret0 ⟨by simp, rfl⟩
    | true =>
      refine y_gon rfl (fa86_2) ?_
      refine y_gon rfl (o_ld hm rfl (partA_one ag3 rfl)) ?_
      refine y_gcal rfl rfl (within_call) ?_
      refine y_val (rfl) ?_
      cases h3 : fits 4 d with
      | false =>
        refine y_goff rfl ?_
        refine y_goff rfl ?_
        refine y_goff rfl ?_
        refine y_goff rfl ?_
        refine y_val (rfl) ?_
        exact y_ret0 ⟨by simp, rfl⟩
      | true =>
        refine y_gon rfl (fa86_3) ?_
        refine y_gon rfl (o_ld hm rfl (partA_one ag84 rfl)) ?_
        refine y_gcal rfl rfl ((h.ext (Ext.push _ _)).con) ?_
        refine y_gon rfl (rfl) ?_
        refine y_val (rfl) ?_
        exact y_ret0 ⟨rfl, rfl⟩
/-- a set's bytes, a message's bytes -/
def setBytes (id : Int) (body : List UInt8) : List UInt8 := beS 2 id ++ beS 2 ((body.length : Nat) + 4) ++ body
def msgBytes (t q d : Int) (b : List UInt8) : List UInt8 := beS 2 10 ++ beS 2 (16 + (b.length : Nat)) ++ beS 4 t ++ beS 4 q ++ beS 4 d ++ b
theorem fits2 {a : Int} (h0 : 0 ≤ a) (h1 : a < 65536) : fits 2 a = true := fits_iff.mpr ⟨h0, by show a < 65536; exact h1⟩
theorem beS_le (k : Nat) (a : Int) : (beS k a).length ≤ k := by
  cases h : fits k a with
  | true => rw [beS_len h]; exact Nat.le_refl _
  | false => rw [beS_no h]; exact Nat.zero_le _
theorem setBytes_len {id : Int} {body : List UInt8} : (setBytes id body).length ≤ body.length + 4 := by
  unfold setBytes
  have h1 := beS_le 2 id
  have h2 := beS_le 2 ((body.length : Nat) + 4)
  simp only [List.length_append]
  omega
theorem new83 {σ : St} : newO (C M) 83 σ = .new (.cells [i 0, .slice none 0 (.ex 0), s []] 83 true) (fun a => P a 0) := by kernel_rfl
theorem new128 {σ : St} : newO (C M) 128 σ = .new (.cells [.ptr none, .slice none 0 (.ex 0)] 128 true) (fun a => P a 0) := by kernel_rfl
theorem put_no {n sb : Nat} {σ : St} {t q d id : Int} {tv : CV} {x body : List UInt8} (h : SetAt σ sb id tv x body) (hr : (fits 4 t && fits 4 q && fits 4 d) = false) :
    Yl (cc (n + 3) 19 [.agg (msgC t q d sb)] σ) (fun v σ' => v = .tup [S [], I 1] ∧ Ext σ σ') := by
  refine y_body rfl Tryz.func19 (by kernel_rfl) ?_
  rw [F19_eq]
  unfold K19_0
  refine y_new (rfl) ?_
  have hm : (σ.push (.cells (msgC t q d sb) 86 true)).get σ.next = some (.cells (msgC t q d sb) 86 true) := by rw [St.get_push, if_pos rfl]
  obtain ⟨σ2, r1, r2⟩ := right_run (n := n) (t := t) (q := q) (d := d) (h.ext (Ext.push _ (.cells (msgC t q d sb) 86 true)))
  rw [hr] at r1
  unfold K19_1
  refine y_val (o_ld hm rfl (partA_agg ag86 sz86 rfl)) ?_
  refine y_cal rfl (r1) ?_
  refine y_val (rfl) ?_
  refine y_ift (rfl) ?_
  exact y_ret2 ⟨rfl, (Ext.push _ _).trans r2⟩
theorem put_yes {n sb : Nat} {σ : St} {t q d id : Int} {tv : CV} {x body : List UInt8} (h : SetAt σ sb id tv x body) (hr : (fits 4 t && fits 4 q && fits 4 d) = true) (hl : body.length ≤ 65000) :
    Yl (cc (n + 3) 19 [.agg (msgC t q d sb)] σ) (fun v σ' => v = .tup [S (msgBytes t q d (setBytes id body)), I 0] ∧ Ext σ σ') := by
  refine y_body rfl Tryz.func19 (by kernel_rfl) ?_
  rw [F19_eq]
  unfold K19_0
  refine y_new (rfl) ?_
  have hm : (σ.push (.cells (msgC t q d sb) 86 true)).get σ.next = some (.cells (msgC t q d sb) 86 true) := by rw [St.get_push, if_pos rfl]
  generalize hσ1 : σ.push (.cells (msgC t q d sb) 86 true) = σ1 at hm
  have e1 : Ext σ σ1 := by rw [← hσ1]; exact Ext.push _ _
  have n1 : σ.next < σ1.next := by rw [← hσ1, St.next_push]; omega
  obtain ⟨σ2, r1, r2⟩ := right_run (n := n) (t := t) (q := q) (d := d) (h.ext e1)
  rw [hr] at r1
  unfold K19_1
  refine y_val (o_ld hm rfl (partA_agg ag86 sz86 rfl)) ?_
  refine y_cal rfl (r1) ?_
  refine y_val (rfl) ?_
  refine y_iff (rfl) ?_
  unfold K19_2
  refine y_new (new128) ?_
  have hm2 := (r2.2 _ n1).trans hm
  have n2 : σ1.next ≤ σ2.next := r2.1
  generalize hσ3 : σ2.push (.cells [.ptr none, .slice none 0 (.ex 0)] 128 true) = σ3
  have e3 : Ext σ2 σ3 := by rw [← hσ3]; exact Ext.push _ _
  have n3 : σ3.next = σ2.next + 1 := by rw [← hσ3]; rfl
  have hB : BAt σ2.next σ3 σ2.next [] := ⟨.ptr none, .slice none 0 (.ex 0), by rw [← hσ3, St.get_push, if_pos rfl], Nat.le_refl _, by omega, .inl rfl, .inl ⟨rfl, rfl⟩⟩
  have hm3 := (e3.2 σ.next (by omega)).trans hm2
  have hS3 := h.ext ((e1.trans r2).trans e3)
  unfold K19_3
  refine y_val (fa86_3) ?_
  refine y_val (o_ld hm3 rfl (partA_one ag84 rfl)) ?_
  refine y_val (o_len un84) ?_
  unfold K19_5
  rw [show M = 999998 + 1 + 1 from rfl, L19_6_succ]
  unfold L19_6_b
  refine y_val (o_lss) ?_
  unfold K19_7
  refine y_ift (decide_eq_true (by omega)) ?_
  unfold K19_8
  refine y_val (o_iad (j := 0) un84 sz83 (by omega)) ?_
  refine y_val (o_ld hS3.get rfl (partA_agg ag83 sz83 rfl)) ?_
  refine y_new (new83) ?_
  refine y_st (o_st (by rw [St.get_push, if_pos rfl]) rfl sz83 rfl rfl) ?_
  generalize hσ4 : (σ3.push (.cells [i 0, .slice none 0 (.ex 0), s []] 83 true)).put σ3.next (.cells [i id, tv, s x] 83 true) = σ4
  have e4 : Ext σ3 σ4 := by rw [← hσ4]; exact (Ext.push _ _).put _ (Nat.le_refl _)
  have n4 : σ4.next = σ3.next + 1 := by rw [← hσ4]; rfl
  have hc4 : σ4.get σ3.next = some (.cells [i id, tv, s x] 83 true) := by rw [← hσ4, St.get_put, if_pos rfl]
  have hS4 := hS3.ext e4
  have hB4 : BAt σ2.next σ4 σ2.next [] := ⟨.ptr none, .slice none 0 (.ex 0), by rw [e4.2 _ (by omega), ← hσ3, St.get_push, if_pos rfl], Nat.le_refl _, by omega, .inl rfl, .inl ⟨rfl, rfl⟩⟩
  have hm4 := (e4.2 σ.next (by omega)).trans hm3
  have hf1 : fits 2 ((body.length : Nat) + 4 : Int) = true := fits2 (by omega) (by omega)
  refine y_val (o_ld hc4 rfl (partA_agg ag83 sz83 rfl)) ?_
  refine y_cal rfl (hS4.bod hl) ?_
  refine y_val (o_slen un9) ?_
  refine y_val (o_add) ?_
  rw [wrap_id (by omega) (by omega)]
  refine y_cal rfl (put_call (k := 2) (by omega) (by omega)) ?_
  refine y_val (rfl) ?_
  refine y_val (rfl) ?_
  refine y_val (o_neq) ?_
  rw [if_pos hf1]
  have hlen2 := beS_le 2 id
  have hlen3 := beS_le 2 ((body.length : Nat) + 4 : Int)
  have hsl := setBytes_len (id := id) (body := body)
  refine y_iff (rfl) ?_
  refine y_val (fa83_0) ?_
  refine y_val (o_ld hc4 rfl (partA_one ag3 rfl)) ?_
  refine y_cal rfl (num_call (k := 2) (by omega) (by omega)) ?_
  refine y_val (o_sadd (by omega)) ?_
  refine y_val (o_sadd (by simp only [List.length_append]; omega)) ?_
  obtain ⟨σ5, w1, w2, w3, w4⟩ := write_run (tab := TT) (n := n) (t := setBytes id body) rfl rfl hB4 (by simp only [List.length_nil]; omega)
  have hm5 := (w4 σ.next (by omega)).trans hm4
  have e5 : Ext σ σ5 := ⟨by have := e1.1; omega, fun j hj => by
    rw [w4 j (by have := e1.1; omega)]
    exact (((e1.trans r2).trans e3).trans e4).2 j hj⟩
  refine y_cal rfl (w1) ?_
  unfold K19_9
  refine y_val (o_add) ?_
  rw [wrap_id (by omega) (by omega), L19_6_succ]
  unfold L19_6_b
  refine y_val (o_lss) ?_
  unfold K19_7
  refine y_iff (decide_eq_false (by omega)) ?_
  unfold K19_4
  have hf2 : fits 2 (16 + ((setBytes id body).length : Nat) : Int) = true := fits2 (by omega) (by omega)
  rw [List.nil_append] at w2
  refine y_cal rfl (len_run (tab := TT) rfl w2) ?_
  refine y_val (o_add) ?_
  rw [wrap_id (by omega) (by omega)]
  refine y_cal rfl (put_call (k := 2) (by omega) (by omega)) ?_
  refine y_val (rfl) ?_
  refine y_val (rfl) ?_
  refine y_val (o_neq) ?_
  rw [if_pos hf2]
  refine y_iff (rfl) ?_
  refine y_din ?_
  obtain ⟨σ6, q1, q2, q3⟩ := string_run (tab := TT) (n := n + 1) rfl w2 (by omega)
  refine y_dcall rfl (num_call (k := 2) (by omega) (by omega)) ?_
  refine y_dval (fa86_0) ?_
  refine y_dsam rfl (o_ld hm5 rfl (partA_one ag3 rfl)) (by rw [eqIn_ok (o_ld hm5 rfl (partA_one ag3 rfl)) rfl]; rfl) ?_
  refine y_dcall rfl (num_call (k := 4) (by omega) (by omega)) ?_
  refine y_dval (fa86_1) ?_
  refine y_dsam rfl (o_ld hm5 rfl (partA_one ag3 rfl)) (by rw [eqIn_ok (o_ld hm5 rfl (partA_one ag3 rfl)) rfl]; rfl) ?_
  refine y_dcall rfl (num_call (k := 4) (by omega) (by omega)) ?_
  refine y_dval (fa86_2) ?_
  refine y_dsam rfl (o_ld hm5 rfl (partA_one ag3 rfl)) (by rw [eqIn_ok (o_ld hm5 rfl (partA_one ag3 rfl)) rfl]; rfl) ?_
  have k1 := beS_le 2 10
  have k2 := beS_le 2 (16 + ((setBytes id body).length : Nat) : Int)
  have k3 := beS_le 4 t
  have k4 := beS_le 4 q
  have k5 := beS_le 4 d
  refine y_dcall rfl (num_call (k := 4) (by omega) (by omega)) ?_
  refine y_dcall rfl (q1) ?_
  refine y_dval (o_sadd (by omega)) ?_
  refine y_dval (o_sadd (by simp only [List.length_append]; omega)) ?_
  refine y_dval (o_sadd (by simp only [List.length_append]; omega)) ?_
  refine y_dval (o_sadd (by simp only [List.length_append]; omega)) ?_
  refine y_dval (o_sadd (by simp only [List.length_append]; omega)) ?_
  refine y_ret2 ⟨rfl, ⟨by have := e5.1; omega, fun j hj => by rw [q3 j (by have := e1.1; omega)]; exact e5.2 j hj⟩⟩
end Oct
end Go.Proofs.YtggjhmhjjghncaaGreat
