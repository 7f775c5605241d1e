/- ipfix.Record by the layout, and collect.Message. -/
import Derived.Test.YtggjhmhjjghncaaGreatMsg
namespace Go.Proofs.YtggjhmhjjghncaaGreat
open Go.Run Go
namespace Oct
open Ty
set_option maxRecDepth 1000000
def valsL (a b c d : List UInt8) : List CV := [s a, s b, s c, s d]
def valsB (a b c d : List UInt8) : Blk := .cells (valsL a b c d) 9 true
theorem right_call {n fb : Nat} {σ : St} (h : σ.get fb = some fldB) : cc (n + 1) 44 [.agg [i 300, st fb 0 4 3]] σ = some (B true, σ) := by
  refine call_part (t := TT) (spec := fldSpec fldB) rfl ?_
  unfold fldSpec
  exact if_pos ⟨fb, rfl, h⟩
/-- a record's beginning -/
theorem rec_in {n fb vb : Nat} {σ : St} {a b c d : List UInt8} {Q : AV → St → Prop} (hf : fb < σ.next ∧ σ.get fb = some fldB) (hv : vb < σ.next ∧ σ.get vb = some (valsB a b c d))
    (hk : ∀ lo ta jb σ', RecAt lo σ' ta fb jb (valsL a b c d) vb [] → Ext σ σ' → σ.next ≤ lo → Yl (L21_6 M (cc (n + 3)) (999995 + 1 + 1 + 1 + 1 + 1) (P ta 0) (P jb 0) (.one (st vb 0 4 1)) (I 4) (I ((0 : Nat) : Int)) σ') Q) :
    Yl (cc (n + 4) 21 [.agg [i 300, st fb 0 4 3], .one (st vb 0 4 1)] σ) Q := by
  refine y_body rfl Tryz.func21 (by kernel_rfl) ?_
  rw [F21_eq]
  unfold K21_0
  refine y_new (rfl) ?_
  have ht : (σ.push (.cells [i 300, st fb 0 4 3] 35 true)).get σ.next = some (.cells [i 300, st fb 0 4 3] 35 true) := by rw [St.get_push, if_pos rfl]
  generalize hσ1 : σ.push (.cells [i 300, st fb 0 4 3] 35 true) = σ1 at ht
  have e1 : Ext σ σ1 := by rw [← hσ1]; exact Ext.push _ _
  have n1 : σ1.next = σ.next + 1 := by rw [← hσ1]; rfl
  have hf1 := (e1.2 fb hf.1).trans hf.2
  unfold K21_1
  refine y_val (o_ld ht rfl (partA_agg ag35 sz35 rfl)) ?_
  refine y_cal rfl (right_call hf1) ?_
  refine y_val (rfl) ?_
  refine y_gon rfl (rfl) ?_
  refine y_gon rfl (o_len un88) ?_
  refine y_gon rfl (fa35_1) ?_
  refine y_gon rfl (o_ld ht rfl (partA_one ag33 rfl)) ?_
  refine y_gon rfl (o_len un33) ?_
  refine y_gon rfl (o_neq) ?_
  refine y_val (rfl) ?_
  refine y_iff (by simp) ?_
  unfold K21_2
  refine y_new (new128) ?_
  unfold K21_3
  refine y_val (o_len un88) ?_
  unfold K21_5
  rw [show M = 999995 + 1 + 1 + 1 + 1 + 1 from rfl]
  refine hk σ1.next σ.next σ1.next (σ1.push (.cells [.ptr none, .slice none 0 (.ex 0)] 128 true)) ⟨⟨by omega, ?_⟩, ⟨by omega, ?_⟩, ⟨by omega, ?_⟩, ?_⟩ (e1.trans (Ext.push _ _)) (by omega)
  · rw [St.get_push, if_neg (by omega)]; exact ht
  · rw [St.get_push, if_neg (by omega)]; exact hf1
  · rw [St.get_push, if_neg (by omega)]; exact (e1.2 vb hv.1).trans hv.2
  · exact ⟨.ptr none, .slice none 0 (.ex 0), by rw [St.get_push, if_pos rfl], Nat.le_refl _, by rw [St.next_push]; omega, .inl rfl, .inl ⟨rfl, rfl⟩⟩
def recBytes (a b c d : List UInt8) : List UInt8 := a ++ b ++ c ++ lenB d ++ d
theorem rec_ok {n fb vb : Nat} {σ : St} {a b c d : List UInt8} (hf : fb < σ.next ∧ σ.get fb = some fldB) (hv : vb < σ.next ∧ σ.get vb = some (valsB a b c d)) (ha : a.length = 4) (hb : b.length = 2) (hc : c.length = 2) (hd : d.length ≤ 65535) :
    Yl (cc (n + 4) 21 [.agg [i 300, st fb 0 4 3], .one (st vb 0 4 1)] σ) (fun v σ' => v = .tup [S (recBytes a b c d), I 0] ∧ Ext σ σ') := by
  refine rec_in hf hv fun lo ta jb σ1 h1 e1 hlo => ?_
  have hl := lenB_len (x := d)
  refine rec_fix (fl := 4) (x := a) h1 (by omega) rfl rfl (by omega) ha (by simp) fun σ2 h2 e2 => ?_
  refine rec_fix (fl := 2) (x := b) h2 (by omega) rfl rfl (by omega) hb (by simp only [List.length_append, List.length_nil]; omega) fun σ3 h3 e3 => ?_
  refine rec_fix (fl := 2) (x := c) h3 (by omega) rfl rfl (by omega) hc (by simp only [List.length_append, List.length_nil]; omega) fun σ4 h4 e4 => ?_
  refine rec_any (x := d) h4 (by omega) rfl rfl hd (by simp only [List.length_append, List.length_nil]; omega) fun σ5 h5 e5 => ?_
  rw [L21_6_succ]
  unfold L21_6_b
  refine y_val (o_lss) ?_
  unfold K21_7
  refine y_iff (decide_eq_false (by omega)) ?_
  unfold K21_4
  obtain ⟨σ6, q1, q2, q3⟩ := string_run (tab := TT) (n := n + 2) rfl h5.b (by simp only [List.length_append, List.length_nil]; omega)
  refine y_cal rfl (q1) ?_
  refine y_ret2 ⟨by rw [List.nil_append]; rfl, ⟨by have := e1.1; have := e2.1; have := e3.1; have := e4.1; have := e5.1; omega, fun j hj => ?_⟩⟩
  rw [q3 j (by omega), e5.2 j (by omega), e4.2 j (by omega), e3.2 j (by omega), e2.2 j (by omega), e1.2 j hj]
theorem rec_no {n fb vb : Nat} {σ : St} {a b c d : List UInt8} (hf : fb < σ.next ∧ σ.get fb = some fldB) (hv : vb < σ.next ∧ σ.get vb = some (valsB a b c d)) (ha : a.length ≤ 4) (hb : b.length ≤ 2) (hno : ¬ (a.length = 4 ∧ b.length = 2 ∧ c.length = 2)) :
    Yl (cc (n + 4) 21 [.agg [i 300, st fb 0 4 3], .one (st vb 0 4 1)] σ) (fun v _ => v = .tup [S [], I 1]) := by
  refine rec_in hf hv fun lo ta jb σ1 h1 e1 hlo => ?_
  by_cases h4 : a.length = 4
  · refine rec_fix (fl := 4) (x := a) h1 (by omega) rfl rfl (by omega) h4 (by simp) fun σ2 h2 e2 => ?_
    by_cases h22 : b.length = 2
    · refine rec_fix (fl := 2) (x := b) h2 (by omega) rfl rfl (by omega) h22 (by simp only [List.length_append, List.length_nil]; omega) fun σ3 h3 e3 => ?_
      exact rec_bad (fl := 2) (x := c) h3 (by omega) rfl rfl (by omega) (fun e => hno ⟨h4, h22, e⟩)
    · exact rec_bad (fl := 2) (x := b) h2 (by omega) rfl rfl (by omega) h22
  · exact rec_bad (fl := 4) (x := a) h1 (by omega) rfl rfl (by omega) h4

/-! Message. -/
def pieceL (sw ep pt of : Int) (d : List UInt8) : List CV := [i sw, i ep, i pt, i of, s d]
def partsOk (ep pt of : Int) : Bool := fits 4 ep && fits 2 pt && fits 2 of
def recOf (ep pt of : Int) (d : List UInt8) : List UInt8 := recBytes (beS 4 ep) (beS 2 pt) (beS 2 of) d
def mesV (sw ep pt of : Int) (d : List UInt8) (t : Int) : AV :=
  if (partsOk ep pt of && annOk sw t) = true then .tup [S (msgBytes t 0 sw (setBytes 300 (recOf ep pt of d))), I 0] else .tup [S [], I 1]
theorem bsl88 {σ : St} {a b c d : List UInt8} : bslO (C M) 88 4 [(0, S a), (1, S b), (2, S c), (3, S d)] σ = .new (valsB a b c d) (fun x => .one (st x 0 4 1)) := by kernel_rfl
theorem max4 {σ : St} {a b c d : Int} : bltO (C M) .max [25, 25, 25, 25] [I a, I b, I c, I d] σ = .val (I (max (max (max a b) c) d)) := by
  have key : ∀ x y : Int, (bif intLt x y then y else x) = max x y := by
    intro x y
    rw [intLt_ok]
    by_cases h : x < y
    · rw [decide_eq_true h, Int.max_eq_right (by omega)]; rfl
    · rw [decide_eq_false h, Int.max_eq_left (by omega)]; rfl
  show Out.val (.one (.int .i64 (bif intLt (bif intLt (bif intLt a b then b else a) c then c else (bif intLt a b then b else a)) d then d else (bif intLt (bif intLt a b then b else a) c then c else (bif intLt a b then b else a))))) = _
  rw [key a b, key (max a b) c, key (max (max a b) c) d]; rfl
theorem mes_run {n : Nat} {sw ep pt of t : Int} {d : List UInt8} (hd : d.length ≤ 4096) : Yl (cc (n + 5) 6 [.agg (pieceL sw ep pt of d), I t] σE) (fun v _ => v = mesV sw ep pt of d t) := by
  refine y_body rfl Tryz.func6 (by kernel_rfl) ?_
  rw [F6_eq]
  unfold K6_0
  have n0 : σE.next = 0 := rfl
  have hp : (σE.push (.cells (pieceL sw ep pt of d) 23 true)).get σE.next = some (.cells (pieceL sw ep pt of d) 23 true) := by rw [St.get_push, if_pos rfl]
  refine y_new (rfl) ?_
  refine y_val (fa23_1) ?_
  refine y_val (o_ld hp rfl (partA_one ag3 rfl)) ?_
  refine y_cal rfl (put_call (k := 4) (by omega) (by omega)) ?_
  refine y_val (rfl) ?_
  refine y_val (rfl) ?_
  refine y_val (fa23_2) ?_
  refine y_val (o_ld hp rfl (partA_one ag3 rfl)) ?_
  refine y_cal rfl (put_call (k := 2) (by omega) (by omega)) ?_
  refine y_val (rfl) ?_
  refine y_val (rfl) ?_
  refine y_val (fa23_3) ?_
  refine y_val (o_ld hp rfl (partA_one ag3 rfl)) ?_
  refine y_cal rfl (put_call (k := 2) (by omega) (by omega)) ?_
  refine y_val (rfl) ?_
  refine y_val (rfl) ?_
  generalize hσ1 : σE.push (.cells (pieceL sw ep pt of d) 23 true) = σ1 at hp
  have n1 : σ1.next = 1 := by rw [← hσ1]; rfl
  refine y_at ?_
  refine y_din ?_
  have hp2 : (σ1.gap 13).get σE.next = some (.cells (pieceL sw ep pt of d) 23 true) := hp
  have n2 : (σ1.gap 13).next = 14 := by rw [St.next_gap, n1]
  have hp3 : ((σ1.gap 13).push fldB).get σE.next = some (.cells (pieceL sw ep pt of d) 23 true) := by rw [St.get_push, if_neg (by omega)]; exact hp2
  refine y_dcall rfl (layP_call) ?_
  refine y_dval (fa23_4) ?_
  refine y_dsam rfl (o_ld hp3 rfl (partA_one ag9 rfl)) (by rw [eqIn_ok (o_ld hp3 rfl (partA_one ag9 rfl)) rfl, eqIn_ok (o_ld hp2 rfl (partA_one ag9 rfl)) rfl]; rfl) ?_
  refine y_dnew (bsl88) ?_
  have n3 : ((σ1.gap 13).push fldB).next = 15 := by rw [St.next_push, n2]
  have n7 : Nat.add σ1.next 6 = 7 := by rw [n1]
  rw [n7]
  generalize hσ4 : ((σ1.gap 13).push fldB).lay 7 (valsB (beS 4 ep) (beS 2 pt) (beS 2 of) d) = σ4
  have n4 : σ4.next = 15 := by rw [← hσ4]; exact n3
  have hp4 : σ4.get σE.next = some (.cells (pieceL sw ep pt of d) 23 true) := by rw [← hσ4, St.get_lay, if_neg (by omega)]; exact hp3
  have hf4 : σ4.get (σ1.gap 13).next = some fldB := by rw [← hσ4, St.get_lay, if_neg (by omega), St.get_push, if_pos rfl]
  have hv4 : σ4.get 7 = some (valsB (beS 4 ep) (beS 2 pt) (beS 2 of) d) := by rw [← hσ4, St.get_lay, if_pos rfl]
  cases hok : partsOk ep pt of with
  | true =>
    unfold partsOk at hok
    simp only [Bool.and_eq_true] at hok
    obtain ⟨⟨o1, o2⟩, o3⟩ := hok
    obtain ⟨v, σ5, r1, rfl, r2⟩ := rec_ok (n := n) (σ := σ4) (fb := (σ1.gap 13).next) (vb := 7) (d := d) ⟨by omega, hf4⟩ ⟨by omega, hv4⟩ (beS_len o1) (beS_len o2) (beS_len o3) (by omega)
    refine y_dcall rfl (r1) ?_
    refine y_dval (rfl) ?_
    refine y_dval (rfl) ?_
    rw [if_pos o1, if_pos o2, if_pos o3]
    have hp5 := (r2.2 σE.next (by omega)).trans hp4
    refine y_val (max4) ?_
    refine y_val (o_neq) ?_
    refine y_iff (rfl) ?_
    refine y_val (fa23_0) ?_
    refine y_val (o_ld hp5 rfl (partA_one ag3 rfl)) ?_
    refine y_val (bld83d) ?_
    refine y_new (bsl84d) ?_
    refine y_val (bld86) ?_
    have hS : SetAt (σ5.push (setDB (recBytes (beS 4 ep) (beS 2 pt) (beS 2 of) d))) σ5.next 300 (.slice none 0 (.ex 0)) (recBytes (beS 4 ep) (beS 2 pt) (beS 2 of) d) (recBytes (beS 4 ep) (beS 2 pt) (beS 2 of) d) :=
      .data (by rw [St.next_push]; omega) (by rw [St.get_push, if_pos rfl])
    have hlen : (recBytes (beS 4 ep) (beS 2 pt) (beS 2 of) d).length ≤ 65000 := by
      unfold recBytes
      have h1 := lenB_len (x := d)
      simp only [List.length_append, beS_len o1, beS_len o2, beS_len o3]
      omega
    have hparts : partsOk ep pt of = true := by unfold partsOk; rw [o1, o2, o3]; rfl
    cases hr : (fits 4 t && fits 4 0 && fits 4 sw) with
    | false =>
      obtain ⟨v, σ', h1, rfl, _⟩ := put_no (n := n + 1) (t := t) (q := 0) (d := sw) hS hr
      refine y_cal rfl (h1) ?_
      refine y_val (rfl) ?_
      refine y_val (rfl) ?_
      refine y_ret2 ?_
      unfold mesV annOk
      rw [hr, hparts]; rfl
    | true =>
      obtain ⟨v, σ', h1, rfl, _⟩ := put_yes (n := n + 1) (t := t) (q := 0) (d := sw) hS hr hlen
      refine y_cal rfl (h1) ?_
      refine y_val (rfl) ?_
      refine y_val (rfl) ?_
      refine y_ret2 ?_
      unfold mesV annOk
      rw [hr, hparts]; rfl
  | false =>
    obtain ⟨v, σ5, r1, rfl⟩ := rec_no (n := n) (σ := σ4) (fb := (σ1.gap 13).next) (vb := 7) (c := beS 2 of) (d := d) ⟨by omega, hf4⟩ ⟨by omega, hv4⟩ (beS_le _ _) (beS_le _ _) (fun ⟨l1, l2, l3⟩ => by
      have key : ∀ {k : Nat} {a : Int}, 0 < k → (beS k a).length = k → fits k a = true := fun {k a} hk hl => by
        cases hf : fits k a with
        | true => rfl
        | false => rw [beS_no hf] at hl; simp only [List.length_nil] at hl; omega
      have : partsOk ep pt of = true := by unfold partsOk; rw [key (by omega) l1, key (by omega) l2, key (by omega) l3]; rfl
      rw [this] at hok; cases hok)
    refine y_dcall rfl (r1) ?_
    refine y_dval (rfl) ?_
    refine y_dval (rfl) ?_
    refine y_val (max4) ?_
    refine y_val (o_neq) ?_
    have hz : ∀ b : Bool, (0 : Int) ≤ (if b = true then 0 else 1) := fun b => by cases b <;> simp
    have hz' : ∀ b : Bool, (if b = true then (0 : Int) else 1) ≤ 1 := fun b => by cases b <;> simp
    have h1 := hz (fits 4 ep); have h2 := hz (fits 2 pt); have h3 := hz (fits 2 of)
    have h1' := hz' (fits 4 ep); have h2' := hz' (fits 2 pt); have h3' := hz' (fits 2 of)
    have hm : max (max (max (if fits 4 ep = true then (0 : Int) else 1) (if fits 2 pt = true then 0 else 1)) (if fits 2 of = true then 0 else 1)) 1 = 1 := by
      generalize (if fits 4 ep = true then (0 : Int) else 1) = x at *
      generalize (if fits 2 pt = true then (0 : Int) else 1) = y at *
      generalize (if fits 2 of = true then (0 : Int) else 1) = z at *
      omega
    rw [hm]
    refine y_ift (rfl) ?_
    refine y_ret2 ?_
    unfold mesV
    rw [hok]; rfl
end Oct
end Go.Proofs.YtggjhmhjjghncaaGreat
