/- The law, run. -/
import Derived.Test.YtggjhmhjjghncaaGreatRef3
namespace Go.Proofs.YtggjhmhjjghncaaGreat
open Go.Run Go
namespace Oct
open Ty
set_option maxRecDepth 1000000
/-! The four functions, as calls. -/
def annSpec (args : List AV) : Option AV := match args with
  | [.one (.int .i64 d), .one (.int .i64 t)] => some (annV d t)
  | _ => none
def rannSpec (args : List AV) : Option AV := match args with
  | [.one (.int .i64 d), .one (.int .i64 t)] => some (.tup [S (rmsg t d 2 bodyL), B (annOk d t)])
  | _ => none
def mesSpec (args : List AV) : Option AV := match args with
  | [.agg [.int .i64 sw, .int .i64 ep, .int .i64 pt, .int .i64 of, .str x], .one (.int .i64 t)] => if (bytesOf x).length ≤ 4096 then some (mesV sw ep pt of (bytesOf x) t) else none
  | _ => none
def rmesSpec (args : List AV) : Option AV := match args with
  | [.agg [.int .i64 sw, .int .i64 ep, .int .i64 pt, .int .i64 of, .str x], .one (.int .i64 t)] => if (bytesOf x).length ≤ 4096 then some (rmesV sw ep pt of (bytesOf x) t) else none
  | _ => none
noncomputable def U1 : Tab := TT.add 5 (flatS annSpec)
noncomputable def U2 : Tab := U1.add 7 (flatS rannSpec)
noncomputable def U3 : Tab := U2.add 6 (flatS mesSpec)
noncomputable def U4 : Tab := U3.add 8 (flatS rmesSpec)
theorem U1_ok : TabOk (C M) U1 := TabOk.flat hx mixed hg TT_ok TT_ok fun args v h => by
  unfold annSpec at h
  split at h
  · rename_i d t
    cases h
    obtain ⟨σ', hr⟩ := (ann_run (n := 0) (d := d) (t := t)).run
    exact ⟨rfl, by unfold annV; split <;> rfl, 4, σ', hr⟩
  · cases h
theorem U2_ok : TabOk (C M) U2 := TabOk.flat hx mixed hg U1_ok TT_ok fun args v h => by
  unfold rannSpec at h
  split at h
  · rename_i d t
    cases h
    obtain ⟨σ', hr⟩ := (rann_run (n := 0) (d := d) (t := t)).run
    exact ⟨rfl, rfl, 4, σ', hr⟩
  · cases h
theorem U3_ok : TabOk (C M) U3 := TabOk.flat hx mixed hg U2_ok TT_ok fun args v h => by
  unfold mesSpec at h
  split at h
  · rename_i sw ep pt of x t
    split at h
    · rename_i hl
      cases h
      obtain ⟨σ', hr⟩ := (mes_run (n := 0) (sw := sw) (ep := ep) (pt := pt) (of := of) (t := t) hl).run
      exact ⟨rfl, by unfold mesV; split <;> rfl, 5, σ', hr⟩
    · cases h
  · cases h
theorem U4_ok : TabOk (C M) U4 := TabOk.flat hx mixed hg U3_ok TT_ok fun args v h => by
  unfold rmesSpec at h
  split at h
  · rename_i sw ep pt of x t
    split at h
    · rename_i hl
      cases h
      obtain ⟨σ', hr⟩ := (rmes_run (n := 0) (sw := sw) (ep := ep) (pt := pt) (of := of) (t := t) hl).run
      exact ⟨rfl, by unfold rmesV; split <;> rfl, 5, σ', hr⟩
    · cases h
  · cases h
noncomputable abbrev cu (n : Nat) : CallF := callK (C M) U4 n
section
variable {n : Nat} {σ : St} {d t sw ep pt of : Int} {x : List UInt8}
theorem c5 : cu (n + 1) 5 [I d, I t] σ = some (annV d t, σ) := call_flat (t := U4) (spec := annSpec) rfl rfl
theorem c7 : cu (n + 1) 7 [I d, I t] σ = some (.tup [S (rmsg t d 2 bodyL), B (annOk d t)], σ) := call_flat (t := U4) (spec := rannSpec) rfl rfl
theorem c6 (hl : x.length ≤ 4096) : cu (n + 1) 6 [.agg (pieceL sw ep pt of x), I t] σ = some (mesV sw ep pt of x t, σ) :=
  call_flat (t := U4) (spec := mesSpec) rfl (by unfold mesSpec pieceL i s I; exact if_pos hl)
theorem c8 (hl : x.length ≤ 4096) : cu (n + 1) 8 [.agg (pieceL sw ep pt of x), I t] σ = some (rmesV sw ep pt of x t, σ) :=
  call_flat (t := U4) (spec := rmesSpec) rfl (by unfold rmesSpec pieceL i s I; exact if_pos hl)
theorem c4 : cu (n + 1) 4 [] σ = some (B true, σ) := call_flat (t := U4) (spec := awSpec) rfl rfl
theorem c9 : cu (n + 1) 9 [] σ = some (.agg [i 300, st σ.next 0 4 3], σ.push fldB) := by
  show callK (C M) U4 (n + 1) 9 [] σ = _
  rw [call_new (t := U4) (spec := layP) rfl rfl]
  rfl
theorem c11 : cu (n + 1) 11 [] σ = some (.agg [i 300, st σ.next 0 4 3], σ.push fldRB) := by
  show callK (C M) U4 (n + 1) 11 [] σ = _
  rw [call_new (t := U4) (spec := layR) rfl rfl]
  rfl
theorem c10 {fa fb : Nat} (h1 : σ.get fa = some fldRB) (h2 : σ.get fb = some fldRB) : cu (n + 1) 10 [.agg [i 300, st fa 0 4 3], .agg [i 300, st fb 0 4 3]] σ = some (B true, σ) := by
  refine call_part (t := U4) (spec := sameSpec) rfl ?_
  unfold sameSpec
  exact if_pos ⟨fa, fb, rfl, h1, h2⟩
end
/-! The same bytes. -/
theorem bytes_eq {d t id : Int} {body : List UInt8} (h : annOk d t = true) : msgBytes t 0 d (setBytes id body) = rmsg t d id body := by
  unfold annOk at h
  simp only [Bool.and_eq_true] at h
  obtain ⟨⟨h1, h2⟩, h3⟩ := h
  unfold msgBytes setBytes rmsg
  have e1 : ((body.length : Nat) : Int) + 4 = 4 + ((body.length : Nat) : Int) := by omega
  rw [e1]
  have e2 : (16 + ((beS 2 id ++ beS 2 (4 + ((body.length : Nat) : Int)) ++ body).length : Nat) : Int) = 4 + ((beS 4 t ++ beS 4 0 ++ beS 4 d ++ beS 2 id ++ beS 2 (4 + ((body.length : Nat) : Int)) ++ body).length : Nat) := by
    simp only [List.length_append, beS_len h1, beS_len h2, beS_len h3]
    omega
  rw [e2]
  simp only [List.append_assoc]

/-! What is compared at last. -/
theorem neqB {σ : St} {a b : Bool} : binO (C M) .neq 4 (B a) (B b) σ = .val (B (!(a == b))) := by kernel_rfl
theorem last_run {n ya fy : Nat} {σ : St} {s1 s2 a1 a2 : List UInt8} {e1 e2 : Int} {ok is : Bool} (hy : ya < σ.next ∧ σ.get ya = some (.cells [i 300, st fy 0 4 3] 39 true)) (hf : fy < σ.next ∧ σ.get fy = some fldRB)
    (h1 : (ok = true ∧ e1 = 0 ∧ s1 = a1) ∨ (ok = false ∧ e1 = 1 ∧ s1 = [])) (h2 : (is = true ∧ e2 = 0 ∧ s2 = a2) ∨ (is = false ∧ e2 = 1 ∧ s2 = [])) :
    Yl (K3_9 M (cu (n + 1)) (S s1) (I e1) (S s2) (I e2) (S a1) (B ok) (S a2) (B is) (P ya 0) σ) (fun v _ => v = B true) := by
  unfold K3_9
  refine y_din ?_
  have hy2 : (σ.push fldRB).get ya = some (.cells [i 300, st fy 0 4 3] 39 true) := by rw [St.get_push, if_neg (by omega)]; exact hy.2
  have hf2 : (σ.push fldRB).get fy = some fldRB := by rw [St.get_push, if_neg (by omega)]; exact hf.2
  have hf3 : (σ.push fldRB).get σ.next = some fldRB := by rw [St.get_push, if_pos rfl]
  have el : ∀ σ', σ'.get ya = some (.cells [i 300, st fy 0 4 3] 39 true) → ldO (C M) 39 (P ya 0) σ' = .val (.agg [i 300, st fy 0 4 3]) := fun σ' h => o_ld h rfl (partA_agg ag39 sz39 rfl)
  refine y_dcall rfl (c11) ?_
  refine y_dsam rfl (el _ hy2) (by rw [eqIn_ok (el _ hy2) rfl, eqIn_ok (el _ hy.2) rfl]; rfl) ?_
  refine y_dcall rfl (c10 hf2 hf3) ?_
  rcases h1 with ⟨rfl, rfl, rfl⟩ | ⟨rfl, rfl, rfl⟩ <;> rcases h2 with ⟨rfl, rfl, rfl⟩ | ⟨rfl, rfl, rfl⟩
  all_goals iterate 33 refine y_dval rfl ?_
  all_goals refine y_iff rfl ?_
  · refine y_val (rfl) ?_
    refine y_gon rfl (rfl) ?_
    refine y_gon rfl (rfl) ?_
    refine y_gon rfl (o_seql) ?_
    rw [decide_eq_true rfl]
    refine y_val (rfl) ?_
    refine y_gon rfl (rfl) ?_
    refine y_gon rfl (rfl) ?_
    refine y_gon rfl (rfl) ?_
    refine y_gon rfl (rfl) ?_
    refine y_gon rfl (rfl) ?_
    refine y_gon rfl (o_seql) ?_
    rw [decide_eq_true rfl]
    refine y_gon rfl (rfl) ?_
    refine y_val (rfl) ?_
    refine y_gcal rfl rfl (c4) ?_
    refine y_val (rfl) ?_
    exact y_ret0 rfl
  · refine y_val (rfl) ?_
    refine y_gon rfl (rfl) ?_
    refine y_gon rfl (rfl) ?_
    refine y_gon rfl (o_seql) ?_
    rw [decide_eq_true rfl]
    refine y_val (rfl) ?_
    refine y_gon rfl (rfl) ?_
    refine y_gon rfl (rfl) ?_
    refine y_gon rfl (rfl) ?_
    refine y_goff rfl ?_
    refine y_goff rfl ?_
    refine y_goff rfl ?_
    refine y_gon rfl (rfl) ?_
    refine y_val (rfl) ?_
    refine y_gcal rfl rfl (c4) ?_
    refine y_val (rfl) ?_
    exact y_ret0 rfl
  · refine y_val (rfl) ?_
    refine y_goff rfl ?_
    refine y_goff rfl ?_
    refine y_goff rfl ?_
    refine y_val (rfl) ?_
    refine y_gon rfl (rfl) ?_
    refine y_gon rfl (rfl) ?_
    refine y_gon rfl (rfl) ?_
    refine y_gon rfl (rfl) ?_
    refine y_gon rfl (rfl) ?_
    refine y_gon rfl (o_seql) ?_
    rw [decide_eq_true rfl]
    refine y_gon rfl (rfl) ?_
    refine y_val (rfl) ?_
    refine y_gcal rfl rfl (c4) ?_
    refine y_val (rfl) ?_
    exact y_ret0 rfl
  · refine y_val (rfl) ?_
    refine y_goff rfl ?_
    refine y_goff rfl ?_
    refine y_goff rfl ?_
    refine y_val (rfl) ?_
    refine y_gon rfl (rfl) ?_
    refine y_gon rfl (rfl) ?_
    refine y_gon rfl (rfl) ?_
    refine y_goff rfl ?_
    refine y_goff rfl ?_
    refine y_goff rfl ?_
    refine y_gon rfl (rfl) ?_
    refine y_val (rfl) ?_
    refine y_gcal rfl rfl (c4) ?_
    refine y_val (rfl) ?_
    exact y_ret0 rfl

/-! The layout, field by field. -/
theorem inf42 : ((C M).P.info? 42).map (fun t => (t.size, t.bytes)) = some (3, 24) := in42
theorem row42 : rowOf (C M) 42 3 1 = some [i 0, i 0, i 0] := by kernel_rfl
theorem bsl37 {σ : St} {a b c : Int} : bslO (C M) 37 1 [(0, .agg [i a, i b, i c])] σ = .new (.cells [i a, i b, i c] 42 true) (fun x => .one (.slice (some (x, 0)) 1 (.to 3))) := by kernel_rfl
theorem new41 {σ : St} : newO (C M) 41 σ = .new (.cells [i 0, i 0, i 0] 41 true) (fun a => P a 0) := by kernel_rfl
theorem new35 {σ : St} : newO (C M) 35 σ = .new (.cells [i 0, .slice none 0 (.ex 0)] 35 true) (fun a => P a 0) := by kernel_rfl
theorem bld39 {σ : St} : bldO (C M) 39 [(0, I 300)] σ = .val (.agg [i 300, .slice none 0 (.ex 0)]) := by kernel_rfl
/-- one field more -/
theorem append_fld {σ : St} {vb j : Nat} {a b c : Int} {p : Option (Nat × Nat)} {cap : Cap} (hv : σ.get vb = some (.cells [i a, i b, i c] 42 true)) (hj : j < 10) :
    bltO (C M) .append [37, 37] [.one (.slice p j cap), .one (.slice (some (vb, 0)) 1 (.to 3))] σ = appendTo 42 3 p j cap 1 [i a, i b, i c] σ := by
  obtain ⟨inf, h1, h2⟩ := Option.map_eq_some_iff.mp inf42
  obtain ⟨h3, h4⟩ := Prod.mk.inj h2
  have h3 : inf.size = 3 := h3
  have h4 : inf.bytes = 24 := h4
  have := o_append (cx := C M) (σ := σ) (t := 37) (ts := [37]) (p := p) (len := j) (cap := cap) (x := .one (.slice (some (vb, 0)) 1 (.to 3))) (n := 1) (new := [i a, i b, i c]) (row := [i 0, i 0, i 0]) un37 h1 rfl (by
      rw [h3, h4]
      have a1 : noInt (C M) [37] = true := by kernel_rfl
      have a2 : Nat.ble (Nat.mul (Nat.add (Nat.mul 2 (Nat.add j 1)) 2048) 24) 140737488355328 = true := Nat.ble_eq_true_of_le (by show (2 * (j + 1) + 2048) * 24 ≤ _; omega)
      have a3 : Nat.ble (Nat.add j 1) 4611686018427387904 = true := Nat.ble_eq_true_of_le (by show j + 1 ≤ _; omega)
      rw [a1, a2, a3]; rfl) (by
      rw [h3]
      show (match Blk.rd (σ.get vb) with | some l => takeN (Nat.mul 1 3) (dropN 0 l) | none => none) = _
      rw [hv]; rfl) (by rw [h3]; exact row42) rfl
  rw [h3] at this
  exact this
/-- j fields are there -/
def YAt (σ : St) (ya fb j : Nat) : Prop := (fb < σ.next ∧ σ.get fb = some fldB) ∧ fb < ya ∧ ya < σ.next ∧ ∃ cv, σ.get ya = some (.cells [i 300, cv] 39 true) ∧
  ((cv = .slice none 0 (.ex 0) ∧ j = 0) ∨ ∃ fy, cv = .slice (some (fy, 0)) j (.to (2 + 1)) ∧ ya < fy ∧ fy < σ.next ∧ σ.get fy = some (.cells (fieldsL.take (j * (2 + 1))) 42 false))
theorem app_it {n ya fb j fuel : Nat} {σ : St} {t7 t8 t9 t10 t11 t12 t13 t14 : AV} {Q : AV → St → Prop} {a b c : Int} (h : YAt σ ya fb j) (hj : j < 4) (hx : takeN 3 (dropN (0 + j * 3) fieldsL) = some [i a, i b, i c])
    (ht : fieldsL.take (j * (2 + 1)) ++ [i a, i b, i c] = fieldsL.take ((j + 1) * (2 + 1)))
    (hk : ∀ σ', YAt σ' ya fb (j + 1) → Yl (L3_11 M (cu (n + 1)) fuel t7 t8 t9 t10 t11 t12 t13 t14 (P ya 0) (.one (st fb 0 4 3)) (I 4) (I ((j + 1 : Nat) : Int)) σ') Q) :
    Yl (L3_11 M (cu (n + 1)) (fuel + 1) t7 t8 t9 t10 t11 t12 t13 t14 (P ya 0) (.one (st fb 0 4 3)) (I 4) (I (j : Nat)) σ) Q := by
  obtain ⟨⟨hfl, hf⟩, hfy, hyl, cv, hy, hcv⟩ := h
  rw [L3_11_succ]
  unfold L3_11_b
  refine y_val (o_lss) ?_
  unfold K3_12
  refine y_ift (decide_eq_true (by omega)) ?_
  unfold K3_13
  refine y_val (o_iad un33 sz41 hj) ?_
  refine y_val (o_ld hf rfl (partA_agg ag41 sz41 hx)) ?_
  refine y_new (new41) ?_
  refine y_st (o_st (by rw [St.get_push, if_pos rfl]) rfl sz41 rfl rfl) ?_
  generalize hσ2 : (σ.push (.cells [i 0, i 0, i 0] 41 true)).put σ.next (.cells [i a, i b, i c] 41 true) = σ2
  have e2 : Ext σ σ2 := by rw [← hσ2]; exact (Ext.push _ _).put _ (Nat.le_refl _)
  have n2 : σ2.next = σ.next + 1 := by rw [← hσ2]; rfl
  have hc2 : σ2.get σ.next = some (.cells [i a, i b, i c] 41 true) := by rw [← hσ2, St.get_put, if_pos rfl]
  have hy2 := (e2.2 ya hyl).trans hy
  refine y_val (fa39_1) ?_
  refine y_val (o_ld hy2 rfl (partA_one ag37 rfl)) ?_
  refine y_val (o_ld hc2 rfl (partA_agg ag41 sz41 rfl)) ?_
  refine y_new (bsl37) ?_
  generalize hσ3 : σ2.push (.cells [i a, i b, i c] 42 true) = σ3
  have e3 : Ext σ2 σ3 := by rw [← hσ3]; exact Ext.push _ _
  have n3 : σ3.next = σ2.next + 1 := by rw [← hσ3]; rfl
  have hv3 : σ3.get σ2.next = some (.cells [i a, i b, i c] 42 true) := by rw [← hσ3, St.get_push, if_pos rfl]
  have e23 := e2.trans e3
  have hy3 := (e23.2 ya hyl).trans hy
  have hf3 := (e23.2 fb hfl).trans hf
  have happ : ∃ σ4 cv', bltO (C M) .append [37, 37] [.one cv, .one (.slice (some (σ2.next, 0)) 1 (.to 3))] σ3 = .st (.one cv') σ4 ∧ σ4.next = σ3.next + 1 ∧ σ4.get fb = some fldB ∧ σ4.get ya = some (.cells [i 300, cv] 39 true) ∧
      cv' = .slice (some (σ3.next, 0)) (j + 1) (.to (2 + 1)) ∧ σ4.get σ3.next = some (.cells (fieldsL.take ((j + 1) * (2 + 1))) 42 false) := by
    rcases hcv with ⟨rfl, rfl⟩ | ⟨fy, rfl, y1, y2, y3⟩
    · refine ⟨σ3.push (.cells [i a, i b, i c] 42 false), .slice (some (σ3.next, 0)) (0 + 1) (.to (2 + 1)), (append_fld hv3 (by omega)).trans append_nil, rfl, ?_, ?_, rfl, ?_⟩
      · rw [St.get_push, if_neg (by omega)]; exact hf3
      · rw [St.get_push, if_neg (by omega)]; exact hy3
      · rw [St.get_push, if_pos rfl, ← ht]; rfl
    · have y4 := (e23.2 fy y2).trans y3
      refine ⟨(σ3.kill fy).push (.cells (fieldsL.take (j * (2 + 1)) ++ [i a, i b, i c]) 42 false), .slice (some (σ3.next, 0)) (j + 1) (.to (2 + 1)), (append_fld hv3 (by omega)).trans (append_full y4 ?_ (by omega)), rfl, ?_, ?_, rfl, ?_⟩
      · rw [List.length_take]; show min (j * 3) 12 = j * 3; omega
      · rw [get_kp, if_neg (by omega), if_neg (by omega)]; exact hf3
      · rw [get_kp, if_neg (by omega), if_neg (by omega)]; exact hy3
      · rw [get_kp, if_pos rfl, ht]
  obtain ⟨σ4, cv', a1, n4, a2, a3, rfl, a5⟩ := happ
  refine y_st (a1) ?_
  refine y_val (fa39_1) ?_
  refine y_st (o_st a3 rfl sz37 rfl rfl) ?_
  unfold K3_14
  refine y_val (o_add) ?_
  rw [wrap_id (by omega) (by omega)]
  refine hk _ ⟨⟨by rw [St.next_put]; omega, by rw [St.get_put, if_neg (by omega)]; exact a2⟩, hfy, by rw [St.next_put]; omega, _, by rw [St.get_put, if_pos rfl], .inr ⟨σ3.next, rfl, by omega, by rw [St.next_put]; omega, by rw [St.get_put, if_neg (by omega)]; exact a5⟩⟩

/-- THE LAW, run. -/
theorem law_run {n : Nat} {sw ep pt of id t : Int} {d : List UInt8} : Yl (callK (C M) U4 (n + 2) 3 [.agg (pieceL sw ep pt of d), I id, I t] σE) (fun v _ => v = B true) := by
  refine y_body rfl Tryz.func3 (by kernel_rfl) ?_
  rw [F3_eq]
  unfold K3_0
  refine y_new (rfl) ?_
  have hp : (σE.push (.cells (pieceL sw ep pt of d) 23 true)).get σE.next = some (.cells (pieceL sw ep pt of d) 23 true) := by rw [St.get_push, if_pos rfl]
  generalize hσ1 : σE.push (.cells (pieceL sw ep pt of d) 23 true) = σ1 at hp
  unfold K3_1
  refine y_val (fa23_4) ?_
  refine y_val (o_ld hp rfl (partA_one ag9 rfl)) ?_
  have hsl : bltO (C M) .len [9] [.one (s d)] σ1 = .val (I (d.length : Nat)) := o_slen un9
  refine y_val (hsl) ?_
  refine y_val (o_gtr) ?_
  by_cases hd : d.length ≤ 4096
  · rw [decide_eq_false (by omega)]
    refine y_iff (rfl) ?_
    unfold K3_2
    have hann : ∃ s1 e1, annV id t = .tup [S s1, I e1] ∧ ((annOk id t = true ∧ e1 = 0 ∧ s1 = rmsg t id 2 bodyL) ∨ (annOk id t = false ∧ e1 = 1 ∧ s1 = [])) := by
      cases h : annOk id t with
      | true => exact ⟨_, _, by unfold annV; rw [if_pos h], .inl ⟨rfl, rfl, bytes_eq h⟩⟩
      | false => exact ⟨_, _, by unfold annV; rw [if_neg (by rw [h]; exact fun e => by cases e)], .inr ⟨rfl, rfl, rfl⟩⟩
    have hmes : ∃ s2 e2 a2 is, mesV sw ep pt of d t = .tup [S s2, I e2] ∧ rmesV sw ep pt of d t = .tup [S a2, B is] ∧ ((is = true ∧ e2 = 0 ∧ s2 = a2) ∨ (is = false ∧ e2 = 1 ∧ s2 = [])) := by
      cases h : (partsOk ep pt of && annOk sw t) with
      | true => exact ⟨_, _, _, _, by unfold mesV; rw [if_pos h], by unfold rmesV rmesOk; rw [if_pos h], .inl ⟨rfl, rfl, bytes_eq (by simp only [Bool.and_eq_true] at h; exact h.2)⟩⟩
      | false => exact ⟨_, _, _, _, by unfold mesV; rw [if_neg (by rw [h]; exact fun e => by cases e)], by unfold rmesV rmesOk; rw [if_neg (by rw [h]; exact fun e => by cases e)], .inr ⟨rfl, rfl, rfl⟩⟩
    obtain ⟨s1, e1, ha, hA⟩ := hann
    obtain ⟨s2, e2, a2, is, hm, hm', hM⟩ := hmes
    have k5 := c5 (n := n) (σ := σ1) (d := id) (t := t)
    have k6 := c6 (n := n) (σ := σ1) (sw := sw) (ep := ep) (pt := pt) (of := of) (t := t) hd
    have k8 := c8 (n := n) (σ := σ1) (sw := sw) (ep := ep) (pt := pt) (of := of) (t := t) hd
    rw [ha] at k5
    rw [hm] at k6
    rw [hm'] at k8
    refine y_cal rfl (k5) ?_
    refine y_val (rfl) ?_
    refine y_val (rfl) ?_
    unfold K3_3
    refine y_val (o_ld hp rfl (partA_agg ag23 sz23 rfl)) ?_
    refine y_cal rfl (k6) ?_
    refine y_val (rfl) ?_
    refine y_val (rfl) ?_
    unfold K3_4
    refine y_cal rfl (c7) ?_
    refine y_val (rfl) ?_
    refine y_val (rfl) ?_
    unfold K3_5
    refine y_val (o_ld hp rfl (partA_agg ag23 sz23 rfl)) ?_
    refine y_cal rfl (k8) ?_
    refine y_val (rfl) ?_
    refine y_val (rfl) ?_
    unfold K3_6
    refine y_cal rfl (c9) ?_
    refine y_new (new35) ?_
    refine y_st (o_st (by rw [St.get_push, if_pos rfl]) rfl sz35 rfl rfl) ?_
    have hf2 : (σ1.push fldB).get σ1.next = some fldB := by rw [St.get_push, if_pos rfl]
    have n2 : (σ1.push fldB).next = σ1.next + 1 := rfl
    generalize hfb : σ1.next = fb at hf2 n2
    generalize σ1.push fldB = σ2 at hf2 n2
    generalize hσ3 : (σ2.push (.cells [i 0, .slice none 0 (.ex 0)] 35 true)).put σ2.next (.cells [i 300, st fb 0 4 3] 35 true) = σ3
    have e3 : Ext σ2 σ3 := by rw [← hσ3]; exact (Ext.push _ _).put _ (Nat.le_refl _)
    have n3 : σ3.next = σ2.next + 1 := by rw [← hσ3]; rfl
    have hx3 : σ3.get σ2.next = some (.cells [i 300, st fb 0 4 3] 35 true) := by rw [← hσ3, St.get_put, if_pos rfl]
    unfold K3_7
    refine y_val (fa35_0) ?_
    refine y_val (o_ld hx3 rfl (partA_one ag3 rfl)) ?_
    refine y_val (bld39) ?_
    refine y_new (new39) ?_
    refine y_st (o_st (by rw [St.get_push, if_pos rfl]) rfl sz39 rfl rfl) ?_
    generalize hσ4 : (σ3.push (.cells [i 0, .slice none 0 (.ex 0)] 39 true)).put σ3.next (.cells [i 300, .slice none 0 (.ex 0)] 39 true) = σ4
    have e4 : Ext σ3 σ4 := by rw [← hσ4]; exact (Ext.push _ _).put _ (Nat.le_refl _)
    have n4 : σ4.next = σ3.next + 1 := by rw [← hσ4]; rfl
    have hy4 : σ4.get σ3.next = some (.cells [i 300, .slice none 0 (.ex 0)] 39 true) := by rw [← hσ4, St.get_put, if_pos rfl]
    have hx4 := (e4.2 σ2.next (by omega)).trans hx3
    have hf4 := ((e3.trans e4).2 fb (by omega)).trans hf2
    unfold K3_8
    refine y_val (fa35_1) ?_
    refine y_val (o_ld hx4 rfl (partA_one ag33 rfl)) ?_
    refine y_val (o_len un33) ?_
    unfold K3_10
    have hY : YAt σ4 σ3.next fb 0 := ⟨⟨by omega, hf4⟩, by omega, by omega, _, hy4, .inl ⟨rfl, rfl⟩⟩
    have key : ∀ fuel, Yl (L3_11 M (cu (n + 1)) (fuel + 1 + 1 + 1 + 1 + 1) (S s1) (I e1) (S s2) (I e2) (S (rmsg t id 2 bodyL)) (B (annOk id t)) (S a2) (B is) (P σ3.next 0) (.one (st fb 0 4 3)) (I 4) (I ((0 : Nat) : Int)) σ4) (fun v _ => v = B true) := by
      intro fuel
      refine app_it hY (by omega) rfl rfl fun σ5 h5 => ?_
      refine app_it h5 (by omega) rfl rfl fun σ6 h6 => ?_
      refine app_it h6 (by omega) rfl rfl fun σ7 h7 => ?_
      refine app_it h7 (by omega) rfl rfl fun σ8 h8 => ?_
      rw [L3_11_succ]
      unfold L3_11_b
      refine y_val (o_lss) ?_
      unfold K3_12
      refine y_iff (decide_eq_false (by omega)) ?_
      obtain ⟨_, _, hyl, cv, hy, ⟨_, h0⟩ | ⟨fy, rfl, y1, y2, y3⟩⟩ := h8
      · omega
      · exact last_run ⟨hyl, hy⟩ ⟨y2, y3⟩ hA hM
    exact key 999995
  · rw [decide_eq_true (by omega)]
    refine y_ift (rfl) ?_
    refine y_cal rfl (c4) ?_
    exact y_ret0 rfl
end Oct
end Go.Proofs.YtggjhmhjjghncaaGreat
