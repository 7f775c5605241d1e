/- ipsix.Take ends. -/
import Derived.Test.YtnoieleoklpciaaGreatDoorFour
set_option linter.unusedVariables false
set_option linter.unusedSimpArgs false
namespace Go.Proofs.YtnoieleoklpciaaGreatDoor
open Go.Run Go
namespace Core
open Ty
set_option maxRecDepth 1000000
section
variable {n : Nat} {σ : St} {tab : Tab}
def xD (x : Int × List UInt8) : List DV := [.flat (iC x.1), .flat (sC x.2)]
theorem if199 {α : Type} {n : Nat} {σ : St} {tab : Tab} (ht : Fr tab) {ok : Nat → Prop} {l : List α} {f : α → List DV} {p : α → Bool} {g : FuncId} {caps : List (Nat × Nat)} {cv : CV} (h : Rep ok σ cv (.sl 2 (l.map f))) (hl : l.length < 1000000) (hx : (C M).ext g = none)
    (hg : ∀ x ∈ l, ∀ (s : St) (c : List CV), Gr σ s → RepL ok s c (f x) → Yl (callK (C M) tab n g ([.agg c] ++ capVs caps) s) (fun v s' => v = B (p x) ∧ Gr s s')) :
    Yl (callK (C M) tab (n + 1) 287 [.one cv, .one (.func g caps)] σ) (fun v σ' => v = I (fIdx p l) ∧ Gr σ σ') := by
  refine y_body (ht _ rfl) Tryz.func287 (by kernel_rfl) ?_
  rw [F287_eq]
  unfold K287_0
  unfold K287_1
  refine y_val (len_m un388 (h)) ?_
  unfold K287_3
  refine y_for (L := fun f' j s => L287_4 M (callK (C M) tab n) f' (.one cv) (.one (.func g caps)) (I (l.length : Nat)) (I (j : Nat)) s) (n := l.length) (fun j s => Gr σ s ∧ ∀ i y, i < j → l[i]? = some y → p y = false) (fun f' j s hj hi hk => ?_) (fun f' s hi => ?_) 0 M σ (by omega) (by unfold M; omega) ⟨Gr.refl _, fun i x hi => by omega⟩
  · obtain ⟨e, hno⟩ := hi
    rw [L287_4_succ]
    obtain ⟨x, hxj⟩ := get_lt hj
    obtain ⟨b1, k1, c1, i1, a1, r1, hc⟩ := elem_l un388 sz433 (h.ext e) hxj
    unfold L287_4_b
    refine y_val (k_lssT (by omega)) ?_
    unfold K287_5
    refine y_ift (rfl) ?_
    unfold K287_6
    refine y_val (i1 _) ?_
    refine y_val (ld_all a1.2 ag433 sz433 hc) ?_
    refine y_fcyl hx (hg x (List.mem_of_getElem? hxj) s _ e r1) fun v s' ⟨hv, e'⟩ => ?_
    subst hv
    refine y_if (fun hp => ?_) (fun hp => ?_)
    · exact y_ret0 ⟨by rw [fIdx_some hxj hp hno], e.trans e'⟩
    · unfold K287_7
      refine y_val (o_inc (by omega)) ?_
      exact hk _ ⟨e.trans e', fun i y hi hy => by
        rcases Nat.lt_succ_iff_lt_or_eq.mp hi with h1 | rfl
        · exact hno i y h1 hy
        · rw [hxj] at hy; cases hy; exact hp⟩
  · obtain ⟨e, hno⟩ := hi
    rw [L287_4_succ]
    unfold L287_4_b
    refine y_val (k_lssF (by omega)) ?_
    unfold K287_5
    refine y_iff (rfl) ?_
    unfold K287_2
    exact y_ret0 ⟨by rw [fIdx_none hno], e⟩
theorem cf183 {α : Type} {n : Nat} {σ : St} {tab : Tab} (ht : Fr tab) {ok : Nat → Prop} {l : List α} {f : α → List DV} {p : α → Bool} {g : FuncId} {caps : List (Nat × Nat)} {cv : CV} (h : Rep ok σ cv (.sl 2 (l.map f))) (hl : l.length < 1000000) (hx : (C M).ext g = none)
    (hg : ∀ x ∈ l, ∀ (s : St) (c : List CV), Gr σ s → RepL ok s c (f x) → Yl (callK (C M) tab n g ([.agg c] ++ capVs caps) s) (fun v s' => v = B (p x) ∧ Gr s s')) :
    Yl (callK (C M) tab (n + 2) 261 [.one cv, .one (.func g caps)] σ) (fun v σ' => v = B (l.any p) ∧ Gr σ σ') := by
  refine y_body (ht _ rfl) Tryz.func261 (by kernel_rfl) ?_
  rw [F261_eq]
  unfold K261_0
  refine y_cyl rfl (if199 ht h hl hx hg) fun v s ⟨hv, e⟩ => ?_
  subst hv
  refine y_val (geq_fIdx) ?_
  exact y_ret0 ⟨rfl, e⟩
/-- is it a piece of one that is not the first? -/
def isP (x : Int × List UInt8) : Bool := x.1 == 44 && (decide (2 < x.2.length) && decide (8 ≤ (x.2.getD 1 0).toNat * 256 + (x.2.getD 2 0).toNat))
theorem ext_cells {ok : Nat → Prop} {ca : List CV} {x : Int × List UInt8} (h : RepL ok σ ca (xD x)) : ca = [iC x.1, sC x.2] := by
  obtain ⟨a, b, rfl, h1, h2⟩ := rl2 h
  obtain rfl := h1.of_flat
  obtain rfl := h2.of_flat
  rfl
theorem cl184 (ht : Fr tab) {ok : Nat → Prop} {ca : List CV} {x : Int × List UInt8} (ha : RepL ok σ ca (xD x)) : Yl (callK (C M) tab (n + 1) 262 [.agg ca] σ) (fun v σ' => v = B (isP x) ∧ Gr σ σ') := by
  obtain rfl := ext_cells ha
  obtain ⟨k, d⟩ := x
  refine y_body (ht _ rfl) Tryz.func262 (by kernel_rfl) ?_
  rw [F262_eq]
  unfold K262_0
  refine y_box fun σ1 b1 e1 a1 _ => ?_
  refine y_at ?_
  refine y_din ?_
  have a2 := a1.ext (Gr.gap σ1 23)
  have e2 := e1.trans (Gr.gap σ1 23)
  show Yl (dVal _ _ (σ1.gap 23)) _
  by_cases hk : k = 44
  · by_cases hl : (2 : Int) < (d.length : Int)
    · obtain ⟨p, hp⟩ := get_lt (l := d) (j := 1) (by omega)
      obtain ⟨q, hq⟩ := get_lt (l := d) (j := 2) (by omega)
      have hpp := p.toNat_lt
      have hqq := q.toNat_lt
      have ep : d.getD 1 0 = p := by rw [List.getD, hp]; rfl
      have eq' : d.getD 2 0 = q := by rw [List.getD, hq]; rfl
      have key : isP (k, d) = decide (8 ≤ p.toNat * 256 + q.toNat) := by
        unfold isP
        simp only [ep, eq', hk]
        rw [decide_eq_true (by omega : 2 < d.length)]
        simp
      rw [key]
      by_cases h8 : 8 ≤ p.toNat * 256 + q.toNat
      · refine y_dval (fa433_0) ?_
        refine y_dchk (ld_fld a2.2 ag3 rfl) rfl ?_
        refine y_dval (k_eqlT (by omega)) ?_
        refine y_dval (gd_on (fa433_1)) ?_
        refine y_dchk (gd_on (ld_fld a2.2 ag9 rfl)) rfl ?_
        refine y_dchk (gd_on (o_slen un9)) rfl ?_
        refine y_dval (gd_on (k_gtrT (by omega))) ?_
        refine y_dval (rfl) ?_
        refine y_dval (gd_on (fa433_1)) ?_
        refine y_dchk (gd_on (ld_fld a2.2 ag9 rfl)) rfl ?_
        refine y_dval (gd_on (o_idx hp)) ?_
        refine y_dchk (gd_on (o_cvi un5 un3 (by omega))) rfl ?_
        refine y_dval (gd_on (o_shl8 (by omega))) ?_
        refine y_dval (gd_on (fa433_1)) ?_
        refine y_dchk (gd_on (ld_fld a2.2 ag9 rfl)) rfl ?_
        refine y_dval (gd_on (o_idx hq)) ?_
        refine y_dchk (gd_on (o_cvi un5 un3 (by omega))) rfl ?_
        refine y_dval (gd_on (o_addw (by omega) (by omega))) ?_
        refine y_dval (gd_on (k_geqT (by omega))) ?_
        refine y_dval (rfl) ?_
        exact y_ret0 ⟨by rw [decide_eq_true h8]; rfl, e2⟩
      · refine y_dval (fa433_0) ?_
        refine y_dchk (ld_fld a2.2 ag3 rfl) rfl ?_
        refine y_dval (k_eqlT (by omega)) ?_
        refine y_dval (gd_on (fa433_1)) ?_
        refine y_dchk (gd_on (ld_fld a2.2 ag9 rfl)) rfl ?_
        refine y_dchk (gd_on (o_slen un9)) rfl ?_
        refine y_dval (gd_on (k_gtrT (by omega))) ?_
        refine y_dval (rfl) ?_
        refine y_dval (gd_on (fa433_1)) ?_
        refine y_dchk (gd_on (ld_fld a2.2 ag9 rfl)) rfl ?_
        refine y_dval (gd_on (o_idx hp)) ?_
        refine y_dchk (gd_on (o_cvi un5 un3 (by omega))) rfl ?_
        refine y_dval (gd_on (o_shl8 (by omega))) ?_
        refine y_dval (gd_on (fa433_1)) ?_
        refine y_dchk (gd_on (ld_fld a2.2 ag9 rfl)) rfl ?_
        refine y_dval (gd_on (o_idx hq)) ?_
        refine y_dchk (gd_on (o_cvi un5 un3 (by omega))) rfl ?_
        refine y_dval (gd_on (o_addw (by omega) (by omega))) ?_
        refine y_dval (gd_on (k_geqF (by omega))) ?_
        refine y_dval (rfl) ?_
        exact y_ret0 ⟨by rw [decide_eq_false h8]; rfl, e2⟩
    · have key : isP (k, d) = false := by
        unfold isP
        simp only
        rw [decide_eq_false (by omega : ¬ 2 < d.length), Bool.false_and, Bool.and_false]
      rw [key]
      refine y_dval (fa433_0) ?_
      refine y_dchk (ld_fld a2.2 ag3 rfl) rfl ?_
      refine y_dval (k_eqlT (by omega)) ?_
      refine y_dval (gd_on (fa433_1)) ?_
      refine y_dchk (gd_on (ld_fld a2.2 ag9 rfl)) rfl ?_
      refine y_dchk (gd_on (o_slen (a := d) un9)) rfl ?_
      refine y_dval (gd_on (k_gtrF (by omega))) ?_
      refine y_dval (rfl) ?_
      refine y_dval (gd_off) ?_
      refine y_dchk (gd_off) rfl ?_
      refine y_dval (gd_off) ?_
      refine y_dchk (gd_off) rfl ?_
      refine y_dval (gd_off) ?_
      refine y_dval (gd_off) ?_
      refine y_dchk (gd_off) rfl ?_
      refine y_dval (gd_off) ?_
      refine y_dchk (gd_off) rfl ?_
      refine y_dval (gd_off) ?_
      refine y_dval (gd_off) ?_
      refine y_dval (rfl) ?_
      exact y_ret0 ⟨rfl, e2⟩
  · have key : isP (k, d) = false := by
      unfold isP
      simp only
      rw [show (k == 44) = false by simp [hk], Bool.false_and]
    rw [key]
    refine y_dval (fa433_0) ?_
    refine y_dchk (ld_fld a2.2 ag3 rfl) rfl ?_
    refine y_dval (k_eqlF (by omega)) ?_
    refine y_dval (gd_off) ?_
    refine y_dchk (gd_off) rfl ?_
    refine y_dchk (gd_off) rfl ?_
    refine y_dval (gd_off) ?_
    refine y_dval (rfl) ?_
    refine y_dval (gd_off) ?_
    refine y_dchk (gd_off) rfl ?_
    refine y_dval (gd_off) ?_
    refine y_dchk (gd_off) rfl ?_
    refine y_dval (gd_off) ?_
    refine y_dval (gd_off) ?_
    refine y_dchk (gd_off) rfl ?_
    refine y_dval (gd_off) ?_
    refine y_dchk (gd_off) rfl ?_
    refine y_dval (gd_off) ?_
    refine y_dval (gd_off) ?_
    refine y_dval (rfl) ?_
    exact y_ret0 ⟨rfl, e2⟩
theorem piece_run (ht : Fr tab) {a b c p : Int} {src dst : List UInt8} {ch : CV} {es : List (Int × List UInt8)} {ok : Nat → Prop} (h : Rep ok σ ch (.sl 2 (es.map xD))) (hl : es.length < 1000) :
    Yl (callK (C M) tab (n + 4) 212 [.agg [iC a, iC b, iC c, iC p, sC src, sC dst, ch]] σ) (fun v σ' => ∃ q, v = B q ∧ Gr σ σ') := by
  refine y_body (ht _ rfl) Tryz.func212 (by kernel_rfl) ?_
  rw [F212_eq]
  unfold K212_0
  refine y_box fun σ1 b1 e1 a1 _ => ?_
  refine y_val (fa390_6) ?_
  refine y_val (ld_fld a1.2 ag388 rfl) ?_
  refine y_cyl rfl (cf183 (n := n + 1) (p := isP) (caps := []) ht (h.ext e1) (by omega) rfl fun x hx s c e r => cl184 (n := n) ht r) fun v s ⟨hv, e⟩ => ?_
  subst hv
  exact y_ret0 ⟨_, rfl, e1.trans e⟩
/-! an extension -/
def ExtQ (σ : St) (v : AV) (σ' : St) : Prop := Gr σ σ' ∧ ∃ (k nx : Int) (d rest : List UInt8) (ok : Bool), v = .tup [.agg [iC k, sC d], I nx, S rest, B ok] ∧ 0 ≤ nx ∧ nx < 256
theorem y_rets4 {t : TypeId} {a b c d v : AV} {Q : AV → St → Prop} (h : loadA (C M) t a σ = some v) (hq : Q (.tup [v, b, c, d]) σ) : Yl (retV (C M) [(some t, a), (none, b), (none, c), (none, d)] σ) Q := by
  refine y_ret (vs := [v, b, c, d]) ?_ hq
  show (match loadA (C M) t a σ, (some [b, c, d] : Option (List AV)) with | some v, some vs => some (v :: vs) | _, _ => none) = _
  rw [h]
theorem new305 : newO (C M) 433 σ = .new (.cells [iC 0, sC []] 433 true) (fun a => P a 0) := by kernel_rfl
theorem bld305z : bldO (C M) 433 [] σ = .val (.agg [iC 0, sC []]) := by kernel_rfl
theorem bld305 {k : Int} {d : List UInt8} : bldO (C M) 433 [(0, I k), (1, S d)] σ = .val (.agg [iC k, sC d]) := by kernel_rfl
theorem ext_run (ht : Fr tab) {k : Int} {r : List UInt8} : Yl (callK (C M) tab (n + 1) 260 [I k, S r] σ) (ExtQ σ) := by
  have ol : ∀ s, bltO (C M) .len [9] [S r] s = .val (I (r.length : Nat)) := fun s => o_slen un9
  refine y_body (ht _ rfl) Tryz.func260 (by kernel_rfl) ?_
  rw [F260_eq]
  unfold K260_0
  refine y_new (new305) ?_
  generalize hs : σ.push (.cells [iC 0, sC []] 433 true) = s
  have hn : s.next = σ.next + 1 := by rw [← hs]; rfl
  have e1 : Gr σ s := by rw [← hs]; exact Gr.push _ _
  have g4 : s.get σ.next = some (.cells [iC 0, sC []] 433 true) := by rw [← hs, St.get_push, if_pos rfl]
  unfold K260_1
  refine y_val (ol _) ?_
  by_cases h8 : (r.length : Int) < 8
  · refine y_val (k_lssT h8) ?_
    refine y_ift (rfl) ?_
    refine y_val (bld305z) ?_
    refine y_st (o_st g4 rfl sz433 rfl rfl) ?_
    exact y_rets4 (ld_agg (by rw [St.get_put, if_pos rfl]) rfl ag433 sz433 rfl) ⟨e1.put _ (Nat.le_refl _), _, _, _, _, _, rfl, by decide, by decide⟩
  · refine y_val (k_lssF (by omega)) ?_
    refine y_iff (rfl) ?_
    obtain ⟨x, hx⟩ := get_lt (l := r) (j := 0) (by omega)
    have hxx := x.toNat_lt
    unfold K260_2
    by_cases h44 : k = 44
    · refine y_val (k_eqlT h44) ?_
      refine y_ift (rfl) ?_
      refine y_at ?_
      refine y_din ?_
      generalize hs2 : s.gap 13 = s2
      have e2 : Gr s s2 := by rw [← hs2]; exact Gr.gap _ _
      have g42 := (e2.2 _ (by omega)).trans g4
      refine y_dchk (o_sft (i := 1) (j := 8) (by omega) (by omega)) rfl ?_
      refine y_dval (bld305) ?_
      refine y_deff (o_st g42 rfl sz433 rfl rfl) ?_
      refine y_dval (o_idx hx) ?_
      refine y_dsamS (fun s => o_cvi un5 un3 (by omega)) rfl (fun q => by simp only [q, Bool.and_self]) ?_
      refine y_dsamS (fun s => o_sfr (k := 8) (by omega)) rfl (fun q => by simp only [q, Bool.and_self]) ?_
      exact y_rets4 (ld_agg (by rw [St.get_put, if_pos rfl]) rfl ag433 sz433 rfl) ⟨(e1.trans e2).put _ (Nat.le_refl _), _, _, _, _, _, rfl, by omega, by omega⟩
    · refine y_val (k_eqlF h44) ?_
      refine y_iff (rfl) ?_
      unfold K260_3
      obtain ⟨y, hy⟩ := get_lt (l := r) (j := 1) (by omega)
      have hyy := y.toNat_lt
      refine y_val (o_idx hy) ?_
      refine y_val (o_cvi un5 un3 (by omega)) ?_
      refine y_val (o_mul) ?_
      rw [wrap_id (by omega) (by omega)]
      refine y_val (o_addw (by omega) (by omega)) ?_
      refine y_val (ol _) ?_
      obtain ⟨z, hz⟩ : ∃ z : Nat, (8 + 8 * (y.toNat : Int)) = (z : Int) := ⟨8 + 8 * y.toNat, by omega⟩
      rw [hz]
      by_cases hb : (r.length : Int) < (z : Int)
      · refine y_val (k_gtrT hb) ?_
        refine y_ift (rfl) ?_
        refine y_val (bld305z) ?_
        refine y_st (o_st g4 rfl sz433 rfl rfl) ?_
        exact y_rets4 (ld_agg (by rw [St.get_put, if_pos rfl]) rfl ag433 sz433 rfl) ⟨e1.put _ (Nat.le_refl _), _, _, _, _, _, rfl, by decide, by decide⟩
      · refine y_val (k_gtrF (by omega)) ?_
        refine y_iff (rfl) ?_
        refine y_at ?_
        refine y_din ?_
        generalize hs2 : s.gap 15 = s2
        have e2 : Gr s s2 := by rw [← hs2]; exact Gr.gap _ _
        have g42 := (e2.2 _ (by omega)).trans g4
        refine y_dchk (o_sft (i := 2) (j := z) (by omega) (by omega)) rfl ?_
        refine y_dval (bld305) ?_
        refine y_deff (o_st g42 rfl sz433 rfl rfl) ?_
        refine y_dval (o_idx hx) ?_
        refine y_dsamS (fun s => o_cvi un5 un3 (by omega)) rfl (fun q => by simp only [q, Bool.and_self]) ?_
        refine y_dsamS (fun s => o_sfr (k := z) (by omega)) rfl (fun q => by simp only [q, Bool.and_self]) ?_
        exact y_rets4 (ld_agg (by rw [St.get_put, if_pos rfl]) rfl ag433 sz433 rfl) ⟨(e1.trans e2).put _ (Nat.le_refl _), _, _, _, _, _, rfl, by omega, by omega⟩
theorem extn_run (ht : Fr tab) {k : Int} : ∃ b, callK (C M) tab (n + 1) 259 [I k] σ = some (B b, σ) := by
  have key : Yl (callK (C M) tab (n + 1) 259 [I k] σ) (fun v s => s = σ ∧ ∃ b, v = B b) := by
    refine y_body (ht _ rfl) Tryz.func259 (by kernel_rfl) ?_
    rw [F259_eq]
    unfold K259_0
    by_cases h0 : k = 0
    · refine y_val (k_eqlT (by omega)) ?_
      refine y_val (gd_off) ?_
      refine y_val (gd_off) ?_
      refine y_val (rfl) ?_
      refine y_val (gd_off) ?_
      refine y_val (gd_off) ?_
      refine y_val (rfl) ?_
      refine y_val (gd_off) ?_
      refine y_val (gd_off) ?_
      refine y_val (rfl) ?_
      exact y_ret0 ⟨rfl, _, rfl⟩
    by_cases h1 : k = 43
    · refine y_val (k_eqlF (by omega)) ?_
      refine y_val (gd_on (rfl)) ?_
      refine y_val (gd_on (k_eqlT (by omega))) ?_
      refine y_val (rfl) ?_
      refine y_val (gd_off) ?_
      refine y_val (gd_off) ?_
      refine y_val (rfl) ?_
      refine y_val (gd_off) ?_
      refine y_val (gd_off) ?_
      refine y_val (rfl) ?_
      exact y_ret0 ⟨rfl, _, rfl⟩
    by_cases h2 : k = 44
    · refine y_val (k_eqlF (by omega)) ?_
      refine y_val (gd_on (rfl)) ?_
      refine y_val (gd_on (k_eqlF (by omega))) ?_
      refine y_val (rfl) ?_
      refine y_val (gd_on (rfl)) ?_
      refine y_val (gd_on (k_eqlT (by omega))) ?_
      refine y_val (rfl) ?_
      refine y_val (gd_off) ?_
      refine y_val (gd_off) ?_
      refine y_val (rfl) ?_
      exact y_ret0 ⟨rfl, _, rfl⟩
    by_cases h3 : k = 60
    · refine y_val (k_eqlF (by omega)) ?_
      refine y_val (gd_on (rfl)) ?_
      refine y_val (gd_on (k_eqlF (by omega))) ?_
      refine y_val (rfl) ?_
      refine y_val (gd_on (rfl)) ?_
      refine y_val (gd_on (k_eqlF (by omega))) ?_
      refine y_val (rfl) ?_
      refine y_val (gd_on (rfl)) ?_
      refine y_val (gd_on (k_eqlT (by omega))) ?_
      refine y_val (rfl) ?_
      exact y_ret0 ⟨rfl, _, rfl⟩
    · refine y_val (k_eqlF (by omega)) ?_
      refine y_val (gd_on (rfl)) ?_
      refine y_val (gd_on (k_eqlF (by omega))) ?_
      refine y_val (rfl) ?_
      refine y_val (gd_on (rfl)) ?_
      refine y_val (gd_on (k_eqlF (by omega))) ?_
      refine y_val (rfl) ?_
      refine y_val (gd_on (rfl)) ?_
      refine y_val (gd_on (k_eqlF (by omega))) ?_
      refine y_val (rfl) ?_
      exact y_ret0 ⟨rfl, _, rfl⟩
  obtain ⟨v, s, h, rfl, b, rfl⟩ := key
  exact ⟨b, h⟩
/-! the header -/
def SixQ (σ : St) (v : AV) (σ' : St) : Prop := Gr σ σ' ∧ ∃ (a b c p : Int) (src dst : List UInt8) (ch : CV) (body : List UInt8) (e : Int), v = .tup [.agg [iC a, iC b, iC c, iC p, sC src, sC dst, ch], S body, I e] ∧ Er e ∧ (e = 0 → src.length = 16 ∧ dst.length = 16 ∧ 0 ≤ p ∧ p < 256) ∧ ∃ es : List (Int × List UInt8), Rep (fun _ => True) σ' ch (.sl 2 (es.map xD)) ∧ es.length < 1000
def h60 : List CV := [iC 0, iC 0, iC 0, iC 0, sC [], sC [], .slice none 0 (.ex 0)]
theorem new267 : newO (C M) 390 σ = .new (.cells h60 390 true) (fun a => P a 0) := by kernel_rfl
theorem bld267z : bldO (C M) 390 [] σ = .val (.agg h60) := by kernel_rfl
theorem len7 {α : Type} {z : List α} (h : z.length = 7) : ∃ a b c d e f g, z = [a, b, c, d, e, f, g] := by
  match z, h with
  | [a, b, c, d, e, f, g], _ => exact ⟨a, b, c, d, e, f, g, rfl⟩
theorem six_err {s : St} {b2 : Nat} {e : Int} {z : List CV} (gr : Gr σ s) (l0 : σ.next ≤ b2) (g2 : s.get b2 = some (.cells z 390 true)) (hz : z.length = 7) (he : Er e) (he0 : e ≠ 0) :
    Yl (bnd (bldO (C M) 390 []) (fun v6 => bnd (stO (C M) 390 (P b2 0) v6) (fun _ => retV (C M) [(some 390, P b2 0), (none, S []), (none, I e)])) s) (SixQ σ) := by
  obtain ⟨a, b, c, d, e', f, g, rfl⟩ := len7 hz
  refine y_val (bld267z) ?_
  refine y_st (o_st g2 rfl sz390 rfl rfl) ?_
  exact y_rets3 (ld_agg (by rw [St.get_put, if_pos rfl]) rfl ag390 sz390 rfl) ⟨gr.put _ l0, _, _, _, _, _, _, _, _, _, rfl, he, fun h => absurd h he0, [], .nil, by decide⟩
structure SixI (σ s : St) (b2 b11 : Nat) (a b c p : Int) (src dst : List UInt8) (ch : CV) (es : List (Int × List UInt8)) : Prop where
  gr : Gr σ s
  l0 : σ.next ≤ b2
  l1 : b2 < b11
  l2 : b11 < s.next
  g2 : ∃ z, s.get b2 = some (.cells z 390 true) ∧ z.length = 7
  g11 : s.get b11 = some (.cells [iC a, iC b, iC c, iC p, sC src, sC dst, ch] 390 true)
  bl : Bld 0 (b11 + 1) s 1 433 ch (es.map xD)
  hp : 0 ≤ p ∧ p < 256
  hs : src.length = 16 ∧ dst.length = 16
theorem six_loop (ht : Fr tab) {b2 b11 : Nat} {a b c : Int} {src dst : List UInt8} : ∀ (k fuel : Nat) (s : St) (p : Int) (ch : CV) (es : List (Int × List UInt8)) (r : List UInt8), es.length + k = 8 → k < fuel → SixI σ s b2 b11 a b c p src dst ch es → Yl (L211_9 M (callK (C M) tab (n + 1)) fuel (P b2 0) (P b11 0) (S r) s) (SixQ σ) := by
  intro k
  induction k with
  | zero =>
    intro fuel s p ch es r hj hf h
    obtain ⟨f, rfl⟩ : ∃ f, fuel = f + 1 := ⟨fuel - 1, by omega⟩
    obtain ⟨gr, l0, l1, l2, ⟨z, g2, hz⟩, g11, bl, hp, hs⟩ := h
    have hrp := bl.rep (ok := fun _ => True) fun _ _ => trivial
    rw [L211_9_succ]
    unfold L211_9_b
    obtain ⟨q, hq⟩ := extn_run (n := n) (σ := s) (k := p) ht
    refine y_val (fa390_3) ?_
    refine y_val (o_ld g11 rfl (partA_one ag3 rfl)) ?_
    refine y_cal rfl (hq) ?_
    refine y_if (fun hb => ?_) (fun hb => ?_)
    · unfold K211_10
      refine y_val (fa390_3) ?_
      refine y_val (o_ld g11 rfl (partA_one ag3 rfl)) ?_
      refine y_cyl rfl (ext_run (n := n) (σ := s) (k := p) (r := r) ht) fun v s2 ⟨e2, k', nx, d, rest, ok, hv, hn1, hn2⟩ => ?_
      subst hv
      refine y_val (rfl) ?_
      refine y_val (rfl) ?_
      refine y_val (rfl) ?_
      refine y_val (rfl) ?_
      refine y_new (new305) ?_
      refine y_st (o_st (by rw [St.get_push, if_pos rfl]) rfl sz433 rfl rfl) ?_
      generalize hs3 : (s2.push (.cells [iC 0, sC []] 433 true)).put s2.next (.cells [iC k', sC d] 433 true) = s3
      have e3 : Gr s s3 := e2.trans (by rw [← hs3]; exact (Gr.push _ _).put _ (Nat.le_refl _))
      have g13 := (e3.2 _ l2).trans g11
      have g23 := (e3.2 _ (by omega)).trans g2
      have hrp3 := hrp.ext e3
      cases ok with
      | false =>
        refine y_val (o_not) ?_
        refine y_goff rfl ?_
        refine y_goff rfl ?_
        refine y_goff rfl ?_
        refine y_goff rfl ?_
        refine y_val (rfl) ?_
        refine y_goff rfl ?_
        refine y_goff rfl ?_
        refine y_goff rfl ?_
        refine y_goff rfl ?_
        refine y_goff rfl ?_
        refine y_goff rfl ?_
        refine y_goff rfl ?_
        refine y_goff rfl ?_
        refine y_goff rfl ?_
        refine y_val (rfl) ?_
        refine y_ift (rfl) ?_
        exact six_err (gr.trans e3) l0 g23 hz ⟨by decide, by decide⟩ (by decide)
      | true =>
        refine y_val (o_not) ?_
        refine y_gon rfl fa390_6 ?_
        refine y_gon rfl (o_ld g13 rfl (partA_one ag388 rfl)) ?_
        refine y_gon rfl (len_of un388 hrp3) ?_
        refine y_gon rfl (k_eqlT (by simp; omega)) ?_
        refine y_val (rfl) ?_
        refine y_goff rfl ?_
        refine y_goff rfl ?_
        refine y_goff rfl ?_
        refine y_goff rfl ?_
        refine y_goff rfl ?_
        refine y_goff rfl ?_
        refine y_goff rfl ?_
        refine y_goff rfl ?_
        refine y_goff rfl ?_
        refine y_val (rfl) ?_
        refine y_ift (rfl) ?_
        exact six_err (gr.trans e3) l0 g23 hz ⟨by decide, by decide⟩ (by decide)
    · unfold K211_8
      obtain ⟨z1, z2, z3, z4, z5, z6, z7, rfl⟩ := len7 hz
      refine y_val (o_ld g11 rfl (partA_agg ag390 sz390 rfl)) ?_
      refine y_st (o_st g2 rfl sz390 rfl rfl) ?_
      exact y_rets3 (ld_agg (by rw [St.get_put, if_pos rfl]) rfl ag390 sz390 rfl) ⟨gr.put _ l0, _, _, _, _, _, _, _, _, _, rfl, ⟨by decide, by decide⟩, fun _ => ⟨hs.1, hs.2, hp⟩, es, (bl.to (by rw [St.next_put]; omega) fun i hi hlt => by rw [St.get_put, if_neg (by omega)]).rep fun _ _ => trivial, by omega⟩
  | succ k ih =>
    intro fuel s p ch es r hj hf h
    obtain ⟨f, rfl⟩ : ∃ f, fuel = f + 1 := ⟨fuel - 1, by omega⟩
    obtain ⟨gr, l0, l1, l2, ⟨z, g2, hz⟩, g11, bl, hp, hs⟩ := h
    have hrp := bl.rep (ok := fun _ => True) fun _ _ => trivial
    rw [L211_9_succ]
    unfold L211_9_b
    obtain ⟨q, hq⟩ := extn_run (n := n) (σ := s) (k := p) ht
    refine y_val (fa390_3) ?_
    refine y_val (o_ld g11 rfl (partA_one ag3 rfl)) ?_
    refine y_cal rfl (hq) ?_
    refine y_if (fun hb => ?_) (fun hb => ?_)
    · unfold K211_10
      refine y_val (fa390_3) ?_
      refine y_val (o_ld g11 rfl (partA_one ag3 rfl)) ?_
      refine y_cyl rfl (ext_run (n := n) (σ := s) (k := p) (r := r) ht) fun v s2 ⟨e2, k', nx, d, rest, ok, hv, hn1, hn2⟩ => ?_
      subst hv
      refine y_val (rfl) ?_
      refine y_val (rfl) ?_
      refine y_val (rfl) ?_
      refine y_val (rfl) ?_
      refine y_new (new305) ?_
      refine y_st (o_st (by rw [St.get_push, if_pos rfl]) rfl sz433 rfl rfl) ?_
      have n2 := e2.1
      generalize hs3 : (s2.push (.cells [iC 0, sC []] 433 true)).put s2.next (.cells [iC k', sC d] 433 true) = s3
      have n3 : s3.next = s2.next + 1 := by rw [← hs3]; rfl
      have g7 : s3.get s2.next = some (.cells [iC k', sC d] 433 true) := by rw [← hs3, St.get_put, if_pos rfl]
      have e3 : Gr s s3 := e2.trans (by rw [← hs3]; exact (Gr.push _ _).put _ (Nat.le_refl _))
      have g13 := (e3.2 _ l2).trans g11
      have g23 := (e3.2 _ (by omega)).trans g2
      have hrp3 := hrp.ext e3
      have cont : Yl (bnd (fadO (C M) 390 (P b11 0) 6) (fun v25 => bnd (ldO (C M) 388 v25) (fun v26 => bnd (ldO (C M) 433 (P s2.next 0)) (fun v27 => bnd (bslO (C M) 388 1 [(0, v27)]) (fun v28 => bnd (bltO (C M) .append [388, 388] [v26, v28]) (fun v29 => bnd (fadO (C M) 390 (P b11 0) 6) (fun v30 => bnd (stO (C M) 388 v30 v29) (fun _ => bnd (fadO (C M) 390 (P b11 0) 3) (fun v31 => bnd (stO (C M) 3 v31 (I nx)) (fun _ => L211_9 M (callK (C M) tab (n + 1)) f (P b2 0) (P b11 0) (S rest)))))))))) s3) (SixQ σ) := by
        have bs305 : ∀ s, bslO (C M) 388 1 [(0, .agg [iC k', sC d])] s = .new (.cells [iC k', sC d] 433 true) (fun i => .one (.slice (some (i, 0)) 1 (.to (1 + 1)))) := fun s => by kernel_rfl
        have bl3 := bl.ext e3
        have hat := fun i (hi : isAt ch i) => bl3.at hi
        refine y_val (fa390_6) ?_
        refine y_val (o_ld g13 rfl (partA_one ag388 rfl)) ?_
        refine y_val (o_ld g7 rfl (partA_agg ag433 sz433 rfl)) ?_
        refine y_app un388 in433 (by kernel_rfl) (by kernel_rfl) (by decide) (bs305 _) bl3 (by have := e3.1; omega) (x := [.flat (iC k'), .flat (sC d)]) (.cons (.flat rfl) (.cons (.flat rfl) .nil)) rfl (by simp; omega) fun s4 ch' bl4 n4 g4 => ?_
        have hn := e3.1
        have g14 := (g4 b11 (by omega) fun h => by have := hat _ h; omega).trans g13
        refine y_val (fa390_6) ?_
        refine y_st (o_st g14 rfl sz388 rfl rfl) ?_
        refine y_val (fa390_3) ?_
        refine y_st (o_st (by rw [St.get_put, if_pos rfl]) rfl sz3 rfl rfl) ?_
        refine ih f _ nx ch' (es ++ [(k', d)]) rest (by simp; omega) (by omega) ⟨⟨by rw [St.next_put, St.next_put]; have := gr.1; omega, fun i hi => ?_⟩, l0, l1, by rw [St.next_put, St.next_put]; omega, ⟨z, ?_, hz⟩, by rw [St.get_put, if_pos rfl]; rfl, ?_, ⟨hn1, hn2⟩, hs⟩
        · rw [St.get_put, if_neg (by omega), St.get_put, if_neg (by omega), g4 i (by have := gr.1; omega) (fun h => by have := hat _ h; omega), e3.2 i (by have := gr.1; omega), gr.2 i hi]
        · rw [St.get_put, if_neg (by omega), St.get_put, if_neg (by omega), g4 b2 (by omega) (fun h => by have := hat _ h; omega)]; exact g23
        · rw [List.map_append]
          exact bl4.to (by rw [St.next_put, St.next_put]; omega) fun i hi hlt => by rw [St.get_put, if_neg (by omega), St.get_put, if_neg (by omega)]
      cases ok with
      | false =>
        refine y_val (o_not) ?_
        refine y_goff rfl ?_
        refine y_goff rfl ?_
        refine y_goff rfl ?_
        refine y_goff rfl ?_
        refine y_val (rfl) ?_
        refine y_goff rfl ?_
        refine y_goff rfl ?_
        refine y_goff rfl ?_
        refine y_goff rfl ?_
        refine y_goff rfl ?_
        refine y_goff rfl ?_
        refine y_goff rfl ?_
        refine y_goff rfl ?_
        refine y_goff rfl ?_
        refine y_val (rfl) ?_
        refine y_ift (rfl) ?_
        exact six_err (gr.trans e3) l0 g23 hz ⟨by decide, by decide⟩ (by decide)
      | true =>
        refine y_val (o_not) ?_
        refine y_gon rfl fa390_6 ?_
        refine y_gon rfl (o_ld g13 rfl (partA_one ag388 rfl)) ?_
        refine y_gon rfl (len_of un388 hrp3) ?_
        refine y_gon rfl (k_eqlF (by simp; omega)) ?_
        refine y_val (rfl) ?_
        refine y_gon rfl fa433_0 ?_
        refine y_gon rfl (o_ld g7 rfl (partA_one ag3 rfl)) ?_
        by_cases hk : k' = 0
        · refine y_gon rfl (k_eqlT hk) ?_
          refine y_gon rfl (rfl) ?_
          refine y_gon rfl fa390_6 ?_
          refine y_gon rfl (o_ld g13 rfl (partA_one ag388 rfl)) ?_
          refine y_gon rfl (len_of un388 hrp3) ?_
          refine y_gon rfl (o_gtr) ?_
          refine y_gon rfl (rfl) ?_
          refine y_val (rfl) ?_
          refine y_if (fun hb => ?_) (fun hb => ?_)
          · exact six_err (gr.trans e3) l0 g23 hz ⟨by decide, by decide⟩ (by decide)
          · exact cont
        · refine y_gon rfl (k_eqlF hk) ?_
          refine y_gon rfl (rfl) ?_
          refine y_goff rfl ?_
          refine y_goff rfl ?_
          refine y_goff rfl ?_
          refine y_goff rfl ?_
          refine y_gon rfl (rfl) ?_
          refine y_val (rfl) ?_
          refine y_iff (rfl) ?_
          exact cont
    · unfold K211_8
      obtain ⟨z1, z2, z3, z4, z5, z6, z7, rfl⟩ := len7 hz
      refine y_val (o_ld g11 rfl (partA_agg ag390 sz390 rfl)) ?_
      refine y_st (o_st g2 rfl sz390 rfl rfl) ?_
      exact y_rets3 (ld_agg (by rw [St.get_put, if_pos rfl]) rfl ag390 sz390 rfl) ⟨gr.put _ l0, _, _, _, _, _, _, _, _, _, rfl, ⟨by decide, by decide⟩, fun _ => ⟨hs.1, hs.2, hp⟩, es, (bl.to (by rw [St.next_put]; omega) fun i hi hlt => by rw [St.get_put, if_neg (by omega)]).rep fun _ _ => trivial, by omega⟩
theorem six_run (ht : Fr tab) {r : List UInt8} (hrl : r.length ≤ 100000) : Yl (callK (C M) tab (n + 4) 211 [S r] σ) (SixQ σ) := by
  have ol : ∀ s, bltO (C M) .len [9] [S r] s = .val (I (r.length : Nat)) := fun s => o_slen un9
  refine y_body (ht _ rfl) Tryz.func211 (by kernel_rfl) ?_
  rw [F211_eq]
  unfold K211_0
  refine y_new (new267) ?_
  generalize hs : σ.push (.cells h60 390 true) = s
  have hn : s.next = σ.next + 1 := by rw [← hs]; rfl
  have e1 : Gr σ s := by rw [← hs]; exact Gr.push _ _
  have g2 : s.get σ.next = some (.cells h60 390 true) := by rw [← hs, St.get_push, if_pos rfl]
  unfold K211_1
  refine y_val (ol _) ?_
  by_cases h40 : (r.length : Int) < 40
  · refine y_val (k_lssT h40) ?_
    refine y_ift (rfl) ?_
    exact six_err e1 (Nat.le_refl _) g2 rfl ⟨by decide, by decide⟩ (by decide)
  · refine y_val (k_lssF (by omega)) ?_
    refine y_iff (rfl) ?_
    unfold K211_2
    refine y_cal rfl (take_run (n := n + 1) (k := 4) ht (by decide) (by decide)) ?_
    unfold takeP
    rw [if_neg (by omega)]
    refine y_val (rfl) ?_
    refine y_val (rfl) ?_
    refine y_val (rfl) ?_
    unfold K211_3
    refine y_val (o_sfr (k := 4) (by omega)) ?_
    refine y_cal rfl (take_run (n := n + 1) (k := 2) ht (by decide) (by decide)) ?_
    unfold takeP
    rw [if_neg (by rw [List.length_drop]; omega)]
    refine y_val (rfl) ?_
    refine y_val (rfl) ?_
    refine y_val (rfl) ?_
    have hf := numB_lt 4 (r.take 4) (by rw [List.length_take]; omega)
    have hz := numB_lt 2 ((r.drop 4).take 2) (by rw [List.length_take, List.length_drop]; omega)
    generalize numB (r.take 4) = first at hf ⊢
    generalize numB ((r.drop 4).take 2) = size at hz ⊢
    unfold K211_4
    refine y_at ?_
    refine y_din ?_
    generalize hs2 : s.gap 18 = s2
    have n2 : s2.next = s.next + 18 := by rw [← hs2]; rfl
    have e2 : Gr s s2 := by rw [← hs2]; exact Gr.gap _ _
    obtain ⟨q1, hq1, eq1⟩ := o_andx (t := 3) (a := (first : Int) / ((2 ^ 20 : Nat) : Int)) (b := 255) (by decide)
    obtain ⟨q2, hq2, eq2⟩ := o_andx (t := 3) (a := (first : Int)) (b := 1048575) (by decide)
    obtain ⟨x6, hx6⟩ := get_lt (l := r) (j := 6) (by omega)
    obtain ⟨x7, hx7⟩ := get_lt (l := r) (j := 7) (by omega)
    have h6 := x6.toNat_lt
    have h7 := x7.toNat_lt
    have bld : ∀ (a b c p : Int) (x y : List UInt8) (s : St), bldO (C M) 390 [(0, I a), (1, I b), (2, I c), (3, I p), (4, S x), (5, S y)] s = .val (.agg [iC a, iC b, iC c, iC p, sC x, sC y, .slice none 0 (.ex 0)]) := fun a b c p x y s => by kernel_rfl
    refine y_dval (o_shr (c := 20) (by decide)) ?_
    refine y_dval (eq1 _) ?_
    refine y_dval (eq2 _) ?_
    refine y_dval (o_idx hx7) ?_
    refine y_dchk (o_cvi un5 un3 (by omega)) rfl ?_
    refine y_dval (o_idx hx6) ?_
    refine y_dchk (o_cvi un5 un3 (by omega)) rfl ?_
    refine y_dchk (o_sft (i := 8) (j := 24) (by omega) (by omega)) rfl ?_
    refine y_dchk (o_sft (i := 24) (j := 40) (by omega) (by omega)) rfl ?_
    refine y_dval (bld _ _ _ _ _ _ _) ?_
    refine y_dnew (new267) ?_
    generalize hs3 : s2.lay (Nat.add s.next 16) (.cells h60 390 true) = s3
    have n3 : s3.next = s.next + 18 := by rw [← hs3]; exact n2
    have e3 : Gr s s3 := by rw [← hs3]; exact e2.lay _ (by simp only [Nat.add_eq]; omega)
    have g3 : s3.get (Nat.add s.next 16) = some (.cells h60 390 true) := by rw [← hs3, St.get_lay, if_pos rfl]
    refine y_deff (o_st g3 rfl sz390 rfl rfl) ?_
    generalize hs4 : s3.put (Nat.add s.next 16) _ = s4
    have n4 : s4.next = s.next + 18 := by rw [← hs4, St.next_put]; exact n3
    have e4 : Gr s s4 := by rw [← hs4]; exact e3.put _ (by simp only [Nat.add_eq]; omega)
    have g4 : s4.get (Nat.add s.next 16) = some (.cells [iC (q1 : Nat), iC (q2 : Nat), iC (x7.toNat : Nat), iC (x6.toNat : Nat), sC ((r.drop 8).take (24 - 8)), sC ((r.drop 24).take (40 - 24)), .slice none 0 (.ex 0)] 390 true) := by rw [← hs4, St.get_put, if_pos rfl]
    have e14 := e1.trans e4
    have g24 := (e4.2 σ.next (by omega)).trans g2
    have lsrc : ((r.drop 8).take (24 - 8)).length = 16 := by rw [List.length_take, List.length_drop]; omega
    have ldst : ((r.drop 24).take (40 - 24)).length = 16 := by rw [List.length_take, List.length_drop]; omega
    unfold K211_5
    refine y_val (o_shr (c := 28) (by decide)) ?_
    by_cases c1 : (first : Int) / ((2 ^ 28 : Nat) : Int) = 6
    · refine y_val (k_neqF c1) ?_
      refine y_iff (rfl) ?_
      refine y_val (ol _) ?_
      refine y_val (o_sub) ?_
      rw [wrap_id (by omega) (by omega)]
      by_cases c2 : (r.length : Int) - 40 < (size : Int)
      · refine y_val (k_gtrT c2) ?_
        refine y_ift (rfl) ?_
        exact six_err e14 (Nat.le_refl _) g24 rfl ⟨by decide, by decide⟩ (by decide)
      · refine y_val (k_gtrF (by omega)) ?_
        refine y_iff (rfl) ?_
        unfold K211_6
        refine y_val (o_addw (by omega) (by omega)) ?_
        rw [show (40 : Int) + (size : Int) = ((40 + size : Nat) : Int) by omega]
        refine y_val (o_sft (i := 40) (j := 40 + size) (by omega) (by omega)) ?_
        unfold K211_7
        exact six_loop (n := n + 2) ht 8 M _ _ _ [] _ rfl (by unfold M; omega) ⟨e14, Nat.le_refl _, by simp only [Nat.add_eq]; omega, by simp only [Nat.add_eq]; omega, ⟨_, g24, rfl⟩, g4, Bld.nil, ⟨Int.natCast_nonneg _, by omega⟩, ⟨lsrc, ldst⟩⟩
    · refine y_val (k_neqT c1) ?_
      refine y_ift (rfl) ?_
      exact six_err e14 (Nat.le_refl _) g24 rfl ⟨by decide, by decide⟩ (by decide)
end
end Core
end Go.Proofs.YtnoieleoklpciaaGreatDoor
