/- strings.Builder: what it holds. -/
import Derived.Test.YtggjhmhjjghncaaGreatOct
namespace Go.Proofs.YtggjhmhjjghncaaGreat
open Go.Run Go
namespace Oct
open Ty
set_option maxRecDepth 100000
/-- a builder's text lies -/
def BufAt (lo : Nat) (σ : St) (j : Nat) (bf : CV) (s : List UInt8) : Prop :=
  (bf = .slice none 0 (.ex 0) ∧ s = []) ∨ ∃ k, bf = .slice (some (k, 0)) s.length (.to (0 + 1)) ∧ lo ≤ k ∧ k < σ.next ∧ k ≠ j ∧ σ.get k = some (.cells (cellsOfBytes s) 5 false) ∧ s ≠ []
/-- a builder at j, all of it from lo on -/
def BAt (lo : Nat) (σ : St) (j : Nat) (s : List UInt8) : Prop :=
  ∃ ad bf, σ.get j = some (.cells [ad, bf] 128 true) ∧ lo ≤ j ∧ j < σ.next ∧ (ad = .ptr none ∨ ad = .ptr (some (j, 0))) ∧ BufAt lo σ j bf s
section
variable {σ : St} {j : Nat}
theorem eqnil : binO (C M) .eql 125 NP NP σ = .val (B true) := by kernel_rfl
theorem eqptr {i o : Nat} : binO (C M) .eql 125 (P i o) NP σ = .val (B false) := by kernel_rfl
theorem neself : binO (C M) .neq 125 (P j 0) (P j 0) σ = .val (B false) := by
  have h : binO (C M) .neq 125 (P j 0) (P j 0) σ = (match (bif Nat.beq j j then some true else none) with | some b => boolV (notIf true b) | none => .no) := by kernel_rfl
  rw [h, Nat.beq_refl]; rfl
theorem cv1 {l : List CV} {e : TypeId} {x : Bool} (h : σ.get j = some (.cells l e x)) (hl : 0 < l.length) : cvO (C M) 125 230 (P j 0) σ = .val (P j 0) := by
  have e1 : cvO (C M) 125 230 (P j 0) σ = (match σ.get j, size (C M) 128 with
    | some (.cells l _ _), some (_ + 1) => bif Nat.blt 0 (lenN l) then .val (P j 0) else .no
    | _, _ => .no) := by kernel_rfl
  rw [e1, h, sz128]
  have hb : Nat.blt 0 (lenN l) = true := by rw [lenN_len]; exact Nat.ble_eq_true_of_le hl
  simp only [hb, cond_true]
theorem cv2 {a b : CV} (h : σ.get j = some (.cells [a, b] 128 true)) : cvO (C M) 230 125 (P j 0) σ = .val (P j 0) := by
  have e1 : cvO (C M) 230 125 (P j 0) σ = (match σ.get j, size (C M) 128 with
    | some (.cells l e true), some (_ + 1) => bif liesAt (C M).P (C M).P.depth e (lenN l / (C M).P.cellsOf e) 0 128 1 then .val (P j 0) else .no
    | _, _ => .no) := by kernel_rfl
  rw [e1, h, sz128]
  have hb : liesAt (C M).P (C M).P.depth 128 (lenN [a, b] / (C M).P.cellsOf 128) 0 128 1 = true := by kernel_rfl
  simp only [hb, cond_true]
end
theorem y_ext {cx : Cx} {call : CallF} {σ : St} {Q : AV → St → Prop} {k : AV → Kt} {f : FuncId} {v : AV} (hx : cx.ext f = some .same) (hk : Yl (k v σ) Q) : Yl (bnd (calO cx call (fnV f) [v]) k σ) Q := by
  refine y_val (v := v) ?_ hk
  unfold calO callV fnV
  simp only [hx, capVs, List.append_nil]
  rfl
theorem check_run {tab : Tab} {n lo j : Nat} {σ : St} {s : List UInt8} (ht : tab 72 = none) (h : BAt lo σ j s) : ∃ σ', callK (C M) tab (n + 1) 72 [P j 0] σ = some (.tup [], σ') ∧ σ'.next = σ.next ∧ (∀ i, i ≠ j → σ'.get i = σ.get i) ∧
    ∃ bf, σ'.get j = some (.cells [.ptr (some (j, 0)), bf] 128 true) ∧ BufAt lo σ j bf s := by
  obtain ⟨ad, bf, h1, h2, h3, h4, h5⟩ := h
  rcases h4 with rfl | rfl
  · refine ⟨σ.put j (.cells [.ptr (some (j, 0)), bf] 128 true), callK_body ht Tryz.func72 (by kernel_rfl) ?_, rfl, fun i hi => by rw [St.get_put, if_neg hi], bf, by rw [St.get_put, if_pos rfl], h5⟩
    rw [F72_eq]
    refine Yl.eq ?_
    unfold K72_0
    refine y_val (rfl) ?_
    refine y_val (fa128_0) ?_
    refine y_val (o_ld h1 rfl (partA_one ag125 rfl)) ?_
    refine y_val (eqnil) ?_
    refine y_ift (rfl) ?_
    refine y_val (cv1 h1 (by simp)) ?_
    refine y_ext (by kernel_rfl) ?_
    refine y_val (cv2 h1) ?_
    refine y_val (rfl) ?_
    refine y_val (fa128_0) ?_
    refine y_st (o_st h1 rfl sz125 rfl rfl) ?_
    exact y_ret rfl ⟨rfl, rfl⟩
  · refine ⟨σ, callK_body ht Tryz.func72 (by kernel_rfl) ?_, rfl, fun i _ => rfl, bf, h1, h5⟩
    rw [F72_eq]
    refine Yl.eq ?_
    unfold K72_0
    refine y_val (rfl) ?_
    refine y_val (fa128_0) ?_
    refine y_val (o_ld h1 rfl (partA_one ag125 rfl)) ?_
    refine y_val (eqptr) ?_
    refine y_iff (rfl) ?_
    refine y_val (rfl) ?_
    refine y_val (fa128_0) ?_
    refine y_val (o_ld h1 rfl (partA_one ag125 rfl)) ?_
    refine y_val (neself) ?_
    refine y_iff (rfl) ?_
    exact y_ret rfl ⟨rfl, rfl⟩
theorem zero5 : rowOf (C M) 5 1 1 = some [.int .u8 0] := by kernel_rfl
/-- a text behind a text -/
theorem append_bytes {lo : Nat} {σ : St} {j : Nat} {bf : CV} {s t : List UInt8} (hj : j < σ.next) (hlo : lo ≤ j) (h : BufAt lo σ j bf s) (hl : s.length + t.length ≤ 1099511627776) :
    ∃ σ' bf', (bltO (C M) .append [126, 9] [.one bf, S t] σ = .st (.one bf') σ' ∨ (bltO (C M) .append [126, 9] [.one bf, S t] σ = .val (.one bf') ∧ σ' = σ)) ∧
      BufAt lo σ' j bf' (s ++ t) ∧ σ.next ≤ σ'.next ∧ (∀ i, i < lo → σ'.get i = σ.get i) ∧ σ'.get j = σ.get j := by
  obtain ⟨inf, hi, he⟩ := Option.map_eq_some_iff.mp (in5 (m := M))
  obtain ⟨he1, he2⟩ := Prod.mk.inj he
  have he1 : inf.size = 1 := he1
  have he2 : inf.bytes = 1 := he2
  have hno : noInt (C M) [9] = true := by kernel_rfl
  have hcond : ∀ len, len + t.length ≤ 1099511627776 → (noInt (C M) [9] && !(Nat.beq inf.size 0) && Nat.ble (Nat.mul (Nat.add (Nat.mul 2 (Nat.add len t.length)) 2048) inf.bytes) 140737488355328 && Nat.ble (Nat.add len t.length) 4611686018427387904) = true := by
    intro len hlen
    have a2 : Nat.ble (Nat.mul (Nat.add (Nat.mul 2 (Nat.add len t.length)) 2048) inf.bytes) 140737488355328 = true := Nat.ble_eq_true_of_le (by rw [he2]; show (2 * (len + t.length) + 2048) * 1 ≤ _; omega)
    have a3 : Nat.ble (Nat.add len t.length) 4611686018427387904 = true := Nat.ble_eq_true_of_le (by show len + t.length ≤ _; omega)
    rw [hno, he1, a2, a3]; rfl
  have hlen : lenA (S t) = some t.length := by show some (lenN t) = _; rw [lenN_len]
  have hfirst : firstA inf.size t.length (S t) σ = some (cellsOfBytes t) := by
    rw [he1]
    show (bif Nat.beq 1 1 then (match takeN t.length t with | some l => some (cellsOfBytes l) | none => none) else none) = _
    rw [takeN_len rfl]; rfl
  have hrow : rowOf (C M) 5 inf.size 1 = some [.int .u8 0] := by rw [he1]; exact zero5
  cases ht : t with
  | nil =>
    subst ht
    refine ⟨σ, bf, .inr ⟨?_, rfl⟩, by rw [List.append_nil]; exact h, Nat.le_refl _, fun i _ => rfl, rfl⟩
    have key : ∀ p len cap, len ≤ 1099511627776 → bltO (C M) .append [126, 9] [.one (.slice p len cap), S []] σ = .val (.one (.slice p len cap)) := by
      intro p len cap hle
      show appendA (C M) [126, 9] [.one (.slice p len cap), S []] σ = _
      unfold appendA
      have hc := hcond len (by simpa using hle)
      simp only [List.length_nil] at hc hlen hfirst
      simp only [un126, hi, hlen, hc, cond_true, hfirst, hrow]
      rfl
    rcases h with ⟨rfl, rfl⟩ | ⟨k, rfl, _⟩
    · exact key _ _ _ (by omega)
    · exact key _ _ _ (by simpa using hl)
  | cons a r =>
    have hn0 : Nat.beq t.length 0 = false := by rw [ht]; rfl
    have hne : t.length ≠ 0 := by rw [ht]; simp
    have hct : cellsOfBytes (s ++ t) = cellsOfBytes s ++ cellsOfBytes t := by simp [cellsOfBytes]
    rw [← ht]
    rcases h with ⟨rfl, rfl⟩ | ⟨k, rfl, k1, k2, k3, k4, _⟩
    · refine ⟨σ.push (.cells (cellsOfBytes t) 5 false), .slice (some (σ.next, 0)) (0 + t.length) (.to (0 + 1)), .inl ?_, .inr ⟨σ.next, by simp, by omega, by rw [St.next_push]; omega, by omega, by rw [St.get_push, if_pos rfl]; simp, by rw [ht]; simp⟩, by rw [St.next_push]; omega, fun i hi => by rw [St.get_push, if_neg (by omega)], by rw [St.get_push, if_neg (by omega)]⟩
      rw [o_append un126 hi hlen (hcond 0 (by simpa using hl)) hfirst hrow hn0, he1]
      exact append_nil
    · refine ⟨(σ.kill k).push (.cells (cellsOfBytes s ++ cellsOfBytes t) 5 false), .slice (some (σ.next, 0)) (s.length + t.length) (.to (0 + 1)), .inl ?_, .inr ⟨σ.next, by simp, by omega, by rw [St.next_push, St.next_kill]; omega, by omega, by rw [get_kp, if_pos rfl, hct], by rw [ht]; simp⟩, by rw [St.next_push, St.next_kill]; omega,
        fun i hi => by rw [get_kp, if_neg (by omega), if_neg (by omega)], by rw [get_kp, if_neg (by omega), if_neg (fun e => k3 e.symm)]⟩
      rw [o_append un126 hi hlen (hcond s.length hl) hfirst hrow hn0, he1]
      exact append_full k4 (by rw [cellsOf_len]; omega) hne
theorem BufAt.of {lo : Nat} {σ σ' : St} {j : Nat} {bf : CV} {s : List UInt8} (h : BufAt lo σ j bf s) (hn : σ.next ≤ σ'.next) (hg : ∀ i, i ≠ j → σ'.get i = σ.get i) : BufAt lo σ' j bf s := by
  rcases h with h | ⟨k, k1, k2, k3, k4, k5, k6⟩
  · exact .inl h
  · exact .inr ⟨k, k1, k2, by omega, k4, by rw [hg k k4]; exact k5, k6⟩
theorem write_run {tab : Tab} {n lo j : Nat} {σ : St} {s t : List UInt8} (ht : tab 72 = none) (ht2 : tab 40 = none) (h : BAt lo σ j s) (hl : s.length + t.length ≤ 1099511627776) :
    ∃ σ', callK (C M) tab (n + 2) 40 [P j 0, S t] σ = some (.tup [I (t.length : Nat), .one .nilI], σ') ∧ BAt lo σ' j (s ++ t) ∧ σ.next ≤ σ'.next ∧ (∀ i, i < lo → σ'.get i = σ.get i) := by
  obtain ⟨ad0, bf0, h1, h2, h3, _, _⟩ := id h
  obtain ⟨σ1, c1, c2, c3, bf, c4, c5⟩ := check_run (n := n) ht h
  have c6 : BufAt lo σ1 j bf s := c5.of (by omega) c3
  obtain ⟨σ2, bf', a1, a2, a3, a4, a5⟩ := append_bytes (j := j) (σ := σ1) (t := t) (by omega) h2 c6 hl
  have hj2 : σ2.get j = some (.cells [.ptr (some (j, 0)), bf] 128 true) := by rw [a5]; exact c4
  refine ⟨σ2.put j (.cells [.ptr (some (j, 0)), bf'] 128 true), callK_body ht2 Tryz.func40 (by kernel_rfl) ?_, ⟨.ptr (some (j, 0)), bf', by rw [St.get_put, if_pos rfl], h2, by rw [St.next_put]; omega, .inr rfl, ?_⟩, by rw [St.next_put]; omega, fun i hi => ?_⟩
  · rw [F40_eq]
    refine Yl.eq ?_
    unfold K40_0
    refine y_cal rfl (c1) ?_
    refine y_val (rfl) ?_
    refine y_val (fa128_1) ?_
    refine y_val (o_ld c4 rfl (partA_one ag126 rfl)) ?_
    rcases a1 with a1 | ⟨a1, rfl⟩
    · refine y_st (a1) ?_
      refine y_val (rfl) ?_
      refine y_val (fa128_1) ?_
      refine y_st (o_st hj2 rfl sz126 rfl rfl) ?_
      refine y_val (o_slen un9) ?_
      exact y_ret2 ⟨rfl, rfl⟩
    · refine y_val (a1) ?_
      refine y_val (rfl) ?_
      refine y_val (fa128_1) ?_
      refine y_st (o_st hj2 rfl sz126 rfl rfl) ?_
      refine y_val (o_slen un9) ?_
      exact y_ret2 ⟨rfl, rfl⟩
  · exact a2.of (by rw [St.next_put]; omega) fun i hi => by rw [St.get_put, if_neg hi]
  · rw [St.get_put, if_neg (by omega), a4 i hi, c3 i (by omega)]
theorem len_run {tab : Tab} {n lo j : Nat} {σ : St} {s : List UInt8} (ht : tab 42 = none) (h : BAt lo σ j s) : callK (C M) tab (n + 1) 42 [P j 0] σ = some (I (s.length : Nat), σ) := by
  obtain ⟨ad, bf, h1, h2, h3, h4, h5⟩ := h
  refine callK_body ht Tryz.func42 (by kernel_rfl) ?_
  rw [F42_eq]
  refine Yl.eq ?_
  unfold K42_0
  refine y_val (rfl) ?_
  refine y_val (fa128_1) ?_
  refine y_val (o_ld h1 rfl (partA_one ag126 rfl)) ?_
  rcases h5 with ⟨rfl, rfl⟩ | ⟨k, rfl, _⟩
  · refine y_val (o_len un126) ?_
    exact y_ret0 ⟨rfl, rfl⟩
  · refine y_val (o_len un126) ?_
    exact y_ret0 ⟨rfl, rfl⟩
theorem string_run {tab : Tab} {n lo j : Nat} {σ : St} {s : List UInt8} (ht : tab 43 = none) (h : BAt lo σ j s) (hl : s.length ≤ 1099511627776) : ∃ σ', callK (C M) tab (n + 1) 43 [P j 0] σ = some (S s, σ') ∧ σ'.next = σ.next ∧ (∀ i, i < lo → σ'.get i = σ.get i) := by
  obtain ⟨ad, bf, h1, h2, h3, h4, h5⟩ := h
  rcases h5 with ⟨rfl, rfl⟩ | ⟨k, rfl, k1, k2, k3, k4, k5⟩
  · refine ⟨σ, callK_body ht Tryz.func43 (by kernel_rfl) ?_, rfl, fun i _ => rfl⟩
    rw [F43_eq]
    refine Yl.eq ?_
    unfold K43_0
    refine y_din ?_
    refine y_dval (rfl) ?_
    refine y_dval (fa128_1) ?_
    refine y_dchk (o_ld h1 rfl (partA_one ag126 rfl)) rfl ?_
    refine y_dchk (rfl) rfl ?_
    refine y_dval (rfl) ?_
    refine y_dval (fa128_1) ?_
    refine y_dchk (o_ld h1 rfl (partA_one ag126 rfl)) rfl ?_
    refine y_dchk (o_len un126) rfl ?_
    refine y_deffv (rfl) ?_
    exact y_ret0 ⟨rfl, rfl⟩
  · obtain ⟨m, hm⟩ : ∃ m, s.length = m + 1 := by
      cases s with
      | nil => exact absurd rfl k5
      | cons a r => exact ⟨r.length, rfl⟩
    refine ⟨σ.kill k, callK_body ht Tryz.func43 (by kernel_rfl) ?_, rfl, fun i hi => by rw [St.get_kill, if_neg (by omega)]⟩
    rw [F43_eq]
    refine Yl.eq ?_
    unfold K43_0
    refine y_din ?_
    refine y_dval (rfl) ?_
    refine y_dval (fa128_1) ?_
    refine y_dchk (o_ld h1 rfl (partA_one ag126 rfl)) rfl ?_
    have hd : bltO (C M) .unsafeSliceData [126] [.one (.slice (some (k, 0)) s.length (.to (0 + 1)))] σ = .val (P k 0) := by rw [hm]; exact o_udata
    refine y_dchk (hd) rfl ?_
    refine y_dval (rfl) ?_
    refine y_dval (fa128_1) ?_
    refine y_dchk (o_ld h1 rfl (partA_one ag126 rfl)) rfl ?_
    refine y_dchk (o_len un126) rfl ?_
    refine y_deff (o_ustr un201 sz5 k4 k5 (by omega)) ?_
    exact y_ret0 ⟨rfl, rfl⟩
end Oct
end Go.Proofs.YtggjhmhjjghncaaGreat
