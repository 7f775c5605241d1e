/- hash.Level ends; hash.Cell, hash.Sign, hash.Row as entries of the table. -/
import Derived.Test.YtnoieleoklpciaaGreatDoorHash
set_option linter.unusedVariables false
set_option linter.unusedSimpArgs false
namespace Go.Proofs.YtnoieleoklpciaaGreatDoor
open Go.Run Go
namespace Core
open Ty
set_option maxRecDepth 1000000
/-- the table of bits: 64 bytes -/
def TbOk (tb : List CV) : Prop := flatCs tb = true ∧ ∀ j, j < 64 → ∃ v : Nat, v < 256 ∧ nth tb j = some (.int .u8 (v : Int))
section
variable {n : Nat} {σ : St} {tab : Tab}
theorem ou_neg {a : Nat} : ∃ q : Nat, q < 18446744073709551616 ∧ ∀ s, unO .neg (Iu (a : Nat)) s = .val (Iu (q : Nat)) := by
  have h : ∃ q : Nat, q < 18446744073709551616 ∧ wrapA .u64 (0 - (a : Int)) = (q : Nat) := by
    have e : wrapA .u64 (0 - (a : Int)) = (0 - (a : Int)) % 18446744073709551616 := rfl
    refine ⟨((0 - (a : Int)) % 18446744073709551616).toNat, ?_, ?_⟩
    · have h1 := Int.emod_nonneg (0 - (a : Int)) (show (18446744073709551616 : Int) ≠ 0 by decide)
      have h2 := Int.emod_lt_of_pos (0 - (a : Int)) (show (0 : Int) < 18446744073709551616 by decide)
      omega
    · have h1 := Int.emod_nonneg (0 - (a : Int)) (show (18446744073709551616 : Int) ≠ 0 by decide)
      rw [e]; omega
  obtain ⟨q, h1, h2⟩ := h
  refine ⟨q, h1, fun s => ?_⟩
  show intV .u64 (wrapA .u64 (0 - (a : Int))) = _
  rw [intV_eq, h2]; rfl
theorem iad_g {j : Nat} (hj : j < 64) : iadO (C M) 448 G0 (Iu (j : Nat)) σ = .val (P 0 j) := by
  show indexAddrA (C M) 448 G0 (Iu (j : Nat)) = _
  unfold indexAddrA
  simp only [un448]
  show (match size (C M) 5 with
    | some n => bif Nat.blt j 64 then Out.val (.one (.ptr (some (0, Nat.add 0 (Nat.mul j n))))) else Out.no
    | none => Out.no) = _
  rw [sz5]
  have : Nat.blt j 64 = true := Nat.ble_eq_true_of_le hj
  simp only [this, cond_true, Nat.add_eq, Nat.mul_eq, Nat.mul_one, Nat.zero_add]
theorem tz_run (ht : Fr tab) {tb : List CV} (hb : TbOk tb) (h0 : σ.get 0 = some (.ro tb)) {a : Nat} (ha : a < 18446744073709551616) : ∃ k : Nat, k < 256 ∧ callK (C M) tab (n + 1) 232 [Iu (a : Nat)] σ = some (I (k : Nat), σ) := by
  have key : Yl (callK (C M) tab (n + 1) 232 [Iu (a : Nat)] σ) (fun v s => s = σ ∧ ∃ k : Nat, k < 256 ∧ v = I (k : Nat)) := by
    refine y_body (ht _ rfl) Tryz.func232 (by kernel_rfl) ?_
    rw [F232_eq]
    unfold K232_0
    refine y_val (ou_eql (b := 0)) ?_
    refine y_if (fun _ => y_ret0 ⟨rfl, 64, by decide, rfl⟩) (fun _ => ?_)
    obtain ⟨q, hq, hneg⟩ := ou_neg (a := a)
    have hand : a &&& q ≤ a := Nat.and_le_left
    refine y_val (hneg _) ?_
    refine y_val (ou_and ha hq) ?_
    refine y_val (ou_mul (b := 285870213051353865)) ?_
    refine y_val (ou_shr (k := .u64) (c := 58) (by decide)) ?_
    have hj : (a &&& q) * 285870213051353865 % 18446744073709551616 / 2 ^ 58 < 64 := by
      rw [show (2 ^ 58 : Nat) = 288230376151711744 from rfl]
      have := Nat.mod_lt ((a &&& q) * 285870213051353865) (show 0 < 18446744073709551616 by decide)
      omega
    generalize (a &&& q) * 285870213051353865 % 18446744073709551616 / 2 ^ 58 = j at hj ⊢
    obtain ⟨v, hv, hn⟩ := hb.2 j hj
    refine y_val (iad_g hj) ?_
    refine y_val (o_ld h0 rfl (partA_one ag5 hn)) ?_
    refine y_val (o_cvi un5 un3 (by omega)) ?_
    exact y_ret0 ⟨rfl, v, hv, rfl⟩
  obtain ⟨v, s, h1, rfl, k, hk, rfl⟩ := key
  exact ⟨k, hk, h1⟩
theorem lev_run (ht : Fr tab) (h172 : tab 172 = none) {tb : List CV} (hb : TbOk tb) (h0 : σ.get 0 = some (.ro tb)) {seed : Nat} {key : List UInt8} {most : Int} (ha : seed < 18446744073709551616) (hl : key.length ≤ 1000) (hm : 0 ≤ most) :
    ∃ k : Nat, (k : Int) ≤ most ∧ callK (C M) tab (n + 5) 172 [Iu (seed : Nat), S key, I most] σ = some (I (k : Nat), σ) := by
  have key' : Yl (callK (C M) tab (n + 5) 172 [Iu (seed : Nat), S key, I most] σ) (fun v s => s = σ ∧ ∃ k : Nat, (k : Int) ≤ most ∧ v = I (k : Nat)) := by
    refine y_body h172 Tryz.func172 (by kernel_rfl) ?_
    rw [F172_eq]
    unfold K172_0 K172_1
    have hs := sumP_lt seed key
    refine y_cal rfl (sumK (n := n) ht ha hl) ?_
    refine y_val (ou_eql (b := 0)) ?_
    refine y_if (fun _ => ?_) (fun _ => ?_)
    · refine y_val (o_max) ?_
      exact y_ret0 ⟨rfl, (max most 0).toNat, by omega, by rw [Int.toNat_of_nonneg (by omega)]⟩
    · obtain ⟨k, hk, hz⟩ := tz_run (n := n + 3) (σ := σ) ht hb h0 hs
      refine y_cal rfl (hz) ?_
      refine y_val (o_min) ?_
      refine y_val (o_max) ?_
      exact y_ret0 ⟨rfl, (max (min (k : Int) most) 0).toNat, by omega, by rw [Int.toNat_of_nonneg (by omega)]⟩
  obtain ⟨v, s, h1, rfl, k, hk, rfl⟩ := key'
  exact ⟨k, hk, h1⟩
theorem cellK (ht : Fr tab) (h214 : tab 214 = none) {seed m : Nat} {key : List UInt8} (ha : seed < 18446744073709551616) (hl : key.length ≤ 1000) (hm : 1 ≤ m) (hm2 : m < 1000000) : callK (C M) tab (n + 5) 214 [Iu (seed : Nat), S key, I (m : Nat)] σ = some (I ((sumP seed key % m : Nat) : Int), σ) := by
  refine callK_body h214 Tryz.func214 (by kernel_rfl) ?_
  rw [F214_eq]
  refine Yl.eq ?_
  unfold K214_0
  have hs := Nat.mod_lt (sumP seed key) (show 0 < m by omega)
  refine y_val (k_lssF (by omega)) ?_
  refine y_iff (rfl) ?_
  refine y_cal rfl (sumK (n := n) ht ha hl) ?_
  refine y_val (o_cv64 un3 un27 (by omega)) ?_
  refine y_val (ou_rem (by omega)) ?_
  refine y_val (o_cvi un27 un3 (by omega)) ?_
  exact y_ret0 ⟨rfl, rfl⟩
theorem signK (ht : Fr tab) (h264 : tab 264 = none) {seed : Nat} {key : List UInt8} (ha : seed < 18446744073709551616) (hl : key.length ≤ 1000) : callK (C M) tab (n + 5) 264 [Iu (seed : Nat), S key] σ = some (I (((sumP seed key % 2 : Nat) : Int) * 2 - 1), σ) := by
  refine callK_body h264 Tryz.func264 (by kernel_rfl) ?_
  rw [F264_eq]
  refine Yl.eq ?_
  unfold K264_0
  have hand : sumP seed key &&& 1 = sumP seed key % 2 := Nat.and_one_is_mod _
  refine y_cal rfl (sumK (n := n) ht ha hl) ?_
  refine y_val (ou_and (b := 1) (sumP_lt _ _) (by decide)) ?_
  rw [hand]
  refine y_val (o_cvi un27 un3 (by omega)) ?_
  refine y_val (o_mul) ?_
  rw [wrap_id (by omega) (by omega)]
  refine y_val (o_sub) ?_
  rw [wrap_id (by omega) (by omega)]
  exact y_ret0 ⟨rfl, rfl⟩
end
/-! the entries -/
/-- numbers that the kernel leaves as they stand -/
theorem hide_ex {α : Type} (x : α) : ∃ y : α, y = x := ⟨x, rfl⟩
noncomputable def clO (a : Nat) (s : List UInt8) (m : Nat) : Nat := (hide_ex (sumP a s % m)).choose
theorem clO_eq (a : Nat) (s : List UInt8) (m : Nat) : clO a s m = sumP a s % m := (hide_ex (sumP a s % m)).choose_spec
noncomputable def sgO (a : Nat) (s : List UInt8) : Int := (hide_ex (((sumP a s % 2 : Nat) : Int) * 2 - 1)).choose
theorem sgO_eq (a : Nat) (s : List UInt8) : sgO a s = ((sumP a s % 2 : Nat) : Int) * 2 - 1 := (hide_ex (((sumP a s % 2 : Nat) : Int) * 2 - 1)).choose_spec
noncomputable def cellS (args : List AV) : Option AV := match args with
  | [.one (.int .u64 (.ofNat a)), .one (.str s), .one (.int .i64 (.ofNat m))] => bif Nat.blt a 18446744073709551616 && (Nat.ble (lenN (bytesOf s)) 1000 && (Nat.ble 1 m && Nat.blt m 1000000)) then (bif Nat.beq m 1 then some (I 0) else some (I ((clO a (bytesOf s) m : Nat) : Int))) else none
  | _ => none
noncomputable def signS (args : List AV) : Option AV := match args with
  | [.one (.int .u64 (.ofNat a)), .one (.str s)] => bif Nat.blt a 18446744073709551616 && Nat.ble (lenN (bytesOf s)) 1000 then some (I (sgO a (bytesOf s))) else none
  | _ => none
def rowS (args : List AV) : Option AV := match args with
  | [.one (.int .u64 (.ofNat a)), .one (.int .i64 (.ofNat b))] => bif Nat.blt a 18446744073709551616 && Nat.blt b 9223372036854775808 then some (Iu ((rowP a b : Nat) : Int)) else none
  | _ => none
theorem fr_none : Fr noTab := fun _ _ => rfl
theorem bytes_str (s : ByteArray) : S (bytesOf s) = .one (.str s) := by
  obtain ⟨⟨l⟩⟩ := s
  rfl
theorem cellS_ok {args : List AV} {v : AV} (tb : List CV) (h : cellS args = some v) : flatVs args = true ∧ flatT v = true ∧ ∃ n τ', callK (C M) noTab n 214 args (partsG tb []) = some (v, τ') := by
  unfold cellS at h
  split at h
  · rename_i a s m
    cases hb : (Nat.blt a 18446744073709551616 && (Nat.ble (lenN (bytesOf s)) 1000 && (Nat.ble 1 m && Nat.blt m 1000000))) with
    | false => rw [hb] at h; cases h
    | true =>
      rw [hb] at h
      simp only [cond_true] at h
      simp only [Bool.and_eq_true] at hb
      obtain ⟨h1, h2, h3, h4⟩ := hb
      have h1 := Nat.le_of_ble_eq_true h1
      have h2 := Nat.le_of_ble_eq_true h2
      have h3 := Nat.le_of_ble_eq_true h3
      have h4 := Nat.le_of_ble_eq_true h4
      rw [lenN_eq] at h2
      have hk := cellK (n := 0) (σ := partsG tb []) fr_none rfl (seed := a) (m := m) (key := bytesOf s) h1 h2 h3 h4
      rw [bytes_str, ← clO_eq] at hk
      cases he : Nat.beq m 1 with
      | true =>
        rw [he] at h
        cases h
        have := Nat.eq_of_beq_eq_true he
        subst this
        rw [clO_eq, Nat.mod_one] at hk
        exact ⟨rfl, rfl, _, _, hk⟩
      | false =>
        rw [he] at h
        cases h
        exact ⟨rfl, rfl, _, _, hk⟩
  · cases h
theorem signS_ok {args : List AV} {v : AV} (tb : List CV) (h : signS args = some v) : flatVs args = true ∧ flatT v = true ∧ ∃ n τ', callK (C M) noTab n 264 args (partsG tb []) = some (v, τ') := by
  unfold signS at h
  split at h
  · rename_i a s
    cases hb : (Nat.blt a 18446744073709551616 && Nat.ble (lenN (bytesOf s)) 1000) with
    | false => rw [hb] at h; cases h
    | true =>
      rw [hb] at h
      simp only [cond_true] at h
      simp only [Bool.and_eq_true] at hb
      obtain ⟨h1, h2⟩ := hb
      have h1 := Nat.le_of_ble_eq_true h1
      have h2 := Nat.le_of_ble_eq_true h2
      rw [lenN_eq] at h2
      have hk := signK (n := 0) (σ := partsG tb []) fr_none rfl (seed := a) (key := bytesOf s) h1 h2
      rw [bytes_str, ← sgO_eq] at hk
      cases h
      exact ⟨rfl, rfl, _, _, hk⟩
  · cases h
theorem rowS_ok {args : List AV} {v : AV} (tb : List CV) (h : rowS args = some v) : flatVs args = true ∧ flatT v = true ∧ ∃ n τ', callK (C M) noTab n 60 args (partsG tb []) = some (v, τ') := by
  unfold rowS at h
  split at h
  · rename_i a b
    cases hb : (Nat.blt a 18446744073709551616 && Nat.blt b 9223372036854775808) with
    | false => rw [hb] at h; cases h
    | true =>
      rw [hb] at h
      simp only [cond_true] at h
      simp only [Bool.and_eq_true] at hb
      obtain ⟨h1, h2⟩ := hb
      have h1 := Nat.le_of_ble_eq_true h1
      have h2 := Nat.le_of_ble_eq_true h2
      have hk := row_run (n := 0) (σ := partsG tb []) (tab := noTab) rfl rfl rfl rfl rfl (a := a) (b := (b : Int)) h1 (by omega)
      cases h
      exact ⟨rfl, rfl, _, _, hk⟩
  · cases h
/-- is it a table of 64 bytes? -/
def tbB : List CV → Bool
  | [] => true
  | .int .u8 (.ofNat v) :: r => Nat.blt v 256 && tbB r
  | _ => false
theorem tbB_nth : ∀ {l : List CV} {j : Nat}, tbB l = true → j < l.length → ∃ v : Nat, v < 256 ∧ nth l j = some (.int .u8 (v : Int))
  | .int .u8 (.ofNat v) :: r, 0, h, _ => by
    simp only [tbB, Bool.and_eq_true] at h
    exact ⟨v, Nat.le_of_ble_eq_true h.1, rfl⟩
  | .int .u8 (.ofNat v) :: r, j + 1, h, hj => by
    simp only [tbB, Bool.and_eq_true] at h
    exact tbB_nth (l := r) (j := j) h.2 (by simpa using hj)
open Classical in
noncomputable def levP (tb : List CV) (a : Nat) (s : List UInt8) (m : Nat) : Nat := if h : ∃ k : Nat, (k : Int) ≤ (m : Int) ∧ callK (C M) noTab 5 172 [Iu (a : Nat), S s, I (m : Nat)] (partsG tb []) = some (I (k : Nat), partsG tb []) then h.choose else 0
noncomputable def levS (tb : List CV) (args : List AV) : Option AV := match args with
  | [.one (.int .u64 (.ofNat a)), .one (.str s), .one (.int .i64 (.ofNat m))] => bif Nat.blt a 18446744073709551616 && (Nat.ble (lenN (bytesOf s)) 1000 && (tbB tb && Nat.beq (lenN tb) 64)) then (bif Nat.beq m 0 then some (I 0) else some (I ((levP tb a (bytesOf s) m : Nat) : Int))) else none
  | _ => none
theorem levS_ok {args : List AV} {v : AV} (tb : List CV) (hf : flatCs tb = true) (h : levS tb args = some v) : flatVs args = true ∧ flatT v = true ∧ ∃ n τ', callK (C M) noTab n 172 args (partsG tb []) = some (v, τ') := by
  unfold levS at h
  split at h
  · rename_i a s m
    cases hb : (Nat.blt a 18446744073709551616 && (Nat.ble (lenN (bytesOf s)) 1000 && (tbB tb && Nat.beq (lenN tb) 64))) with
    | false => rw [hb] at h; cases h
    | true =>
      rw [hb] at h
      simp only [cond_true] at h
      simp only [Bool.and_eq_true] at hb
      obtain ⟨h1, h2, h3, h4⟩ := hb
      have h1 := Nat.le_of_ble_eq_true h1
      have h2 := Nat.le_of_ble_eq_true h2
      have h4 := Nat.eq_of_beq_eq_true h4
      rw [lenN_eq] at h2 h4
      have h0 : (partsG tb []).get 0 = some (.ro tb) := rfl
      obtain ⟨k, hk, hr⟩ := lev_run (n := 0) (σ := partsG tb []) (tab := noTab) fr_none rfl ⟨hf, fun j hj => tbB_nth h3 (by omega)⟩ h0 (seed := a) (key := bytesOf s) (most := (m : Int)) h1 h2 (by omega)
      have hex : ∃ k : Nat, (k : Int) ≤ (m : Int) ∧ callK (C M) noTab 5 172 [Iu (a : Nat), S (bytesOf s), I (m : Nat)] (partsG tb []) = some (I (k : Nat), partsG tb []) := ⟨k, hk, hr⟩
      have hc := hex.choose_spec
      have e : levP tb a (bytesOf s) m = hex.choose := by unfold levP; rw [dif_pos hex]
      rw [← e] at hc
      rw [bytes_str] at hc
      cases he : Nat.beq m 0 with
      | true =>
        rw [he] at h
        cases h
        have hm := Nat.eq_of_beq_eq_true he
        subst hm
        have : levP tb a (bytesOf s) 0 = 0 := by have := hc.1; omega
        rw [this] at hc
        exact ⟨rfl, rfl, _, _, hc.2⟩
      | false =>
        rw [he] at h
        cases h
        exact ⟨rfl, rfl, _, _, hc.2⟩
  · cases h
noncomputable def tab4 : Tab := (((noTab.add 60 (flatG fun _ => rowS)).add 214 (flatG fun _ => cellS)).add 264 (flatG fun _ => signS)).add 172 (flatG levS)
theorem tab4_ok : TabOk (C M) tab4 :=
  TabOk.flatG hx mixed (glob0 M) (TabOk.flatG hx mixed (glob0 M) (TabOk.flatG hx mixed (glob0 M) (TabOk.flatG hx mixed (glob0 M) (tabOk_none _) (tabOk_none _) fun tb _ _ _ h => rowS_ok tb h) (tabOk_none _) fun tb _ _ _ h => cellS_ok tb h) (tabOk_none _) fun tb _ _ _ h => signS_ok tb h) (tabOk_none _) fun tb _ _ hf h => levS_ok tb hf h
end Core
end Go.Proofs.YtnoieleoklpciaaGreatDoor
