/- ipfour.Take ends. -/
import Derived.Test.YtnoieleoklpciaaGreatDoorPort
set_option linter.unusedVariables false
set_option linter.unusedSimpArgs false
namespace Go.Proofs.YtnoieleoklpciaaGreatDoor
open Go.Run Go
namespace Core
open Ty
set_option maxRecDepth 1000000
section
variable {n : Nat} {σ : St} {tab : Tab}
theorem ftake_run (ht : Fr tab) {s : List UInt8} {a k : Nat} (ha : a ≤ s.length) (h1 : 1 ≤ k) (h7 : k ≤ 7) : callK (C M) tab (n + 3) 257 [S s, I (a : Nat), I (k : Nat)] σ = some (I (pt s a k : Nat), σ) := by
  refine callK_body (ht _ rfl) Tryz.func257 (by kernel_rfl) ?_
  rw [F257_eq]
  refine Yl.eq ?_
  unfold K257_0
  refine y_val (o_sfr ha) ?_
  refine y_cal rfl (take_run (n := n) (k := k) ht h1 h7) ?_
  unfold takeP pt
  by_cases h : (s.drop a).length < k
  · rw [if_pos h, if_pos h]
    refine y_val (rfl) ?_
    refine y_val (rfl) ?_
    refine y_val (rfl) ?_
    exact y_ret0 ⟨rfl, rfl⟩
  · rw [if_neg h, if_neg h]
    refine y_val (rfl) ?_
    refine y_val (rfl) ?_
    refine y_val (rfl) ?_
    exact y_ret0 ⟨rfl, rfl⟩
theorem o_and8 {t : TypeId} {a : Nat} (h : a < 256) : binO (C M) .and t (.one (.int .u8 (a : Int))) (.one (.int .u8 15)) σ = .val (.one (.int .u8 ((a % 16 : Nat) : Int))) := by
  have e : binO (C M) .and t (.one (.int .u8 (a : Int))) (.one (.int .u8 15)) σ = intV .u8 (wrapA .u8 (.ofNat (Nat.land (Go.Run.bits .u8 (a : Int)) (Go.Run.bits .u8 ((15 : Nat) : Int))))) := rfl
  have e1 : Go.Run.bits .u8 (a : Int) = a := by
    show a % (2 ^ 8) = a
    exact Nat.mod_eq_of_lt (by omega)
  have e2 : Go.Run.bits .u8 ((15 : Nat) : Int) = 15 := rfl
  have e3 : Nat.land a 15 = a % 16 := Nat.and_two_pow_sub_one_eq_mod a 4
  rw [e, e1, e2, intV_eq, e3]
  show Out.val (.one (.int .u8 (wrapA .u8 ((a % 16 : Nat) : Int)))) = _
  have : wrapA .u8 ((a % 16 : Nat) : Int) = ((a % 16 : Nat) : Int) := by rw [wrap8]; omega
  rw [this]
theorem o_neq8 {t : TypeId} {a c : Int} : ∃ b, ∀ s, binO (C M) .neq t (.one (.int .u8 a)) (.one (.int .u8 c)) s = .val (B b) := ⟨!intEq a c, fun s => rfl⟩
theorem o_andx {t : TypeId} {a : Int} {b : Nat} (hb : b < 9223372036854775808) : ∃ q : Nat, q ≤ b ∧ ∀ s, binO (C M) .and t (I a) (I (b : Nat)) s = .val (I (q : Nat)) := by
  refine ⟨Nat.land (Go.Run.bits .i64 a) b, Nat.and_le_right, fun s => ?_⟩
  show intV .i64 (wrapA .i64 (.ofNat (Nat.land (Go.Run.bits .i64 a) (Go.Run.bits .i64 (b : Int))))) = _
  rw [bits_i hb, intV_eq]
  have : Nat.land (Go.Run.bits .i64 a) b ≤ b := Nat.and_le_right
  show Out.val (I (wrapA .i64 ((Nat.land (Go.Run.bits .i64 a) b : Nat) : Int))) = _
  rw [wrap_id (by omega) (by omega)]
def FourQ (σ : St) (v : AV) (σ' : St) : Prop := Gr σ σ' ∧ ∃ (a b c off ttl p : Int) (src dst opt body : List UInt8) (e : Int), v = .tup [.agg [iC a, iC b, iC c, iC off, iC ttl, iC p, sC src, sC dst, sC opt], S body, I e] ∧ Er e ∧ (src.length ≤ 100 ∧ dst.length ≤ 100) ∧ (e = 0 → src.length = 4 ∧ dst.length = 4 ∧ 0 ≤ p ∧ p < 256)
def f00 : List CV := [iC 0, iC 0, iC 0, iC 0, iC 0, iC 0, sC [], sC [], sC []]
theorem new385 : newO (C M) 385 σ = .new (.cells f00 385 true) (fun a => P a 0) := by kernel_rfl
theorem bld385z : bldO (C M) 385 [] σ = .val (.agg f00) := by kernel_rfl
theorem bld385 {a b c d e f : Int} {x y z : List UInt8} : bldO (C M) 385 [(0, I a), (1, I b), (2, I c), (3, I d), (4, I e), (5, I f), (6, S x), (7, S y), (8, S z)] σ = .val (.agg [iC a, iC b, iC c, iC d, iC e, iC f, sC x, sC y, sC z]) := by kernel_rfl
theorem four_err {s : St} {b2 : Nat} {e : Int} (gr : Gr σ s) (l0 : σ.next ≤ b2) (g2 : s.get b2 = some (.cells f00 385 true)) (he : Er e) (he0 : e ≠ 0) :
    Yl (bnd (bldO (C M) 385 []) (fun v6 => bnd (stO (C M) 385 (P b2 0) v6) (fun _ => retV (C M) [(some 385, P b2 0), (none, S []), (none, I e)])) s) (FourQ σ) := by
  refine y_val (bld385z) ?_
  refine y_st (o_st g2 rfl sz385 rfl rfl) ?_
  exact y_rets3 (ld_agg (by rw [St.get_put, if_pos rfl]) rfl ag385 sz385 rfl) ⟨gr.put _ l0, _, _, _, _, _, _, _, _, _, _, _, rfl, he, ⟨by decide, by decide⟩, fun h => absurd h he0⟩
theorem four4 (ht : Fr tab) {s : St} {b2 size all : Nat} {r : List UInt8} (gr : Gr σ s) (l0 : σ.next ≤ b2) (l1 : b2 < s.next) (g2 : s.get b2 = some (.cells f00 385 true)) (h20 : 20 ≤ size) (hs : size ≤ r.length) (ha : size ≤ all) (ha2 : all ≤ r.length) :
    Yl (K210_4 M (callK (C M) tab (n + 3)) (S r) (P b2 0) (I (size : Nat)) (I (all : Nat)) s) (FourQ σ) := by
  unfold K210_4
  have hp6 := pt_lt r 6 2
  refine y_cal rfl (ftake_run (n := n) (a := 6) (k := 2) ht (by omega) (by decide) (by decide)) ?_
  refine y_at ?_
  refine y_din ?_
  generalize hs2 : s.gap 22 = s2
  have e2 : Gr s s2 := by rw [← hs2]; exact Gr.gap _ _
  have n2 : s2.next = s.next + 22 := by rw [← hs2]; rfl
  obtain ⟨q2, hq2, eq2⟩ := o_andx (t := 3) (a := (pt r 6 2 : Nat)) (b := 8191) (by decide)
  refine y_dcall rfl (ftake_run (n := n) (a := 1) (k := 1) ht (by omega) (by decide) (by decide)) ?_
  refine y_dcall rfl (ftake_run (n := n) (a := 4) (k := 2) ht (by omega) (by decide) (by decide)) ?_
  refine y_dcall rfl (ftake_run (n := n) (a := 8) (k := 1) ht (by omega) (by decide) (by decide)) ?_
  refine y_dcall rfl (ftake_run (n := n) (a := 9) (k := 1) ht (by omega) (by decide) (by decide)) ?_
  refine y_dval (o_shr (c := 13) (by decide)) ?_
  refine y_dval (eq2 _) ?_
  refine y_dsamS (fun s => o_sft (i := 12) (j := 16) (by omega) (by omega)) rfl (fun q => by simp only [q, Bool.and_self]) ?_
  refine y_dsamS (fun s => o_sft (i := 16) (j := 20) (by omega) (by omega)) rfl (fun q => by simp only [q, Bool.and_self]) ?_
  refine y_dsamS (fun s => o_sft (i := 20) (j := size) (by omega) (by omega)) rfl (fun q => by simp only [q, Bool.and_self]) ?_
  have l4 : ((r.drop 12).take (16 - 12)).length = 4 := by rw [List.length_take, List.length_drop]; omega
  have l5 : ((r.drop 16).take (20 - 16)).length = 4 := by rw [List.length_take, List.length_drop]; omega
  generalize (r.drop 12).take (16 - 12) = src at l4 ⊢
  generalize (r.drop 16).take (20 - 16) = dst at l5 ⊢
  generalize (r.drop 20).take (size - 20) = opt
  have hpr := pt_lt r 9 1
  generalize hp : pt r 9 1 = p at hpr ⊢
  refine y_dval (bld385) ?_
  refine y_dnew (new385) ?_
  generalize hs3 : s2.lay (Nat.add s.next 20) (.cells f00 385 true) = s3
  have e3 : Gr s s3 := by rw [← hs3]; exact e2.lay _ (by simp only [Nat.add_eq]; omega)
  have g3 : s3.get (Nat.add s.next 20) = some (.cells f00 385 true) := by rw [← hs3, St.get_lay, if_pos rfl]
  refine y_deff (o_st g3 rfl sz385 rfl rfl) ?_
  generalize hs4 : s3.put (Nat.add s.next 20) _ = s4
  have e4 : Gr s s4 := by rw [← hs4]; exact e3.put _ (by simp only [Nat.add_eq]; omega)
  have g4 := congrArg (fun s' => s'.get (Nat.add s.next 20)) hs4
  simp only [St.get_put, if_pos] at g4
  refine y_din ?_
  refine y_dchk (o_ld g4.symm rfl (partA_agg ag385 sz385 rfl)) rfl ?_
  have g24 := (e4.2 _ l1).trans g2
  refine y_deff (o_st g24 rfl sz385 rfl rfl) ?_
  refine y_dsamS (fun s => o_sft (i := size) (j := all) (by omega) (by omega)) rfl (fun q => by simp only [q, Bool.and_self]) ?_
  exact y_rets3 (ld_agg (by rw [St.get_put, if_pos rfl]) rfl ag385 sz385 rfl) ⟨(gr.trans e4).put _ l0, _, _, _, _, _, _, _, _, _, _, _, rfl, ⟨by decide, by decide⟩, ⟨by omega, by omega⟩, fun _ => ⟨l4, l5, Int.natCast_nonneg _, by omega⟩⟩
theorem four_run (ht : Fr tab) {r : List UInt8} : Yl (callK (C M) tab (n + 4) 210 [S r] σ) (FourQ σ) := by
  have ol : ∀ s, bltO (C M) .len [9] [S r] s = .val (I (r.length : Nat)) := fun s => o_slen un9
  refine y_body (ht _ rfl) Tryz.func210 (by kernel_rfl) ?_
  rw [F210_eq]
  unfold K210_0
  refine y_new (new385) ?_
  generalize hs : σ.push (.cells f00 385 true) = s
  have hn : s.next = σ.next + 1 := by rw [← hs]; rfl
  have e1 : Gr σ s := by rw [← hs]; exact Gr.push _ _
  have g2 : s.get σ.next = some (.cells f00 385 true) := by rw [← hs, St.get_push, if_pos rfl]
  unfold K210_1
  refine y_val (ol _) ?_
  by_cases h20 : (r.length : Int) < 20
  · refine y_val (k_lssT h20) ?_
    refine y_ift (rfl) ?_
    exact four_err e1 (Nat.le_refl _) g2 ⟨by decide, by decide⟩ (by decide)
  refine y_val (k_lssF (by omega)) ?_
  refine y_iff (rfl) ?_
  unfold K210_2
  obtain ⟨x, hx⟩ := get_lt (l := r) (j := 0) (by omega)
  have hxb := x.toNat_lt
  refine y_at ?_
  refine y_din ?_
  generalize hs2 : s.gap 9 = s2
  have n2 : s2.next = s.next + 9 := by rw [← hs2]; rfl
  have e2 : Gr s s2 := by rw [← hs2]; exact Gr.gap _ _
  have g22 := (e2.2 _ (by omega)).trans g2
  have e12 := e1.trans e2
  refine y_dcall rfl (ftake_run (n := n) (a := 2) (k := 2) ht (by omega) (by decide) (by decide)) ?_
  refine y_dval (o_idx hx) ?_
  refine y_dval (o_and8 hxb) ?_
  refine y_dsamS (fun s => o_cvi un5 un3 (by omega)) rfl (fun q => by simp only [q, Bool.and_self]) ?_
  refine y_dval (o_mul) ?_
  rw [wrap_id (by omega) (by omega)]
  unfold K210_3
  obtain ⟨b, hb⟩ := o_neq8 (t := 5) (a := ((x.toNat / 2 ^ 4 : Nat) : Int)) (c := 4)
  refine y_val (o_idx hx) ?_
  refine y_val (o_shr8 (by decide) hxb) ?_
  refine y_val (hb _) ?_
  have hsz : x.toNat % 16 < 16 := Nat.mod_lt _ (by decide)
  obtain ⟨size, hsize⟩ : ∃ z : Nat, (4 * ((x.toNat % 16 : Nat) : Int)) = (z : Int) := ⟨4 * (x.toNat % 16), by omega⟩
  rw [hsize]
  have hall := pt_lt r 2 2
  generalize pt r 2 2 = all at hall ⊢
  unfold K210_5
  refine y_if (fun _ => four_err e12 (Nat.le_refl _) g22 ⟨by decide, by decide⟩ (by decide)) (fun _ => ?_)
  by_cases c1 : (size : Int) < 20
  · refine y_val (k_lssT c1) ?_
    refine y_goff rfl ?_
    refine y_goff rfl ?_
    refine y_goff rfl ?_
    refine y_goff rfl ?_
    refine y_val (rfl) ?_
    refine y_ift (rfl) ?_
    exact four_err e12 (Nat.le_refl _) g22 ⟨by decide, by decide⟩ (by decide)
  refine y_val (k_lssF (by omega)) ?_
  refine y_gon rfl (rfl) ?_
  refine y_gon rfl (rfl) ?_
  refine y_gon rfl (ol _) ?_
  by_cases c2 : (r.length : Int) < (size : Int)
  · refine y_gon rfl (k_gtrT c2) ?_
    refine y_val (rfl) ?_
    refine y_ift (rfl) ?_
    exact four_err e12 (Nat.le_refl _) g22 ⟨by decide, by decide⟩ (by decide)
  refine y_gon rfl (k_gtrF (by omega)) ?_
  refine y_val (rfl) ?_
  refine y_iff (rfl) ?_
  by_cases c3 : (all : Int) < (size : Int)
  · refine y_val (k_lssT c3) ?_
    refine y_goff rfl ?_
    refine y_goff rfl ?_
    refine y_goff rfl ?_
    refine y_goff rfl ?_
    refine y_val (rfl) ?_
    refine y_ift (rfl) ?_
    exact four_err e12 (Nat.le_refl _) g22 ⟨by decide, by decide⟩ (by decide)
  refine y_val (k_lssF (by omega)) ?_
  refine y_gon rfl (rfl) ?_
  refine y_gon rfl (rfl) ?_
  refine y_gon rfl (ol _) ?_
  by_cases c4 : (r.length : Int) < (all : Int)
  · refine y_gon rfl (k_gtrT c4) ?_
    refine y_val (rfl) ?_
    refine y_ift (rfl) ?_
    exact four_err e12 (Nat.le_refl _) g22 ⟨by decide, by decide⟩ (by decide)
  refine y_gon rfl (k_gtrF (by omega)) ?_
  refine y_val (rfl) ?_
  refine y_iff (rfl) ?_
  obtain ⟨q, hq⟩ := sum_run (n := n + 2) (σ := s2) (s := r.take size) ht (by rw [List.length_take]; omega)
  refine y_val (o_sto (k := size) (by omega)) ?_
  refine y_cal rfl (hq) ?_
  by_cases c5 : q = 0
  · refine y_val (k_neqF c5) ?_
    refine y_iff (rfl) ?_
    exact four4 ht e12 (Nat.le_refl _) (by omega) g22 (by omega) (by omega) (by omega) (by omega)
  · refine y_val (k_neqT c5) ?_
    refine y_ift (rfl) ?_
    exact four_err e12 (Nat.le_refl _) g22 ⟨by decide, by decide⟩ (by decide)
end
end Core
end Go.Proofs.YtnoieleoklpciaaGreatDoor
