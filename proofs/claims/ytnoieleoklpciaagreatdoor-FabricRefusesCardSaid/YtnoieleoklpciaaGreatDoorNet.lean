/- flow.network, flow.Extract end; flow.Key. -/
import Derived.Test.YtnoieleoklpciaaGreatDoorSix
set_option linter.unusedVariables false
set_option linter.unusedSimpArgs false
namespace Go.Proofs.YtnoieleoklpciaaGreatDoor
open Go.Run Go
namespace Core
open Ty
set_option maxRecDepth 1000000
section
variable {n : Nat} {σ : St} {tab : Tab}
def NetQ (σ : St) (v : AV) (σ' : St) : Prop := Gr σ σ' ∧ ∃ (src dst : List UInt8) (p : Int) (body : List UInt8) (e : Int), v = .tup [.agg [sC src, sC dst, iC p, iC 0, iC 0], S body, I e] ∧ Er e ∧ (e = 0 → src.length = 16 ∧ dst.length = 16 ∧ 0 ≤ p ∧ p < 256)
def fl0 : List CV := [sC [], sC [], iC 0, iC 0, iC 0]
theorem new149 : newO (C M) 276 σ = .new (.cells fl0 276 true) (fun a => P a 0) := by kernel_rfl
theorem bld149z : bldO (C M) 276 [] σ = .val (.agg fl0) := by kernel_rfl
theorem bld149 {a b : List UInt8} {p : Int} : bldO (C M) 276 [(0, S a), (1, S b), (2, I p)] σ = .val (.agg [sC a, sC b, iC p, iC 0, iC 0]) := by kernel_rfl
theorem net6 {s : St} {b4 b7 : Nat} {a b c off ttl p e : Int} {src dst opt body : List UInt8} {zs : List CV} (gr : Gr σ s) (l4 : σ.next ≤ b4) (g4 : s.get b4 = some (.cells zs 276 true)) (hz : zs.length = 5) (g7 : s.get b7 = some (.cells [iC a, iC b, iC c, iC off, iC ttl, iC p, sC src, sC dst, sC opt] 385 true)) (he : Er e)
    (hs : src.length ≤ 100 ∧ dst.length ≤ 100) (h0 : e = 0 → src.length = 4 ∧ dst.length = 4 ∧ 0 ≤ p ∧ p < 256) : Yl (K151_6 M (callK (C M) tab n) (P b4 0) (P b7 0) (S body) (I e) s) (NetQ σ) := by
  obtain ⟨z1, z2, z3, z4, z5, rfl⟩ : ∃ a b c d e, zs = [a, b, c, d, e] := by
    match zs, hz with
    | [a, b, c, d, e], _ => exact ⟨a, b, c, d, e, rfl⟩
  unfold K151_6
  have g := g7
  refine y_val (fa385_6) ?_
  refine y_val (o_ld g rfl (partA_one ag9 rfl)) ?_
  refine y_val (o_sadd (by simp only [List.length_cons, List.length_nil]; omega)) ?_
  refine y_val (fa385_7) ?_
  refine y_val (o_ld g rfl (partA_one ag9 rfl)) ?_
  refine y_val (o_sadd (by simp only [List.length_cons, List.length_nil]; omega)) ?_
  refine y_val (fa385_5) ?_
  refine y_val (o_ld g rfl (partA_one ag3 rfl)) ?_
  refine y_val (bld149) ?_
  refine y_st (o_st g4 rfl sz276 rfl rfl) ?_
  exact y_rets3 (ld_agg (by rw [St.get_put, if_pos rfl]) rfl ag276 sz276 rfl) ⟨gr.put _ l4, _, _, _, _, _, rfl, he, fun h => by
    obtain ⟨h1, h2, h3, h4⟩ := h0 h
    exact ⟨by simp [h1], by simp [h2], h3, h4⟩⟩
theorem net9 {s : St} {b4 b10 : Nat} {a b c p e : Int} {src dst body : List UInt8} {ch : CV} {zs : List CV} (gr : Gr σ s) (l4 : σ.next ≤ b4) (g4 : s.get b4 = some (.cells zs 276 true)) (hz : zs.length = 5) (g : s.get b10 = some (.cells [iC a, iC b, iC c, iC p, sC src, sC dst, ch] 390 true)) (he : Er e)
    (h0 : e = 0 → src.length = 16 ∧ dst.length = 16 ∧ 0 ≤ p ∧ p < 256) : Yl (K151_9 M (callK (C M) tab n) (P b4 0) (P b10 0) (S body) (I e) s) (NetQ σ) := by
  obtain ⟨z1, z2, z3, z4, z5, rfl⟩ : ∃ a b c d e, zs = [a, b, c, d, e] := by
    match zs, hz with
    | [a, b, c, d, e], _ => exact ⟨a, b, c, d, e, rfl⟩
  unfold K151_9
  refine y_val (fa390_4) ?_
  refine y_val (o_ld g rfl (partA_one ag9 rfl)) ?_
  refine y_val (fa390_5) ?_
  refine y_val (o_ld g rfl (partA_one ag9 rfl)) ?_
  refine y_val (fa390_3) ?_
  refine y_val (o_ld g rfl (partA_one ag3 rfl)) ?_
  refine y_val (bld149) ?_
  refine y_st (o_st g4 rfl sz276 rfl rfl) ?_
  exact y_rets3 (ld_agg (by rw [St.get_put, if_pos rfl]) rfl ag276 sz276 rfl) ⟨gr.put _ l4, _, _, _, _, _, rfl, he, h0⟩
theorem net_run (ht : Fr tab) {k : Int} {r : List UInt8} (hrl : r.length ≤ 100000) : Yl (callK (C M) tab (n + 6) 151 [I k, S r] σ) (NetQ σ) := by
  refine y_body (ht _ rfl) Tryz.func151 (by kernel_rfl) ?_
  rw [F151_eq]
  unfold K151_0
  refine y_new (new149) ?_
  generalize hs : σ.push (.cells fl0 276 true) = s
  have hn : s.next = σ.next + 1 := by rw [← hs]; rfl
  have e1 : Gr σ s := by rw [← hs]; exact Gr.push _ _
  have g4 : s.get σ.next = some (.cells fl0 276 true) := by rw [← hs, St.get_push, if_pos rfl]
  unfold K151_1 K151_3
  by_cases h1 : k = 2048
  · refine y_val (k_eqlT h1) ?_
    unfold K151_4
    refine y_ift (rfl) ?_
    refine y_cyl rfl (four_run (n := n + 1) (σ := s) (r := r) ht) fun v s2 ⟨e2, a, b, c, off, ttl, p, src, dst, opt, body, e, hv, he, hl, h0⟩ => ?_
    subst hv
    refine y_val (rfl) ?_
    refine y_val (rfl) ?_
    refine y_val (rfl) ?_
    have new262 : ∀ s, newO (C M) 385 s = .new (.cells [iC 0, iC 0, iC 0, iC 0, iC 0, iC 0, sC [], sC [], sC []] 385 true) (fun a => P a 0) := fun s => by kernel_rfl
    refine y_new (new262 _) ?_
    refine y_st (o_st (by rw [St.get_push, if_pos rfl]) rfl sz385 rfl rfl) ?_
    generalize hs3 : (s2.push (.cells [iC 0, iC 0, iC 0, iC 0, iC 0, iC 0, sC [], sC [], sC []] 385 true)).put s2.next (.cells [iC a, iC b, iC c, iC off, iC ttl, iC p, sC src, sC dst, sC opt] 385 true) = s3
    have e3 : Gr s2 s3 := by rw [← hs3]; exact (Gr.push _ _).put _ (Nat.le_refl _)
    have g7 : s3.get s2.next = some (.cells [iC a, iC b, iC c, iC off, iC ttl, iC p, sC src, sC dst, sC opt] 385 true) := by rw [← hs3, St.get_put, if_pos rfl]
    have ee := e1.trans (e2.trans e3)
    have g43 : s3.get σ.next = some (.cells fl0 276 true) := ((e2.trans e3).2 _ (by omega)).trans g4
    unfold K151_5
    by_cases hz : e = 0
    · refine y_val (k_eqlT hz) ?_
      refine y_gon rfl fa385_3 ?_
      refine y_gon rfl (o_ld g7 rfl (partA_one ag3 rfl)) ?_
      refine y_gon rfl (o_neq) ?_
      refine y_val (rfl) ?_
      refine y_if (fun hb => ?_) (fun hb => ?_)
      · exact net6 ee (Nat.le_refl _) g43 rfl g7 ⟨by decide, by decide⟩ hl (fun h => by cases h)
      · exact net6 ee (Nat.le_refl _) g43 rfl g7 he hl h0
    · refine y_val (k_eqlF hz) ?_
      refine y_goff rfl ?_
      refine y_goff rfl ?_
      refine y_goff rfl ?_
      refine y_val (rfl) ?_
      refine y_iff (rfl) ?_
      exact net6 ee (Nat.le_refl _) g43 rfl g7 he hl h0
  · refine y_val (k_eqlF h1) ?_
    unfold K151_4
    refine y_iff (rfl) ?_
    by_cases h2 : k = 34525
    · refine y_val (k_eqlT h2) ?_
      unfold K151_7
      refine y_ift (rfl) ?_
      refine y_cyl rfl (six_run (n := n + 1) (σ := s) (r := r) ht hrl) fun v s2 ⟨e2, a, b, c, p, src, dst, ch, body, e, hv, he, h0, es, hrep, hes⟩ => ?_
      subst hv
      refine y_val (rfl) ?_
      refine y_val (rfl) ?_
      refine y_val (rfl) ?_
      have new267 : ∀ s, newO (C M) 390 s = .new (.cells [iC 0, iC 0, iC 0, iC 0, sC [], sC [], .slice none 0 (.ex 0)] 390 true) (fun a => P a 0) := fun s => by kernel_rfl
      refine y_new (new267 _) ?_
      refine y_st (o_st (by rw [St.get_push, if_pos rfl]) rfl sz390 rfl rfl) ?_
      generalize hs3 : (s2.push (.cells [iC 0, iC 0, iC 0, iC 0, sC [], sC [], .slice none 0 (.ex 0)] 390 true)).put s2.next (.cells [iC a, iC b, iC c, iC p, sC src, sC dst, ch] 390 true) = s3
      have e3 : Gr s2 s3 := by rw [← hs3]; exact (Gr.push _ _).put _ (Nat.le_refl _)
      have g7 : s3.get s2.next = some (.cells [iC a, iC b, iC c, iC p, sC src, sC dst, ch] 390 true) := by rw [← hs3, St.get_put, if_pos rfl]
      have ee := e1.trans (e2.trans e3)
      have g43 : s3.get σ.next = some (.cells fl0 276 true) := ((e2.trans e3).2 _ (by omega)).trans g4
      unfold K151_8
      by_cases hz : e = 0
      · refine y_val (k_eqlT hz) ?_
        refine y_gon rfl (o_ld g7 rfl (partA_agg ag390 sz390 rfl)) ?_
        have hp := piece_run (n := n + 1) (σ := s3) (a := a) (b := b) (c := c) (p := p) (src := src) (dst := dst) ht (hrep.ext e3) hes
        obtain ⟨v, s4, hcall, q, hv, e4⟩ := hp
        subst hv
        have e24 := e2.1
        refine y_gcal rfl rfl (hcall) ?_
        refine y_val (rfl) ?_
        have g74 := (e4.2 _ (by have := e3.1; have : s3.next = s2.next + 1 := by rw [← hs3]; rfl
                                omega)).trans g7
        have g44 := (e4.2 _ (by have := e3.1; omega)).trans g43
        refine y_if (fun hb => ?_) (fun hb => ?_)
        · exact net9 (ee.trans e4) (Nat.le_refl _) g44 rfl g74 ⟨by decide, by decide⟩ (fun h => by cases h)
        · exact net9 (ee.trans e4) (Nat.le_refl _) g44 rfl g74 he h0
      · refine y_val (k_eqlF hz) ?_
        refine y_goff rfl ?_
        refine y_goff rfl ?_
        refine y_val (rfl) ?_
        refine y_iff (rfl) ?_
        exact net9 ee (Nat.le_refl _) g43 rfl g7 he h0
    · refine y_val (k_eqlF h2) ?_
      unfold K151_7
      refine y_iff (rfl) ?_
      unfold K151_2
      refine y_val (bld149z) ?_
      refine y_st (o_st g4 rfl sz276 rfl rfl) ?_
      exact y_rets3 (ld_agg (by rw [St.get_put, if_pos rfl]) rfl ag276 sz276 rfl) ⟨e1.put _ (Nat.le_refl _), _, _, _, _, _, rfl, ⟨by decide, by decide⟩, fun h => by cases h⟩
/-- what flow.Extract answers -/
def ExQ (σ : St) (v : AV) (σ' : St) : Prop := Gr σ σ' ∧ ∃ (src dst : List UInt8) (p a b e : Int), v = .tup [.agg [sC src, sC dst, iC p, iC a, iC b], I e] ∧ Er e ∧ (e = 0 → src.length = 16 ∧ dst.length = 16 ∧ (0 ≤ p ∧ p < 256) ∧ (0 ≤ a ∧ a < 65536) ∧ 0 ≤ b ∧ b < 65536)
theorem fl5 {zs : List CV} (h : zs.length = 5) : ∃ a b c d e, zs = [a, b, c, d, e] := by
  match zs, h with
  | [a, b, c, d, e], _ => exact ⟨a, b, c, d, e, rfl⟩
theorem ex_err {s : St} {b2 : Nat} {e : Int} {zs : List CV} (gr : Gr σ s) (l0 : σ.next ≤ b2) (g2 : s.get b2 = some (.cells zs 276 true)) (hz : zs.length = 5) (he : Er e) (he0 : e ≠ 0) :
    Yl (bnd (bldO (C M) 276 []) (fun v6 => bnd (stO (C M) 276 (P b2 0) v6) (fun _ => retV (C M) [(some 276, P b2 0), (none, I e)])) s) (ExQ σ) := by
  obtain ⟨z1, z2, z3, z4, z5, rfl⟩ := fl5 hz
  refine y_val (bld149z) ?_
  refine y_st (o_st g2 rfl sz276 rfl rfl) ?_
  exact y_rets (ld_agg (by rw [St.get_put, if_pos rfl]) rfl ag276 sz276 rfl) ⟨gr.put _ l0, _, _, _, _, _, _, rfl, he, fun h => absurd h he0⟩
theorem exl_run (ht : Fr tab) {r : List UInt8} : Yl (callK (C M) tab (n + 7) 110 [S r] σ) (ExQ σ) := by
  refine y_body (ht _ rfl) Tryz.func110 (by kernel_rfl) ?_
  rw [F110_eq]
  unfold K110_0
  refine y_new (new149) ?_
  generalize hs : σ.push (.cells fl0 276 true) = s
  have hn : s.next = σ.next + 1 := by rw [← hs]; rfl
  have e1 : Gr σ s := by rw [← hs]; exact Gr.push _ _
  have g4 : s.get σ.next = some (.cells fl0 276 true) := by rw [← hs, St.get_push, if_pos rfl]
  unfold K110_1
  refine y_val (o_slen un9) ?_
  by_cases hl : (2048 : Int) < (r.length : Int)
  · refine y_val (k_gtrT hl) ?_
    refine y_ift (rfl) ?_
    exact ex_err e1 (Nat.le_refl _) g4 rfl ⟨by decide, by decide⟩ (by decide)
  refine y_val (k_gtrF (by omega)) ?_
  refine y_iff (rfl) ?_
  unfold K110_2
  refine y_cyl rfl (eth_run (n := n + 3) (σ := s) (r := r) ht) fun v s2 ⟨e2, d, s0, tg, ty, rest, e, hv, he, hrest⟩ => ?_
  subst hv
  refine y_val (rfl) ?_
  refine y_val (rfl) ?_
  refine y_val (rfl) ?_
  refine y_new (new202) ?_
  refine y_st (o_st (by rw [St.get_push, if_pos rfl]) rfl sz325 rfl rfl) ?_
  generalize hs3 : (s2.push (.cells fr0 325 true)).put s2.next (.cells [sC d, sC s0, tg, iC ty] 325 true) = s3
  have e3 : Gr s2 s3 := by rw [← hs3]; exact (Gr.push _ _).put _ (Nat.le_refl _)
  have g7 : s3.get s2.next = some (.cells [sC d, sC s0, tg, iC ty] 325 true) := by rw [← hs3, St.get_put, if_pos rfl]
  have ee := e1.trans (e2.trans e3)
  have g43 := ((e2.trans e3).2 _ (by omega)).trans g4
  unfold K110_3
  by_cases h0 : e = 0
  · refine y_val (k_neqF h0) ?_
    refine y_iff (rfl) ?_
    unfold K110_4
    refine y_val (fa325_3) ?_
    refine y_val (o_ld g7 rfl (partA_one ag3 rfl)) ?_
    refine y_cyl rfl (net_run (n := n) (σ := s3) (k := ty) (r := rest) ht (by omega)) fun v s4 ⟨e4, src, dst, p, body, q, hv, hq, h1⟩ => ?_
    subst hv
    refine y_val (rfl) ?_
    refine y_val (rfl) ?_
    refine y_val (rfl) ?_
    refine y_new (new149) ?_
    refine y_st (o_st (by rw [St.get_push, if_pos rfl]) rfl sz276 rfl rfl) ?_
    generalize hs5 : (s4.push (.cells fl0 276 true)).put s4.next (.cells [sC src, sC dst, iC p, iC 0, iC 0] 276 true) = s5
    have n5 : s5.next = s4.next + 1 := by rw [← hs5]; rfl
    have e5 : Gr s4 s5 := by rw [← hs5]; exact (Gr.push _ _).put _ (Nat.le_refl _)
    have g6 : s5.get s4.next = some (.cells [sC src, sC dst, iC p, iC 0, iC 0] 276 true) := by rw [← hs5, St.get_put, if_pos rfl]
    have ef := ee.trans (e4.trans e5)
    have l3 := (e2.trans e3).1
    have l4 := e4.1
    have g45 := ((e4.trans e5).2 _ (by omega)).trans g43
    unfold K110_5
    by_cases hq0 : q = 0
    · obtain ⟨h2, h3, h4, h5⟩ := h1 hq0
      have done : ∀ (a b : Int) (s6 : St) (zs : List CV), (0 ≤ a ∧ a < 65536) → (0 ≤ b ∧ b < 65536) → Gr σ s6 → s6.get σ.next = some (.cells zs 276 true) → zs.length = 5 → s6.get s4.next = some (.cells [sC src, sC dst, iC p, iC a, iC b] 276 true) →
          Yl (bnd (ldO (C M) 276 (P s4.next 0)) (fun v7 => bnd (stO (C M) 276 (P σ.next 0) v7) (fun _ => retV (C M) [(some 276, P σ.next 0), (none, I 0)])) s6) (ExQ σ) := by
        intro a b s6 zs ha hb e6 k1 k2 k3
        obtain ⟨z1, z2, z3, z4, z5, rfl⟩ := fl5 k2
        refine y_val (o_ld k3 rfl (partA_agg ag276 sz276 rfl)) ?_
        refine y_st (o_st k1 rfl sz276 rfl rfl) ?_
        exact y_rets (ld_agg (by rw [St.get_put, if_pos rfl]) rfl ag276 sz276 rfl) ⟨e6.put _ (Nat.le_refl _), _, _, _, _, _, _, rfl, ⟨by decide, by decide⟩, fun _ => ⟨h2, h3, ⟨h4, h5⟩, ha, hb⟩⟩
      refine y_val (k_neqF hq0) ?_
      refine y_iff (rfl) ?_
      unfold K110_6
      have port : Yl (K110_7 M (callK (C M) tab (n + 6)) (P σ.next 0) (P s4.next 0) (S body) s5) (ExQ σ) := by
        unfold K110_7
        refine y_val (fa276_2) ?_
        refine y_val (o_ld g6 rfl (partA_one ag3 rfl)) ?_
        refine y_cyl rfl (port_run (n := n + 2) (σ := s5) (p := p) (r := body) ht) fun v s6 ⟨es, a, b, r6, e6, hv, he6, ha, hb⟩ => ?_
        subst hv
        subst es
        refine y_val (rfl) ?_
        refine y_val (rfl) ?_
        refine y_val (rfl) ?_
        refine y_val (rfl) ?_
        refine y_val (fa276_3) ?_
        refine y_st (o_st g6 rfl sz3 rfl rfl) ?_
        refine y_val (fa276_4) ?_
        refine y_st (o_st (by rw [St.get_put, if_pos rfl]) rfl sz3 rfl rfl) ?_
        have gz : ((s6.put s4.next (.cells [sC src, sC dst, iC p, iC (a : Nat), iC 0] 276 true)).put s4.next (.cells [sC src, sC dst, iC p, iC (a : Nat), iC (b : Nat)] 276 true)).get σ.next = some (.cells fl0 276 true) := by
          rw [St.get_put, if_neg (by omega), St.get_put, if_neg (by omega)]; exact g45
        have gw : Gr σ ((s6.put s4.next (.cells [sC src, sC dst, iC p, iC (a : Nat), iC 0] 276 true)).put s4.next (.cells [sC src, sC dst, iC p, iC (a : Nat), iC (b : Nat)] 276 true)) := (ef.put _ (by omega)).put _ (by omega)
        by_cases hz : e6 = 0
        · refine y_val (k_neqF hz) ?_
          refine y_iff (rfl) ?_
          exact done (a : Nat) (b : Nat) _ _ ⟨Int.natCast_nonneg _, by omega⟩ ⟨Int.natCast_nonneg _, by omega⟩ gw gz rfl (by rw [St.get_put, if_pos rfl]; rfl)
        · refine y_val (k_neqT hz) ?_
          refine y_ift (rfl) ?_
          exact ex_err gw (Nat.le_refl _) gz rfl he6 hz
      refine y_val (fa276_2) ?_
      refine y_val (o_ld g6 rfl (partA_one ag3 rfl)) ?_
      by_cases h6 : p = 6
      · refine y_val (k_neqF h6) ?_
        refine y_goff rfl ?_
        refine y_goff rfl ?_
        refine y_goff rfl ?_
        refine y_val (rfl) ?_
        refine y_iff (rfl) ?_
        exact port
      refine y_val (k_neqT h6) ?_
      refine y_gon rfl fa276_2 ?_
      refine y_gon rfl (o_ld g6 rfl (partA_one ag3 rfl)) ?_
      by_cases h17 : p = 17
      · refine y_gon rfl (k_neqF h17) ?_
        refine y_val (rfl) ?_
        refine y_iff (rfl) ?_
        exact port
      refine y_gon rfl (k_neqT h17) ?_
      refine y_val (rfl) ?_
      refine y_ift (rfl) ?_
      exact done 0 0 s5 fl0 ⟨by decide, by decide⟩ ⟨by decide, by decide⟩ ef g45 rfl g6
    · refine y_val (k_neqT hq0) ?_
      refine y_ift (rfl) ?_
      exact ex_err ef (Nat.le_refl _) g45 rfl hq hq0
  · refine y_val (k_neqT h0) ?_
    refine y_ift (rfl) ?_
    exact ex_err ee (Nat.le_refl _) g43 rfl he h0
end
end Core
end Go.Proofs.YtnoieleoklpciaaGreatDoor
