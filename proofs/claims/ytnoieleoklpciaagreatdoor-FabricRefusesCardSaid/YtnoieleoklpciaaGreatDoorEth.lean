/- ether.Take ends. -/
import Derived.Test.YtnoieleoklpciaaGreatDoorOcts
import Derived.Test.YtnoieleoklpciaaGreatDoorFx2
set_option linter.unusedVariables false
set_option linter.unusedSimpArgs false
namespace Go.Proofs.YtnoieleoklpciaaGreatDoor
open Go.Run Go
namespace Core
open Ty
set_option maxRecDepth 1000000
section
variable {n : Nat} {σ : St} {tab : Tab}
def sC (a : List UInt8) : CV := .str ⟨⟨a⟩⟩
def iC (a : Int) : CV := .int .i64 a
/-- an error's number -/
def Er (e : Int) : Prop := 0 ≤ e ∧ e ≤ 17
def fr0 : List CV := [sC [], sC [], .slice none 0 (.ex 0), iC 0]
theorem new202 : newO (C M) 325 σ = .new (.cells fr0 325 true) (fun a => P a 0) := by kernel_rfl
theorem bld202z : bldO (C M) 325 [] σ = .val (.agg fr0) := by kernel_rfl
theorem y_rets3 {t : TypeId} {a b c v : AV} {Q : AV → St → Prop} (h : loadA (C M) t a σ = some v) (hq : Q (.tup [v, b, c]) σ) : Yl (retV (C M) [(some t, a), (none, b), (none, c)] σ) Q := by
  refine y_ret (vs := [v, b, c]) ?_ hq
  show (match loadA (C M) t a σ, (some [b, c] : Option (List AV)) with | some v, some vs => some (v :: vs) | _, _ => none) = _
  rw [h]
theorem len4 {α : Type} {z : List α} (h : z.length = 4) : ∃ a b c d, z = [a, b, c, d] := by
  match z, h with
  | [a, b, c, d], _ => exact ⟨a, b, c, d, rfl⟩
def EthQ (L : Nat) (σ : St) (v : AV) (σ' : St) : Prop := Gr σ σ' ∧ ∃ d s tg ty rest e, v = .tup [.agg [sC d, sC s, tg, iC ty], S rest, I e] ∧ Er e ∧ rest.length ≤ L
structure EthI (σ s : St) (b2 b5 : Nat) (d s' : List UInt8) (tg : CV) (ty : Int) (j : Nat) : Prop where
  gr : Gr σ s
  l0 : σ.next ≤ b2
  l1 : b2 < b5
  l2 : b5 < s.next
  g2 : ∃ z, s.get b2 = some (.cells z 325 true) ∧ z.length = 4
  g5 : s.get b5 = some (.cells [sC d, sC s', tg, iC ty] 325 true)
  bl : ∃ es, Bld 0 (b5 + 1) s 1 383 tg es ∧ es.length = j
theorem eth_err {L : Nat} {s : St} {b2 b5 j : Nat} {d s' : List UInt8} {tg : CV} {ty e : Int} (h : EthI σ s b2 b5 d s' tg ty j) (he : Er e) :
    Yl (bnd (bldO (C M) 325 []) (fun v6 => bnd (stO (C M) 325 (P b2 0) v6) (fun _ => retV (C M) [(some 325, P b2 0), (none, S []), (none, I e)])) s) (EthQ L σ) := by
  obtain ⟨gr, l0, l1, l2, ⟨z, g2, hz⟩, g5, bl⟩ := h
  obtain ⟨a, b, c, d, rfl⟩ := len4 hz
  refine y_val (bld202z) ?_
  refine y_st (o_st g2 rfl sz325 rfl rfl) ?_
  exact y_rets3 (ld_agg (by rw [St.get_put, if_pos rfl]) rfl ag325 sz325 rfl) ⟨gr.put _ l0, _, _, _, _, _, _, rfl, he, Nat.zero_le _⟩
theorem eth_set {s : St} {b2 b5 j : Nat} {d s' : List UInt8} {tg : CV} {ty ty' : Int} (h : EthI σ s b2 b5 d s' tg ty j) : EthI σ (s.put b5 (.cells [sC d, sC s', tg, iC ty'] 325 true)) b2 b5 d s' tg ty' j := by
  obtain ⟨gr, l0, l1, l2, ⟨z, g2, hz⟩, g5, es, bl, hl⟩ := h
  refine ⟨gr.put _ (by omega), l0, l1, by rw [St.next_put]; exact l2, ⟨z, by rw [St.get_put, if_neg (by omega)]; exact g2, hz⟩, by rw [St.get_put, if_pos rfl], es, bl.to (by rw [St.next_put]; omega) fun i hi hlt => by rw [St.get_put, if_neg (by omega)], hl⟩
theorem eth_loop (ht : Fr tab) {L b2 b5 : Nat} {d s' : List UInt8} : ∀ (k j fuel : Nat) (s : St) (tg : CV) (ty : Int) (r : List UInt8), r.length ≤ L → j + k = 2 → k < fuel → EthI σ s b2 b5 d s' tg ty j → Yl (L150_6 M (callK (C M) tab (n + 2)) fuel (S r) (P b2 0) (P b5 0) s) (EthQ L σ) := by
  intro k
  induction k with
  | zero =>
    intro j fuel s tg ty r hL hj hf h
    obtain ⟨f, rfl⟩ : ∃ f, fuel = f + 1 := ⟨fuel - 1, by omega⟩
    rw [L150_6_succ]
    unfold L150_6_b
    refine y_cal rfl (take_run (n := n) (k := 2) ht (by decide) (by decide)) ?_
    unfold takeP
    by_cases hr : r.length < 2
    · rw [if_pos hr]
      refine y_val (rfl) ?_
      refine y_val (rfl) ?_
      refine y_val (rfl) ?_
      refine y_val (fa325_3) ?_
      refine y_st (o_st h.g5 rfl sz3 rfl rfl) ?_
      refine y_val (k_neqT (by decide)) ?_
      refine y_ift (rfl) ?_
      exact eth_err (eth_set h) ⟨by decide, by decide⟩
    · rw [if_neg hr]
      refine y_val (rfl) ?_
      refine y_val (rfl) ?_
      refine y_val (rfl) ?_
      refine y_val (fa325_3) ?_
      refine y_st (o_st h.g5 rfl sz3 rfl rfl) ?_
      refine y_val (k_neqF rfl) ?_
      refine y_iff (rfl) ?_
      have h' := eth_set (ty' := ((numB (r.take 2) : Nat) : Int)) h
      unfold K150_7
      refine y_val (fa325_3) ?_
      refine y_val (o_ld h'.g5 rfl (partA_one ag3 rfl)) ?_
      refine y_cal rfl (tag_run (n := n + 1) ht) ?_
      refine y_val (o_not) ?_
      refine y_if (fun hb => ?_) (fun hb => ?_)
      · obtain ⟨gr, l0, l1, l2, ⟨z, g2, hz⟩, g5, bl⟩ := h'
        obtain ⟨a, b, c, d, rfl⟩ := len4 hz
        refine y_val (o_ld g5 rfl (partA_agg ag325 sz325 rfl)) ?_
        refine y_st (o_st g2 rfl sz325 rfl rfl) ?_
        exact y_rets3 (ld_agg (by rw [St.get_put, if_pos rfl]) rfl ag325 sz325 rfl) ⟨gr.put _ l0, _, _, _, _, _, _, rfl, ⟨by decide, by decide⟩, by (try rw [List.length_drop]); omega⟩
      · unfold K150_8
        obtain ⟨es, hb1, hb2⟩ := h'.bl
        have hrp := hb1.rep (ok := fun _ => True) fun _ _ => trivial
        refine y_val (fa325_2) ?_
        refine y_val (o_ld h'.g5 rfl (partA_one ag323 rfl)) ?_
        refine y_val (len_of un323 hrp) ?_
        refine y_val (k_eqlT (by omega)) ?_
        refine y_ift (rfl) ?_
        exact eth_err h' ⟨by decide, by decide⟩
  | succ k ih =>
    intro j fuel s tg ty r hL hj hf h
    obtain ⟨f, rfl⟩ : ∃ f, fuel = f + 1 := ⟨fuel - 1, by omega⟩
    rw [L150_6_succ]
    unfold L150_6_b
    refine y_cal rfl (take_run (n := n) (k := 2) ht (by decide) (by decide)) ?_
    unfold takeP
    by_cases hr : r.length < 2
    · rw [if_pos hr]
      refine y_val (rfl) ?_
      refine y_val (rfl) ?_
      refine y_val (rfl) ?_
      refine y_val (fa325_3) ?_
      refine y_st (o_st h.g5 rfl sz3 rfl rfl) ?_
      refine y_val (k_neqT (by decide)) ?_
      refine y_ift (rfl) ?_
      exact eth_err (eth_set h) ⟨by decide, by decide⟩
    · rw [if_neg hr]
      refine y_val (rfl) ?_
      refine y_val (rfl) ?_
      refine y_val (rfl) ?_
      refine y_val (fa325_3) ?_
      refine y_st (o_st h.g5 rfl sz3 rfl rfl) ?_
      refine y_val (k_neqF rfl) ?_
      refine y_iff (rfl) ?_
      have h' := eth_set (ty' := ((numB (r.take 2) : Nat) : Int)) h
      generalize ((numB (r.take 2) : Nat) : Int) = kd at h' ⊢
      rw [show ∀ x : Int, (Blk.cells [sC d, sC s', tg, CV.int IntKind.i64 x] 325 true) = .cells [sC d, sC s', tg, iC x] 325 true from fun _ => rfl]
      generalize s.put b5 _ = s1 at h' ⊢
      have hL1 : (r.drop 2).length ≤ L := by rw [List.length_drop]; omega
      clear hL
      generalize r.drop 2 = r at hL1 ⊢
      unfold K150_7
      refine y_val (fa325_3) ?_
      refine y_val (o_ld h'.g5 rfl (partA_one ag3 rfl)) ?_
      refine y_cal rfl (tag_run (n := n + 1) ht) ?_
      refine y_val (o_not) ?_
      refine y_if (fun hb => ?_) (fun hb => ?_)
      · obtain ⟨gr, l0, l1, l2, ⟨z, g2, hz⟩, g5, bl⟩ := h'
        obtain ⟨a, b, c, d, rfl⟩ := len4 hz
        refine y_val (o_ld g5 rfl (partA_agg ag325 sz325 rfl)) ?_
        refine y_st (o_st g2 rfl sz325 rfl rfl) ?_
        exact y_rets3 (ld_agg (by rw [St.get_put, if_pos rfl]) rfl ag325 sz325 rfl) ⟨gr.put _ l0, _, _, _, _, _, _, rfl, ⟨by decide, by decide⟩, by (try rw [List.length_drop]); omega⟩
      · unfold K150_8
        obtain ⟨gr, l0, l1, l2, g2, g5, es, hb1, hb2⟩ := h'
        have hrp := hb1.rep (ok := fun _ => True) fun _ _ => trivial
        refine y_val (fa325_2) ?_
        refine y_val (o_ld g5 rfl (partA_one ag323 rfl)) ?_
        refine y_val (len_of un323 hrp) ?_
        refine y_val (k_eqlF (by omega)) ?_
        refine y_iff (rfl) ?_
        unfold K150_9
        refine y_val (fa325_3) ?_
        refine y_val (o_ld g5 rfl (partA_one ag3 rfl)) ?_
        have bld260 : ∀ s, bldO (C M) 383 [(0, .one (iC kd))] s = .val (.agg [iC kd, iC 0]) := fun s => by kernel_rfl
        have new260 : ∀ s, newO (C M) 383 s = .new (.cells [iC 0, iC 0] 383 true) (fun a => P a 0) := fun s => by kernel_rfl
        refine y_val (bld260 _) ?_
        refine y_new (new260 _) ?_
        refine y_st (o_st (by rw [St.get_push, if_pos rfl]) rfl sz383 rfl rfl) ?_
        generalize hs2 : (s1.push (.cells [iC 0, iC 0] 383 true)).put s1.next (.cells [iC kd, iC 0] 383 true) = s2
        have n2 : s2.next = s1.next + 1 := by rw [← hs2]; rfl
        have e2 : Gr s1 s2 := by rw [← hs2]; exact (Gr.push _ _).put _ (Nat.le_refl _)
        have g7 : s2.get s1.next = some (.cells [iC kd, iC 0] 383 true) := by rw [← hs2, St.get_put, if_pos rfl]
        unfold K150_10
        refine y_cal rfl (take_run (n := n) (k := 2) ht (by decide) (by decide)) ?_
        unfold takeP
        obtain ⟨z, g2, hz⟩ := g2
        by_cases hr : r.length < 2
        · rw [if_pos hr]
          refine y_val (rfl) ?_
          refine y_val (rfl) ?_
          refine y_val (rfl) ?_
          refine y_val (fa383_1) ?_
          refine y_st (o_st g7 rfl sz3 rfl rfl) ?_
          refine y_val (k_neqT (by decide)) ?_
          refine y_ift (rfl) ?_
          have h2 : EthI σ (s2.put s1.next (.cells [iC kd, iC 0] 383 true)) b2 b5 d s' tg kd j :=
            ⟨(gr.trans e2).put _ (by have := gr.1; omega), l0, l1, by rw [St.next_put]; omega, ⟨z, by rw [St.get_put, if_neg (by omega), e2.2 _ (by omega)]; exact g2, hz⟩, by rw [St.get_put, if_neg (by omega), e2.2 _ l2]; exact g5, es, hb1.to (by rw [St.next_put]; omega) fun i _ hi => by rw [St.get_put, if_neg (by omega), e2.2 i hi], hb2⟩
          exact eth_err h2 ⟨by decide, by decide⟩
        · rw [if_neg hr]
          refine y_val (rfl) ?_
          refine y_val (rfl) ?_
          refine y_val (rfl) ?_
          refine y_val (fa383_1) ?_
          refine y_st (o_st g7 rfl sz3 rfl rfl) ?_
          refine y_val (k_neqF rfl) ?_
          refine y_iff (rfl) ?_
          generalize ((numB (r.take 2) : Nat) : Int) = va
          rw [show ∀ x : Int, (Blk.cells [iC kd, CV.int IntKind.i64 x] 383 true) = .cells [iC kd, iC x] 383 true from fun _ => rfl]
          generalize hs3 : s2.put s1.next (.cells [iC kd, iC va] 383 true) = s3
          have n3 : s3.next = s2.next := by rw [← hs3]; rfl
          have e3 : Gr s1 s3 := by rw [← hs3]; exact e2.put _ (Nat.le_refl _)
          have g7 : s3.get s1.next = some (.cells [iC kd, iC va] 383 true) := by rw [← hs3, St.get_put, if_pos rfl]
          have g53 : s3.get b5 = some (.cells [sC d, sC s', tg, iC kd] 325 true) := (e3.2 _ l2).trans g5
          have bs260 : ∀ s, bslO (C M) 323 1 [(0, .agg [iC kd, iC va])] s = .new (.cells [iC kd, iC va] 383 true) (fun i => .one (.slice (some (i, 0)) 1 (.to (1 + 1)))) := fun s => by kernel_rfl
          have hb3 := hb1.ext e3
          have hat := fun i (hi : isAt tg i) => hb3.at hi
          refine y_val (fa325_2) ?_
          refine y_val (o_ld g53 rfl (partA_one ag323 rfl)) ?_
          refine y_val (o_ld g7 rfl (partA_agg ag383 sz383 rfl)) ?_
          refine y_app un323 in383 (by kernel_rfl) (by kernel_rfl) (by decide) (bs260 _) hb3 (by omega) (x := [.flat (iC kd), .flat (iC va)]) (.cons (.flat rfl) (.cons (.flat rfl) .nil)) rfl (by omega) fun s4 tg' hb4 n4 g4 => ?_
          have g54 : s4.get b5 = some (.cells [sC d, sC s', tg, iC kd] 325 true) := (g4 b5 (by omega) fun h => by have := hat _ h; omega).trans g53
          refine y_val (fa325_2) ?_
          refine y_st (o_st g54 rfl sz323 rfl rfl) ?_
          refine ih (j + 1) f _ tg' kd _ (by rw [List.length_drop]; omega) (by omega) (by omega) ⟨⟨by rw [St.next_put]; have := gr.1; omega, fun i hi => ?_⟩, l0, l1, by rw [St.next_put]; omega, ⟨z, ?_, hz⟩, by rw [St.get_put, if_pos rfl], _, hb4.to (by rw [St.next_put]; omega) fun i hi hlt => by rw [St.get_put, if_neg (by omega)], by rw [List.length_append, hb2]; rfl⟩
          · rw [St.get_put, if_neg (by omega), g4 i (by have := gr.1; omega) (fun h => by have := hat _ h; omega), e3.2 i (by have := gr.1; omega), gr.2 i hi]
          · rw [St.get_put, if_neg (by omega), g4 b2 (by omega) (fun h => by have := hat _ h; omega), e3.2 b2 (by omega)]; exact g2
theorem eth_run (ht : Fr tab) {r : List UInt8} : Yl (callK (C M) tab (n + 3) 150 [S r] σ) (EthQ r.length σ) := by
  refine y_body (ht _ rfl) Tryz.func150 (by kernel_rfl) ?_
  rw [F150_eq]
  unfold K150_0
  refine y_new (new202) ?_
  unfold K150_1
  refine y_new (new202) ?_
  generalize hs : (σ.push (.cells fr0 325 true)).push (.cells fr0 325 true) = s
  have hn : s.next = σ.next + 2 := by rw [← hs]; rfl
  have e : Gr σ s := by rw [← hs]; exact (Gr.push _ _).trans (Gr.push _ _)
  have h : EthI σ s σ.next (σ.next + 1) [] [] (.slice none 0 (.ex 0)) 0 0 :=
    ⟨e, Nat.le_refl _, by omega, by omega, ⟨fr0, by rw [← hs, St.get_push, if_neg (by rw [St.next_push]; omega), St.get_push, if_pos rfl], rfl⟩, by rw [← hs, St.get_push, if_pos (show σ.next + 1 = (σ.push (.cells fr0 325 true)).next from rfl)]; rfl, [], Bld.nil, rfl⟩
  have hset : ∀ {s : St} {d d' r r' : List UInt8}, EthI σ s σ.next (σ.next + 1) d r (.slice none 0 (.ex 0)) 0 0 → EthI σ (s.put (σ.next + 1) (.cells [sC d', sC r', .slice none 0 (.ex 0), iC 0] 325 true)) σ.next (σ.next + 1) d' r' (.slice none 0 (.ex 0)) 0 0 := by
    rintro s d d' r r' ⟨gr, l0, l1, l2, ⟨z, g2, hz⟩, g5, es, bl, hl⟩
    exact ⟨gr.put _ (by omega), l0, l1, by rw [St.next_put]; exact l2, ⟨z, by rw [St.get_put, if_neg (by omega)]; exact g2, hz⟩, by rw [St.get_put, if_pos rfl], [], Bld.nil, rfl⟩
  unfold K150_2 K150_3
  show Yl (bnd _ _ _) _
  have hc := fun (s : St) (r : List UInt8) => cut_run (n := n + 1) (σ := s) (k := 6) ht (s := r)
  unfold cutP at hc
  refine y_cal rfl (hc _ _) ?_
  by_cases hr : r.length < 6
  · rw [if_pos hr]
    refine y_val (rfl) ?_
    refine y_val (rfl) ?_
    refine y_val (rfl) ?_
    refine y_val (fa325_0) ?_
    refine y_st (o_st h.g5 rfl sz9 rfl rfl) ?_
    refine y_val (k_neqT (by decide)) ?_
    refine y_ift (rfl) ?_
    exact eth_err (hset h) ⟨by decide, by decide⟩
  · rw [if_neg hr]
    refine y_val (rfl) ?_
    refine y_val (rfl) ?_
    refine y_val (rfl) ?_
    refine y_val (fa325_0) ?_
    refine y_st (o_st h.g5 rfl sz9 rfl rfl) ?_
    refine y_val (k_neqF rfl) ?_
    refine y_iff (rfl) ?_
    have h1 := hset (d' := r.take 6) (r' := []) h
    have hq6 : (r.drop 6).length ≤ r.length := by rw [List.length_drop]; omega
    generalize r.drop 6 = q at hq6 ⊢
    unfold K150_4
    refine y_cal rfl (hc _ _) ?_
    by_cases hq : q.length < 6
    · rw [if_pos hq]
      refine y_val (rfl) ?_
      refine y_val (rfl) ?_
      refine y_val (rfl) ?_
      refine y_val (fa325_1) ?_
      refine y_st (o_st h1.g5 rfl sz9 rfl rfl) ?_
      refine y_val (k_neqT (by decide)) ?_
      refine y_ift (rfl) ?_
      exact eth_err (hset h1) ⟨by decide, by decide⟩
    · rw [if_neg hq]
      refine y_val (rfl) ?_
      refine y_val (rfl) ?_
      refine y_val (rfl) ?_
      refine y_val (fa325_1) ?_
      refine y_st (o_st h1.g5 rfl sz9 rfl rfl) ?_
      refine y_val (k_neqF rfl) ?_
      refine y_iff (rfl) ?_
      unfold K150_5
      exact eth_loop ht 2 0 M _ _ _ _ (by rw [List.length_drop]; omega) (by omega) (by unfold M; omega) (hset (d' := r.take 6) (r' := q.take 6) h1)
end
end Core
end Go.Proofs.YtnoieleoklpciaaGreatDoor
