/- bank.Feed ends. -/
import Derived.Test.YtnoieleoklpciaaGreatDoorFeed
set_option linter.unusedVariables false
set_option linter.unusedSimpArgs false
namespace Go.Proofs.YtnoieleoklpciaaGreatDoor
open Go.Run Go
namespace Core
open Ty
set_option maxRecDepth 1000000
section
variable {σ : St} {n : Nat}
theorem clone_run {tab : Tab} (ht : Fr tab) {a : Nat} (ha : a < σ.next) (hg : σ.get a = some (.cells rjL 3 true)) : callK (C M) tab (n + 1) 41 [.one (st a 18 1)] σ = some (.one (st (σ.next + 1) 18 1), (σ.push (.cells [] 3 true)).push (.cells rjL 3 false)) := by
  refine callK_body (ht _ rfl) Tryz.func41 (by kernel_rfl) ?_
  rw [F41_eq]
  refine Yl.eq ?_
  unfold K41_0
  have e1 : binO (C M) .eql 56 (.one (st a 18 1)) NS σ = .val (B false) := by kernel_rfl
  have e2 : bslO (C M) 56 0 [] σ = .new (.cells [] 3 true) (fun i => .one (.slice (some (i, 0)) 0 (.to (0 + 1)))) := by kernel_rfl
  refine y_val (e1) ?_
  refine y_iff (rfl) ?_
  refine y_new (e2) ?_
  obtain ⟨inf, hi, he⟩ := Option.map_eq_some_iff.mp (in3 (m := M))
  obtain ⟨he1, he2⟩ := Prod.mk.inj he
  have he1 : inf.size = 1 := he1
  have he2 : inf.bytes = 8 := he2
  generalize hs : σ.push (.cells [] 3 true) = s
  have hn : s.next = σ.next + 1 := by rw [← hs]; rfl
  have g0 : s.get σ.next = some (.cells [] 3 true) := by rw [← hs, St.get_push, if_pos rfl]
  have ga : s.get a = some (.cells rjL 3 true) := by rw [← hs, St.get_push, if_neg (by omega)]; exact hg
  have hf : firstA inf.size 18 (.one (st a 18 1)) s = some rjL := by
    rw [he1]
    show (match Blk.rd (s.get a) with | some l => takeN (Nat.mul 18 1) (dropN 0 l) | none => none) = _
    rw [ga]; rfl
  have hr : rowOf (C M) 3 inf.size 1 = some [.int .i64 0] := by rw [he1]; kernel_rfl
  have hap : bltO (C M) .append [56, 56] [.one (.slice (some (σ.next, 0)) 0 (.to (0 + 1))), .one (st a 18 1)] s = .st (.one (st (σ.next + 1) 18 1)) (s.push (.cells rjL 3 false)) := by
    rw [o_append (n := 18) (new := rjL) (row := [.int .i64 0]) un56 hi rfl (by rw [he1, he2]; kernel_rfl) hf hr rfl, he1]
    unfold appendTo
    have hc : capOf (σ.next, 0) (.to (0 + 1)) 1 s = some (0, true) := by
      unfold capOf
      simp only [g0]
      rfl
    simp only [hc]
    show Out.st (.one (.slice (some (s.next, 0)) 18 (.to 1))) (s.push (.cells rjL 3 false)) = _
    rw [hn]; rfl
  refine y_st (hap) ?_
  exact y_ret0 ⟨rfl, rfl⟩
def zB : List CV := [.int .u64 0, iC 0, iC 0, iC 0, iC 0, iC 0, iC 0, iC 0, iC 0, iC 0, iC 0, iC 0, iC 0, iC 0, iC 0, iC 0, iC 0, iC 0, iC 0, iC 0, ns, .int .u64 0, iC 0, iC 0, ns, .int .u64 0, iC 0, ns, .int .u64 0, .int .u64 0, iC 0, ns, ns, .int .u64 0, iC 0, ns, .int .u64 0, ns]
theorem new103 : newO (C M) 103 σ = .new (.cells zB 103 true) (fun a => P a 0) := by kernel_rfl
theorem bfits_run {tab : Tab} (ht : Fr tab) {x : Int} (h0 : 0 ≤ x) (h1 : x ≤ 1099511627776) : callK (C M) tab (n + 1) 89 [I x] σ = some (B true, σ) := by
  refine callK_body (ht _ rfl) Tryz.func89 (by kernel_rfl) ?_
  rw [F89_eq]
  refine Yl.eq ?_
  unfold K89_0
  refine y_val (k_geqT h0) ?_
  refine y_gon rfl (rfl) ?_
  refine y_gon rfl (k_leqT h1) ?_
  refine y_val (rfl) ?_
  exact y_ret0 ⟨rfl, rfl⟩
/-- what Feed comes to -/
def FdQ (σ : St) (v : AV) (s : St) : Prop := Gr σ s ∧ ∃ l e, v = .tup [.agg l, I e] ∧ l.length = 38
theorem ld103 {s : St} {b : Nat} {X : List CV} (h : s.get b = some (.cells X 103 true)) (hl : X.length = 38) : ldO (C M) 103 (P b 0) s = .val (.agg X) :=
  o_ld h rfl (partA_agg ag103 sz103 (takeN_len hl))
theorem st103 {s : St} {b : Nat} {X Y : List CV} (h : s.get b = some (.cells X 103 true)) (hl : X.length = 38) (hy : Y.length = 38) : stO (C M) 103 (P b 0) (.agg Y) s = .st (.tup []) (s.put b (.cells Y 103 true)) := by
  refine o_st h rfl sz103 (by rw [lenN_eq, hy]) ?_
  have := over_front Y X [] (by omega)
  simpa using this
/-- the end: what is in one block is handed back -/
theorem fd_end {s : St} {b b4 : Nat} {X Z : List CV} {e : Int} (gr : Gr σ s) (l4 : σ.next ≤ b4) (gb : s.get b = some (.cells X 103 true)) (hx : X.length = 38) (g4 : s.get b4 = some (.cells Z 103 true)) (hz : Z.length = 38) :
    Yl (bnd (ldO (C M) 103 (P b 0)) (fun v => bnd (stO (C M) 103 (P b4 0) v) (fun _ => retV (C M) [(some 103, P b4 0), (none, I e)])) s) (FdQ σ) := by
  refine y_val (ld103 gb hx) ?_
  refine y_st (st103 g4 hz hx) ?_
  have : loadA (C M) 103 (P b4 0) (s.put b4 (.cells X 103 true)) = some (.agg X) := ld_agg (by rw [St.get_put, if_pos rfl]) rfl ag103 sz103 (takeN_len hx)
  exact y_rets this ⟨gr.put _ l4, _, _, rfl, hx⟩
def bkX (pk by' : Int) (rj : CV) (el ra uv sp : List CV) : List CV := cfL ++ ([iC pk, iC by', rj] ++ (el ++ (ra ++ (uv ++ sp))))
structure FS (σ s : St) (b b4 b6 : Nat) (X F : List CV) : Prop where
  gr : Gr σ s
  l : σ.next ≤ b ∧ b < b4 ∧ b4 < b6 ∧ b6 < s.next
  gb : s.get b = some (.cells X 103 true)
  g4 : s.get b4 = some (.cells zB 103 true)
  g6 : s.get b6 = some (.cells F 276 true)
theorem FS.ext {s s' : St} {b b4 b6 : Nat} {X F : List CV} (h : FS σ s b b4 b6 X F) (e : Gr s s') : FS σ s' b b4 b6 X F := by
  obtain ⟨gr, l, gb, g4, g6⟩ := h
  exact ⟨gr.trans e, ⟨l.1, l.2.1, l.2.2.1, Nat.lt_of_lt_of_le l.2.2.2 e.1⟩, (e.2 _ (by omega)).trans gb, (e.2 _ (by omega)).trans g4, (e.2 _ (by omega)).trans g6⟩
theorem FS.put {s : St} {b b4 b6 : Nat} {X F : List CV} (h : FS σ s b b4 b6 X F) (Y : List CV) : FS σ (s.put b (.cells Y 103 true)) b b4 b6 Y F := by
  obtain ⟨gr, l, gb, g4, g6⟩ := h
  exact ⟨gr.put _ l.1, by rw [St.next_put]; exact l, by rw [St.get_put, if_pos rfl], by rw [St.get_put, if_neg (by omega)]; exact g4, by rw [St.get_put, if_neg (by omega)]; exact g6⟩
theorem rj_nth {k : Nat} (hk : k < 18) : nth rjL k = some (iC 0) := by
  have e : rjL = List.replicate 18 (iC 0) := rfl
  rw [nth_get, e, List.getElem?_replicate, if_pos hk]
theorem fd_err {s : St} {b b4 b6 a1 k : Nat} {fr : AV} {el ra uv sp F : List CV} (h : FS σ s b b4 b6 (bkX 0 0 (st a1 18 1) el ra uv sp) F) (hl : (bkX 0 0 (st a1 18 1) el ra uv sp).length = 38) (h1 : 1 ≤ k) (hk : k ≤ 17) (ha : a1 < s.next) (hg : s.get a1 = some (.cells rjL 3 true)) :
    Yl (K71_12 M (callK (C M) tab5 (n + 1)) fr (P b 0) (P b4 0) (P b6 0) (I (k : Nat)) (B true) s) (FdQ σ) := by
  have hl' : ∀ (pk by' : Int) (rj : CV), (bkX pk by' rj el ra uv sp).length = 38 := fun pk by' rj => by
    unfold bkX at hl ⊢
    simpa using hl
  have st20 : ∀ (rj rj' : CV), over 20 [rj'] (bkX 0 0 rj el ra uv sp) = some (bkX 0 0 rj' el ra uv sp) := fun rj rj' => by
    unfold bkX
    have := over_app (cfL ++ [iC 0, iC 0]) [rj'] [rj] (el ++ (ra ++ (uv ++ sp))) rfl
    simpa [cfL] using this
  have nt20 : ∀ (rj : CV), nth (bkX 0 0 rj el ra uv sp) 20 = some rj := fun rj => rfl
  unfold K71_12
  refine y_ift (rfl) ?_
  refine y_val (fa103_3) ?_
  refine y_val (o_ld h.gb rfl (partA_one ag56 (nt20 _))) ?_
  refine y_cal rfl (clone_run fr5 ha hg) ?_
  generalize hs : (s.push (.cells [] 3 true)).push (.cells rjL 3 false) = s1
  have n1 : s1.next = s.next + 2 := by rw [← hs]; rfl
  have e1 : Gr s s1 := by rw [← hs]; exact (Gr.push _ _).trans (Gr.push _ _)
  have gc : s1.get (s.next + 1) = some (.cells rjL 3 false) := by rw [← hs, St.get_push, if_pos (show s.next + 1 = (s.push (.cells [] 3 true)).next from rfl)]
  have h2 := h.ext e1
  have lb := h.l
  refine y_val (fa103_3) ?_
  refine y_st (o_st h2.gb rfl sz56 rfl (st20 _ _)) ?_
  have h3 := h2.put (bkX 0 0 (st (s.next + 1) 18 1) el ra uv sp)
  generalize hs2 : s1.put b (.cells (bkX 0 0 (st (s.next + 1) 18 1) el ra uv sp) 103 true) = s2 at h3 ⊢
  have gc2 : s2.get (s.next + 1) = some (.cells rjL 3 false) := by rw [← hs2, St.get_put, if_neg (by omega)]; exact gc
  unfold K71_13
  have hj := rj_nth (k := k) (by omega)
  have ej : 0 + k * 1 = k := by omega
  refine y_val (fa103_3) ?_
  refine y_val (o_ld h3.gb rfl (partA_one ag56 (nt20 _))) ?_
  refine y_val (o_iad un56 sz3 (by omega)) ?_
  refine y_val (o_ld gc2 rfl (partA_one ag3 (by rw [ej]; exact hj))) ?_
  refine y_val (o_addw (by omega) (by omega)) ?_
  refine y_val (o_iad un56 sz3 (by omega)) ?_
  refine y_st (o_st gc2 rfl sz3 rfl (by rw [ej]; exact over_one (iC (0 + 1)) k rjL (by show k < 18; omega))) ?_
  generalize hs3 : s2.put (s.next + 1) (.cells (rjL.set k (iC (0 + 1))) 3 false) = s3
  have e3 : ∀ i, i ≠ s.next + 1 → s3.get i = s2.get i := fun i hi => by rw [← hs3, St.get_put, if_neg hi]
  have gc3 : s3.get (s.next + 1) = some (.cells (rjL.set k (iC (0 + 1))) 3 false) := by rw [← hs3, St.get_put, if_pos rfl]
  have gb3 := (e3 b (by omega)).trans h3.gb
  have g43 := (e3 b4 (by omega)).trans h3.g4
  have gr3 : Gr σ s3 := by rw [← hs3]; exact h3.gr.put _ (by have := h.gr.1; omega)
  have hk2 : nth (rjL.set k (iC (0 + 1))) k = some (iC (0 + 1)) := by rw [nth_get, List.getElem?_set, if_pos rfl, if_pos (by show k < 18; omega)]
  refine y_val (fa103_3) ?_
  refine y_val (o_ld gb3 rfl (partA_one ag56 (nt20 _))) ?_
  refine y_val (o_iad un56 sz3 (by omega)) ?_
  refine y_val (o_ld gc3 rfl (partA_one ag3 (by rw [ej]; exact hk2))) ?_
  refine y_cal rfl (bfits_run fr5 (by omega) (by omega)) ?_
  refine y_val (rfl) ?_
  refine y_iff (rfl) ?_
  exact fd_end gr3 (by omega) gb3 (hl' _ _ _) g43 rfl
end
end Core
end Go.Proofs.YtnoieleoklpciaaGreatDoor
