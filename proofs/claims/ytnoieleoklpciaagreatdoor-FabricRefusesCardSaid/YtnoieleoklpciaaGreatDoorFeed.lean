/- bank.Feed on a bank to which nothing came. -/
import Derived.Test.YtnoieleoklpciaaGreatDoorRa
import Derived.Test.YtnoieleoklpciaaGreatDoorFx4
set_option linter.unusedVariables false
set_option linter.unusedSimpArgs false
namespace Go.Proofs.YtnoieleoklpciaaGreatDoor
open Go.Run Go
namespace Core
open Ty
set_option maxRecDepth 1000000
/-- the table: the entries' own, what is known of the bank's functions -/
noncomputable def tab5 : Tab := ((((tab4.add 51 (madeS (C M) tab4 51 fun _ => QT)).add 112 (madeS (C M) tab4 112 fun _ => QA 7)).add 113 (madeS (C M) tab4 113 fun _ => QA 5)).add 114 (madeS (C M) tab4 114 fun _ => QA 3)).add 115 (madeS (C M) tab4 115 fun _ => QL 2)
theorem tab5_ok : TabOk (C M) tab5 := TabOk.made hx mixed (glob0 M) (TabOk.made hx mixed (glob0 M) (TabOk.made hx mixed (glob0 M) (TabOk.made hx mixed (glob0 M) (TabOk.made hx mixed (glob0 M) tab4_ok tab4_ok) tab4_ok) tab4_ok) tab4_ok) tab4_ok
structure BankAt (a1 a2 a3 a4 a5 a6 a7 a8 a9 a10 a11 a12 a13 a14 : Nat) (σ : St) : Prop where
  n0 : 0 < σ.next
  g0 : σ.get 0 = some (.ro deB)
  g1 : σ.get a1 = some (.cells rjL 3 true)
  g2 : σ.get a2 = some (.cells [ns, iC 0] 253 true)
  g3 : σ.get a3 = some (.cells [st a4 1 1] 56 false)
  g4 : σ.get a4 = some (.cells [iC 0] 3 true)
  g5 : σ.get a5 = some (.cells biL 4 true)
  g6 : σ.get a6 = some (.cells [st a7 2 4] 176 false)
  g7 : σ.get a7 = some (.cells ceL 177 true)
  g8 : σ.get a8 = some (.cells [.int .u64 127512553921, st a9 1 1, ns] 259 false)
  g9 : σ.get a9 = some (.cells [st a10 1 1] 56 false)
  g10 : σ.get a10 = some (.cells [iC 0] 3 true)
  g11 : σ.get a11 = some (.cells [st a12 1 4] 183 false)
  g12 : σ.get a12 = some (.cells [.int .u64 63534747721, st a13 1 1, sC [], iC (-1)] 188 true)
  g13 : σ.get a13 = some (.cells [st a14 1 1] 63 false)
  g14 : σ.get a14 = some (.cells [.bool false] 4 true)
  lt : ∀ i ∈ [a1, a2, a3, a4, a5, a6, a7, a8, a9, a10, a11, a12, a13, a14], i < σ.next
section
variable {a1 a2 a3 a4 a5 a6 a7 a8 a9 a10 a11 a12 a13 a14 : Nat} {σ s : St} {n : Nat}
theorem BankAt.ext (h : BankAt a1 a2 a3 a4 a5 a6 a7 a8 a9 a10 a11 a12 a13 a14 σ) (e : Gr σ s) : BankAt a1 a2 a3 a4 a5 a6 a7 a8 a9 a10 a11 a12 a13 a14 s := by
  obtain ⟨n0, g0, g1, g2, g3, g4, g5, g6, g7, g8, g9, g10, g11, g12, g13, g14, lt⟩ := h
  have k := fun i hi => e.2 i (lt i hi)
  exact ⟨Nat.lt_of_lt_of_le n0 e.1, (e.2 _ n0).trans g0, (k a1 (by simp)).trans g1, (k a2 (by simp)).trans g2, (k a3 (by simp)).trans g3, (k a4 (by simp)).trans g4, (k a5 (by simp)).trans g5, (k a6 (by simp)).trans g6, (k a7 (by simp)).trans g7, (k a8 (by simp)).trans g8,
    (k a9 (by simp)).trans g9, (k a10 (by simp)).trans g10, (k a11 (by simp)).trans g11, (k a12 (by simp)).trans g12, (k a13 (by simp)).trans g13, (k a14 (by simp)).trans g14, fun i hi => Nat.lt_of_lt_of_le (lt i hi) e.1⟩
theorem blk_nil : BlkAt [] [] σ := ⟨rfl, fun i a b h => by simp at h⟩
theorem blk_cons {b : Blk} {bl : List Blk} {a : Nat} {ad : List Nat} (A : List Nat) (B : List Blk) (h1 : ∀ n, σ.get a = some (rnB (psiG A n) b)) (h2 : ad.length = bl.length ∧ ∀ (i : Nat) (a : Nat) (b : Blk), ad[i]? = some a → bl[i]? = some b → ∀ n, σ.get a = some (rnB (psiG A n) b)) :
    (a :: ad).length = (b :: bl).length ∧ ∀ (i : Nat) (x : Nat) (y : Blk), (a :: ad)[i]? = some x → (b :: bl)[i]? = some y → ∀ n, σ.get x = some (rnB (psiG A n) y) := by
  refine ⟨by rw [List.length_cons, List.length_cons, h2.1], fun i x y hx hy => ?_⟩
  cases i with
  | zero => cases hx; cases hy; exact h1
  | succ i => exact h2.2 i x y hx hy
theorem blk_end {A : List Nat} : ([] : List Nat).length = ([] : List Blk).length ∧ ∀ (i : Nat) (a : Nat) (b : Blk), ([] : List Nat)[i]? = some a → ([] : List Blk)[i]? = some b → ∀ n, σ.get a = some (rnB (psiG A n) b) := ⟨rfl, fun i a b h => by simp at h⟩
theorem el_call (h : BankAt a1 a2 a3 a4 a5 a6 a7 a8 a9 a10 a11 a12 a13 a14 σ) {key : List UInt8} (hk : key.length = 37) : ∃ v s, callK (C M) tab5 (n + 1) 112 [.agg (elL a2 a3), S key] σ = some (v, s) ∧ Gr σ s ∧ QA 7 v := by
  obtain ⟨f, rfl⟩ := key_f hk
  exact call_mk (t := tab5) (t0 := tab4) (f := 112) (Q := QA 7) (sh := shA 7) (bl := elB) (ad := [a2, a3, a4]) (args0 := [.agg (elL 1 2), S (kf f)]) rfl (fun _ _ => shA_ok) h.g0 deB_flat h.n0 rfl
    (blk_cons _ elB (fun _ => h.g2) (blk_cons _ elB (fun _ => h.g3) (blk_cons _ elB (fun _ => h.g4) blk_end))) rfl (fun _ => rfl) (el_run (f 0) (f 1) (f 2) (f 3) (f 4) (f 5) (f 6) (f 7) (f 8) (f 9) (f 10) (f 11) (f 12) (f 13) (f 14) (f 15) (f 16) (f 17) (f 18) (f 19) (f 20) (f 21) (f 22) (f 23) (f 24) (f 25) (f 26) (f 27) (f 28) (f 29) (f 30) (f 31) (f 32) (f 33) (f 34) (f 35) (f 36))
theorem ra_call (h : BankAt a1 a2 a3 a4 a5 a6 a7 a8 a9 a10 a11 a12 a13 a14 σ) {key : List UInt8} (hk : key.length = 37) {L : Nat} (hL : L ≤ 4096) : ∃ v s, callK (C M) tab5 (n + 1) 113 [.agg (raL a5 a6), S key, I (L : Nat)] σ = some (v, s) ∧ Gr σ s ∧ QA 5 v := by
  obtain ⟨f, rfl⟩ := key_f hk
  exact call_mk (t := tab5) (t0 := tab4) (f := 113) (Q := QA 5) (sh := shA 5) (bl := raB) (ad := [a5, a6, a7]) (args0 := [.agg (raL 1 2), S (kf f), I (L : Nat)]) rfl (fun _ _ => shA_ok) h.g0 deB_flat h.n0 rfl
    (blk_cons _ raB (fun _ => h.g5) (blk_cons _ raB (fun _ => h.g6) (blk_cons _ raB (fun _ => h.g7) blk_end))) rfl (fun _ => rfl) (rd_run f L hL)
theorem uv_call (h : BankAt a1 a2 a3 a4 a5 a6 a7 a8 a9 a10 a11 a12 a13 a14 σ) {key : List UInt8} (hk : key.length = 37) : ∃ v s, callK (C M) tab5 (n + 1) 114 [.agg (uvL a8), S key] σ = some (v, s) ∧ Gr σ s ∧ QA 3 v := by
  obtain ⟨f, rfl⟩ := key_f hk
  exact call_mk (t := tab5) (t0 := tab4) (f := 114) (Q := QA 3) (sh := shA 3) (bl := uvB) (ad := [a8, a9, a10]) (args0 := [.agg (uvL 1), S (kf f)]) rfl (fun _ _ => shA_ok) h.g0 deB_flat h.n0 rfl
    (blk_cons _ uvB (fun _ => h.g8) (blk_cons _ uvB (fun _ => h.g9) (blk_cons _ uvB (fun _ => h.g10) blk_end))) rfl (fun _ => rfl) (uv_run f)
def sf (f : Nat → UInt8) : List UInt8 := [f 0, f 1, f 2, f 3, f 4, f 5, f 6, f 7, f 8, f 9, f 10, f 11, f 12, f 13, f 14, f 15]
theorem src_f {key : List UInt8} (h : key.length = 16) : ∃ f, key = sf f := by
  refine ⟨fun i => key.getD i 0, ?_⟩
  have e : sf (fun i => key.getD i 0) = (List.range 16).map fun i => key.getD i 0 := rfl
  rw [e]
  refine List.ext_getElem (by rw [List.length_map, List.length_range]; exact h) fun i h1 h2 => ?_
  rw [List.getElem_map, List.getElem_range, List.getD, List.getElem?_eq_getElem h1]
  rfl
theorem sp_call (h : BankAt a1 a2 a3 a4 a5 a6 a7 a8 a9 a10 a11 a12 a13 a14 σ) {src dst : List UInt8} (hs : src.length = 16) (hd : dst.length = 16) : ∃ v s, callK (C M) tab5 (n + 1) 115 [.agg (spL a11), S src, S dst] σ = some (v, s) ∧ Gr σ s ∧ QL 2 v := by
  obtain ⟨f, rfl⟩ := src_f hs
  obtain ⟨g, rfl⟩ := src_f hd
  exact call_mk (t := tab5) (t0 := tab4) (f := 115) (Q := QL 2) (sh := shL 2) (bl := spB) (ad := [a11, a12, a13, a14]) (args0 := [.agg (spL 1), S (sf f), S (sf g)]) rfl (fun _ _ => shL_ok) h.g0 deB_flat h.n0 rfl
    (blk_cons _ spB (fun _ => h.g11) (blk_cons _ spB (fun _ => h.g12) (blk_cons _ spB (fun _ => h.g13) (blk_cons _ spB (fun _ => h.g14) blk_end)))) rfl (fun _ => rfl) (sp_run (f 0) (f 1) (f 2) (f 3) (f 4) (f 5) (f 6) (f 7) (f 8) (f 9) (f 10) (f 11) (f 12) (f 13) (f 14) (f 15) (g 0) (g 1) (g 2) (g 3) (g 4) (g 5) (g 6) (g 7) (g 8) (g 9) (g 10) (g 11) (g 12) (g 13) (g 14) (g 15))
theorem bk_call (h : BankAt a1 a2 a3 a4 a5 a6 a7 a8 a9 a10 a11 a12 a13 a14 σ) : ∃ v s, callK (C M) tab5 (n + 1) 51 [.agg (bkL a1 a2 a3 a5 a6 a8 a11)] σ = some (v, s) ∧ Gr σ s ∧ QT v :=
  call_mk (t := tab5) (t0 := tab4) (f := 51) (Q := QT) (sh := shT) (bl := bkB) (ad := [a1, a2, a3, a4, a5, a6, a7, a8, a9, a10, a11, a12, a13, a14]) (args0 := [.agg (bkL 1 2 3 5 6 8 11)]) rfl (fun _ _ => shT_ok) h.g0 deB_flat h.n0 rfl
    (blk_cons _ bkB (fun _ => h.g1) (blk_cons _ bkB (fun _ => h.g2) (blk_cons _ bkB (fun _ => h.g3) (blk_cons _ bkB (fun _ => h.g4) (blk_cons _ bkB (fun _ => h.g5) (blk_cons _ bkB (fun _ => h.g6) (blk_cons _ bkB (fun _ => h.g7)
      (blk_cons _ bkB (fun _ => h.g8) (blk_cons _ bkB (fun _ => h.g9) (blk_cons _ bkB (fun _ => h.g10) (blk_cons _ bkB (fun _ => h.g11) (blk_cons _ bkB (fun _ => h.g12) (blk_cons _ bkB (fun _ => h.g13) (blk_cons _ bkB (fun _ => h.g14) blk_end)))))))))))))) rfl (fun _ => rfl) bk_run
theorem fr5 : Fr tab5 := fun f hf => by
  simp only [noSp, Bool.or_eq_false_iff] at hf
  obtain ⟨h1, h2, h3, h4, h5, h6, h7, h8, h9, h10⟩ := hf
  unfold tab5 tab4 Tab.add
  rw [h10, h9, h8, h7, h6, h5, h4, h3, h2]
  rfl
end
end Core
end Go.Proofs.YtnoieleoklpciaaGreatDoor
