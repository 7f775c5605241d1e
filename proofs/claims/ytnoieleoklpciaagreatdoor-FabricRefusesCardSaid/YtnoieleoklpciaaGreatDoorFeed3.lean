/- bank.Feed ends: a frame that is taken; whatever frame. -/
import Derived.Test.YtnoieleoklpciaaGreatDoorFeed2
set_option linter.unusedVariables false
set_option linter.unusedSimpArgs false
namespace Go.Proofs.YtnoieleoklpciaaGreatDoor
open Go.Run Go
namespace Core
open Ty
set_option maxRecDepth 1000000
theorem part_of {α : Type} (a v c : List α) : takeN v.length (dropN a.length (a ++ (v ++ c))) = some v := by
  rw [dropN_drop, List.drop_left, takeN_take _ _ (by rw [List.length_append]; omega), List.take_left]
section
variable {pk bt : Int} {rj : CV} {el ra uv sp el' ra' uv' sp' : List CV}
theorem x_len (h1 : el.length = 7) (h2 : ra.length = 5) (h3 : uv.length = 3) (h4 : sp.length = 2) : (bkX pk bt rj el ra uv sp).length = 38 := by
  unfold bkX
  simp only [List.length_append, h1, h2, h3, h4]
  rfl
theorem x_el (h : el.length = 7) : takeN 7 (dropN 21 (bkX pk bt rj el ra uv sp)) = some el := by
  have := part_of (cfL ++ [iC pk, iC bt, rj]) el (ra ++ (uv ++ sp))
  rw [h] at this
  simpa [bkX, cfL] using this
theorem x_ra (h0 : el.length = 7) (h : ra.length = 5) : takeN 5 (dropN 28 (bkX pk bt rj el ra uv sp)) = some ra := by
  have := part_of (cfL ++ ([iC pk, iC bt, rj] ++ el)) ra (uv ++ sp)
  rw [h] at this
  simpa [bkX, cfL, h0] using this
theorem x_uv (h0 : el.length = 7) (h1 : ra.length = 5) (h : uv.length = 3) : takeN 3 (dropN 33 (bkX pk bt rj el ra uv sp)) = some uv := by
  have := part_of (cfL ++ ([iC pk, iC bt, rj] ++ (el ++ ra))) uv sp
  rw [h] at this
  simpa [bkX, cfL, h0, h1] using this
theorem x_sp (h0 : el.length = 7) (h1 : ra.length = 5) (h2 : uv.length = 3) (h : sp.length = 2) : takeN 2 (dropN 36 (bkX pk bt rj el ra uv sp)) = some sp := by
  have := part_of (cfL ++ ([iC pk, iC bt, rj] ++ (el ++ (ra ++ uv)))) sp []
  rw [h] at this
  simpa [bkX, cfL, h0, h1, h2] using this
theorem o_pk {pk' : Int} : over 18 [iC pk'] (bkX pk bt rj el ra uv sp) = some (bkX pk' bt rj el ra uv sp) := by
  have := over_app cfL [iC pk'] [iC pk] ([iC bt, rj] ++ (el ++ (ra ++ (uv ++ sp)))) rfl
  simpa [bkX, cfL] using this
theorem o_bt {bt' : Int} : over 19 [iC bt'] (bkX pk bt rj el ra uv sp) = some (bkX pk bt' rj el ra uv sp) := by
  have := over_app (cfL ++ [iC pk]) [iC bt'] [iC bt] ([rj] ++ (el ++ (ra ++ (uv ++ sp)))) rfl
  simpa [bkX, cfL] using this
theorem o_el (h : el.length = 7) (h' : el'.length = 7) : over 21 el' (bkX pk bt rj el ra uv sp) = some (bkX pk bt rj el' ra uv sp) := by
  have := over_app (cfL ++ [iC pk, iC bt, rj]) el' el (ra ++ (uv ++ sp)) (by rw [h, h'])
  simpa [bkX, cfL] using this
theorem o_ra (h0 : el.length = 7) (h : ra.length = 5) (h' : ra'.length = 5) : over 28 ra' (bkX pk bt rj el ra uv sp) = some (bkX pk bt rj el ra' uv sp) := by
  have := over_app (cfL ++ ([iC pk, iC bt, rj] ++ el)) ra' ra (uv ++ sp) (by rw [h, h'])
  simpa [bkX, cfL, h0] using this
theorem o_uv (h0 : el.length = 7) (h1 : ra.length = 5) (h : uv.length = 3) (h' : uv'.length = 3) : over 33 uv' (bkX pk bt rj el ra uv sp) = some (bkX pk bt rj el ra uv' sp) := by
  have := over_app (cfL ++ ([iC pk, iC bt, rj] ++ (el ++ ra))) uv' uv sp (by rw [h, h'])
  simpa [bkX, cfL, h0, h1] using this
theorem o_sp (h0 : el.length = 7) (h1 : ra.length = 5) (h2 : uv.length = 3) (h : sp.length = 2) (h' : sp'.length = 2) : over 36 sp' (bkX pk bt rj el ra uv sp) = some (bkX pk bt rj el ra uv sp') := by
  have := over_app (cfL ++ ([iC pk, iC bt, rj] ++ (el ++ (ra ++ uv)))) sp' sp [] (by rw [h, h'])
  simpa [bkX, cfL, h0, h1, h2] using this
end
section
variable {a1 a2 a3 a4 a5 a6 a7 a8 a9 a10 a11 a12 a13 a14 : Nat} {σ : St} {n : Nat}
theorem fd_ok {s : St} {b b4 b6 p q r : Nat} {fr src dst : List UInt8} {rj : CV} (h : FS σ s b b4 b6 (bkX 0 0 rj (elL a2 a3) (raL a5 a6) (uvL a8) (spL a11)) [sC src, sC dst, iC (p : Nat), iC (q : Nat), iC (r : Nat)]) (hb : BankAt a1 a2 a3 a4 a5 a6 a7 a8 a9 a10 a11 a12 a13 a14 σ) (hl : fr.length ≤ 4096)
    (hs : src.length = 16) (hd : dst.length = 16) (hp : p < 256) (hq : q < 65536) (hr : r < 65536) : Yl (K71_4 M (callK (C M) tab5 (n + 2)) (S fr) (P b 0) (P b4 0) (P b6 0) s) (FdQ σ) := by
  unfold K71_4
  refine y_val (fa103_1) ?_
  refine y_val (o_ld h.gb rfl (partA_one ag3 rfl)) ?_
  refine y_val (o_addw (by omega) (by omega)) ?_
  refine y_val (fa103_1) ?_
  refine y_st (o_st h.gb rfl sz3 rfl o_pk) ?_
  have h := h.put (bkX (0 + 1) 0 rj (elL a2 a3) (raL a5 a6) (uvL a8) (spL a11))
  generalize s.put b (.cells (bkX (0 + 1) 0 rj (elL a2 a3) (raL a5 a6) (uvL a8) (spL a11)) 103 true) = s at h ⊢
  unfold K71_5
  refine y_val (fa103_2) ?_
  refine y_val (o_ld h.gb rfl (partA_one ag3 rfl)) ?_
  refine y_val (o_slen un9) ?_
  refine y_val (o_addw (by omega) (by omega)) ?_
  refine y_val (fa103_2) ?_
  refine y_st (o_st h.gb rfl sz3 rfl o_bt) ?_
  have h := h.put (bkX (0 + 1) (0 + (fr.length : Int)) rj (elL a2 a3) (raL a5 a6) (uvL a8) (spL a11))
  generalize s.put b (.cells (bkX (0 + 1) (0 + (fr.length : Int)) rj (elL a2 a3) (raL a5 a6) (uvL a8) (spL a11)) 103 true) = s at h ⊢
  unfold K71_6
  refine y_val (o_ld h.g6 rfl (partA_agg ag276 sz276 rfl)) ?_
  refine y_cyl rfl (key_run (n := n) fr5 hs hd hp hq hr) fun v s2 ⟨e2, key, hv, hk⟩ => ?_
  subst hv
  refine y_val (rfl) ?_
  refine y_val (rfl) ?_
  unfold K71_7 K71_8
  have h := h.ext e2
  clear e2
  obtain ⟨v, s3, hc, e3, l, hv, hl1⟩ := el_call (n := n + 1) (hb.ext h.gr) hk
  subst hv
  refine y_val (fa103_4) ?_
  refine y_val (o_ld h.gb rfl (partA_agg ag91 sz91 (x_el rfl))) ?_
  refine y_cal rfl (hc) ?_
  refine y_val (rfl) ?_
  refine y_val (rfl) ?_
  have h := h.ext e3
  refine y_val (fa103_4) ?_
  refine y_st (o_st h.gb rfl sz91 (by rw [lenN_eq, hl1]) (o_el rfl hl1)) ?_
  have h := h.put (bkX (0 + 1) (0 + (fr.length : Int)) rj l (raL a5 a6) (uvL a8) (spL a11))
  generalize s3.put b (.cells (bkX (0 + 1) (0 + (fr.length : Int)) rj l (raL a5 a6) (uvL a8) (spL a11)) 103 true) = s at h ⊢
  clear hc e3
  unfold K71_9
  obtain ⟨v, s3, hc, e3, l2, hv, hl2⟩ := ra_call (n := n + 1) (hb.ext h.gr) hk hl
  subst hv
  refine y_val (fa103_5) ?_
  refine y_val (o_ld h.gb rfl (partA_agg ag95 sz95 (x_ra hl1 rfl))) ?_
  refine y_val (o_slen un9) ?_
  refine y_cal rfl (hc) ?_
  refine y_val (rfl) ?_
  refine y_val (rfl) ?_
  have h := h.ext e3
  refine y_val (fa103_5) ?_
  refine y_st (o_st h.gb rfl sz95 (by rw [lenN_eq, hl2]) (o_ra hl1 rfl hl2)) ?_
  have h := h.put (bkX (0 + 1) (0 + (fr.length : Int)) rj l l2 (uvL a8) (spL a11))
  generalize s3.put b (.cells (bkX (0 + 1) (0 + (fr.length : Int)) rj l l2 (uvL a8) (spL a11)) 103 true) = s at h ⊢
  clear hc e3
  unfold K71_10
  obtain ⟨v, s3, hc, e3, l3, hv, hl3⟩ := uv_call (n := n + 1) (hb.ext h.gr) hk
  subst hv
  refine y_val (fa103_6) ?_
  refine y_val (o_ld h.gb rfl (partA_agg ag98 sz98 (x_uv hl1 hl2 rfl))) ?_
  refine y_cal rfl (hc) ?_
  refine y_val (rfl) ?_
  refine y_val (rfl) ?_
  have h := h.ext e3
  refine y_val (fa103_6) ?_
  refine y_st (o_st h.gb rfl sz98 (by rw [lenN_eq, hl3]) (o_uv hl1 hl2 rfl hl3)) ?_
  have h := h.put (bkX (0 + 1) (0 + (fr.length : Int)) rj l l2 l3 (spL a11))
  generalize s3.put b (.cells (bkX (0 + 1) (0 + (fr.length : Int)) rj l l2 l3 (spL a11)) 103 true) = s at h ⊢
  clear hc e3
  unfold K71_11
  obtain ⟨v, s3, hc, e3, l4, hv, hl4⟩ := sp_call (n := n + 1) (hb.ext h.gr) hs hd
  subst hv
  refine y_val (fa103_7) ?_
  refine y_val (o_ld h.gb rfl (partA_agg ag101 sz101 (x_sp hl1 hl2 hl3 rfl))) ?_
  refine y_val (fa276_0) ?_
  refine y_val (o_ld h.g6 rfl (partA_one ag9 rfl)) ?_
  refine y_val (fa276_1) ?_
  refine y_val (o_ld h.g6 rfl (partA_one ag9 rfl)) ?_
  refine y_cal rfl (hc) ?_
  have h := h.ext e3
  refine y_val (fa103_7) ?_
  refine y_st (o_st h.gb rfl sz101 (by rw [lenN_eq, hl4]) (o_sp hl1 hl2 hl3 rfl hl4)) ?_
  have h := h.put (bkX (0 + 1) (0 + (fr.length : Int)) rj l l2 l3 l4)
  generalize s3.put b (.cells (bkX (0 + 1) (0 + (fr.length : Int)) rj l l2 l3 l4) 103 true) = s at h ⊢
  refine y_val (rfl) ?_
  refine y_val (k_neqF rfl) ?_
  refine y_gon rfl fa103_1 ?_
  refine y_gon rfl (o_ld h.gb rfl (partA_one ag3 rfl)) ?_
  refine y_gcal rfl rfl (bfits_run fr5 (by omega) (by omega)) ?_
  refine y_gon rfl (rfl) ?_
  refine y_val (rfl) ?_
  refine y_gon rfl fa103_2 ?_
  refine y_gon rfl (o_ld h.gb rfl (partA_one ag3 rfl)) ?_
  refine y_gcal rfl rfl (bfits_run fr5 (by omega) (by omega)) ?_
  refine y_gon rfl (rfl) ?_
  refine y_val (rfl) ?_
  refine y_iff (rfl) ?_
  exact fd_end h.gr (by have := h.l; omega) h.gb (x_len hl1 hl2 hl3 hl4) h.g4 rfl
/-- bank.Feed, of any frame, to a bank to which nothing came -/
theorem feed_run (hb : BankAt a1 a2 a3 a4 a5 a6 a7 a8 a9 a10 a11 a12 a13 a14 σ) {fr : List UInt8} (hl : fr.length ≤ 4096) : Yl (callK (C M) tab5 (n + 8) 71 [.agg (bkL a1 a2 a3 a5 a6 a8 a11), S fr] σ) (FdQ σ) := by
  refine y_body (fr5 _ rfl) Tryz.func71 (by kernel_rfl) ?_
  rw [F71_eq]
  unfold K71_0
  refine y_new box_of ?_
  refine y_new (new103) ?_
  generalize hs : (σ.push (.cells (bkL a1 a2 a3 a5 a6 a8 a11) 103 true)).push (.cells zB 103 true) = s
  have n1 : s.next = σ.next + 2 := by rw [← hs]; rfl
  have e1 : Gr σ s := by rw [← hs]; exact (Gr.push _ _).trans (Gr.push _ _)
  have gb : s.get σ.next = some (.cells (bkL a1 a2 a3 a5 a6 a8 a11) 103 true) := by rw [← hs, St.get_push, if_neg (show ¬ σ.next = (σ.push (.cells (bkL a1 a2 a3 a5 a6 a8 a11) 103 true)).next from by rw [St.next_push]; omega), St.get_push, if_pos rfl]
  have g4 : s.get (σ.next + 1) = some (.cells zB 103 true) := by rw [← hs, St.get_push, if_pos (show σ.next + 1 = (σ.push (.cells (bkL a1 a2 a3 a5 a6 a8 a11) 103 true)).next from rfl)]
  show Yl (K71_1 M (callK (C M) tab5 (n + 7)) (S fr) (P σ.next 0) (P (σ.next + 1) 0) s) (FdQ σ)
  unfold K71_1
  obtain ⟨v, s2, hc, e2, hv⟩ := bk_call (n := n + 6) (hb.ext e1)
  subst hv
  refine y_val (ld103 gb rfl) ?_
  refine y_cal rfl (hc) ?_
  refine y_val (rfl) ?_
  refine y_iff (rfl) ?_
  unfold K71_2
  refine y_cyl rfl (exl_run (n := n) (σ := s2) (r := fr) fr5) fun v s3 ⟨e3, src, dst, p, a, b, e, hv, he, h0⟩ => ?_
  subst hv
  refine y_val (rfl) ?_
  refine y_val (rfl) ?_
  refine y_new (new149) ?_
  refine y_st (o_st (by rw [St.get_push, if_pos rfl]) rfl sz276 rfl rfl) ?_
  generalize hs4 : (s3.push (.cells fl0 276 true)).put s3.next (.cells [sC src, sC dst, iC p, iC a, iC b] 276 true) = s4
  have n4 : s4.next = s3.next + 1 := by rw [← hs4]; rfl
  have e4 : Gr s3 s4 := by rw [← hs4]; exact (Gr.push _ _).put _ (Nat.le_refl _)
  have g6 : s4.get s3.next = some (.cells [sC src, sC dst, iC p, iC a, iC b] 276 true) := by rw [← hs4, St.get_put, if_pos rfl]
  have ee := e2.trans (e3.trans e4)
  have l2 := e2.1
  have l3 := e3.1
  have hF : FS σ s4 σ.next (σ.next + 1) s3.next (bkX 0 0 (st a1 18 1) (elL a2 a3) (raL a5 a6) (uvL a8) (spL a11)) [sC src, sC dst, iC p, iC a, iC b] :=
    ⟨e1.trans ee, by omega, (ee.2 _ (by omega)).trans gb, (ee.2 _ (by omega)).trans g4, g6⟩
  unfold K71_3
  by_cases hz : e = 0
  · obtain ⟨h1, h2, ⟨h3, h4⟩, ⟨h5, h6⟩, h7, h8⟩ := h0 hz
    refine y_val (k_neqF hz) ?_
    unfold K71_12
    refine y_iff (rfl) ?_
    obtain ⟨p, rfl⟩ : ∃ z : Nat, p = z := ⟨p.toNat, by omega⟩
    obtain ⟨a, rfl⟩ : ∃ z : Nat, a = z := ⟨a.toNat, by omega⟩
    obtain ⟨b, rfl⟩ : ∃ z : Nat, b = z := ⟨b.toNat, by omega⟩
    exact fd_ok (n := n + 5) hF hb hl h1 h2 (by omega) (by omega) (by omega)
  · refine y_val (k_neqT hz) ?_
    unfold Er at he
    obtain ⟨k, rfl⟩ : ∃ z : Nat, e = z := ⟨e.toNat, by omega⟩
    have hb4 := hb.ext hF.gr
    exact fd_err (n := n + 6) hF rfl (by omega) (by omega) (hb4.lt a1 (by simp)) hb4.g1
end
end Core
end Go.Proofs.YtnoieleoklpciaaGreatDoor
