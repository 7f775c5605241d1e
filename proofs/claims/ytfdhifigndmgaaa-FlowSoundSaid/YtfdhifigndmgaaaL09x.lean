/- Layer 9 (flow): the flow of a frame, told by a plain function. -/
import Derived.Test.YtfdhifigndmgaaaP9
import Derived.Test.YtfdhifigndmgaaaQx19
import Derived.Test.YtfdhifigndmgaaaQx22
namespace Go.Proofs.Ytfdhifigndmgaaa.L09
open Go Go.RowKit Go.Proofs.Ytfdhifigndmgaaa.Q Go.Proofs.Ytfdhifigndmgaaa.Base Go.Proofs.Ytfdhifigndmgaaa.L04 Go.Proofs.Ytfdhifigndmgaaa.LAt Go.Proofs.YtfdhifigndmgaaaW.PrintWords Go.Proofs.YtfdhifigndmgaaaW.PrintMore
set_option linter.unusedVariables false
set_option linter.unusedSimpArgs false
def zF : Fl := ⟨mkB [], mkB [], 0, 0, 0⟩
def mp : ByteArray := ⟨#[0, 0, 0, 0, 0, 0, 0, 0, 0, 0, 255, 255]⟩
/-- The flow without ports, its body, and the error. -/
def net (kind : Int) (s : ByteArray) : Fl × ByteArray × Int :=
  if kind = 2048 then
    (if L06.err4 s = 0 then (⟨mp ++ (L06.h4 s).src, mp ++ (L06.h4 s).dst, (L06.h4 s).proto, 0, 0⟩, s.extract (L06.hlen s) (at_ s 2 4), if (L06.h4 s).off = 0 then 0 else 14)
     else (⟨mp, mp, 0, 0, 0⟩, mkB [], L06.err4 s))
  else if kind = 34525 then
    (if (L07.take6 L07.t1 s).2.2.2.2.2.2.2.2 = 0 then
      (⟨(L07.take6 L07.t1 s).2.2.2.2.1, (L07.take6 L07.t1 s).2.2.2.2.2.1, (L07.take6 L07.t1 s).2.2.2.1, 0, 0⟩, (L07.take6 L07.t1 s).2.2.2.2.2.2.2.1, if L07.pieceB ((L07.take6 id s).2.2.2.2.2.2.1) = true then 14 else 0)
     else (zF, mkB [], (L07.take6 L07.t1 s).2.2.2.2.2.2.2.2))
  else (zF, mkB [], 8)
def tupF (x : Fl × ByteArray × Int) : ByteArray × ByteArray × Int × Int × Int × ByteArray × Int := (x.1.src, x.1.dst, x.1.proto, x.1.sp, x.1.dp, x.2.1, x.2.2)
theorem net_eq (kind : Int) (s : ByteArray) (hs : s.size ≤ 140737488351232) (k : Nat) (hk : 210 ≤ k) : flow_network.f k kind s = some (tupF (net kind s)) := by
  unfold flow_network.f net
  by_cases c4 : kind = 2048
  · rw [if_pos c4, if_pos c4, L06.take4_eq s hs k (by omega), Option.bind_some]
    by_cases e : L06.err4 s = 0
    · have z1 : (L06.h4 s).src.size ≤ 4 := by unfold L06.h4; rw [ByteArray.size_extract]; omega
      have z2 : (L06.h4 s).dst.size ≤ 4 := by unfold L06.h4; rw [ByteArray.size_extract]; omega
      have et : L06.take4 s = L06.tup (L06.h4 s) (s.extract (L06.hlen s) (at_ s 2 4)) 0 := by unfold L06.take4; rw [if_pos e]
      rw [et, if_pos e]
      unfold L06.tup
      dsimp only
      rw [if_pos rfl]
      by_cases o : (L06.h4 s).off = 0
      · rw [if_pos o, if_pos (by omega), if_pos (by omega), if_pos o]; rfl
      · rw [if_neg o, if_pos (by omega), if_pos (by omega), if_neg o]; rfl
    · rw [L06.take4_err rfl e, if_neg e]
      unfold L06.tup L06.zero4
      dsimp only
      rw [if_neg e, if_pos (by decide)]
      have : mp ++ mkB [] = mp := by show mkB _ ++ mkB [] = _; rw [mkB_app, List.append_nil]; rfl
      show some (mp ++ mkB [], mp ++ mkB [], _, _, _, _, _) = _
      rw [this]; rfl
  rw [if_neg c4, if_neg c4]
  by_cases c6 : kind = 34525
  · rw [if_pos c6, if_pos c6, L07.take6_eq s hs k (by omega), Option.bind_some]
    rcases L07.take6_cases s with ⟨e, hv, he⟩ | ⟨h, body, he, hr, hf, hp, hok⟩
    · rw [he _ L07.t1]
      dsimp only
      rw [if_neg (by omega), if_neg (by omega)]; rfl
    · have hl := ((L07.right_iff h).mp hr).2.2.2.2.2.2.2.2
      rw [he _ L07.t1, he _ id]
      dsimp only
      rw [if_pos rfl, if_pos rfl, L07.piece_eq h.ch _ _ _ _ _ _ (by omega) k (by omega), Option.bind_some, List.map_id]
      cases L07.pieceB h.ch
      · rw [if_neg (by decide), if_neg (by decide)]; rfl
      · rw [if_pos rfl, if_pos rfl]; rfl
  · rw [if_neg c6, if_neg c6]; rfl
def fin (N : Fl × ByteArray × Int) : Fl × Int :=
  if N.2.2 ≠ 0 then (zF, N.2.2)
  else if N.1.proto = 6 ∨ N.1.proto = 17 then
    (if (L08.portS N.1.proto N.2.1).2.2.2 = 0 then (⟨N.1.src, N.1.dst, N.1.proto, (L08.portS N.1.proto N.2.1).1, (L08.portS N.1.proto N.2.1).2.1⟩, 0) else (zF, (L08.portS N.1.proto N.2.1).2.2.2))
  else (N.1, 0)
def extr (s : ByteArray) : Fl × Int :=
  if 2048 < s.size then (zF, 4) else match L05.tk0 s with
  | .error e => (zF, e)
  | .ok (_, n, q) => fin (net n (s.extract q s.size))
def tupE (x : Fl × Int) : ByteArray × ByteArray × Int × Int × Int × Int := (x.1.src, x.1.dst, x.1.proto, x.1.sp, x.1.dp, x.2)
theorem net_body (kind : Int) (s : ByteArray) (hs : s.size ≤ 140737488351232) : (net kind s).2.1.size ≤ 140737488351232 := by
  unfold net
  have z0 : (mkB []).size = 0 := rfl
  by_cases c4 : kind = 2048
  · rw [if_pos c4]
    by_cases e : L06.err4 s = 0
    · rw [if_pos e]; dsimp only; rw [ByteArray.size_extract]; omega
    · rw [if_neg e]; dsimp only; omega
  rw [if_neg c4]
  by_cases c6 : kind = 34525
  · rw [if_pos c6]
    rcases L07.take6_cases s with ⟨e, hv, he⟩ | ⟨h, body, he, hr, hf, hp, hok⟩
    · rw [he _ L07.t1]
      dsimp only
      rw [if_neg (by omega)]; dsimp only; omega
    · rw [he _ L07.t1]
      dsimp only
      rw [if_pos rfl]
      dsimp only
      unfold L07.fits at hf; omega
  · rw [if_neg c6]; dsimp only; omega
theorem extr_eq (s : ByteArray) (hs : s.size ≤ 140737488351232) (k : Nat) (hk : 220 ≤ k) : flow_Extract.f k s = some (tupE (extr s)) := by
  obtain ⟨k, rfl⟩ : ∃ m, k = m + 1 := ⟨k - 1, by omega⟩
  unfold flow_Extract.f extr
  by_cases c1 : 2048 < s.size
  · rw [if_pos (by omega), if_pos c1]; rfl
  rw [if_neg (by omega), if_neg c1, L05.ethtake_eq s _ (by omega), Option.bind_some]
  cases t : L05.tk0 s with
  | error e =>
    rw [L05.res_err L05.t1 s e t]
    dsimp only
    rw [if_neg (L05.tk0_err s e t)]; rfl
  | ok v =>
    obtain ⟨ts, n, q⟩ := v
    rw [L05.res_ok L05.t1 s ts n q t]
    have hz : (s.extract q s.size).size ≤ 140737488351232 := by rw [ByteArray.size_extract]; omega
    dsimp only
    rw [if_pos rfl, net_eq n _ hz (k + 1) (by omega), Option.bind_some]
    have hb := net_body n (s.extract q s.size) hz
    generalize net n (s.extract q s.size) = N at hb
    unfold tupF fin
    dsimp only
    by_cases e : N.2.2 = 0
    case neg => rw [if_neg e, if_pos e]; rfl
    rw [if_pos e, if_neg (show ¬ (N.2.2 ≠ 0) from fun h => h e)]
    have hp : (N.1.proto = 6 ∨ N.1.proto = 17) → flow_Extract.j0 (k + 1) N.2.1 false N.1.src N.1.dst N.1.proto N.1.sp N.1.dp = some (tupE (if (L08.portS N.1.proto N.2.1).2.2.2 = 0 then (⟨N.1.src, N.1.dst, N.1.proto, (L08.portS N.1.proto N.2.1).1, (L08.portS N.1.proto N.2.1).2.1⟩, 0) else (zF, (L08.portS N.1.proto N.2.1).2.2.2))) := by
      intro _
      simp only [flow_Extract.j0]
      rw [if_neg (by decide), L08.port_eq _ _ hb k (by omega), Option.bind_some]
      by_cases e2 : (L08.portS N.1.proto N.2.1).2.2.2 = 0
      · rw [if_pos e2, if_pos e2]; rfl
      · rw [if_neg e2, if_neg e2]; rfl
    by_cases p6 : N.1.proto = 6
    · rw [if_pos p6, if_pos (.inl p6)]; exact hp (.inl p6)
    rw [if_neg p6]
    by_cases p17 : N.1.proto = 17
    · rw [if_pos (.inr p17), bne_eq_false_iff_eq.mpr p17]; exact hp (.inr p17)
    · rw [if_neg (by omega), bne_iff_ne.mpr p17]
      simp only [flow_Extract.j0, if_true]; rfl
/-! ### what is extracted is right -/
theorem portS_range (p : Int) (s : ByteArray) : (0 ≤ (L08.portS p s).1 ∧ (L08.portS p s).1 ≤ 65535) ∧ (0 ≤ (L08.portS p s).2.1 ∧ (L08.portS p s).2.1 ≤ 65535) := by
  have a1 := L08.at_lt s 0 2
  have a2 := L08.at_lt s 2 4
  simp only [show (256 : Nat) ^ (2 - 0) = 65536 from rfl, show (256 : Nat) ^ (4 - 2) = 65536 from rfl] at a1 a2
  unfold L08.portS L08.bad
  repeat' split
  all_goals (dsimp only; omega)
theorem net_ok (kind : Int) (s : ByteArray) (h : (net kind s).2.2 = 0) : okF (net kind s).1 := by
  unfold net at h ⊢
  by_cases c4 : kind = 2048
  · rw [if_pos c4] at h ⊢
    by_cases e : L06.err4 s = 0
    · rw [if_pos e] at h ⊢
      have r := L06.right_h4 s e
      refine ⟨?_, ?_, ?_, (show (0 : Int) ≤ 0 ∧ (0 : Int) ≤ 65535 by decide), (show (0 : Int) ≤ 0 ∧ (0 : Int) ≤ 65535 by decide)⟩
      · show (mp ++ (L06.h4 s).src).size = 16
        rw [ByteArray.size_append, r.2.2.2.2.2.2.1]; rfl
      · show (mp ++ (L06.h4 s).dst).size = 16
        rw [ByteArray.size_append, r.2.2.2.2.2.2.2.1]; rfl
      · have := r.2.2.1
        show 0 ≤ (L06.h4 s).proto ∧ (L06.h4 s).proto ≤ 255
        omega
    · rw [if_neg e] at h; exact absurd h e
  rw [if_neg c4] at h ⊢
  by_cases c6 : kind = 34525
  · rw [if_pos c6] at h ⊢
    rcases L07.take6_cases s with ⟨e, hv, he⟩ | ⟨x, body, he, hr, hf, hp, hok⟩
    · rw [he _ L07.t1] at h
      dsimp only at h
      rw [if_neg (by omega)] at h
      dsimp only at h
      omega
    · rw [he _ L07.t1]
      dsimp only
      rw [if_pos rfl]
      obtain ⟨hC, hR⟩ := (L07.right_iff x).mp hr
      have := hR.2.2.2.1
      exact ⟨hR.2.2.2.2.2.1, hR.2.2.2.2.2.2.1, by dsimp only; omega, (show (0 : Int) ≤ 0 ∧ (0 : Int) ≤ 65535 by decide), (show (0 : Int) ≤ 0 ∧ (0 : Int) ≤ 65535 by decide)⟩
  · rw [if_neg c6] at h; exact absurd h (by decide)
theorem extr_ok (s : ByteArray) (h : (extr s).2 = 0) : okF (extr s).1 ∧ s.size ≤ 2048 := by
  unfold extr at h ⊢
  by_cases c1 : 2048 < s.size
  · rw [if_pos c1] at h; exact absurd h (by decide)
  rw [if_neg c1] at h ⊢
  refine ⟨?_, by omega⟩
  cases t : L05.tk0 s with
  | error e => rw [t] at h; exact absurd h (L05.tk0_err s e t)
  | ok v =>
    obtain ⟨ts, n, q⟩ := v
    rw [t] at h
    dsimp only at h ⊢
    have hn := net_ok n (s.extract q s.size)
    generalize net n (s.extract q s.size) = N at h hn
    unfold fin at h ⊢
    by_cases e : N.2.2 = 0
    case neg => rw [if_pos e] at h; exact absurd h e
    rw [if_neg (show ¬ (N.2.2 ≠ 0) from fun x => x e)] at h ⊢
    obtain ⟨h1, h2, h3, h4, h5⟩ := hn e
    by_cases p : N.1.proto = 6 ∨ N.1.proto = 17
    · rw [if_pos p] at h ⊢
      by_cases e2 : (L08.portS N.1.proto N.2.1).2.2.2 = 0
      · rw [if_pos e2] at h ⊢
        have := portS_range N.1.proto N.2.1
        exact ⟨h1, h2, h3, this.1, this.2⟩
      · rw [if_neg e2] at h; exact absurd h e2
    · rw [if_neg p]
      exact ⟨h1, h2, h3, h4, h5⟩
theorem extr_err (s : ByteArray) (h : (extr s).2 ≠ 0) : (extr s).1 = zF := by
  unfold extr at h ⊢
  by_cases c1 : 2048 < s.size
  · rw [if_pos c1]
  rw [if_neg c1] at h ⊢
  cases t : L05.tk0 s with
  | error e => rfl
  | ok v =>
    obtain ⟨ts, n, q⟩ := v
    rw [t] at h
    dsimp only at h ⊢
    generalize net n (s.extract q s.size) = N at h
    unfold fin at h ⊢
    by_cases e : N.2.2 = 0
    case neg => rw [if_pos e]
    rw [if_neg (show ¬ (N.2.2 ≠ 0) from fun x => x e)] at h ⊢
    by_cases p : N.1.proto = 6 ∨ N.1.proto = 17
    · rw [if_pos p] at h ⊢
      by_cases e2 : (L08.portS N.1.proto N.2.1).2.2.2 = 0
      · rw [if_pos e2] at h; exact absurd rfl h
      · rw [if_neg e2]
    · rw [if_neg p] at h; exact absurd rfl h
end Go.Proofs.Ytfdhifigndmgaaa.L09
