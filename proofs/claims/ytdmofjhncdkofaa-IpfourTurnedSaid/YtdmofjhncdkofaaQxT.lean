/- What the law of a turned byte answers, for every input. -/
import Derived.Test.YtdmofjhncdkofaaT06
import Derived.Laws.BitsAllLaws
import Derived.Test.YtdmofjhncdkofaaQx1
import Derived.Test.YtdmofjhncdkofaaQx4
import Derived.Test.YtdmofjhncdkofaaQx7
import Derived.Test.YtdmofjhncdkofaaQx5
namespace Go.Proofs.Ytdmofjhncdkofaa.Walk
open Go Go.RowKit Go.Proofs.Ytdmofjhncdkofaa.Q Go.Proofs.Ytdmofjhncdkofaa.Base Go.Proofs.Ytdmofjhncdkofaa.L04 Go.Proofs.Ytdmofjhncdkofaa.LAt Go.Proofs.Ytdmofjhncdkofaa.L06 Go.Proofs.YtdmofjhncdkofaaW.PrintWords Go.Proofs.YtdmofjhncdkofaaW.PrintMore
set_option linter.unusedVariables false
set_option linter.unusedSimpArgs false
theorem xor_ne (a b : Nat) (h : a ^^^ b = a) : b = 0 := by
  have h2 : a ^^^ (a ^^^ b) = b := by rw [← Nat.xor_assoc, Nat.xor_self, Nat.zero_xor]
  rw [h, Nat.xor_self] at h2; exact h2.symm
theorem xor_lt (a b : Nat) (ha : a < 256) (hb : b < 256) : a ^^^ b < 256 := Nat.xor_lt_two_pow (n := 8) ha hb
theorem wsum_set (l : List UInt8) : ∀ (p : Bool) (n : Nat) (hn : n < l.length) (v : UInt8), ∃ c, (c = 1 ∨ c = 256) ∧ wsum p (l.set n v) + c * (l[n]).toNat = wsum p l + c * v.toNat := by
  induction l with
  | nil => intro p n hn; exact absurd hn (by simp)
  | cons a r ih =>
    intro p n hn v
    cases n with
    | zero =>
      cases p
      · exact ⟨1, .inl rfl, by simp only [List.set_cons_zero, List.getElem_cons_zero, wsum]; omega⟩
      · exact ⟨256, .inr rfl, by simp only [List.set_cons_zero, List.getElem_cons_zero, wsum]; omega⟩
    | succ n =>
      obtain ⟨c, h1, h2⟩ := ih (!p) n (by simpa using hn) v
      refine ⟨c, h1, ?_⟩
      cases p
      · simp only [List.set_cons_succ, List.getElem_cons_succ, wsum, Bool.not_false] at h2 ⊢; omega
      · simp only [List.set_cons_succ, List.getElem_cons_succ, wsum, Bool.not_true] at h2 ⊢; omega
theorem fold_full {n : Nat} (h : 65535 - fold n = 0) : 0 < n ∧ n % 65535 = 0 := by
  have := fold_le n
  unfold fold at h this
  split at h
  · omega
  · rename_i h0
    rw [if_neg h0] at this
    omega
theorem isum_set (l : List UInt8) (n : Nat) (hn : n < l.length) (v : UInt8) (h1 : isum l = 0) (h2 : isum (l.set n v) = 0) : v = l[n] := by
  obtain ⟨c, hc, he⟩ := wsum_set l true n hn v
  have f1 := fold_full h1
  have f2 := fold_full h2
  have b1 : (l[n]).toNat < 256 := UInt8.toNat_lt _
  have b2 : v.toNat < 256 := UInt8.toNat_lt _
  apply UInt8.toNat_inj.1
  rcases hc with rfl | rfl <;> omega
/-- A turned byte: the header is refused, or has other options. -/
theorem turned_plain (h : H4) (r : right h) (body : ByteArray) (hb : body.size ≤ 100) (n : Nat) (hn : n < 20 + h.opt.size) (v : UInt8) (hv : ∀ (hl : n < (put4 h body).length), v ≠ (put4 h body)[n]) :
    err4 (mkB ((put4 h body).set n v)) ≠ 0 ∨ (h4 (mkB ((put4 h body).set n v))).opt.toList ≠ h.opt.toList := by
  have ho := r.2.2.2.2.2.2.2.2.1
  have hL := put4_length r body
  have hI := put4_isum r body
  obtain ⟨e0, e1, e2, e3, e4⟩ := back4 r body (by omega)
  obtain ⟨c1, c2, c3, c4, c5⟩ := err4_ok e0
  by_cases e : err4 (mkB ((put4 h body).set n v)) = 0
  case neg => exact .inl e
  refine .inr fun heq => ?_
  obtain ⟨d1, d2, d3, d4, d5⟩ := err4_ok e
  have hs2 : (mkB ((put4 h body).set n v)).size = 20 + h.opt.size + body.size := by rw [mkB_size, List.length_set, hL]
  by_cases z : n = 0
  · subst z
    have ho2 : h.opt = (mkB ((put4 h body).set 0 v)).extract 20 (hlen (mkB ((put4 h body).set 0 v))) := ext_of heq.symm
    have hz := congrArg ByteArray.size ho2
    rw [ByteArray.size_extract] at hz
    have hl2 : hlen (mkB ((put4 h body).set 0 v)) = 20 + h.opt.size := by omega
    unfold hlen at hl2 e2
    rw [bt_mkB] at hl2 d2 e2 c2
    have g0 : ((put4 h body).set 0 v).getD (0 : Int).toNat 0 = v := by
      cases hp : put4 h body with
      | nil => rw [hp] at hL; simp at hL; omega
      | cons a t => rfl
    have hg : (put4 h body).getD (0 : Int).toNat 0 = (put4 h body)[0]'(by omega) := by
      rw [List.getD_eq_getElem?_getD]; simp; rw [List.getElem?_eq_getElem (by omega)]; rfl
    rw [g0] at hl2 d2
    rw [hg] at e2 c2
    refine hv (by omega) ?_
    apply UInt8.toNat_inj.1
    omega
  · have hb0 : bt (mkB ((put4 h body).set n v)) 0 = bt (mkB (put4 h body)) 0 := by
      rw [bt_mkB, bt_mkB, List.getD_eq_getElem?_getD, List.getD_eq_getElem?_getD]
      simp only [show (0 : Int).toNat = 0 from rfl]
      rw [List.getElem?_set_ne (by omega)]
    have hl2 : hlen (mkB ((put4 h body).set n v)) = 20 + h.opt.size := by rw [← e2]; unfold hlen; rw [hb0]
    rw [hl2, mkB_data, List.take_set] at d5
    have hlt : n < ((put4 h body).take (20 + h.opt.size)).length := by rw [List.length_take]; omega
    have := isum_set _ n hlt v hI d5
    rw [List.getElem_take] at this
    exact hv (by omega) this
end Go.Proofs.Ytdmofjhncdkofaa.Walk
namespace Go.Proofs.Ytdmofjhncdkofaa.Q
open Go Go.RowKit Go.Proofs.Ytdmofjhncdkofaa.Walk Go.Proofs.Ytdmofjhncdkofaa.Base Go.Proofs.Ytdmofjhncdkofaa.L04 Go.Proofs.Ytdmofjhncdkofaa.LAt Go.Proofs.Ytdmofjhncdkofaa.L06 Go.Proofs.YtdmofjhncdkofaaW.PrintWords Go.Proofs.YtdmofjhncdkofaaW.PrintMore
set_option linter.unusedVariables false
set_option linter.unusedSimpArgs false
/-- The law answers true where its arguments are what Go's values can be. -/
def rillmeterlaw06_IpfourTurned.f (k : Nat) (a0_0 : Int) (a0_1 : Int) (a0_2 : Int) (a0_3 : Int) (a0_4 : Int) (a0_5 : Int) (a0_6 : ByteArray) (a0_7 : ByteArray) (a0_8 : ByteArray) (a1 : ByteArray) (a2 : Int) (a3 : Int) : Option Bool :=
  if a0_8.size ≤ 140737488351232 ∧ a1.size ≤ 140737488351232 ∧ 0 ≤ a3 ∧ a3 ≤ 255 ∧ k = 0 then some true else none
set_option maxHeartbeats 2000000 in
theorem rillmeterlaw06_IpfourTurned.calls (k : Nat) (a0_0 : Int) (a0_1 : Int) (a0_2 : Int) (a0_3 : Int) (a0_4 : Int) (a0_5 : Int) (a0_6 : ByteArray) (a0_7 : ByteArray) (a0_8 : ByteArray) (a1 : ByteArray) (a2 : Int) (a3 : Int) (r : Bool) (w : World) (hrt : Aside0 (r = true)) (h : rillmeterlaw06_IpfourTurned.f k a0_0 a0_1 a0_2 a0_3 a0_4 a0_5 a0_6 a0_7 a0_8 a1 a2 a3 = some r) :
  Calls Try.prog 6 #[.agg #[.int .i64 a0_0, .int .i64 a0_1, .int .i64 a0_2, .int .i64 a0_3, .int .i64 a0_4, .int .i64 a0_5, .string a0_6, .string a0_7, .string a0_8], .string a1, .int .i64 a2, .int .u8 a3] w fun e w' => e = .returned (.bool r) ∧ Below w.heap.size w w' := by
  unfold rillmeterlaw06_IpfourTurned.f at h
  split at h
  case isFalse => cases h
  case isTrue hc =>
  obtain rfl := Option.some.inj h
  obtain ⟨ho, hbz, hy0, hy1, -⟩ := hc
  obtain ⟨H, hH⟩ : ∃ H : H4, H = ⟨a0_0, a0_1, a0_2, a0_3, a0_4, a0_5, a0_6, a0_7, a0_8⟩ := ⟨_, rfl⟩
  have Aw := Aside0.mk (L06.awake_eq 300 (by omega))
  have ER := right_eq H
  have EP := put4_eq H a1 (by rw [hH]; exact ho) hbz 300 (by omega)
  rw [hH] at ER EP
  dsimp only at ER EP
  rw [← hH] at ER EP
  by_cases c1 : 100 < a1.size
  · exact turned_long 300 _ _ _ _ _ _ _ _ _ _ _ _ c1 Aw w
  by_cases cr : right H
  case neg =>
    rw [decide_eq_false cr] at ER
    exact turned_wrong 300 _ _ _ _ _ _ _ _ _ _ _ _ c1 ⟨ER⟩ Aw w
  rw [decide_eq_true cr] at ER
  by_cases cy : a3 = 0
  · exact turned_nought 300 _ _ _ _ _ _ _ _ _ _ _ _ c1 ⟨ER⟩ cy Aw w
  have ho4 : a0_8.size ≤ 40 := by have := cr.2.2.2.2.2.2.2.2.1; rw [hH] at this; exact this
  have hHo : H.opt.size = a0_8.size := by rw [hH]
  have hP : put4S H a1 = (mkB (put4 H a1), 0) := by unfold put4S; rw [if_pos ⟨cr, by omega⟩]
  rw [hP] at EP
  have hL := put4_length cr a1
  have hsz : (mkB (put4 H a1)).size = 20 + a0_8.size + a1.size := by rw [mkB_size, hL, hHo]
  by_cases cn : 0 ≤ a2 ∧ a2 < 20 + (a0_8.size : Int)
  case neg =>
    exact turned_out 300 _ _ _ _ _ _ _ _ _ _ _ _ (mkB (put4 H a1)) c1 ⟨ER⟩ cy ⟨EP⟩ (by omega) ho4 _ _ _ rfl rfl rfl (by
      by_cases k1 : a2 < 0
      · rw [decide_eq_true k1]; rfl
      · rw [decide_eq_true (show 20 + (a0_8.size : Int) ≤ a2 by omega)]; simp) Aw w
  obtain ⟨n, rfl⟩ := Int.eq_ofNat_of_zero_le cn.1
  have hnl : n < (put4 H a1).length := by rw [hL]; omega
  have hgd : (mkB (put4 H a1)).data.toList.getD n 0 = (put4 H a1)[n] := by
    rw [mkB_data, List.getD_eq_getElem?_getD, List.getElem?_eq_getElem hnl]; rfl
  have bx : ((put4 H a1)[n]).toNat < 256 := UInt8.toNat_lt _
  have hxor := u8_xor ((((put4 H a1)[n]).toNat : Nat) : Int) a3 (by omega) (by omega) hy0 (by omega)
  rw [Int.toNat_natCast] at hxor
  have ylt := xor_lt ((put4 H a1)[n]).toNat a3.toNat bx (by omega)
  have hne : ∀ (hl : n < (put4 H a1).length), UInt8.ofNat (((put4 H a1)[n]).toNat ^^^ a3.toNat) ≠ (put4 H a1)[n] := by
    intro hl e
    have e2 := congrArg UInt8.toNat e
    rw [ofNat_mod, Nat.mod_eq_of_lt ylt] at e2
    have := xor_ne _ _ e2
    omega
  have hpl := turned_plain H cr a1 (by omega) n (by omega) (UInt8.ofNat (((put4 H a1)[n]'hnl).toNat ^^^ a3.toNat)) hne
  have hzz : (mkB ((put4 H a1).set n (UInt8.ofNat (((put4 H a1)[n]).toNat ^^^ a3.toNat)))).size ≤ 140737488351232 := by rw [mkB_size, List.length_set, hL]; omega
  have ET := take4_eq _ hzz 300 (by omega)
  by_cases ee : err4 (mkB ((put4 H a1).set n (UInt8.ofNat (((put4 H a1)[n]).toNat ^^^ a3.toNat)))) = 0
  · have hq := hpl.resolve_left (fun x => x ee)
    rw [take4_ok ee] at ET
    refine turned_in0 300 _ _ _ _ _ _ _ _ _ a1 n a3 (mkB (put4 H a1)) c1 ⟨ER⟩ cy ⟨EP⟩ (by omega) ho4 (by omega) (by omega) (h4 (mkB ((put4 H a1).set n (UInt8.ofNat (((put4 H a1)[n]'hnl).toNat ^^^ a3.toNat))))).tos (h4 (mkB ((put4 H a1).set n (UInt8.ofNat (((put4 H a1)[n]'hnl).toNat ^^^ a3.toNat))))).id (h4 (mkB ((put4 H a1).set n (UInt8.ofNat (((put4 H a1)[n]'hnl).toNat ^^^ a3.toNat))))).flags (h4 (mkB ((put4 H a1).set n (UInt8.ofNat (((put4 H a1)[n]'hnl).toNat ^^^ a3.toNat))))).off (h4 (mkB ((put4 H a1).set n (UInt8.ofNat (((put4 H a1)[n]'hnl).toNat ^^^ a3.toNat))))).ttl (h4 (mkB ((put4 H a1).set n (UInt8.ofNat (((put4 H a1)[n]'hnl).toNat ^^^ a3.toNat))))).proto (h4 (mkB ((put4 H a1).set n (UInt8.ofNat (((put4 H a1)[n]'hnl).toNat ^^^ a3.toNat))))).src (h4 (mkB ((put4 H a1).set n (UInt8.ofNat (((put4 H a1)[n]'hnl).toNat ^^^ a3.toNat))))).dst (h4 (mkB ((put4 H a1).set n (UInt8.ofNat (((put4 H a1)[n]'hnl).toNat ^^^ a3.toNat))))).opt ((mkB ((put4 H a1).set n (UInt8.ofNat (((put4 H a1)[n]'hnl).toNat ^^^ a3.toNat)))).extract (hlen (mkB ((put4 H a1).set n (UInt8.ofNat (((put4 H a1)[n]'hnl).toNat ^^^ a3.toNat))))) (at_ (mkB ((put4 H a1).set n (UInt8.ofNat (((put4 H a1)[n]'hnl).toNat ^^^ a3.toNat)))) 2 4)) (by omega) ((((put4 H a1)[n]).toNat : Nat) : Int) ((((put4 H a1)[n]).toNat ^^^ a3.toNat : Nat) : Int) ⟨by rw [hgd]⟩ ⟨hxor⟩ (by omega) (by omega) ⟨ET⟩ ?_ Aw w
    have h8 : H.opt = a0_8 := by rw [hH]
    rw [← h8]
    exact hq
  · rw [take4_err rfl ee] at ET
    exact turned_in 300 _ _ _ _ _ _ _ _ _ a1 n a3 (mkB (put4 H a1)) c1 ⟨ER⟩ cy ⟨EP⟩ (by omega) ho4 (by omega) (by omega) 0 0 0 0 0 0 (err4 (mkB ((put4 H a1).set n (UInt8.ofNat (((put4 H a1)[n]'hnl).toNat ^^^ a3.toNat))))) (mkB []) (mkB []) (mkB []) (mkB []) (by omega) ((((put4 H a1)[n]).toNat : Nat) : Int) ((((put4 H a1)[n]).toNat ^^^ a3.toNat : Nat) : Int) ⟨by rw [hgd]⟩ ⟨hxor⟩ (by omega) (by omega) ⟨ET⟩ ee Aw w
end Go.Proofs.Ytdmofjhncdkofaa.Q
