/- Of a frame that was written the flow is what was written. Conditions: none beyond the statement's own. -/
import Derived.Test.YtfdhifigndmgaaaBase
import Derived.Test.YtfdhifigndmgaaaCFlowWritten
import Derived.Test.YtfdhifigndmgaaaQx41
namespace Go.Proofs.Ytfdhifigndmgaaa.Pure
open Go Go.RowKit Go.Proofs.Ytfdhifigndmgaaa.Q Go.Proofs.Ytfdhifigndmgaaa.Base Go.Proofs.Ytfdhifigndmgaaa.LAt Go.Proofs.Ytfdhifigndmgaaa.L09 Go.Proofs.YtfdhifigndmgaaaW.PrintWords Go.Proofs.YtfdhifigndmgaaaW.PrintMore
set_option linter.unusedVariables false
set_option linter.unusedSimpArgs false
theorem FlowWritten (d r : ByteArray) (ch : List L05.Tg) (n : Int) (tos id flags off ttl proto : Int) (src dst opt : ByteArray) (sp dp : Int) (body more : ByteArray)
    (hd : d.size ≤ 140737488351232) (hr : r.size ≤ 140737488351232) (_ : ch.length * 16 ≤ 140737488351232) (_ : ∀ x ∈ ch, True) (_ : (Lit.int .i64 n).wf = true)
    (_ : (Lit.int .i64 tos).wf = true) (_ : (Lit.int .i64 id).wf = true) (_ : (Lit.int .i64 flags).wf = true) (_ : (Lit.int .i64 off).wf = true) (_ : (Lit.int .i64 ttl).wf = true) (_ : (Lit.int .i64 proto).wf = true)
    (hsrc : src.size ≤ 140737488351232) (hdst : dst.size ≤ 140737488351232) (hopt : opt.size ≤ 140737488351232) (_ : (Lit.int .i64 sp).wf = true) (_ : (Lit.int .i64 dp).wf = true) (hbody : body.size ≤ 140737488351232) (hmore : more.size ≤ 140737488351232) :
    ∃ k, rillmeterlaw09_FlowWritten.f k d r ch n tos id flags off ttl proto src dst opt sp dp body more = some true := by
  obtain ⟨l, rfl⟩ : ∃ l : List L05.Pr, ch = l.map L05.t1 := ⟨ch.map fun p => (p.f0, p.f1), by rw [List.map_map]; exact (List.map_id' ch).symm⟩
  obtain ⟨h, hh⟩ : ∃ h : L06.H4, h = ⟨tos, id, flags, 0, ttl, 17, src, dst, opt⟩ := ⟨_, rfl⟩
  refine ⟨302, ?_⟩
  have skip : rillmeterlaw09_FlowWritten.j0 302 sp dp body more true d r (l.map L05.t1) n tos id flags off ttl proto src dst opt = some true := by
    rw [show (302 : Nat) = 301 + 1 from rfl]
    simp only [rillmeterlaw09_FlowWritten.j0, if_true]
    rw [L09.awake_eq _ (by omega)]; rfl
  unfold rillmeterlaw09_FlowWritten.f
  by_cases c1 : (body.size : Int) > 100
  · rw [if_pos c1, skip]
  rw [if_neg c1]
  by_cases c2 : (more.size : Int) > 100
  · rw [if_pos c2, skip]
  rw [if_neg c2]
  by_cases c3 : (opt.size : Int) > 40
  · rw [if_pos c3, skip]
  rw [if_neg c3]
  by_cases c4 : ((l.map L05.t1).length : Int) > 2
  · rw [decide_eq_true c4, skip]
  rw [decide_eq_false c4, show (302 : Nat) = 301 + 1 from rfl]
  rw [List.length_map] at c4
  simp only [rillmeterlaw09_FlowWritten.j0]
  have skip2 : ∀ (s : ByteArray) (b : Bool), b = true → rillmeterlaw09_FlowWritten.j1 301 sp dp s b tos id flags 0 ttl 17 src dst opt = some true := by
    intro s b hb
    rw [hb, show (301 : Nat) = 300 + 1 from rfl]
    simp only [rillmeterlaw09_FlowWritten.j1, if_true]
    rw [L09.awake_eq _ (by omega)]; rfl
  have huz : (L08.udpS sp dp body).1.size ≤ 108 := by
    unfold L08.udpS
    split
    · rw [mkB_size]; simp only [List.length_append, L08.two_length, len, List.length_cons, List.length_nil]; omega
    · rw [mkB_size]; simp
  have e1 := L06.put4_eq h (L08.udpS sp dp body).1 (by rw [hh]; exact hopt) (by omega) 301 (by omega)
  rw [hh] at e1
  dsimp only at e1
  rw [← hh] at e1
  have hpz : (L06.put4S h (L08.udpS sp dp body).1).1.size ≤ 200 := by
    unfold L06.put4S
    split
    case isTrue o => rw [mkB_size, L06.put4_length o.1]; have := o.1.2.2.2.2.2.2.2.2.1; omega
    case isFalse => rw [mkB_size]; simp
  rw [if_neg (by decide), L08.udp_eq _ _ _ hbody _ (by omega), Option.bind_some, e1, Option.bind_some, if_pos (by omega)]
  have hb3 : ((L06.put4S h (L08.udpS sp dp body).1).1 ++ more).size ≤ 140737488351232 := by rw [ByteArray.size_append]; omega
  have hl : l.length < 1000 := by omega
  cases hrt : L05.rt d r l 2048
  · rw [L05.ethput_no d r _ l 2048 hl hrt 301 (by omega), Option.bind_some]
    dsimp only
    rw [skip2 _ _ (show ((1 : Int) != 0) = true by decide), skip2 _ _ rfl]
    split
    · split <;> rfl
    · rfl
  have hrt' := hrt
  unfold L05.rt at hrt'
  rw [Bool.and_eq_true, decide_eq_true_eq, L05.allT_iff] at hrt'
  obtain ⟨hT, o1, o2, o3, o4, o5⟩ := hrt'
  rw [L05.ethput_ok d r _ l 2048 o1 o2 o3 o4 (by rw [o5]; decide) hT hb3 301 (by omega), Option.bind_some]
  dsimp only
  by_cases hu : L08.okPort sp ∧ L08.okPort dp ∧ body.size ≤ 65527
  case neg =>
    have eu : L08.udpS sp dp body = (mkB [], 1) := by unfold L08.udpS; rw [if_neg hu]
    rw [eu, if_neg (by decide), skip2 _ _ rfl]
  have eu : L08.udpS sp dp body = (mkB (L08.two sp ++ L08.two dp ++ L08.two (8 + (body.size : Int)) ++ [0, 0] ++ body.data.toList), 0) := by unfold L08.udpS; rw [if_pos hu]
  rw [eu] at e1 hpz hb3 huz ⊢
  dsimp only at e1 hpz hb3 huz ⊢
  rw [if_pos rfl]
  by_cases ho : L06.ok4 h (mkB (L08.two sp ++ L08.two dp ++ L08.two (8 + (body.size : Int)) ++ [0, 0] ++ body.data.toList))
  case neg =>
    have ep : L06.put4S h (mkB (L08.two sp ++ L08.two dp ++ L08.two (8 + (body.size : Int)) ++ [0, 0] ++ body.data.toList)) = (mkB [], 1) := by unfold L06.put4S; rw [if_neg ho]
    rw [ep, if_neg (by decide), skip2 _ _ rfl]
  have ep : L06.put4S h (mkB (L08.two sp ++ L08.two dp ++ L08.two (8 + (body.size : Int)) ++ [0, 0] ++ body.data.toList)) = (mkB (L06.put4 h (mkB (L08.two sp ++ L08.two dp ++ L08.two (8 + (body.size : Int)) ++ [0, 0] ++ body.data.toList))), 0) := by unfold L06.put4S; rw [if_pos ho]
  rw [ep]
  dsimp only
  have hx := extr_put d r l o1 o2 o3 hT ho.1 (by rw [hh]) (by rw [hh]) sp dp body more hu.1 hu.2.1 (by omega) (by omega) _ rfl
  rw [if_pos rfl, show ((0 : Int) != 0) = false by decide, show (301 : Nat) = 300 + 1 from rfl]
  simp only [rillmeterlaw09_FlowWritten.j1]
  have hsz : (mkB (d.data.toList ++ r.data.toList ++ (L05.encT l ++ (two 2048 ++ (mkB (L06.put4 h (mkB (L08.two sp ++ L08.two dp ++ L08.two (8 + (body.size : Int)) ++ [0, 0] ++ body.data.toList))) ++ more).data.toList)))).size ≤ 140737488351232 := by
    by_cases c : (mkB (d.data.toList ++ r.data.toList ++ (L05.encT l ++ (two 2048 ++ (mkB (L06.put4 h (mkB (L08.two sp ++ L08.two dp ++ L08.two (8 + (body.size : Int)) ++ [0, 0] ++ body.data.toList))) ++ more).data.toList)))).size ≤ 140737488351232
    · exact c
    · unfold extr at hx
      rw [if_pos (by omega)] at hx
      simp only [Prod.mk.injEq] at hx
      exact absurd hx.2 (by decide)
  rw [if_neg (by decide), extr_eq _ hsz _ (by omega), Option.bind_some, hx]
  unfold tupE
  dsimp only
  have s1 : h.src = src := by rw [hh]
  have s2 : h.dst = dst := by rw [hh]
  have z1 := ho.1.2.2.2.2.2.2.1
  have z2 := ho.1.2.2.2.2.2.2.2.1
  rw [s1] at z1
  rw [s2] at z2
  have m0 : mp.size = 12 := rfl
  have x1 : (mp ++ src).extract 12 16 = src := by
    rw [← mkB_eta ((mp ++ src).extract 12 16), extract_list, app_list, List.drop_left' (by rw [len]; exact m0), List.take_of_length_le (by rw [len]; omega), mkB_eta]
  have x2 : (mp ++ dst).extract 12 16 = dst := by
    rw [← mkB_eta ((mp ++ dst).extract 12 16), extract_list, app_list, List.drop_left' (by rw [len]; exact m0), List.take_of_length_le (by rw [len]; omega), mkB_eta]
  have y1 : (mp ++ src).size = 16 := by rw [ByteArray.size_append]; omega
  have y2 : (mp ++ dst).size = 16 := by rw [ByteArray.size_append]; omega
  rw [s1, s2, if_pos rfl, y1, if_pos (by decide), if_pos (by decide), x1, if_pos rfl, y2, if_pos (by decide), if_pos (by decide), x2, if_pos rfl, if_pos rfl, if_pos rfl, if_pos rfl, L09.awake_eq _ (by omega)]; rfl
end Go.Proofs.Ytfdhifigndmgaaa.Pure
