/- What stands behind a packet's length turns nothing. Conditions: none beyond the statement's own. -/
import Derived.Test.YtdmofjhncdkofaaLAt
import Derived.Test.YtdmofjhncdkofaaL06
import Derived.Test.YtdmofjhncdkofaaQx17
namespace Go.Proofs.Ytdmofjhncdkofaa.Pure
open Go Go.RowKit Go.Proofs.Ytdmofjhncdkofaa.Q Go.Proofs.Ytdmofjhncdkofaa.Base Go.Proofs.Ytdmofjhncdkofaa.LAt Go.Proofs.Ytdmofjhncdkofaa.L06 Go.Proofs.YtdmofjhncdkofaaW.PrintWords Go.Proofs.YtdmofjhncdkofaaW.PrintMore
set_option linter.unusedVariables false
set_option linter.unusedSimpArgs false
theorem hlen_app (s t : ByteArray) (h : 0 < s.size) : hlen (s ++ t) = hlen s := by
  unfold hlen
  have := bt_app s t 0 h
  rw [show ((0 : Nat) : Int) = 0 from rfl] at this
  rw [this]
theorem err4_app (s t : ByteArray) (h : err4 s = 0) : err4 (s ++ t) = 0 := by
  obtain ⟨c1, c2, c3, c4, c5⟩ := err4_ok h
  have hz : (s ++ t).size = s.size + t.size := ByteArray.size_append
  have hl := hlen_app s t (by omega)
  have hb : bt (s ++ t) 0 = bt s 0 := bt_app s t 0 (by omega)
  have ha := at_app s t 2 4 (by omega)
  refine err4_0 (by omega) (by rw [hb]; exact c2) (by rw [hl, hz]; omega) (by rw [hl, ha, hz]; omega) ?_
  rw [hl, app_list, List.take_append_of_le_length (by rw [len]; omega)]; exact c5
theorem h4_app (s t : ByteArray) (h : err4 s = 0) : h4 (s ++ t) = h4 s := by
  obtain ⟨c1, c2, c3, c4, c5⟩ := err4_ok h
  have hl := hlen_app s t (by omega)
  unfold h4
  rw [hl, at_app s t 1 2 (by omega), at_app s t 4 6 (by omega), at_app s t 6 8 (by omega), at_app s t 8 9 (by omega), at_app s t 9 10 (by omega), ext_app s t 12 16 (by omega), ext_app s t 16 20 (by omega), ext_app s t 20 (hlen s) (by omega)]
theorem right_h4 (s : ByteArray) (h : err4 s = 0) : right (h4 s) := by
  obtain ⟨c1, c2, c3, c4, c5⟩ := err4_ok h
  have a1 := at_lt s 1 2
  have a2 := at_lt s 4 6
  have a3 := at_lt s 6 8
  have a4 := at_lt s 8 9
  have a5 := at_lt s 9 10
  have hq := hlen_le s
  have hm : hlen s % 4 = 0 := by unfold hlen; omega
  simp only [Nat.reduceSub, show 256 ^ 1 = 256 from rfl, show 256 ^ 2 = 65536 from rfl] at a1 a2 a3 a4 a5
  unfold right h4
  simp only [ByteArray.size_extract]
  omega
theorem IpfourTrail : rillmeterlaw06_IpfourTrail.Pure := by
  intro s t hs ht
  refine ⟨261, ?_⟩
  have skip : rillmeterlaw06_IpfourTrail.j0 261 s t true = some true := by
    rw [show (261 : Nat) = 260 + 1 from rfl]
    simp only [rillmeterlaw06_IpfourTrail.j0, if_true]
    rw [L06.awake_eq _ (by omega)]; rfl
  unfold rillmeterlaw06_IpfourTrail.f
  by_cases h : (s.size : Int) > 4096
  · rw [if_pos h, skip]
  rw [if_neg h]
  by_cases h1 : (t.size : Int) > 4096
  · rw [decide_eq_true h1, skip]
  rw [decide_eq_false h1, show (261 : Nat) = 260 + 1 from rfl]
  simp only [rillmeterlaw06_IpfourTrail.j0, Bool.false_eq_true, if_false]
  have hz : (s ++ t).size = s.size + t.size := ByteArray.size_append
  rw [take4_eq s hs _ (by omega), Option.bind_some, if_pos (by omega), take4_eq _ (by omega) _ (by omega), Option.bind_some]
  by_cases he : err4 s = 0
  · have ea := err4_app s t he
    have e1 : take4 s = tup (h4 s) (s.extract (hlen s) (at_ s 2 4)) 0 := by unfold take4; rw [if_pos he]
    have e2 : take4 (s ++ t) = tup (h4 s) (s.extract (hlen s) (at_ s 2 4)) 0 := by
      obtain ⟨c1, c2, c3, c4, c5⟩ := err4_ok he
      unfold take4
      rw [if_pos ea, h4_app s t he, hlen_app s t (by omega), at_app s t 2 4 (by omega), ext_app s t _ _ (by omega)]
    rw [e1, e2]
    have hr := right_eq (h4 s)
    rw [decide_eq_true (right_h4 s he)] at hr
    unfold tup
    rw [if_pos rfl, if_pos (by simp), if_pos rfl, if_pos rfl, hr, Option.bind_some, if_pos rfl, L06.awake_eq _ (by omega)]; rfl
  · have e1 : take4 s = tup zero4 (mkB []) (err4 s) := take4_err rfl he
    rw [e1]
    unfold tup
    rw [if_neg he]
    unfold zero4
    simp only [mkB_toList]
    rw [if_pos (by decide), if_pos trivial, L06.awake_eq _ (by omega)]; rfl
end Go.Proofs.Ytdmofjhncdkofaa.Pure
