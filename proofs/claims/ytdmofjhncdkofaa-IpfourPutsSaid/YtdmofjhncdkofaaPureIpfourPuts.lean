/- Any header with any body is written as the reference says, or refused, and taken back. Conditions: none beyond the statement's own. -/
import Derived.Test.YtdmofjhncdkofaaBase
import Derived.Test.YtdmofjhncdkofaaCIpfourPuts
import Derived.Test.YtdmofjhncdkofaaQx17
namespace Go.Proofs.Ytdmofjhncdkofaa.Pure
open Go Go.RowKit Go.Proofs.Ytdmofjhncdkofaa.Q Go.Proofs.Ytdmofjhncdkofaa.Base Go.Proofs.Ytdmofjhncdkofaa.LAt Go.Proofs.Ytdmofjhncdkofaa.L06 Go.Proofs.YtdmofjhncdkofaaW.PrintWords Go.Proofs.YtdmofjhncdkofaaW.PrintMore
set_option linter.unusedVariables false
set_option linter.unusedSimpArgs false
theorem IpfourPuts (tos id flags off ttl proto : Int) (src dst opt body more : ByteArray) (_ : (Lit.int .i64 tos).wf = true) (_ : (Lit.int .i64 id).wf = true) (_ : (Lit.int .i64 flags).wf = true) (_ : (Lit.int .i64 off).wf = true) (_ : (Lit.int .i64 ttl).wf = true) (_ : (Lit.int .i64 proto).wf = true)
    (hsrc : src.size ≤ 140737488351232) (hdst : dst.size ≤ 140737488351232) (hopt : opt.size ≤ 140737488351232) (hbody : body.size ≤ 140737488351232) (hmore : more.size ≤ 140737488351232) :
    ∃ k, rillmeterlaw06_IpfourPuts.f k tos id flags off ttl proto src dst opt body more = some true := by
  obtain ⟨h, hh⟩ : ∃ h : H4, h = ⟨tos, id, flags, off, ttl, proto, src, dst, opt⟩ := ⟨_, rfl⟩
  refine ⟨301, ?_⟩
  have skip : rillmeterlaw06_IpfourPuts.j0 301 body more true tos id flags off ttl proto src dst opt = some true := by
    rw [show (301 : Nat) = 300 + 1 from rfl]
    simp only [rillmeterlaw06_IpfourPuts.j0, if_true]
    rw [L06.awake_eq _ (by omega)]; rfl
  unfold rillmeterlaw06_IpfourPuts.f
  by_cases c1 : (body.size : Int) > 4096
  · rw [if_pos c1, skip]
  rw [if_neg c1]
  by_cases c2 : (more.size : Int) > 4096
  · rw [if_pos c2, skip]
  rw [if_neg c2]
  by_cases c3 : (opt.size : Int) > 4096
  · rw [if_pos c3, skip]
  rw [if_neg c3]
  by_cases c4 : wrap64 ((src.size : Int) + (dst.size : Int)) > 100
  · rw [decide_eq_true c4, skip]
  rw [decide_eq_false c4, show (301 : Nat) = 300 + 1 from rfl]
  simp only [rillmeterlaw06_IpfourPuts.j0]
  have e1 := put4_eq h body (by rw [hh]; exact hopt) hbody 300 (by omega)
  have e2 := refright_loop h 300 (by omega)
  have e3 := right_eq h
  rw [hh] at e1 e2 e3
  dsimp only at e1 e2 e3
  rw [if_neg (by decide), e1, Option.bind_some, e2, Option.bind_some, e3, Option.bind_some, if_neg (by simp), ← hh]
  by_cases r : right h
  · have hz : 20 + h.opt.size + body.size ≤ 65535 := by have := r.2.2.2.2.2.2.2.2.1; omega
    have e4 := refput_eq h r body.size hz 300 (by omega)
    have e5 := take4_back r body hz more
    have ek : put4S h body = (mkB (put4 h body), 0) := by unfold put4S; rw [if_pos ⟨r, hz⟩]
    have hL := put4_length r body
    have hX : mkB (head h body.size ++ two (sum4 h body.size : Int) ++ tail h) ++ body = mkB (put4 h body) := by rw [app_mkB]; rfl
    have hY : (mkB (head h body.size ++ two (sum4 h body.size : Int) ++ tail h)).size + body.size = (mkB (put4 h body)).size := by rw [← hX, ByteArray.size_append]
    rw [show h.tos = tos by rw [hh], show h.id = id by rw [hh], show h.flags = flags by rw [hh], show h.off = off by rw [hh], show h.ttl = ttl by rw [hh], show h.proto = proto by rw [hh], show h.src = src by rw [hh], show h.dst = dst by rw [hh], show h.opt = opt by rw [hh]] at e4
    have hs1 : (mkB (put4 h body) ++ more).size ≤ 140737488351232 := by rw [ByteArray.size_append, mkB_size, hL]; omega
    have hs2 := hs1
    rw [ByteArray.size_append] at hs2
    rw [decide_eq_true r, if_pos rfl, ek]
    dsimp only
    rw [if_pos (by omega), take4_eq _ hs1 _ (by omega), Option.bind_some, e4, Option.bind_some, if_pos (by rw [hY]; omega), hX, if_pos rfl, if_pos rfl, e5]
    unfold tup
    dsimp only
    rw [show h.tos = tos by rw [hh], show h.id = id by rw [hh], show h.flags = flags by rw [hh], show h.off = off by rw [hh], show h.ttl = ttl by rw [hh], show h.proto = proto by rw [hh], show h.src = src by rw [hh], show h.dst = dst by rw [hh], show h.opt = opt by rw [hh]]
    rw [if_pos (by simp), if_pos rfl, if_pos rfl, L06.awake_eq _ (by omega)]; rfl
  · have ek : put4S h body = (mkB [], 1) := by unfold put4S; rw [if_neg (fun o : ok4 h body => r o.1)]
    rw [decide_eq_false r, if_neg (by decide), ek]
    dsimp only
    rw [mkB_toList, if_pos rfl, if_pos rfl, L06.awake_eq _ (by omega)]; rfl
end Go.Proofs.Ytdmofjhncdkofaa.Pure
