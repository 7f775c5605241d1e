/- A header of which one byte is turned is not taken for what it was. Conditions: none beyond the statement's own. -/
import Derived.Test.YtdmofjhncdkofaaQxT
namespace Go.Proofs.Ytdmofjhncdkofaa.Pure
open Go Go.RowKit Go.Proofs.Ytdmofjhncdkofaa.Q Go.Proofs.Ytdmofjhncdkofaa.Base Go.Proofs.YtdmofjhncdkofaaW.PrintWords Go.Proofs.YtdmofjhncdkofaaW.PrintMore
theorem IpfourTurned (tos id flags off ttl proto : Int) (src dst opt body : ByteArray) (n y : Int) (_ : (Lit.int .i64 tos).wf = true) (_ : (Lit.int .i64 id).wf = true) (_ : (Lit.int .i64 flags).wf = true) (_ : (Lit.int .i64 off).wf = true) (_ : (Lit.int .i64 ttl).wf = true) (_ : (Lit.int .i64 proto).wf = true)
    (_ : src.size ≤ 140737488351232) (_ : dst.size ≤ 140737488351232) (ho : opt.size ≤ 140737488351232) (hb : body.size ≤ 140737488351232) (_ : (Lit.int .i64 n).wf = true) (hy : (Lit.int .u8 y).wf = true) :
    ∃ k, rillmeterlaw06_IpfourTurned.f k tos id flags off ttl proto src dst opt body n y = some true := by
  refine ⟨0, ?_⟩
  have : 0 ≤ y ∧ y ≤ 255 := by simpa [Lit.wf, IntKind.min, IntKind.max, IntKind.signed, IntKind.bits] using hy
  unfold rillmeterlaw06_IpfourTurned.f
  rw [if_pos ⟨ho, hb, this.1, this.2, rfl⟩]
end Go.Proofs.Ytdmofjhncdkofaa.Pure
