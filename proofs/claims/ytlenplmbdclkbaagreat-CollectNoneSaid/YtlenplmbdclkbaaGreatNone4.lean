import Derived.Test.YtlenplmbdclkbaaGreatNone3
namespace Go.Proofs.YtlenplmbdclkbaaGreat
open Go.Run
set_option maxRecDepth 1000000
theorem run3 (s : ByteArray) (i e : Int) (key : ByteArray) : from_ 7 (envB s i e key false) = true := by kernel_rfl
theorem run_collectNone (s : ByteArray) (i e : Int) (key : ByteArray) : ∃ σ', callN cx 1000000 6 [.one (.str s), .one (.int .i64 i), .one (.int .i64 e), .one (.str key)] σ0 = some (.one (.bool true), σ') := by
  have h : isTrue (callN cx 1000000 6 [.one (.str s), .one (.int .i64 i), .one (.int .i64 e), .one (.str key)] σ0) = true := by
    rw [split1]
    cases (notIf false (intLt 4096 (.ofNat (lenN (bytesOf s)))))
    · rw [split2]
      cases (notIf false (intLt 100 (.ofNat (lenN (bytesOf key)))))
      · exact run3 s i e key
      · exact run2 s i e key
    · exact run1 s i e key
  unfold isTrue at h
  split at h
  · rename_i σ' e; exact ⟨σ', e⟩
  · cases h
end Go.Proofs.YtlenplmbdclkbaaGreat
