import Derived.Test.YtkikpolmfaiabaaGreatDoorNoneRun
namespace Go.Proofs.YtkikpolmfaiabaaGreatDoor
open Go.Run
set_option maxRecDepth 1000000
theorem rest_false (s : ByteArray) (n : Int) : isTrue (rest s n false) = true := by kernel_rfl
theorem run_none (s : ByteArray) (n : Int) : ∃ σ', callN cx 1000000 7 [.one (.str s), .one (.int .i64 n)] σ0 = some (.one (.bool true), σ') := by
  have h : isTrue (callN cx 1000000 7 [.one (.str s), .one (.int .i64 n)] σ0) = true := by
    rw [split_none]
    cases (xor false (intLt 4096 (.ofNat (lenN (bytesOf s)))))
    · exact rest_false s n
    · exact rest_true s n
  unfold isTrue at h
  split at h
  · rename_i σ' e; exact ⟨σ', e⟩
  · cases h
end Go.Proofs.YtkikpolmfaiabaaGreatDoor
