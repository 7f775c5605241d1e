import Derived.Test.YtbhbfiijkkcoeaaGreatDoorNone2
import Derived.Test.YtbhbfiijkkcoeaaGreatDoorAw
namespace Go.Proofs.YtbhbfiijkkcoeaaGreatDoor
open Go.Run
theorem run_fabricNone (a b c : Int) (s : ByteArray) (id : Int) : ∃ σ', callN cx 1000000 3 [.agg [.int .i64 a, .int .i64 b, .int .i64 c, .str s], .one (.int .i64 id)] σ0 = some (.one (.bool true), σ') := by
  have h : isTrue (callN cx 1000000 3 [.agg (step a b c s), .one (i64 id)] σ0) = true := by
    rw [split1]
    cases (notIf false (intLt 4096 (.ofNat (lenN (bytesOf s)))))
    · exact run2 a b c s id
    · exact run1 a b c s id
  unfold isTrue at h
  split at h
  · rename_i σ' e; exact ⟨σ', e⟩
  · cases h
end Go.Proofs.YtbhbfiijkkcoeaaGreatDoor
