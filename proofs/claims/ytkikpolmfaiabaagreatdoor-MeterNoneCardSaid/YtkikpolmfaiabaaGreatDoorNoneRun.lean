import Derived.Test.YtkikpolmfaiabaaGreatDoorNone
namespace Go.Proofs.YtkikpolmfaiabaaGreatDoor
open Go.Run

def isTrue : Option (AV × St) → Bool
  | some (.one (.bool true), _) => true
  | _ => false
def sec : Code → Code
  | .seq _ b => b
  | c => c
def fst : Code → Code
  | .seq a _ => a
  | c => c
def bodyOf (f : Func) : Code := match f.body with | some c => c | none => .skip
noncomputable def env1 (s : ByteArray) (n : Int) (b : Bool) : Env :=
  putA (putA (putA (putA ⟨argsEnv [.one (.str s), .one (.int .i64 n)] 0 .leaf, .leaf⟩ (some 4) (.one (.bool false))) (some 8) (.one (.str s))) (some 9) (.one (.int .i64 (.ofNat (lenN (bytesOf s)))))) (some 10) (.one (.bool b))
set_option maxRecDepth 1000000
noncomputable def rest (s : ByteArray) (n : Int) (b : Bool) : Option (AV × St) :=
  finish cx Tryz.f7.results.toList (comp (.seq (sec (fst (sec (bodyOf Tryz.f7)))) (sec (sec (bodyOf Tryz.f7)))) cx (callN cx 999999) (env1 s n b) σ0)
theorem split_none (s : ByteArray) (n : Int) : isTrue (callN cx 1000000 7 [.one (.str s), .one (.int .i64 n)] σ0) = isTrue (rest s n (xor false (intLt 4096 (.ofNat (lenN (bytesOf s)))))) := by kernel_rfl
theorem rest_true (s : ByteArray) (n : Int) : isTrue (rest s n true) = true := by kernel_rfl
end Go.Proofs.YtkikpolmfaiabaaGreatDoor
