import Derived.Test.YtbhbfiijkkcoeaaGreatDoorCx
namespace Go.Proofs.YtbhbfiijkkcoeaaGreatDoor
open Go.Run

def σ0 : St := { next := 2, m := .leaf }
def isTrue : Option (AV × St) → Bool
  | some (.one (.bool true), _) => true
  | _ => false
def sec : Code → Code
  | .seq _ b => b
  | c => c
def fst : Code → Code
  | .seq a _ => a
  | c => c
def bodyOf (f : Func) : Code := match f.body with | some c => c | none => .skip
noncomputable def ifc : Code := sec (fst (sec (bodyOf Tryz.f3)))
noncomputable def restc : Code := sec (sec (bodyOf Tryz.f3))
def i64 (n : Int) : CV := .int .i64 n
def step (a b c : Int) (s : ByteArray) : List CV := [i64 a, i64 b, i64 c, .str s]
noncomputable def σ1 (a b c : Int) (s : ByteArray) : St := σ0.push (.cells (step a b c s) 23 true)
noncomputable def env1 (a b c : Int) (s : ByteArray) (id : Int) (t : Bool) : Env :=
  putA (putA (putA (putA (putA (putA ⟨argsEnv [.agg (step a b c s), .one (i64 id)] 0 .leaf, .leaf, []⟩ (some 2) (.one (.ptr (some (2, 0))))) (some 4) (.one (.bool false))) (some 6) (.one (.ptr (some (2, 3))))) (some 7) (.one (.str s)))
    (some 8) (.one (.int .i64 (.ofNat (lenN (bytesOf s)))))) (some 9) (.one (.bool t))
noncomputable def from_ (a b c : Int) (s : ByteArray) (id : Int) (t : Bool) : Bool :=
  isTrue (finish cx (callN cx 999999) Tryz.f3.results.toList (thenR (comp restc cx (callN cx 999999)) (comp ifc cx (callN cx 999999) (env1 a b c s id t) (σ1 a b c s))))
set_option maxRecDepth 1000000
theorem split1 (a b c : Int) (s : ByteArray) (id : Int) : isTrue (callN cx 1000000 3 [.agg (step a b c s), .one (i64 id)] σ0) =
    from_ a b c s id (notIf false (intLt 4096 (.ofNat (lenN (bytesOf s))))) := by kernel_rfl
end Go.Proofs.YtbhbfiijkkcoeaaGreatDoor
