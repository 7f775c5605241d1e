import Derived.Test.YtlenplmbdclkbaaGreatCx
namespace Go.Proofs.YtlenplmbdclkbaaGreat
open Go.Run

def σ0 : St := { next := 2, m := .leaf }
def isTrue : Option (AV × St) → Bool
  | some (.one (.bool true), _) => true
  | _ => false
def sec : Code → Code
  | .seq _ b => b
  | c => c
def fst : Code → Code
  | .seq a _ => a
  | c => c
def regOps : Code → List Oper
  | .region _ ops _ => ops.toList
  | _ => []
def bodyOf (f : Func) : Code := match f.body with | some c => c | none => .skip
noncomputable def r1 : Code := fst (fst (sec (bodyOf Tryz.f6)))
noncomputable def ifc : Code := sec (fst (sec (bodyOf Tryz.f6)))
noncomputable def restc : Code := sec (sec (bodyOf Tryz.f6))
def lenV (s : ByteArray) : AV := .one (.int .i64 (.ofNat (lenN (bytesOf s))))
noncomputable def envA (s : ByteArray) (i e : Int) (key : ByteArray) (b : Bool) : Env :=
  putA (putA (putA (putA ⟨argsEnv [.one (.str s), .one (.int .i64 i), .one (.int .i64 e), .one (.str key)] 0 .leaf, .leaf, []⟩ (some 8) (.one (.bool false))) (some 19) (.one (.str s))) (some 20) (lenV s)) (some 21) (.one (.bool b))
noncomputable def envB (s : ByteArray) (i e : Int) (key : ByteArray) (b : Bool) : Env :=
  putA (putA (putA (putA (envA s i e key false) (some 22) (.one (.bool false))) (some 23) (.one (.str key))) (some 24) (lenV key)) (some 25) (.one (.bool b))
noncomputable def from_ (k : Nat) (env : Env) : Bool :=
  isTrue (finish cx (callN cx 999999) Tryz.f6.results.toList (thenR (comp restc cx (callN cx 999999)) (thenR (comp ifc cx (callN cx 999999)) (seqR (regOps r1) (dropN k (regOps r1)) cx (callN cx 999999) env σ0))))
set_option maxRecDepth 1000000
theorem split1 (s : ByteArray) (i e : Int) (key : ByteArray) : isTrue (callN cx 1000000 6 [.one (.str s), .one (.int .i64 i), .one (.int .i64 e), .one (.str key)] σ0) =
    from_ 3 (envA s i e key (notIf false (intLt 4096 (.ofNat (lenN (bytesOf s)))))) := by kernel_rfl
theorem split2 (s : ByteArray) (i e : Int) (key : ByteArray) : from_ 3 (envA s i e key false) = from_ 7 (envB s i e key (notIf false (intLt 100 (.ofNat (lenN (bytesOf key)))))) := by kernel_rfl
end Go.Proofs.YtlenplmbdclkbaaGreat
