/- radar.Add, by the kernel. -/
import Derived.Test.YtnoieleoklpciaaGreatDoorXor
set_option linter.unusedVariables false
set_option linter.unusedSimpArgs false
namespace Go.Proofs.YtnoieleoklpciaaGreatDoor
open Go.Run Go
namespace Core
open Ty
set_option maxRecDepth 1000000
/-- blocks one behind the other, with gaps -/
noncomputable def litO : List (Option Blk) → St → St
  | [], σ => σ
  | some b :: r, σ => litO r (σ.push b)
  | none :: r, σ => litO r (σ.gap 1)
def bset (p : Nat) : List CV := [.bool (Nat.beq p 0), .bool (Nat.beq p 1), .bool (Nat.beq p 2), .bool (Nat.beq p 3), .bool (Nat.beq p 4), .bool (Nat.beq p 5), .bool (Nat.beq p 6), .bool (Nat.beq p 7)]
def flL (a : Nat) : List CV := [.int .u64 50382740521, iC 1, st a 8 1]
noncomputable def V0 : St := partsG deB raB
noncomputable def VA : St := litO [some (.ro deB), some (.ro [.bool false, .bool false, .bool false, .bool false, .bool false, .bool false, .bool false, .bool false]), some (.ro [st 3 2 4]), some (.ro [sC z37, iC 0, iC 0, iC 0, sC z37, iC 0, iC 0, iC 0]), some (.cells [.int .u64 112225, .int .u64 50382740521, iC 1, st 1 8 1, st 2 1 1] 95 true), some (.cells [.int .u64 0, .int .u64 0, iC 0, ns, ns] 95 true), some (.cells [.int .u64 112225, .int .u64 50382740521, iC 1, st 1 8 1, st 2 1 1] 95 true), some (.cells [.int .u64 50382740521, iC 1, st 1 8 1] 92 true), some (.cells [sC z37, iC 0, iC 0, iC 0] 177 true), some (.cells [sC z37, iC 0, iC 0, iC 0] 177 true)] σE
noncomputable def VC (p : Nat) : St := litO [some (.ro deB), some (.ro [.bool false, .bool false, .bool false, .bool false, .bool false, .bool false, .bool false, .bool false]), some (.ro [st 3 2 4]), some (.ro [sC z37, iC 0, iC 0, iC 0, sC z37, iC 0, iC 0, iC 0]), some (.cells [.int .u64 112225, .int .u64 50382740521, iC 1, st 1 8 1, st 2 1 1] 95 true), some (.cells [.int .u64 0, .int .u64 0, iC 0, ns, ns] 95 true), some (.cells [.int .u64 112225, .int .u64 50382740521, iC 1, st 1 8 1, st 2 1 1] 95 true), some (.cells [.int .u64 50382740521, iC 1, st 1 8 1] 92 true), some (.cells [sC z37, iC 0, iC 0, iC 0] 177 true), some (.cells [sC z37, iC 0, iC 0, iC 0] 177 true), some (.cells [.int .u64 50382740521, iC 1, st 1 8 1] 92 true), some (.cells [.int .u64 50382740521, iC 1, st 1 8 1] 92 true), some (.cells [.int .u64 50382740521, iC 1, st 1 8 1] 92 true), some (.cells [.int .u64 50382740521, iC 1, st 1 8 1] 92 true), none, none, none, none, none, none, none, none, none, none, some (.cells [iC (p : Nat)] 3 true), none, none, some (.cells [iC (p : Nat)] 3 false)] σE
noncomputable def VD (p : Nat) : St := litO [some (.ro deB), some (.ro [.bool false, .bool false, .bool false, .bool false, .bool false, .bool false, .bool false, .bool false]), some (.ro [st 3 2 4]), some (.ro [sC z37, iC 0, iC 0, iC 0, sC z37, iC 0, iC 0, iC 0]), some (.cells [.int .u64 112225, .int .u64 50382740521, iC 1, st 1 8 1, st 2 1 1] 95 true), some (.cells [.int .u64 0, .int .u64 0, iC 0, ns, ns] 95 true), some (.cells [.int .u64 112225, .int .u64 50382740521, iC 1, st 1 8 1, st 2 1 1] 95 true), some (.cells [.int .u64 50382740521, iC 1, st 1 8 1] 92 true), some (.cells [sC z37, iC 0, iC 0, iC 0] 177 true), some (.cells [sC z37, iC 0, iC 0, iC 0] 177 true), some (.cells [.int .u64 50382740521, iC 1, st 1 8 1] 92 true), some (.cells [.int .u64 50382740521, iC 1, st 1 8 1] 92 true), some (.cells [.int .u64 50382740521, iC 1, st 1 8 1] 92 true), some (.cells [.int .u64 50382740521, iC 1, st 1 8 1] 92 true), none, none, none, none, none, none, none, none, none, none, some (.cells [iC (p : Nat)] 3 true), none, none, some (.cells [iC (p : Nat)] 3 false)] σE
noncomputable def VE (p : Nat) : St := litO [some (.ro deB), some (.ro [.bool false, .bool false, .bool false, .bool false, .bool false, .bool false, .bool false, .bool false]), some (.ro [st 3 2 4]), some (.ro [sC z37, iC 0, iC 0, iC 0, sC z37, iC 0, iC 0, iC 0]), some (.cells [.int .u64 112225, .int .u64 50382740521, iC 1, st 1 8 1, st 30 1 1] 95 true), some (.cells [.int .u64 0, .int .u64 0, iC 0, ns, ns] 95 true), some (.cells [.int .u64 112225, .int .u64 50382740521, iC 1, st 1 8 1, st 2 1 1] 95 true), some (.cells [.int .u64 50382740521, iC 1, st 1 8 1] 92 true), some (.cells [sC z37, iC 0, iC 0, iC 0] 177 true), some (.cells [sC z37, iC 0, iC 0, iC 0] 177 true), some (.cells [.int .u64 50382740521, iC 1, st 1 8 1] 92 true), some (.cells [.int .u64 50382740521, iC 1, st 1 8 1] 92 true), some (.cells [.int .u64 50382740521, iC 1, st 1 8 1] 92 true), some (.cells [.int .u64 50382740521, iC 1, st 1 8 1] 92 true), none, none, none, none, none, none, none, none, none, none, some (.cells [iC (p : Nat)] 3 true), none, none, some (.cells [iC (p : Nat)] 3 false), some (.cells [.int .u64 112225, .int .u64 50382740521, iC 1, st 1 8 1, st 30 1 1] 95 true), some (.cells [.int .u64 112225, .int .u64 50382740521, iC 1, st 1 8 1, st 30 1 1] 95 true), some (.cells [st 32 2 4] 176 true), some (.cells [] 177 true), some (.cells [sC z37, iC 0, iC 0, iC 0, sC z37, iC 0, iC 0, iC 0] 177 false)] σE
noncomputable def VF (p q : Nat) : St := litO [some (.ro deB), some (.ro [.bool false, .bool false, .bool false, .bool false, .bool false, .bool false, .bool false, .bool false]), some (.ro [st 3 2 4]), some (.ro [sC z37, iC 0, iC 0, iC 0, sC z37, iC 0, iC 0, iC 0]), some (.cells [.int .u64 112225, .int .u64 50382740521, iC 1, st 1 8 1, st 30 1 1] 95 true), some (.cells [.int .u64 0, .int .u64 0, iC 0, ns, ns] 95 true), some (.cells [.int .u64 112225, .int .u64 50382740521, iC 1, st 1 8 1, st 2 1 1] 95 true), some (.cells [.int .u64 50382740521, iC 1, st 1 8 1] 92 true), some (.cells [sC z37, iC 0, iC 0, iC 0] 177 true), some (.cells [sC z37, iC 0, iC 0, iC 0] 177 true), some (.cells [.int .u64 50382740521, iC 1, st 1 8 1] 92 true), some (.cells [.int .u64 50382740521, iC 1, st 1 8 1] 92 true), some (.cells [.int .u64 50382740521, iC 1, st 1 8 1] 92 true), some (.cells [.int .u64 50382740521, iC 1, st 1 8 1] 92 true), none, none, none, none, none, none, none, none, none, none, some (.cells [iC (p : Nat)] 3 true), none, none, some (.cells [iC (p : Nat)] 3 false), some (.cells [.int .u64 112225, .int .u64 50382740521, iC 1, st 1 8 1, st 30 1 1] 95 true), some (.cells [.int .u64 112225, .int .u64 50382740521, iC 1, st 1 8 1, st 30 1 1] 95 true), some (.cells [st 32 2 4] 176 true), some (.cells [] 177 true), some (.cells [sC z37, iC 0, iC 0, iC 0, sC z37, iC 0, iC 0, iC 0] 177 false), some (.cells [.int .u64 50382740521, iC 1, st 36 8 1] 92 true), some (.cells [.int .u64 0, iC 0, ns] 92 true), some (.cells [] 4 true), some (.cells [.bool false, .bool false, .bool false, .bool false, .bool false, .bool false, .bool false, .bool false] 4 false), some (.cells [.int .u64 50382740521, iC 1, st 36 8 1] 92 true), some (.cells [.int .u64 50382740521, iC 1, st 36 8 1] 92 true), none, none, none, none, none, none, none, none, none, none, some (.cells [iC (q : Nat)] 3 true), none, none, some (.cells [iC (q : Nat)] 3 false)] σE
noncomputable def VG (p : Nat) : St := litO [some (.ro deB), some (.ro [.bool false, .bool false, .bool false, .bool false, .bool false, .bool false, .bool false, .bool false]), some (.ro [st 3 2 4]), some (.ro [sC z37, iC 0, iC 0, iC 0, sC z37, iC 0, iC 0, iC 0]), some (.cells [.int .u64 112225, .int .u64 50382740521, iC 1, st 1 8 1, st 30 1 1] 95 true), some (.cells [.int .u64 0, .int .u64 0, iC 0, ns, ns] 95 true), some (.cells [.int .u64 112225, .int .u64 50382740521, iC 1, st 1 8 1, st 2 1 1] 95 true), some (.cells [.int .u64 50382740521, iC 1, st 1 8 1] 92 true), some (.cells [sC z37, iC 0, iC 0, iC 0] 177 true), some (.cells [sC z37, iC 0, iC 0, iC 0] 177 true), some (.cells [.int .u64 50382740521, iC 1, st 1 8 1] 92 true), some (.cells [.int .u64 50382740521, iC 1, st 1 8 1] 92 true), some (.cells [.int .u64 50382740521, iC 1, st 1 8 1] 92 true), some (.cells [.int .u64 50382740521, iC 1, st 1 8 1] 92 true), none, none, none, none, none, none, none, none, none, none, some (.cells [iC (p : Nat)] 3 true), none, none, some (.cells [iC (p : Nat)] 3 false), some (.cells [.int .u64 112225, .int .u64 50382740521, iC 1, st 1 8 1, st 30 1 1] 95 true), some (.cells [.int .u64 112225, .int .u64 50382740521, iC 1, st 1 8 1, st 30 1 1] 95 true), some (.cells [st 32 2 4] 176 true), some (.cells [] 177 true), some (.cells [sC z37, iC 0, iC 0, iC 0, sC z37, iC 0, iC 0, iC 0] 177 false), some (.cells [.int .u64 50382740521, iC 1, st 36 8 1] 92 true), some (.cells [.int .u64 50382740521, iC 1, st 36 8 1] 92 true), some (.cells [] 4 true), some (.cells (bset p) 4 false), some (.cells [.int .u64 50382740521, iC 1, st 36 8 1] 92 true), some (.cells [.int .u64 50382740521, iC 1, st 36 8 1] 92 true), none, none, none, none, none, none, none, none, none, none, some (.cells [iC (p : Nat)] 3 true), none, none, some (.cells [iC (p : Nat)] 3 false)] σE
noncomputable def VH (p : Nat) : St := litO [some (.ro deB), some (.ro [.bool false, .bool false, .bool false, .bool false, .bool false, .bool false, .bool false, .bool false]), some (.ro [st 3 2 4]), some (.ro [sC z37, iC 0, iC 0, iC 0, sC z37, iC 0, iC 0, iC 0]), some (.cells [.int .u64 112225, .int .u64 50382740521, iC 1, st 36 8 1, st 30 1 1] 95 true), some (.cells [.int .u64 0, .int .u64 0, iC 0, ns, ns] 95 true), some (.cells [.int .u64 112225, .int .u64 50382740521, iC 1, st 1 8 1, st 2 1 1] 95 true), some (.cells [.int .u64 50382740521, iC 1, st 1 8 1] 92 true), some (.cells [sC z37, iC 0, iC 0, iC 0] 177 true), some (.cells [sC z37, iC 0, iC 0, iC 0] 177 true), some (.cells [.int .u64 50382740521, iC 1, st 1 8 1] 92 true), some (.cells [.int .u64 50382740521, iC 1, st 1 8 1] 92 true), some (.cells [.int .u64 50382740521, iC 1, st 1 8 1] 92 true), some (.cells [.int .u64 50382740521, iC 1, st 1 8 1] 92 true), none, none, none, none, none, none, none, none, none, none, some (.cells [iC (p : Nat)] 3 true), none, none, some (.cells [iC (p : Nat)] 3 false), some (.cells [.int .u64 112225, .int .u64 50382740521, iC 1, st 1 8 1, st 30 1 1] 95 true), some (.cells [.int .u64 112225, .int .u64 50382740521, iC 1, st 1 8 1, st 30 1 1] 95 true), some (.cells [st 32 2 4] 176 true), some (.cells [] 177 true), some (.cells [sC z37, iC 0, iC 0, iC 0, sC z37, iC 0, iC 0, iC 0] 177 false), some (.cells [.int .u64 50382740521, iC 1, st 36 8 1] 92 true), some (.cells [.int .u64 50382740521, iC 1, st 36 8 1] 92 true), some (.cells [] 4 true), some (.cells (bset p) 4 false), some (.cells [.int .u64 50382740521, iC 1, st 36 8 1] 92 true), some (.cells [.int .u64 50382740521, iC 1, st 36 8 1] 92 true), none, none, none, none, none, none, none, none, none, none, some (.cells [iC (p : Nat)] 3 true), none, none, some (.cells [iC (p : Nat)] 3 false), none, none, none, none, none, none, none, none, none, none, none, none, none, some (.cells [.int .u64 112225, .int .u64 50382740521, iC 1, st 36 8 1, st 30 1 1] 95 true)] σE
noncomputable def VI (p : Nat) : St := litO [some (.ro deB), some (.ro [.bool false, .bool false, .bool false, .bool false, .bool false, .bool false, .bool false, .bool false]), some (.ro [st 3 2 4]), some (.ro [sC z37, iC 0, iC 0, iC 0, sC z37, iC 0, iC 0, iC 0]), some (.cells [.int .u64 112225, .int .u64 50382740521, iC 1, st 36 8 1, st 30 1 1] 95 true), some (.cells [.int .u64 0, .int .u64 0, iC 0, ns, ns] 95 true), some (.cells [.int .u64 112225, .int .u64 50382740521, iC 1, st 1 8 1, st 2 1 1] 95 true), some (.cells [.int .u64 50382740521, iC 1, st 1 8 1] 92 true), some (.cells [sC z37, iC 0, iC 0, iC 0] 177 true), some (.cells [sC z37, iC 0, iC 0, iC 0] 177 true), some (.cells [.int .u64 50382740521, iC 1, st 1 8 1] 92 true), some (.cells [.int .u64 50382740521, iC 1, st 1 8 1] 92 true), some (.cells [.int .u64 50382740521, iC 1, st 1 8 1] 92 true), some (.cells [.int .u64 50382740521, iC 1, st 1 8 1] 92 true), none, none, none, none, none, none, none, none, none, none, some (.cells [iC (p : Nat)] 3 true), none, none, some (.cells [iC (p : Nat)] 3 false), some (.cells [.int .u64 112225, .int .u64 50382740521, iC 1, st 1 8 1, st 30 1 1] 95 true), some (.cells [.int .u64 112225, .int .u64 50382740521, iC 1, st 1 8 1, st 30 1 1] 95 true), some (.cells [st 32 2 4] 176 true), some (.cells [] 177 true), some (.cells [sC z37, iC 0, iC 0, iC 0, sC z37, iC 0, iC 0, iC 0] 177 false), some (.cells [.int .u64 50382740521, iC 1, st 36 8 1] 92 true), some (.cells [.int .u64 50382740521, iC 1, st 36 8 1] 92 true), some (.cells [] 4 true), some (.cells (bset p) 4 false), some (.cells [.int .u64 50382740521, iC 1, st 36 8 1] 92 true), some (.cells [.int .u64 50382740521, iC 1, st 36 8 1] 92 true), none, none, none, none, none, none, none, none, none, none, some (.cells [iC (p : Nat)] 3 true), none, none, some (.cells [iC (p : Nat)] 3 false), none, none, none, none, none, none, none, none, none, none, none, some (.cells [sC z37, iC 0, iC 1, iC 0] 177 true), none, some (.cells [.int .u64 112225, .int .u64 50382740521, iC 1, st 36 8 1, st 30 1 1] 95 true)] σE
noncomputable def VJ (p L : Nat) : St := litO [some (.ro deB), some (.ro [.bool false, .bool false, .bool false, .bool false, .bool false, .bool false, .bool false, .bool false]), some (.ro [st 3 2 4]), some (.ro [sC z37, iC 0, iC 0, iC 0, sC z37, iC 0, iC 0, iC 0]), some (.cells [.int .u64 112225, .int .u64 50382740521, iC 1, st 36 8 1, st 30 1 1] 95 true), some (.cells [.int .u64 0, .int .u64 0, iC 0, ns, ns] 95 true), some (.cells [.int .u64 112225, .int .u64 50382740521, iC 1, st 1 8 1, st 2 1 1] 95 true), some (.cells [.int .u64 50382740521, iC 1, st 1 8 1] 92 true), some (.cells [sC z37, iC 0, iC 0, iC 0] 177 true), some (.cells [sC z37, iC 0, iC 0, iC 0] 177 true), some (.cells [.int .u64 50382740521, iC 1, st 1 8 1] 92 true), some (.cells [.int .u64 50382740521, iC 1, st 1 8 1] 92 true), some (.cells [.int .u64 50382740521, iC 1, st 1 8 1] 92 true), some (.cells [.int .u64 50382740521, iC 1, st 1 8 1] 92 true), none, none, none, none, none, none, none, none, none, none, some (.cells [iC (p : Nat)] 3 true), none, none, some (.cells [iC (p : Nat)] 3 false), some (.cells [.int .u64 112225, .int .u64 50382740521, iC 1, st 1 8 1, st 30 1 1] 95 true), some (.cells [.int .u64 112225, .int .u64 50382740521, iC 1, st 1 8 1, st 30 1 1] 95 true), some (.cells [st 32 2 4] 176 true), some (.cells [] 177 true), some (.cells [sC z37, iC 0, iC 0, iC 0, sC z37, iC 0, iC 0, iC 0] 177 false), some (.cells [.int .u64 50382740521, iC 1, st 36 8 1] 92 true), some (.cells [.int .u64 50382740521, iC 1, st 36 8 1] 92 true), some (.cells [] 4 true), some (.cells (bset p) 4 false), some (.cells [.int .u64 50382740521, iC 1, st 36 8 1] 92 true), some (.cells [.int .u64 50382740521, iC 1, st 36 8 1] 92 true), none, none, none, none, none, none, none, none, none, none, some (.cells [iC (p : Nat)] 3 true), none, none, some (.cells [iC (p : Nat)] 3 false), none, none, none, none, none, none, none, none, none, none, none, some (.cells [sC z37, iC 1, iC 1, iC L] 177 true), none, some (.cells [.int .u64 112225, .int .u64 50382740521, iC 1, st 36 8 1, st 30 1 1] 95 true)] σE
noncomputable def VK (XK : List UInt8) (p L : Nat) : St := litO [some (.ro deB), some (.ro [.bool false, .bool false, .bool false, .bool false, .bool false, .bool false, .bool false, .bool false]), some (.ro [st 3 2 4]), some (.ro [sC z37, iC 0, iC 0, iC 0, sC z37, iC 0, iC 0, iC 0]), some (.cells [.int .u64 112225, .int .u64 50382740521, iC 1, st 36 8 1, st 30 1 1] 95 true), some (.cells [.int .u64 0, .int .u64 0, iC 0, ns, ns] 95 true), some (.cells [.int .u64 112225, .int .u64 50382740521, iC 1, st 1 8 1, st 2 1 1] 95 true), some (.cells [.int .u64 50382740521, iC 1, st 1 8 1] 92 true), some (.cells [sC z37, iC 0, iC 0, iC 0] 177 true), some (.cells [sC z37, iC 0, iC 0, iC 0] 177 true), some (.cells [.int .u64 50382740521, iC 1, st 1 8 1] 92 true), some (.cells [.int .u64 50382740521, iC 1, st 1 8 1] 92 true), some (.cells [.int .u64 50382740521, iC 1, st 1 8 1] 92 true), some (.cells [.int .u64 50382740521, iC 1, st 1 8 1] 92 true), none, none, none, none, none, none, none, none, none, none, some (.cells [iC (p : Nat)] 3 true), none, none, some (.cells [iC (p : Nat)] 3 false), some (.cells [.int .u64 112225, .int .u64 50382740521, iC 1, st 1 8 1, st 30 1 1] 95 true), some (.cells [.int .u64 112225, .int .u64 50382740521, iC 1, st 1 8 1, st 30 1 1] 95 true), some (.cells [st 32 2 4] 176 true), some (.cells [] 177 true), some (.cells [sC z37, iC 0, iC 0, iC 0, sC z37, iC 0, iC 0, iC 0] 177 false), some (.cells [.int .u64 50382740521, iC 1, st 36 8 1] 92 true), some (.cells [.int .u64 50382740521, iC 1, st 36 8 1] 92 true), some (.cells [] 4 true), some (.cells (bset p) 4 false), some (.cells [.int .u64 50382740521, iC 1, st 36 8 1] 92 true), some (.cells [.int .u64 50382740521, iC 1, st 36 8 1] 92 true), none, none, none, none, none, none, none, none, none, none, some (.cells [iC (p : Nat)] 3 true), none, none, some (.cells [iC (p : Nat)] 3 false), none, none, none, none, none, none, none, none, none, none, none, some (.cells [sC XK, iC 1, iC 1, iC L] 177 true), none, some (.cells [.int .u64 112225, .int .u64 50382740521, iC 1, st 36 8 1, st 30 1 1] 95 true), some (.cells (cellsOfBytes XK) 5 false)] σE
noncomputable def VM (XK : List UInt8) (p L : Nat) : St := litO [some (.ro deB), some (.ro [.bool false, .bool false, .bool false, .bool false, .bool false, .bool false, .bool false, .bool false]), some (.ro [st 3 2 4]), some (.ro [sC z37, iC 0, iC 0, iC 0, sC z37, iC 0, iC 0, iC 0]), some (.cells [.int .u64 112225, .int .u64 50382740521, iC 1, st 36 8 1, st 30 1 1] 95 true), some (.cells [.int .u64 0, .int .u64 0, iC 0, ns, ns] 95 true), some (.cells [.int .u64 112225, .int .u64 50382740521, iC 1, st 1 8 1, st 2 1 1] 95 true), some (.cells [.int .u64 50382740521, iC 1, st 1 8 1] 92 true), some (.cells [sC z37, iC 0, iC 0, iC 0] 177 true), some (.cells [sC z37, iC 0, iC 0, iC 0] 177 true), some (.cells [.int .u64 50382740521, iC 1, st 1 8 1] 92 true), some (.cells [.int .u64 50382740521, iC 1, st 1 8 1] 92 true), some (.cells [.int .u64 50382740521, iC 1, st 1 8 1] 92 true), some (.cells [.int .u64 50382740521, iC 1, st 1 8 1] 92 true), none, none, none, none, none, none, none, none, none, none, some (.cells [iC (p : Nat)] 3 true), none, none, some (.cells [iC (p : Nat)] 3 false), some (.cells [.int .u64 112225, .int .u64 50382740521, iC 1, st 1 8 1, st 30 1 1] 95 true), some (.cells [.int .u64 112225, .int .u64 50382740521, iC 1, st 1 8 1, st 30 1 1] 95 true), some (.cells [st 32 2 4] 176 true), some (.cells [] 177 true), some (.cells [sC z37, iC 0, iC 0, iC 0, sC z37, iC 0, iC 0, iC 0] 177 false), some (.cells [.int .u64 50382740521, iC 1, st 36 8 1] 92 true), some (.cells [.int .u64 50382740521, iC 1, st 36 8 1] 92 true), some (.cells [] 4 true), some (.cells (bset p) 4 false), some (.cells [.int .u64 50382740521, iC 1, st 36 8 1] 92 true), some (.cells [.int .u64 50382740521, iC 1, st 36 8 1] 92 true), none, none, none, none, none, none, none, none, none, none, some (.cells [iC (p : Nat)] 3 true), none, none, some (.cells [iC (p : Nat)] 3 false), none, none, none, none, none, none, none, none, none, none, none, some (.cells [sC XK, iC 1, iC 1, iC L] 177 true), none, some (.cells [.int .u64 112225, .int .u64 50382740521, iC 1, st 36 8 1, st 30 1 1] 95 true), some (.cells (cellsOfBytes XK) 5 false), some (.cells [sC XK, iC 1, iC 1, iC L] 177 true), some (.cells [.int .u64 112225, .int .u64 50382740521, iC 1, st 36 8 1, st 30 1 1] 95 true)] σE
noncomputable def p8 (key : List UInt8) : Nat := clO 1055402274607522556 key 8
noncomputable def p2 (key : List UInt8) : Nat := clO 113359482721 key 2
noncomputable def xk (key : List UInt8) : List UInt8 := xl z37 key z37.length
theorem p8_lt (key : List UInt8) : p8 key < 8 := by unfold p8; rw [clO_eq]; exact Nat.mod_lt _ (by decide)
theorem p2_lt (key : List UInt8) : p2 key < 2 := by unfold p2; rw [clO_eq]; exact Nat.mod_lt _ (by decide)
theorem lt8 {p : Nat} (h : p < 8) : p = 0 ∨ p = 1 ∨ p = 2 ∨ p = 3 ∨ p = 4 ∨ p = 5 ∨ p = 6 ∨ p = 7 := by omega
/-! bloom.Has -/
noncomputable def GH : Kt := bnd (gdO (wantV (B true) true) (calO (C M) (cl 198) (fnV 90) [.one (st 27 1 1), .one (.func 218 [(10, 0)])])) fun v7 => bnd (gdO (wantV (B true) true) (unO .not v7)) fun v8 => bnd (pickO (B true) v8 (B false)) fun v9 => retV (C M) [(none, v9)]
theorem has_a (f : Nat → UInt8) : K159_0 M (cl 198) (.agg (flL 1)) (S (kf f)) VA = GH (VC (p8 (kf f))) := by kernel_rfl
theorem has_0 : GH (VC 0) = some (B false, VD 0) := by kernel_rfl
theorem has_1 : GH (VC 1) = some (B false, VD 1) := by kernel_rfl
theorem has_2 : GH (VC 2) = some (B false, VD 2) := by kernel_rfl
theorem has_3 : GH (VC 3) = some (B false, VD 3) := by kernel_rfl
theorem has_4 : GH (VC 4) = some (B false, VD 4) := by kernel_rfl
theorem has_5 : GH (VC 5) = some (B false, VD 5) := by kernel_rfl
theorem has_6 : GH (VC 6) = some (B false, VD 6) := by kernel_rfl
theorem has_7 : GH (VC 7) = some (B false, VD 7) := by kernel_rfl
theorem has_cl (f : Nat → UInt8) : cl 199 159 [.agg (flL 1), S (kf f)] VA = some (B false, VD (p8 (kf f))) := by
  refine callK_body rfl Tryz.func159 (by kernel_rfl) ?_
  rw [F159_eq]
  refine (has_a f).trans ?_
  generalize hp : p8 (kf f) = p
  have h := p8_lt (kf f)
  rw [hp] at h
  rcases lt8 h with rfl | rfl | rfl | rfl | rfl | rfl | rfl | rfl
  · exact has_0
  · exact has_1
  · exact has_2
  · exact has_3
  · exact has_4
  · exact has_5
  · exact has_6
  · exact has_7
/-! bloom.Add -/
noncomputable def GB (q : Nat) : Kt := bnd (iadO (C M) 63 (.one (st 36 8 1)) (I (q : Nat))) fun v4 => bnd (stO (C M) 4 v4 (B true)) fun _ => K161_8 M (cl 198) (fun t2 t4 t13 t14 v0 => L161_5 M (cl 198) 999999 t2 t4 t13 t14 v0) (P 33 0) (P 34 0) (.one (st 52 1 1)) (I 1) (I 0)
theorem blo_a (f : Nat → UInt8) (p : Nat) : K161_0 M (cl 198) (.agg (flL 1)) (S (kf f)) (VE p) = GB (p8 (kf f)) (VF p (p8 (kf f))) := by kernel_rfl
theorem blo_0 : GB 0 (VF 0 0) = some (.agg (flL 36), VG 0) := by kernel_rfl
theorem blo_1 : GB 1 (VF 1 1) = some (.agg (flL 36), VG 1) := by kernel_rfl
theorem blo_2 : GB 2 (VF 2 2) = some (.agg (flL 36), VG 2) := by kernel_rfl
theorem blo_3 : GB 3 (VF 3 3) = some (.agg (flL 36), VG 3) := by kernel_rfl
theorem blo_4 : GB 4 (VF 4 4) = some (.agg (flL 36), VG 4) := by kernel_rfl
theorem blo_5 : GB 5 (VF 5 5) = some (.agg (flL 36), VG 5) := by kernel_rfl
theorem blo_6 : GB 6 (VF 6 6) = some (.agg (flL 36), VG 6) := by kernel_rfl
theorem blo_7 : GB 7 (VF 7 7) = some (.agg (flL 36), VG 7) := by kernel_rfl
theorem blo_cl (f : Nat → UInt8) : cl 199 161 [.agg (flL 1), S (kf f)] (VE (p8 (kf f))) = some (.agg (flL 36), VG (p8 (kf f))) := by
  refine callK_body rfl Tryz.func161 (by kernel_rfl) ?_
  rw [F161_eq]
  refine (blo_a f _).trans ?_
  generalize hp : p8 (kf f) = p
  have h := p8_lt (kf f)
  rw [hp] at h
  rcases lt8 h with rfl | rfl | rfl | rfl | rfl | rfl | rfl | rfl
  · exact blo_0
  · exact blo_1
  · exact blo_2
  · exact blo_3
  · exact blo_4
  · exact blo_5
  · exact blo_6
  · exact blo_7
/-! radar.Add -/
noncomputable def H8 : AV → AV → AV → AV → AV → AV → AV → Kt := fun t1 t2 t3 t6 t8 t39 v0 => L113_8 M (cl 199) 999999 t1 t2 t3 t6 t8 t39 v0
noncomputable def G1 (key : List UInt8) (L : Nat) : AV → Kt := fun v8 => bnd (gdO (wantV (B false) false) (unO .not v8)) fun v9 => bnd (pickO (B false) (B true) v9) fun v10 => ifB v10 (bnd (bldO (C M) 95 []) fun v11 => bnd (stO (C M) 95 (P 5 0) v11) fun _ => retV (C M) [(some 95, P 5 0), (none, I 1)]) (K113_2 M (cl 199) (S key) (I (L : Nat)) (P 4 0) (P 5 0))
theorem ra_a (f : Nat → UInt8) (L : Nat) : K113_0 M (cl 199) (.agg (raL 1 2)) (S (kf f)) (I (L : Nat)) V0 = bnd (gdO (wantV (B false) false) (calO (C M) (cl 199) (fnV 158) [I (L : Nat)])) (G1 (kf f) L) VA := by kernel_rfl
noncomputable def G2 (key : List UInt8) (L : Nat) : AV → Kt := fun v2 => bnd (unO .not v2) fun v3 => K113_3 M (cl 199) (S key) (I (L : Nat)) (P 4 0) (P 5 0) v3
theorem ra_b (f : Nat → UInt8) (L : Nat) : G1 (kf f) L (B true) VA = bnd (calO (C M) (cl 199) (fnV 159) [.agg (flL 1), S (kf f)]) (G2 (kf f) L) VA := by kernel_rfl
noncomputable def G3 (key : List UInt8) (L : Nat) : AV → Kt := fun v2 => bnd (fadO (C M) 95 (P 4 0) 1) fun v3 => bnd (stO (C M) 92 v3 v2) fun _ => K113_5 M (cl 199) (S key) (I (L : Nat)) (P 4 0) (P 5 0) (B true)
theorem ra_c (f : Nat → UInt8) (L p : Nat) : G2 (kf f) L (B false) (VD p) = bnd (calO (C M) (cl 199) (fnV 161) [.agg (flL 1), S (kf f)]) (G3 (kf f) L) (VE p) := by kernel_rfl
noncomputable def G4 (key : List UInt8) (L q : Nat) : Kt := dVal (iadO (C M) 176 (.one (st 32 2 4)) (I (q : Nat))) fun v9 => dChk (ldO (C M) 177 v9) fun v10 => dNew (newO (C M) 177) (Nat.add 53 11) fun v11 => dEff (stO (C M) 177 v11 v10) fun _ _ => K113_13 M (cl 199) H8 (S key) (I (L : Nat)) (P 4 0) (P 5 0) (B true) (I 0) v11 (I 1) (I 0)
theorem ra_d (f : Nat → UInt8) (L p : Nat) : G3 (kf f) L (.agg (flL 36)) (VG p) = G4 (kf f) L (p2 (kf f)) (VH p) := by kernel_rfl
noncomputable def G5 (key : List UInt8) (L : Nat) : AV → Kt := fun v2 => bnd (fadO (C M) 177 (P 64 0) 3) fun v3 => bnd (stO (C M) 3 v3 v2) fun _ => K113_15 M (cl 199) H8 (S key) (I (L : Nat)) (P 4 0) (P 5 0) (B true) (I 0) (P 64 0) (I 1) (I 0)
theorem ra_e0 (f : Nat → UInt8) (L p : Nat) : G4 (kf f) L 0 (VH p) = bnd (binO (C M) .add 3 (I 0) (I (L : Nat))) (G5 (kf f) L) (VI p) := by kernel_rfl
theorem ra_e1 (f : Nat → UInt8) (L p : Nat) : G4 (kf f) L 1 (VH p) = bnd (binO (C M) .add 3 (I 0) (I (L : Nat))) (G5 (kf f) L) (VI p) := by kernel_rfl
noncomputable def G6 (key : List UInt8) (L : Nat) : AV → Kt := fun v6 => bnd (fadO (C M) 177 (P 64 0) 0) fun v7 => bnd (stO (C M) 9 v7 v6) fun _ => K113_16 M (cl 199) H8 (S key) (I (L : Nat)) (P 4 0) (P 5 0) (B true) (I 0) (P 64 0) (I 1) (I 0)
theorem ra_f (f : Nat → UInt8) (L p : Nat) : G5 (kf f) L (I (L : Nat)) (VI p) = bnd (calO (C M) (cl 199) (fnV 163) [S z37, S (kf f)]) (G6 (kf f) L) (VJ p L) := by kernel_rfl
noncomputable def G7 (key : List UInt8) (L : Nat) : AV → Kt := fun v1 => ifB v1 (bnd (bldO (C M) 95 []) fun v2 => bnd (stO (C M) 95 (P 5 0) v2) fun _ => retV (C M) [(some 95, P 5 0), (none, I 5)])
  (dIn fun sv3 => dChk (ldO (C M) 95 (P 4 0)) fun v4 => dEff (calO (C M) (cl 199) (fnV 162) [v4, S key, I 0]) fun v5 sv5 => dVal (fadO (C M) 95 (P 4 0) 2) fun v6 => dSam (some true) (ldO (C M) 93 v6) (fun v7 => (eqIn (ldO (C M) 93 v6) v7 sv5 && (eqIn (ldO (C M) 93 v6) v7 sv3 && true))) fun v8 =>
  dVal (iadO (C M) 93 v8 (I 0)) fun v9 => dSam (some true) (ldO (C M) 176 v9) (fun v10 => (eqIn (ldO (C M) 176 v9) v10 sv5 && (eqIn (ldO (C M) 176 v9) v10 sv3 && true))) fun v11 => dSam (some true) (ldO (C M) 177 (P 64 0)) (fun v12 => (eqIn (ldO (C M) 177 (P 64 0)) v12 sv5 && (eqIn (ldO (C M) 177 (P 64 0)) v12 sv3 && true))) fun v13 =>
  dVal (iadO (C M) 176 v11 v5) fun v14 => dEff (stO (C M) 177 v14 v13) fun _ _ => K113_11 M (cl 199) H8 (S key) (I (L : Nat)) (P 4 0) (P 5 0) (B true) (I 1) (I 0))
theorem ra_g (f : Nat → UInt8) (L p : Nat) : G6 (kf f) L (S (xk (kf f))) (xst z37 (kf f) (VJ p L) z37.length) = bnd (calO (C M) (cl 199) (fnV 164) [.agg [sC (xk (kf f)), iC 1, iC 1, iC (L : Nat)]]) (G7 (kf f) L) (VK (xk (kf f)) p L) := by kernel_rfl
noncomputable def G8 (key XK : List UInt8) (L q : Nat) : Kt := dVal (iadO (C M) 176 (.one (st 32 2 4)) (I (q : Nat))) fun v14 => dEff (stO (C M) 177 v14 (.agg [sC XK, iC 1, iC 1, iC (L : Nat)])) fun _ _ => K113_11 M (cl 199) H8 (S key) (I (L : Nat)) (P 4 0) (P 5 0) (B true) (I 1) (I 0)
noncomputable def VL (XK : List UInt8) (p L : Nat) : St := (VK XK p L).push (.cells [sC XK, iC 1, iC 1, iC (L : Nat)] 177 true)
theorem plc (f : Nat → UInt8) (L p : Nat) (XK : List UInt8) : cl 199 162 [.agg (raL 36 30), S (kf f), I 0] (VL XK p L) = some (I (p2 (kf f) : Nat), VM XK p L) := by kernel_rfl
theorem ra_h (f : Nat → UInt8) (L p : Nat) (XK : List UInt8) {v : AV} {s : St} (hr : G8 (kf f) XK L (p2 (kf f)) (VM XK p L) = some (v, s)) : Yl (G7 (kf f) L (B false) (VL XK p L)) (fun x s' => x = v ∧ s' = s) := by
  unfold G7
  refine y_iff rfl ?_
  refine y_din ?_
  refine y_dchk (v := .agg (raL 36 30)) (by kernel_rfl) rfl ?_
  refine y_dcall rfl (plc f L p XK) ?_
  refine y_dval (v := P 4 4) (by kernel_rfl) ?_
  refine y_dsam rfl (v := .one (st 30 1 1)) (by kernel_rfl) (by kernel_rfl) ?_
  refine y_dval (v := P 30 0) (by kernel_rfl) ?_
  refine y_dsam rfl (v := .one (st 32 2 4)) (by kernel_rfl) (by kernel_rfl) ?_
  have e1 : ldO (C M) 177 (P 64 0) (VM XK p L) = .val (.agg [sC XK, iC 1, iC 1, iC (L : Nat)]) := by kernel_rfl
  have e2 : ldO (C M) 177 (P 64 0) (VL XK p L) = .val (.agg [sC XK, iC 1, iC 1, iC (L : Nat)]) := by kernel_rfl
  refine y_dsam rfl (v := .agg [sC XK, iC 1, iC 1, iC (L : Nat)]) e1 (by rw [eqIn_ok e1 rfl, eqIn_ok e2 rfl]; rfl) ?_
  exact y_of hr ⟨rfl, rfl⟩
theorem ra_i0 (f : Nat → UInt8) (L p : Nat) : okM 4 (shA 5) (G8 (kf f) (xk (kf f)) L 0 (VM (xk (kf f)) p L)) = true := by kernel_rfl
theorem ra_i1 (f : Nat → UInt8) (L p : Nat) : okM 4 (shA 5) (G8 (kf f) (xk (kf f)) L 1 (VM (xk (kf f)) p L)) = true := by kernel_rfl
theorem ra_i (f : Nat → UInt8) (L p : Nat) : okM 4 (shA 5) (G8 (kf f) (xk (kf f)) L (p2 (kf f)) (VM (xk (kf f)) p L)) = true := by
  generalize hq : p2 (kf f) = q
  have h := p2_lt (kf f)
  rw [hq] at h
  rcases (by omega : q = 0 ∨ q = 1) with rfl | rfl
  · exact ra_i0 f L p
  · exact ra_i1 f L p
theorem ra_e (f : Nat → UInt8) (L p : Nat) : G4 (kf f) L (p2 (kf f)) (VH p) = bnd (binO (C M) .add 3 (I 0) (I (L : Nat))) (G5 (kf f) L) (VI p) := by
  generalize hq : p2 (kf f) = q
  have h := p2_lt (kf f)
  rw [hq] at h
  rcases (by omega : q = 0 ∨ q = 1) with rfl | rfl
  · exact ra_e0 f L p
  · exact ra_e1 f L p
theorem fr4 : Fr tab4 := fun f hf => by
  simp only [noSp, Bool.or_eq_false_iff] at hf
  obtain ⟨h1, h2, h3, h4, h5, _⟩ := hf
  unfold tab4 Tab.add
  rw [h5, h4, h3, h2]
  rfl
theorem rd_run (f : Nat → UInt8) (L : Nat) (hL : L ≤ 4096) : okM 4 (shA 5) (callK (C M) tab4 200 113 [.agg (raL 1 2), S (kf f), I (L : Nat)] (partsG deB raB)) = true := by
  have hk : (kf f).length = 37 := rfl
  have h1 : callK (C M) tab4 200 113 [.agg (raL 1 2), S (kf f), I (L : Nat)] (partsG deB raB) = G8 (kf f) (xk (kf f)) L (p2 (kf f)) (VM (xk (kf f)) (p8 (kf f)) L) := by
    have key : ∀ r, G8 (kf f) (xk (kf f)) L (p2 (kf f)) (VM (xk (kf f)) (p8 (kf f)) L) = some r → callK (C M) tab4 200 113 [.agg (raL 1 2), S (kf f), I (L : Nat)] (partsG deB raB) = some r := by
      intro r hr
      refine callK_body rfl Tryz.func113 (by kernel_rfl) ?_
      rw [F113_eq]
      refine (ra_a f L).trans ?_
      obtain ⟨v, s⟩ := r
      refine Yl.eq ?_
      refine y_gcal rfl rfl (fits_run (n := 198) fr4 (Int.natCast_nonneg _) (by omega)) ?_
      rw [ra_b]
      refine y_cal rfl (has_cl f) ?_
      rw [ra_c]
      refine y_cal rfl (blo_cl f) ?_
      rw [ra_d, ra_e]
      refine y_val (o_addw (by omega) (by omega)) ?_
      rw [Int.zero_add, ra_f]
      refine y_cal rfl (xor_run (n := 198) fr4 (by rw [hk]; decide) (by rw [hk]; decide) (by decide)) ?_
      rw [show xl z37 (kf f) z37.length = xk (kf f) from rfl, ra_g]
      refine y_cal rfl (wrong_run (n := 197) fr4 (by unfold xk; rw [xl_len (by rw [hk]; decide)]; rfl) (by omega) (by omega) (by omega) (by omega) (by omega) (by omega)) ?_
      exact ra_h f L _ _ hr
    have h2 := ra_i f L (p8 (kf f))
    cases hr : G8 (kf f) (xk (kf f)) L (p2 (kf f)) (VM (xk (kf f)) (p8 (kf f)) L) with
    | none => rw [hr] at h2; cases h2
    | some r => exact key r hr
  rw [h1]
  exact ra_i f L _
end Core
end Go.Proofs.YtnoieleoklpciaaGreatDoor
