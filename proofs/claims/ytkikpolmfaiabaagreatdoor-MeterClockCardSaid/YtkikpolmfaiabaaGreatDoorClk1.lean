/- The bank of the fixed config, wherever its blocks lie; its piece; awake: runs of functions from nothing, as a table. -/
import Derived.Test.YtkikpolmfaiabaaGreatDoorAw
namespace Go.Proofs.YtkikpolmfaiabaaGreatDoor
open Go.Run
namespace Clk
def i (n : Int) : CV := .int .i64 n
def s (l : List UInt8) : CV := .str ⟨⟨l⟩⟩
def p (a b : Nat) : CV := .ptr (some (a, b))
def np : CV := .ptr none
def ns : CV := .slice none 0 (.ex 0)
def sx (a b n c : Nat) : CV := .slice (some (a, b)) n (.ex c)
def st (a b n c : Nat) : CV := .slice (some (a, b)) n (.to c)
def oneL : List CV := [.int .u64 7, i 1, i 1, i 1, i 1, i 1, i 8, i 1, i 1, i 2, i 1, i 1, i 1, i 1, i 1, i 1, i 1, i 1]
def bankC (b : Nat) : List CV := [.int .u64 7, i 1, i 1, i 1, i 1, i 1, i 8, i 1, i 1, i 2, i 1, i 1, i 1, i 1, i 1, i 1, i 1, i 1, i 0, i 0, st (b + 0) 0 18 1, .int .u64 105625, i 1, i 1, st (b + 1) 0 1 2, .int .u64 100418638321, i 255, st (b + 2) 0 1 1, .int .u64 112225, .int .u64 50382740521, i 1, st (b + 4) 0 8 1, st (b + 5) 0 1 1, .int .u64 119025, i 1, st (b + 7) 0 1 3, .int .u64 126025, st (b + 10) 0 1 1]
def bankB (b : Nat) : List Blk := [(.cells [i 0, i 0, i 0, i 0, i 0, i 0, i 0, i 0, i 0, i 0, i 0, i 0, i 0, i 0, i 0, i 0, i 0, i 0] 3 true), (.cells [ns, i 0] 214 true), (.cells [st (b + 3) 0 1 1] 22 false), (.cells [i 0] 3 true), (.cells [.bool false, .bool false, .bool false, .bool false, .bool false, .bool false, .bool false, .bool false] 4 true), (.cells [st (b + 6) 0 2 4] 146 false), (.cells [s [0, 0, 0, 0, 0, 0, 0, 0, 0, 0, 0, 0, 0, 0, 0, 0, 0, 0, 0, 0, 0, 0, 0, 0, 0, 0, 0, 0, 0, 0, 0, 0, 0, 0, 0, 0, 0], i 0, i 0, i 0, s [0, 0, 0, 0, 0, 0, 0, 0, 0, 0, 0, 0, 0, 0, 0, 0, 0, 0, 0, 0, 0, 0, 0, 0, 0, 0, 0, 0, 0, 0, 0, 0, 0, 0, 0, 0, 0], i 0, i 0, i 0] 148 true), (.cells [.int .u64 127512553921, st (b + 8) 0 1 1, ns] 196 false), (.cells [st (b + 9) 0 1 1] 22 false), (.cells [i 0] 3 true), (.cells [st (b + 11) 0 1 4] 154 false), (.cells [.int .u64 63534747721, st (b + 12) 0 1 1, s [], i (-1)] 159 true), (.cells [st (b + 13) 0 1 1] 40 false), (.cells [.bool false] 4 true)]
def bankRaw : AV := .tup [.agg [.int .u64 7, i 1, i 1, i 1, i 1, i 1, i 8, i 1, i 1, i 2, i 1, i 1, i 1, i 1, i 1, i 1, i 1, i 1, i 0, i 0, st 3 0 18 1, .int .u64 105625, i 1, i 1, st 24 0 1 2, .int .u64 100418638321, i 255, st 18 0 1 1, .int .u64 112225, .int .u64 50382740521, i 1, st 31 0 8 1, st 47 0 1 1, .int .u64 119025, i 1, st 63 0 1 3, .int .u64 126025, st 90 0 1 1], .one (i 0)]
def bankNu : List Nat := [3, 24, 18, 13, 31, 47, 46, 63, 60, 55, 90, 89, 75, 70]
def bankRawB : List Blk := [(.cells [i 0, i 0, i 0, i 0, i 0, i 0, i 0, i 0, i 0, i 0, i 0, i 0, i 0, i 0, i 0, i 0, i 0, i 0] 3 true), (.cells [ns, i 0] 214 true), (.cells [st 13 0 1 1] 22 false), (.cells [i 0] 3 true), (.cells [.bool false, .bool false, .bool false, .bool false, .bool false, .bool false, .bool false, .bool false] 4 true), (.cells [st 46 0 2 4] 146 false), (.cells [s [0, 0, 0, 0, 0, 0, 0, 0, 0, 0, 0, 0, 0, 0, 0, 0, 0, 0, 0, 0, 0, 0, 0, 0, 0, 0, 0, 0, 0, 0, 0, 0, 0, 0, 0, 0, 0], i 0, i 0, i 0, s [0, 0, 0, 0, 0, 0, 0, 0, 0, 0, 0, 0, 0, 0, 0, 0, 0, 0, 0, 0, 0, 0, 0, 0, 0, 0, 0, 0, 0, 0, 0, 0, 0, 0, 0, 0, 0], i 0, i 0, i 0] 148 true), (.cells [.int .u64 127512553921, st 60 0 1 1, ns] 196 false), (.cells [st 55 0 1 1] 22 false), (.cells [i 0] 3 true), (.cells [st 89 0 1 4] 154 false), (.cells [.int .u64 63534747721, st 75 0 1 1, s [], i (-1)] 159 true), (.cells [st 70 0 1 1] 40 false), (.cells [.bool false] 4 true)]
def pieceS : CV := s [0, 0, 0, 0, 0, 0, 0, 0, 0, 0, 0, 0, 0, 0, 0, 0, 0, 0, 0, 0, 0, 0, 0, 0, 0, 0, 0, 0, 0, 0, 0, 0, 0, 0, 0, 0, 0, 0, 0, 0, 0, 0, 0, 0, 0, 0, 0, 0, 0, 0, 0, 0, 0, 0, 0, 0, 0, 0, 0, 0, 0, 0, 0, 0, 0, 0, 0, 0, 0, 0, 0, 0, 0, 0, 0, 0, 0, 0, 0, 0, 0, 0, 0, 0, 0, 0, 0, 0, 0, 0, 0, 0, 0, 0, 0, 0, 0, 0, 0, 0, 0, 0, 0, 0, 0, 0, 0, 0, 0, 0, 0, 0, 0, 0, 0, 0, 0, 0, 0, 0, 0, 0, 0, 0, 0, 0, 0, 0, 0, 0, 0, 0, 0, 0, 0, 0, 0, 0, 0, 0, 0, 0, 0, 0, 0, 0, 0, 0, 0, 0, 0, 0, 0, 0, 0, 0, 0, 0, 0, 0, 0, 0, 0, 0, 0, 0, 0, 0, 0, 0, 0, 0, 0, 0, 0, 0, 0, 0, 0, 0, 0, 0, 0, 0, 0, 0, 0, 0, 0, 0, 0, 0, 0, 0, 0, 0, 0, 0, 0, 0, 0, 0, 0, 0, 0, 0, 0, 0, 0, 0, 0, 0, 0, 0, 0, 0, 0, 0, 0, 0, 0, 0, 0, 0, 0, 0, 0, 0, 0, 0, 0, 0, 0, 0, 0, 0, 0, 0, 0, 0, 0, 0, 0, 0, 0, 0, 1, 0, 0, 0, 0, 0, 0, 0, 0, 0]
def pieceC (e : Int) : List CV := [i 1, i e, i 0, i 1, pieceS]
def pieceB (e : Int) : Blk := .cells (pieceC e) 66 false
def ro : Blk → Blk
  | .cells l _ _ => .ro l
  | b => b
noncomputable def bankS : St := pushAll σE ((bankB 0).map ro)
set_option maxRecDepth 1000000
theorem run_one : (callK (C 1000000) noTab 1000000 10 [] σE).map (fun r => r.1) = some (.agg oneL) := by kernel_rfl
theorem run_new : (callK (C 1000000) noTab 1000000 16 [.agg oneL] σE).map (fun r => (r.1, bankNu.map r.2.get)) = some (bankRaw, bankRawB.map some) := by kernel_rfl
theorem run_pieces (e : Int) : (callK (C 1000000) noTab 1000000 17 [I 1, I e, .agg (bankC 0)] bankS).map (fun r => (r.1, [292].map r.2.get)) = some (.one (st 292 0 1 5), [some (pieceB e)]) := by kernel_rfl
end Clk
end Go.Proofs.YtkikpolmfaiabaaGreatDoor
