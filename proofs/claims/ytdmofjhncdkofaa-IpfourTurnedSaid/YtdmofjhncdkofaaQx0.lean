-- made by a program of this session (wip/print-patch.py, over the kit's print)
import Derived.Test.YtdmofjhncdkofaaProg
import Derived.Below
import Derived.Deep.Draws
import Derived.Deep.AppendLies
import Derived.Maps.AppendAt
import Derived.OwnWalk
import Derived.Laws.BytesArg
import Derived.Laws.MakeOwn
import Derived.Laws.OwnMore
import Derived.Deep.OwnRows
import Derived.Tactics
import Derived.Lib.ConvBytes
import Derived.Laws.Slices
import Derived.WalkKit
import Derived.KernelRfl
import Derived.RowKit3
import Derived.Deep.LoopGhost
import Derived.Deep.QuietTactic
import Derived.BigQuiet
import Derived.WideLaws
import Derived.Deep.DeepCutAuto
import Derived.Deep.CutBlock
import Derived.Deep.RegionHeld3
import Derived.Laws.Rows
import Derived.Lib.AppendStr
import Derived.ArgAppend
import Derived.Laws.IdiomCopy
import Derived.OrdersHeld
import Derived.Laws.BitsLemmas
import Derived.RowKit
import Derived.Test.YtdmofjhncdkofaaV
namespace Go.Proofs.Ytdmofjhncdkofaa.Q
open Go.RowKit Go.Proofs.YtdmofjhncdkofaaW.PrintWords Go.Proofs.YtdmofjhncdkofaaW.PrintLast Go.Proofs.YtdmofjhncdkofaaW.PrintMore
attribute [local go_sem] max2_int min2_int max_two min_two max_three min_three max_four min_four   -- for this text's walks alone
set_option linter.unusedVariables false
set_option linter.unusedSimpArgs false



def errW : Option Int → Value
  | none => .nilIface
  | some c => .iface 0 (.int .i64 c)
theorem errW_none : errW none = .nilIface := rfl
theorem errW_some (c : Int) : errW (some c) = .iface 0 (.int .i64 c) := rfl

/-- The operation is a call of the function value in this slot. -/
theorem gate_tmp {P : Program} {ops : Array Oper} {rest : List Oper} {o : Oper} {a : Act} {Q : Exit → Act → World → Prop} {W : World} {t : Tmp} {os_ : Array Operand} {ts : Array TypeId} (_ho : o.op = .call { callee := .value (.tmp t), args := os_, argTypes := ts }) (h : wpList P ops Q (o :: rest) a W) : wpList P ops Q (o :: rest) a W := h
/-- A call of a function value that is known, in a plain region. -/
theorem goesV_ {P : Program} {ops : Array Oper} {Q : Exit → Act → World → Prop} {rest : List Oper} {oi : Oper} {a : Act} {w : World} (N : Option Tmp) (hd : oi.dst = N) (hg : oi.guard = none) {f : FuncId} {fn : Func} {t : Tmp} {lb : Array Value} {os_ : Array Operand} {ts : Array TypeId} (hf : P.funcs[f]? = some fn) (hname : (fn.name == "runtime.NumGoroutine") = false) (hb : fn.body.isSome = true) (args : Array Value)
    (hop : oi.op = .call { callee := .value (.tmp t), args := os_, argTypes := ts }) (hv : a.eval (.tmp t) = .func (.func f) #[] lb) (hargs : os_.map a.eval = args)
    (h : Calls P f (args ++ lb) w fun e w' => ∃ v, e = .returned v ∧ wpList P ops Q rest (a.put N v) w') : wpList P ops Q (oi :: rest) a w := by
  refine wpList_plain hg fun K hK => ?_
  have he := enters_ hf hname hb (args ++ lb) w
  have hrun : (execOp a.eval oi).run P w = .ok (.enter f (args ++ lb)) w := by
    unfold execOp
    have hv' : a.tmps[t]?.getD undef = .func (.func f) #[] lb := by simpa [Act.eval] using hv
    simp [hop, resolve, Deferred.ofValue, invoke, Act.eval, hargs, hv', he]
  unfold Oper.wp
  rw [hrun, Oper.upon_enter]
  refine h.mono fun e w'' hh => ?_
  obtain ⟨v, rfl, hk⟩ := hh
  subst hd
  exact hK _ _ hk
theorem s1_ {α : Type _} (l : List α) (i : Nat) (a : α) : l.toArray.setIfInBounds i a = (l.set i a).toArray := List.setIfInBounds_toArray l i a
theorem s2_ {α : Type _} {a b : α} {l : List α} : (a :: l).set 0 b = b :: l := rfl
theorem s3_ {α : Type _} {a b : α} {l : List α} {n : Nat} : (a :: l).set (n + 1) b = a :: l.set n b := rfl
theorem oD_ {p : Prop} [Decidable p] (h : decide p = true := by first | (with_reducible assumption) | assumption) : p := of_decide_eq_true h
theorem rE_ {p q : Prop} (hq : q) (hp : p := by first | rfl | (simp [errW_none, errW_some] <;> rfl) | (simp [*, errW_none, errW_some] <;> rfl)) : p ∧ q := ⟨hp, hq⟩
theorem bZ_ {g : Nat} {w W : World} (hg : g = W.heap.size) (h : Below w.heap.size w W) : w.heap.size ≤ g := by rw [hg]; exact below_size h
theorem pN_ {w : World} {g : Nat} {o : Obj} {n : Nat} (h : w.heap[g]? = some o) : (w.drewN n).heap[g]? = some o := h
theorem pD_ {w : World} {g : Nat} {o : Obj} (h : w.heap[g]? = some o) : w.drew.heap[g]? = some o := h
theorem pA_ {w : World} {g : Nat} {o o' : Obj} (h : w.heap[g]? = some o) : (w.alloc o').heap[g]? = some o := blk_alloc h o'
/-- The world that now stands, over steps that only make, or write what is new. -/
theorem bU_ {w W0 W : World} (h0 : Below w.heap.size w W0) (h : Below w.heap.size w W0 → Below w.heap.size w W := by intro hB_; repeat (first | (with_reducible first | exact hB_ | apply below_alloc | apply pw_below_drewN | apply below_drew1 | refine below_set ?_ (Aside0.out (by assumption))) | exact hB_)) : Below w.heap.size w W := h h0
theorem bB_ {g : Nat} {o : Obj} {w W w1 : World} (h0 : w.heap[g]? = some o) (hb : Below W.heap.size W w1) (h : w.heap[g]? = some o → W.heap[g]? = some o := by intro h_; (with_reducible repeat first | apply pN_ | apply pD_ | apply pA_); exact h_) : w1.heap[g]? = some o := blk_below (h h0) hb
theorem bN_ {g g1 : Nat} {o : Obj} {w W : World} (hg : g1 = W.heap.size) (h0 : w.heap[g]? = some o) (h : w.heap[g]? = some o → W.heap[g]? = some o := by intro h_; (with_reducible repeat first | apply pN_ | apply pD_ | apply pA_); exact h_) : g ≠ g1 := by rw [hg]; exact Nat.ne_of_lt (blk_lt (h h0))
theorem rB_ {α : Type} {d : Kd α} {e base : Nat} {ok : Nat → Prop} {v : Value} {xs : List α} {w W w1 : World} (h0 : d.R e w base ok v xs) (hb : Below W.heap.size W w1) (h : d.R e w base ok v xs → d.R e W base ok v xs := by intro h_; (with_reducible repeat first | apply Kd.R_alloc | apply Kd.R_drewN | apply Kd.R_drew); exact h_) : d.R e w1 base ok v xs := Kd.R_below (h h0) hb
/-- A call as one step; its arguments are found at the end. -/
theorem gL_ {P : Program} {ops : Array Oper} {Q : Exit → Act → World → Prop} {rest : List Oper} {oi : Oper} {a : Act} {w : World} (N : Option Tmp) (hd : oi.dst = N) (hg : oi.guard = none) {f : FuncId} {fn : Func} {os_ : Array Operand} {ts : Array TypeId} (hf : P.funcs[f]? = some fn) (hname : (fn.name == "runtime.NumGoroutine") = false) (hb : fn.body.isSome = true) (args : Array Value)
    (hop : oi.op = .call { callee := .value (.func f), args := os_, argTypes := ts })
    (h : Calls P f args w fun e w' => ∃ v, e = .returned v ∧ wpList P ops Q rest (a.put N v) w')
    (hargs : os_.map a.eval = args := by (try simp only [List.map_toArray, List.map_cons, List.map_nil]); first | done | rfl | (simp only [List.length_drop, List.length_take]; rfl) | (simp only [ByteArray.size_append, ByteArray.size_extract, Nat.sub_zero, Int.natCast_add]; rfl) | (simp [ByteArray.size_append]; done)) : wpList P ops Q (oi :: rest) a w := goesL_ N hd hg hf hname hb args hop hargs h
theorem cell_twice_ (w : World) (a : Addr) (u v : Value) (h : (w.cell? a).isSome = true) : ((w.setCell a u).setCell a v).cell? a = some v :=
  World.cell?_setCell_same' _ _ _ (by rw [World.cell?_setCell_same' _ _ _ h]; rfl)
theorem cell_twiceN_ (w : World) (a : Addr) (u v : Value) (n : Nat) (h : (w.cell? a).isSome = true) : (((w.setCell a u).drewN n).setCell a v).cell? a = some v :=
  World.cell?_setCell_same' _ _ _ (by rw [World.cell?_drewN, World.cell?_setCell_same' _ _ _ h]; rfl)
theorem info5 : (Try.prog.info? 5).map (fun i => (i.zero, i.size, i.bytes)) = some (some (.int .u8 0), 1, 1) := by kernel_rfl
-- the values' own types

end Go.Proofs.Ytdmofjhncdkofaa.Q
