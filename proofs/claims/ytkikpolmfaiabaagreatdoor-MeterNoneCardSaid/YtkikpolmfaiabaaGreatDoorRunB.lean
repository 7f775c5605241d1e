import Derived.Calls
import Derived.Orders
namespace Go.Run

/-! Values and memory of an abstract run: no addresses, no tape. -/

/-- a slice's capacity: just so many, or to its array's end (cells of an element) -/
inductive Cap where
  | ex (c : Nat)
  | to (sz : Nat)
  deriving Inhabited, DecidableEq

inductive CV where
  | bool (b : Bool) | int (k : IntKind) (n : Int) | str (s : ByteArray)
  | ptr (p : Option (Nat × Nat))
  | slice (p : Option (Nat × Nat)) (len : Nat) (cap : Cap)
  | map (p : Option Nat)
  | func (f : FuncId) (caps : List (Nat × Nat))
  | nilFunc
  | nilI
  deriving Inhabited, DecidableEq

inductive AV where
  | bad
  | one (c : CV) | agg (l : List CV) | tup (l : List AV)
  deriving Inhabited

inductive Blk where
  | cells (l : List CV) (elem : TypeId) (exact : Bool)
  | map (es : List (CV × AV × Nat)) (clock : Nat)
  deriving Inhabited

inductive Tr (α : Type) where
  | leaf
  | node (v : α) (l r : Tr α)

noncomputable def Tr.get {α : Type} (d : α) (t : Tr α) (n : Nat) : α :=
  Tr.rec (motive := fun _ => Nat → α) (fun _ => d) (fun v _ _ il ir n => bif Nat.beq n 0 then v else bif Nat.beq (Nat.mod n 2) 1 then il (Nat.div n 2) else ir (Nat.sub (Nat.div n 2) 1)) t n

noncomputable def Tr.sing {α : Type} (d a : α) (f n : Nat) : Tr α :=
  Nat.rec (motive := fun _ => Nat → Tr α) (fun _ => .leaf) (fun _ ih n => bif Nat.beq n 0 then .node a .leaf .leaf else bif Nat.beq (Nat.mod n 2) 1 then .node d (ih (Nat.div n 2)) .leaf else .node d .leaf (ih (Nat.sub (Nat.div n 2) 1))) f n

noncomputable def Tr.set {α : Type} (d a : α) (t : Tr α) (n : Nat) : Tr α :=
  Tr.rec (motive := fun _ => Nat → Tr α) (fun n => Tr.sing d a (Nat.succ n) n)
    (fun v l r il ir n => bif Nat.beq n 0 then .node a l r else bif Nat.beq (Nat.mod n 2) 1 then .node v (il (Nat.div n 2)) r else .node v l (ir (Nat.sub (Nat.div n 2) 1))) t n

structure St where
  next : Nat
  m : Tr (Option Blk)

noncomputable def St.get (σ : St) (i : Nat) : Option Blk := σ.m.get none i
noncomputable def St.put (σ : St) (i : Nat) (b : Blk) : St := ⟨σ.next, σ.m.set none (some b) i⟩
noncomputable def St.kill (σ : St) (i : Nat) : St := ⟨σ.next, σ.m.set none none i⟩
noncomputable def St.push (σ : St) (b : Blk) : St := ⟨Nat.succ σ.next, σ.m.set none (some b) σ.next⟩

/-- temporaries, and addresses of package-level variables -/
structure Env where
  t : Tr AV
  g : Tr AV

/-! Forcing, for the kernel's sake. -/
noncomputable def forceN {α : Type} (n : Nat) (k : Nat → α) : α := Nat.rec (motive := fun _ => α) (k 0) (fun p _ => k (Nat.succ p)) n
noncomputable def forceI {α : Type} (n : Int) (k : Int → α) : α := Int.rec (motive := fun _ => α) (fun m => forceN m fun m => k (.ofNat m)) (fun m => forceN m fun m => k (.negSucc m)) n

def cellOf : Value → Option CV
  | .bool b => some (.bool b)
  | .int k n => some (.int k n)
  | .string s => some (.str s)
  | .pointer none => some (.ptr none)
  | .slice none 0 0 => some (.slice none 0 (.ex 0))
  | .map none => some (.map none)
  | .nilFunc => some .nilFunc
  | .nilIface => some .nilI
  | .func (.func f) a b => bif a.toList.isEmpty && b.toList.isEmpty then some (.func f []) else none
  | _ => none
def cellsOf' : List Value → Option (List CV)
  | [] => some []
  | v :: r => match cellOf v, cellsOf' r with | some c, some l => some (c :: l) | _, _ => none
def ofVal : Value → AV
  | .agg cs => match cellsOf' cs.toList with | some l => .agg l | none => .bad
  | .tuple vs => bif vs.toList.isEmpty then .tup [] else .bad
  | v => match cellOf v with | some c => .one c | none => .bad

inductive Ext where | same | addI64 | loadI64 | cmp

abbrev CallF := FuncId → List AV → St → Option (AV × St)

structure Cx where
  P : Program
  ext : FuncId → Option Ext
  tab : FuncId → Option (List AV → St → Option (AV × St))
  fuel : Nat
  g : Tr AV

def nth {α : Type} : List α → Nat → Option α
  | [], _ => none
  | a :: _, 0 => some a
  | _ :: r, n + 1 => nth r n
def takeN {α : Type} : Nat → List α → Option (List α)
  | 0, _ => some []
  | _ + 1, [] => none
  | n + 1, a :: r => match takeN n r with | some l => some (a :: l) | none => none
def dropN {α : Type} : Nat → List α → List α
  | 0, l => l
  | _ + 1, [] => []
  | n + 1, _ :: r => dropN n r
/-- lay v over l from place n on; none if it does not fit -/
def over {α : Type} : Nat → List α → List α → Option (List α)
  | 0, [], l => some l
  | 0, _ :: _, [] => none
  | 0, x :: v, _ :: l => match over 0 v l with | some r => some (x :: r) | none => none
  | n + 1, v, a :: l => match over n v l with | some r => some (a :: r) | none => none
  | _ + 1, _, [] => none
def lenN {α : Type} : List α → Nat
  | [] => 0
  | _ :: r => Nat.succ (lenN r)
def modN {α : Type} (f : α → α) : List α → Nat → List α
  | [], _ => []
  | a :: r, 0 => f a :: r
  | a :: r, n + 1 => a :: modN f r n
def repN {α : Type} : Nat → List α → List α
  | 0, _ => []
  | n + 1, l => l ++ repN n l

def AV.cells : AV → Option (List CV)
  | .one c => some [c]
  | .agg l => some l
  | _ => none

def bytesOf (s : ByteArray) : List UInt8 := s.data.toList
def ofBytes (l : List UInt8) : ByteArray := ⟨⟨l⟩⟩
def u8eq (a b : UInt8) : Bool := Nat.beq a.toNat b.toNat
def bytesEq : List UInt8 → List UInt8 → Bool
  | [], [] => true
  | a :: x, b :: y => u8eq a b && bytesEq x y
  | _, _ => false
def bytesLt : List UInt8 → List UInt8 → Bool
  | _, [] => false
  | [], _ :: _ => true
  | a :: x, b :: y => Nat.blt a.toNat b.toNat || (u8eq a b && bytesLt x y)
def kindEq (j k : IntKind) : Bool := Nat.beq j.ctorIdx k.ctorIdx
def intEq : Int → Int → Bool
  | .ofNat a, .ofNat b => Nat.beq a b
  | .negSucc a, .negSucc b => Nat.beq a b
  | _, _ => false

def wrapS (h m : Nat) (n : Int) : Int := match Int.emod n (.ofNat m) with
  | .ofNat r => bif Nat.ble h r then Int.subNatNat r m else .ofNat r
  | x => x
def wrapU (m : Nat) (n : Int) : Int := Int.emod n (.ofNat m)
def wrapA : IntKind → Int → Int
  | .i8 => wrapS 128 256
  | .i16 => wrapS 32768 65536
  | .i32 => wrapS 2147483648 4294967296
  | .i64 => wrapS 9223372036854775808 18446744073709551616
  | .u8 => wrapU 256
  | .u16 => wrapU 65536
  | .u32 => wrapU 4294967296
  | .u64 => wrapU 18446744073709551616

/-- what an operation yields: nothing; a value; a new block and the value by its number; a value and a state. -/
inductive Out where
  | no
  | val (v : AV)
  | new (b : Blk) (f : Nat → AV)
  | st (v : AV) (σ : St)

def outV : Option AV → Out
  | some v => .val v
  | none => .no
noncomputable def intV (k : IntKind) (n : Int) : Out := forceI n fun n => .val (.one (.int k n))

def und (cx : Cx) (t : TypeId) : Option TypeDesc := cx.P.underlying t
def size (cx : Cx) (t : TypeId) : Option Nat := match cx.P.info? t with | some i => some i.size | none => none
def isAgg (cx : Cx) (t : TypeId) : Option Bool := match und cx t with | some (.struct _) => some true | some (.array _ _) => some true | some _ => some false | none => none
def zero (cx : Cx) (t : TypeId) : AV := match cx.P.info? t with
  | some i => (match i.zero with | some v => ofVal v | none => .bad)
  | none => .bad
def zeroCells (cx : Cx) (t : TypeId) : Option (List CV) := (zero cx t).cells

noncomputable def evA (x : Operand) (env : Env) : AV :=
  Operand.rec (motive := fun _ => Env → AV) (fun t env => env.t.get .bad t) (fun v _ => ofVal v) (fun g env => env.g.get .bad g) (fun f _ => .one (.func f [])) x env
noncomputable def evList (env : Env) : List Operand → List AV
  | [] => []
  | x :: r => evA x env :: evList env r
noncomputable def evParts (env : Env) : List (Nat × Operand) → List (Nat × AV)
  | [] => []
  | (i, x) :: r => (i, evA x env) :: evParts env r

def partA (cx : Cx) (t : TypeId) (cs : List CV) (off : Nat) : Option AV :=
  match isAgg cx t with
  | some true => match size cx t with
    | some n => match takeN n (dropN off cs) with | some l => some (.agg l) | none => none
    | none => none
  | some false => match nth cs off with | some c => some (.one c) | none => none
  | none => none

noncomputable def loadA (cx : Cx) (t : TypeId) (v : AV) (σ : St) : Option AV :=
  match v with
  | .one (.ptr (some (i, o))) => match σ.get i with
    | some (.cells l _ _) => partA cx t l o
    | _ => none
  | _ => none

noncomputable def fLoad (t : TypeId) (a : Operand) (cx : Cx) (_ : CallF) (env : Env) (σ : St) : Out := outV (loadA cx t (evA a env) σ)

noncomputable def storeA (cx : Cx) (t : TypeId) (p v : AV) (σ : St) : Out :=
  match p with
  | .one (.ptr (some (i, o))) => match σ.get i with
    | some (.cells l e x) => match v.cells, size cx t with
      | some cs, some n => bif Nat.beq (lenN cs) n then (match over o cs l with | some l' => .st (.tup []) (σ.put i (.cells l' e x)) | none => .no) else .no
      | _, _ => .no
    | _ => .no
  | _ => .no
noncomputable def fStore (t : TypeId) (a v : Operand) (cx : Cx) (_ : CallF) (env : Env) (σ : St) : Out := storeA cx t (evA a env) (evA v env) σ

mutual
def eqA (cx : Cx) : Nat → TypeId → AV → AV → Option Bool
  | 0, _, _, _ => none
  | d + 1, t, x, y =>
    match und cx t, x, y with
    | some .bool, .one (.bool a), .one (.bool b) => some (a == b)
    | some (.int _), .one (.int k a), .one (.int k' b) => bif kindEq k k' then some (intEq a b) else none
    | some .string, .one (.str a), .one (.str b) => some (bytesEq (bytesOf a) (bytesOf b))
    | some (.pointer _), .one (.ptr none), .one (.ptr b) => some b.isNone
    | some (.pointer _), .one (.ptr (some _)), .one (.ptr none) => some false
    | some (.pointer e), .one (.ptr (some a)), .one (.ptr (some b)) => match size cx e with
      | some (_ + 1) => bif Nat.beq a.1 b.1 then some (Nat.beq a.2 b.2) else none
      | _ => none
    | some (.slice _), .one (.slice none _ _), .one (.slice b _ _) => some b.isNone
    | some (.slice _), .one (.slice (some _) _ _), .one (.slice none _ _) => some false
    | some (.map _ _), .one (.map none), .one (.map b) => some b.isNone
    | some (.map _ _), .one (.map (some _)), .one (.map none) => some false
    | some (.func _ _ _), .one .nilFunc, .one .nilFunc => some true
    | some (.func _ _ _), .one .nilFunc, .one (.func _ _) => some false
    | some (.func _ _ _), .one (.func _ _), .one .nilFunc => some false
    | some (.struct fields), .agg xs, .agg ys => bif cx.P.stoodInHeld t then none else eqFields cx d fields.toList xs ys
    | _, _, _ => none
def eqFields (cx : Cx) : Nat → List Field → List CV → List CV → Option Bool
  | 0, _, _, _ => none
  | _ + 1, [], _, _ => some true
  | d + 1, f :: r, xs, ys =>
    bif f.name == "_" then eqFields cx d r xs ys else
      match partA cx f.type xs f.offset, partA cx f.type ys f.offset with
      | some u, some v => match eqA cx d f.type u v with
        | some true => eqFields cx d r xs ys
        | r => r
      | _, _ => none
end

def bits (k : IntKind) (x : Int) : Nat := match Int.emod x (.ofNat (Nat.pow 2 k.bits)) with | .ofNat n => n | .negSucc _ => 0

abbrev BinF := Cx → TypeId → AV → AV → Out
noncomputable def arith (f : Int → Int → Int) : BinF := fun _ _ x y => match x, y with
  | .one (.int k a), .one (.int k' b) => bif kindEq k k' then intV k (wrapA k (f a b)) else .no
  | _, _ => .no
noncomputable def addF : BinF := fun _ _ x y => match x, y with
  | .one (.int k a), .one (.int k' b) => bif kindEq k k' then intV k (wrapA k (Int.add a b)) else .no
  | .one (.str a), .one (.str b) => bif Nat.ble (Nat.add (lenN (bytesOf a)) (lenN (bytesOf b))) 4611686018427387904 then .val (.one (.str (ofBytes (bytesOf a ++ bytesOf b)))) else .no
  | _, _ => .no
noncomputable def quoF : BinF := fun _ _ x y => match x, y with
  | .one (.int k a), .one (.int k' b) => bif kindEq k k' && !(intEq b 0) then intV k (wrapA k (Int.tdiv a b)) else .no
  | _, _ => .no
noncomputable def remF : BinF := fun _ _ x y => match x, y with
  | .one (.int k a), .one (.int k' b) => bif kindEq k k' && !(intEq b 0) then intV k (Int.tmod a b) else .no
  | _, _ => .no
noncomputable def bitsF (f : Nat → Nat → Nat) : BinF := fun _ _ x y => match x, y with
  | .one (.int k a), .one (.int k' b) => bif kindEq k k' then intV k (wrapA k (.ofNat (f (bits k a) (bits k b)))) else .no
  | _, _ => .no
noncomputable def andNotF : BinF := fun _ _ x y => match x, y with
  | .one (.int k a), .one (.int k' b) => bif kindEq k k' then intV k (wrapA k (.ofNat (Nat.land (bits k a) (Nat.sub (Nat.sub (Nat.pow 2 k.bits) 1) (bits k b))))) else .no
  | _, _ => .no
noncomputable def shlF : BinF := fun _ _ x y => match x, y with
  | .one (.int k a), .one (.int _ (.ofNat b)) => intV k (wrapA k (Int.mul a (.ofNat (Nat.pow 2 (bif Nat.ble b k.bits then b else k.bits)))))
  | _, _ => .no
noncomputable def shrF : BinF := fun _ _ x y => match x, y with
  | .one (.int k a), .one (.int _ (.ofNat b)) => intV k (Int.fdiv a (.ofNat (Nat.pow 2 (bif Nat.ble b k.bits then b else k.bits))))
  | _, _ => .no
def intLt (a b : Int) : Bool := match a, b with
  | .ofNat a, .ofNat b => Nat.blt a b
  | .ofNat _, .negSucc _ => false
  | .negSucc _, .ofNat _ => true
  | .negSucc a, .negSucc b => Nat.blt b a
def boolV (b : Bool) : Out := .val (.one (.bool b))
def eqF (neg : Bool) : BinF := fun cx t x y => match x, y with
  | .one (.int k a), .one (.int k' b) => bif kindEq k k' then boolV (xor neg (intEq a b)) else .no
  | .one (.str a), .one (.str b) => boolV (xor neg (bytesEq (bytesOf a) (bytesOf b)))
  | x, y => bif cx.P.eqGuardType cx.P.depth t then .no else match eqA cx 10000 t x y with | some b => boolV (xor neg b) | none => .no
def ltF (neg swap : Bool) : BinF := fun _ _ x y => match x, y with
  | .one (.int k a), .one (.int k' b) => bif kindEq k k' then boolV (xor neg (bif swap then intLt b a else intLt a b)) else .no
  | .one (.str a), .one (.str b) => boolV (xor neg (bif swap then bytesLt (bytesOf b) (bytesOf a) else bytesLt (bytesOf a) (bytesOf b)))
  | _, _ => .no
noncomputable def binT (op : BinOp) : BinF :=
  BinOp.rec addF (arith Int.sub) (arith Int.mul) quoF remF (bitsF Nat.land) (bitsF Nat.lor) (bitsF Nat.xor) shlF shrF andNotF
    (eqF false) (eqF true) (ltF false false) (ltF true true) (ltF false true) (ltF true false) op
noncomputable def fBin (op : BinOp) (t : TypeId) (x y : Operand) (cx : Cx) (_ : CallF) (env : Env) (_ : St) : Out := binT op cx t (evA x env) (evA y env)

noncomputable def unA (op : UnOp) (x : AV) : Out :=
  match op, x with
  | .neg, .one (.int k n) => intV k (wrapA k (Int.sub 0 n))
  | .xor, .one (.int k n) => intV k (wrapA k (.ofNat (Nat.xor (bits k (bif k.signed then -1 else k.max)) (bits k n))))
  | .not, .one (.bool b) => boolV (!b)
  | _, _ => .no
noncomputable def fUn (op : UnOp) (x : Operand) (_ : Cx) (_ : CallF) (env : Env) (_ : St) : Out := unA op (evA x env)

def natOf : AV → Option Nat
  | .one (.int _ (.ofNat n)) => some n
  | _ => none

def bytesAt (l : List CV) : Option (List UInt8) :=
  match l with
  | [] => some []
  | .int .u8 (.ofNat n) :: r => bif Nat.blt n 256 then (match bytesAt r with | some b => some (n.toUInt8 :: b) | none => none) else none
  | _ => none
def cellsOfBytes (l : List UInt8) : List CV := l.map fun b => .int .u8 (.ofNat b.toNat)

noncomputable def convA (cx : Cx) (src dst : TypeId) (x : AV) (σ : St) : Out :=
  match und cx src with
  | none => .no
  | some su => match und cx dst, x with
  | some (.int k), .one (.int _ n) => intV k (wrapA k n)
  | some .string, .one (.str s) => .val (.one (.str s))
  | some (.slice e), .one (.str s) => match und cx e with
    | some (.int .u8) => match size cx e, su with
      | some 1, .string => .new (.cells (cellsOfBytes (bytesOf s)) e false) fun i => .one (.slice (some (i, 0)) (lenN (bytesOf s)) (.to 1))
      | _, _ => .no
    | _ => .no
  | some .string, .one (.slice p n _) => match su with
    | .slice e => match und cx e with
      | some (.int .u8) => match p with
        | none => .val (.one (.str (ofBytes [])))
        | some (i, o) => match σ.get i with
          | some (.cells l _ _) => match takeN n (dropN o l) with
            | some cs => match bytesAt cs with
              | some b => .val (.one (.str (ofBytes b)))
              | none => .no
            | none => .no
          | _ => .no
      | _ => .no
    | _ => .no
  | some .unsafePointer, .one (.ptr none) => match su with | .pointer _ => .val x | _ => .no
  | some (.pointer _), .one (.ptr none) => match su with | .unsafePointer => .val x | _ => .no
  | some .unsafePointer, .one (.ptr (some (i, o))) => match su with
    | .pointer t => match σ.get i, size cx t with
      | some (.cells l _ _), some (_ + 1) => bif Nat.blt o (lenN l) then .val x else .no
      | _, _ => .no
    | _ => .no
  | some (.pointer u), .one (.ptr (some (i, o))) => match su with
    | .unsafePointer => match σ.get i, size cx u with
      | some (.cells l e true), some (_ + 1) => bif liesAt cx.P cx.P.depth e (lenN l / cx.P.cellsOf e) o u 1 then .val x else .no
      | _, _ => .no
    | _ => .no
  | _, _ => .no
noncomputable def fConv (s d : TypeId) (x : Operand) (cx : Cx) (_ : CallF) (env : Env) (σ : St) : Out := convA cx s d (evA x env) σ

def fillA (place : Nat → Option (Nat × Nat)) (cells : List CV) : List (Nat × AV) → Option (List CV)
  | [] => some cells
  | (i, v) :: rest => match place i, v.cells with
    | some (off, sz), some cs => bif Nat.beq (lenN cs) sz then (match over off cs cells with | some l => fillA place l rest | none => none) else none
    | _, _ => none

def places (cx : Cx) (fs : List Field) : Option (List (Nat × Nat)) :=
  match fs with
  | [] => some []
  | f :: r => match size cx f.type, places cx r with | some n, some l => some ((f.offset, n) :: l) | _, _ => none

def aggO : Option (List CV) → Out
  | some l => .val (.agg l)
  | none => .no

def buildA (cx : Cx) (t : TypeId) (parts : List (Nat × AV)) : Out :=
  match zeroCells cx t with
  | none => .no
  | some z => match und cx t with
    | some (.struct fields) => match places cx fields.toList with
      | some pl => aggO (fillA (fun i => nth pl i) z parts)
      | none => .no
    | some (.array _ e) => match size cx e with
      | some n => aggO (fillA (fun i => some (i * n, n)) z parts)
      | none => .no
    | _ => .no
noncomputable def fBuild (t : TypeId) (ps : Array (Nat × Operand)) (cx : Cx) (_ : CallF) (env : Env) (_ : St) : Out := buildA cx t (evParts env ps.toList)

def sliceNew (l : List CV) (e : TypeId) (n sz : Nat) : Out := .new (.cells l e true) fun i => .one (.slice (some (i, 0)) n (.to sz))
def rowOf (cx : Cx) (e : TypeId) (sz n : Nat) : Option (List CV) := bif Nat.beq n 0 then some [] else match zeroCells cx e with | some z => bif Nat.beq (lenN z) sz then some (repN n z) else none | none => none

def buildSliceA (cx : Cx) (t : TypeId) (len : Nat) (parts : List (Nat × AV)) : Out :=
  match und cx t with
  | some (.slice e) => match size cx e with
    | some (n + 1) => bif Nat.ble (len * (n + 1)) 16777216 then
        match rowOf cx e (n + 1) len with
        | some z => match fillA (fun i => some (i * (n + 1), n + 1)) z parts with
          | some l => sliceNew l e len (n + 1)
          | none => .no
        | none => .no
      else .no
    | _ => .no
  | _ => .no
noncomputable def fBuildSlice (t : TypeId) (n : Nat) (ps : Array (Nat × Operand)) (cx : Cx) (_ : CallF) (env : Env) (_ : St) : Out := buildSliceA cx t n (evParts env ps.toList)

def makeSliceA (cx : Cx) (t : TypeId) (len cap : AV) : Out :=
  match und cx t with
  | some (.slice e) => match natOf len, natOf cap with
    | some l, some c => match cx.P.info? e with
      | some i => bif Nat.ble (i.bytes * c) 140737488355328 && Nat.ble l c && Nat.ble c 4611686018427387904 && !(Nat.beq i.size 0) then
          match rowOf cx e i.size c with
          | some z => sliceNew z e l i.size
          | none => .no
        else .no
      | none => .no
    | _, _ => .no
  | _ => .no
noncomputable def fMakeSlice (t : TypeId) (l c : Operand) (cx : Cx) (_ : CallF) (env : Env) (_ : St) : Out := makeSliceA cx t (evA l env) (evA c env)

/-- a slice's capacity: (at least; just so?) -/
noncomputable def capOf (p : Nat × Nat) (cap : Cap) (sz : Nat) (σ : St) : Option (Nat × Bool) :=
  match cap with
  | .ex c => some (c, true)
  | .to z => bif Nat.beq z sz then (match σ.get p.1 with
    | some (.cells l _ x) => some (Nat.div (Nat.sub (lenN l) p.2) sz, x)
    | _ => none) else none

noncomputable def boundA (v : Option Operand) (dflt : Nat) (env : Env) : Option Nat :=
  match v with
  | none => some dflt
  | some v => natOf (evA v env)

noncomputable def sliceStr (s : List UInt8) (l h : Option Nat) : Out :=
  match l, h with
  | some l, some h => bif Nat.ble l h && Nat.ble h (lenN s) then
      match takeN (Nat.sub h l) (dropN l s) with
      | some b => .val (.one (.str (ofBytes b)))
      | none => .no
    else .no
  | _, _ => .no
def slV (p : Nat × Nat) (len : Nat) (cap : Cap) : Out := .val (.one (.slice (some p) len cap))
def Cap.less (l : Nat) : Cap → Cap
  | .ex c => .ex (Nat.sub c l)
  | .to z => .to z
noncomputable def sliceTwo (p : Nat × Nat) (len : Nat) (cap : Cap) (n : Nat) (l h : Option Nat) (σ : St) : Out :=
  match l, h with
  | some l, some h =>
    bif Nat.ble l h then
      bif Nat.ble h len then match cap with
        | .to z => bif Nat.beq z n then slV (p.1, Nat.add p.2 (Nat.mul l n)) (Nat.sub h l) (.to z) else .no
        | .ex c => bif Nat.beq l c then slV p (Nat.sub h l) (.ex 0) else slV (p.1, Nat.add p.2 (Nat.mul l n)) (Nat.sub h l) (.ex (Nat.sub c l))
      else match capOf p cap n σ with
        | some (c, _) => bif Nat.blt l h && Nat.ble h c then slV (p.1, Nat.add p.2 (Nat.mul l n)) (Nat.sub h l) (cap.less l) else .no
        | none => .no
    else .no
  | _, _ => .no
noncomputable def sliceThree (p : Nat × Nat) (len : Nat) (cap : Cap) (n : Nat) (l h m : Option Nat) (σ : St) : Out :=
  match l, h, m with
  | some l, some h, some m => match capOf p cap n σ with
    | some (c, _) => bif Nat.ble l h && Nat.ble h m && !(Nat.beq m l && Nat.blt 0 l) && (Nat.ble m c || Nat.ble m len) then slV (p.1, Nat.add p.2 (Nat.mul l n)) (Nat.sub h l) (.ex (Nat.sub m l)) else .no
    | none => .no
  | _, _, _ => .no

noncomputable def sliceA (cx : Cx) (t : TypeId) (x : AV) (lo hi mx : Option Operand) (env : Env) (σ : St) : Out :=
  match und cx t, x with
  | some .string, .one (.str s) => match mx with
    | none => sliceStr (bytesOf s) (boundA lo 0 env) (boundA hi (lenN (bytesOf s)) env)
    | some _ => .no
  | some (.slice e), .one (.slice none len _) => match mx, boundA lo 0 env, boundA hi len env, size cx e with
    | none, some 0, some 0, some _ => .val (.one (.slice none 0 (.ex 0)))
    | _, _, _, _ => .no
  | some (.slice e), .one (.slice (some p) len cap) => match size cx e with
    | some (n + 1) => match mx with
      | none => sliceTwo p len cap (n + 1) (boundA lo 0 env) (boundA hi len env) σ
      | some m => match hi with
        | some _ => sliceThree p len cap (n + 1) (boundA lo 0 env) (boundA hi len env) (natOf (evA m env)) σ
        | none => .no
    | _ => .no
  | some (.array n e), .one (.ptr (some p)) => match size cx e, boundA lo 0 env, boundA hi n env, mx with
    | some (k + 1), some l, some h, none => bif Nat.ble l h && Nat.ble h n then (bif Nat.beq n l then slV p (Nat.sub h l) (.ex 0) else slV (p.1, Nat.add p.2 (Nat.mul l (k + 1))) (Nat.sub h l) (.ex (Nat.sub n l))) else .no
    | _, _, _, _ => .no
  | _, _ => .no
noncomputable def fSlice (t : TypeId) (x : Operand) (lo hi mx : Option Operand) (cx : Cx) (_ : CallF) (env : Env) (σ : St) : Out := sliceA cx t (evA x env) lo hi mx env σ

def fieldOf (cx : Cx) (s : TypeId) (f : Nat) : Option Field := match und cx s with
  | some (.struct fs) => nth fs.toList f
  | _ => none
def fieldAddrA (cx : Cx) (s : TypeId) (x : AV) (f : Nat) : Out :=
  match x with
  | .one (.ptr (some p)) => match fieldOf cx s f with
    | some fd => match size cx fd.type with
      | some (_ + 1) => .val (.one (.ptr (some (p.1, Nat.add p.2 fd.offset))))
      | _ => .no
    | none => .no
  | _ => .no
noncomputable def fFieldAddr (s : TypeId) (x : Operand) (f : Nat) (cx : Cx) (_ : CallF) (env : Env) (_ : St) : Out := fieldAddrA cx s (evA x env) f
def fieldA (cx : Cx) (s : TypeId) (x : AV) (f : Nat) : Out :=
  match x with
  | .agg cs => match fieldOf cx s f with
    | some fd => outV (partA cx fd.type cs fd.offset)
    | none => .no
  | _ => .no
noncomputable def fField (s : TypeId) (x : Operand) (f : Nat) (cx : Cx) (_ : CallF) (env : Env) (_ : St) : Out := fieldA cx s (evA x env) f
def indexAddrA (cx : Cx) (t : TypeId) (x i : AV) : Out :=
  match und cx t, x, natOf i with
  | some (.slice e), .one (.slice (some p) len _), some i => match size cx e with
    | some n => bif Nat.blt i len then .val (.one (.ptr (some (p.1, Nat.add p.2 (Nat.mul i n))))) else .no
    | none => .no
  | some (.array len e), .one (.ptr (some p)), some i => match size cx e with
    | some n => bif Nat.blt i len then .val (.one (.ptr (some (p.1, Nat.add p.2 (Nat.mul i n))))) else .no
    | none => .no
  | _, _, _ => .no
noncomputable def fIndexAddr (t : TypeId) (x i : Operand) (cx : Cx) (_ : CallF) (env : Env) (_ : St) : Out := indexAddrA cx t (evA x env) (evA i env)
def indexA (cx : Cx) (t : TypeId) (x i : AV) : Out :=
  match und cx t, x, natOf i with
  | some .string, .one (.str s), some i => match nth (bytesOf s) i with
    | some b => .val (.one (.int .u8 (.ofNat b.toNat)))
    | none => .no
  | some (.array len e), .agg cs, some i => match size cx e with
    | some n => bif Nat.blt i len then outV (partA cx e cs (i * n)) else .no
    | none => .no
  | _, _, _ => .no
noncomputable def fIndex (t : TypeId) (x i : Operand) (cx : Cx) (_ : CallF) (env : Env) (_ : St) : Out := indexA cx t (evA x env) (evA i env)

def keyEq : CV → CV → Option Bool
  | .int k a, .int k' b => bif kindEq k k' then some (intEq a b) else none
  | .str a, .str b => some (bytesEq (bytesOf a) (bytesOf b))
  | .bool a, .bool b => some (a == b)
  | _, _ => none
def findA (k : CV) : List (CV × AV × Nat) → Nat → Option (Option (Nat × AV × Nat))
  | [], _ => some none
  | (c, v, b) :: r, i => match keyEq k c with
    | some true => some (some (i, v, b))
    | some false => findA k r (Nat.succ i)
    | none => none
def okKey (cx : Cx) (t : TypeId) (k : CV) : Bool :=
  match und cx t, k with
  | some (.int _), .int _ _ => true
  | some .string, .str _ => true
  | some .bool, .bool _ => true
  | _, _ => false

noncomputable def mapOf (x : AV) (σ : St) : Option (List (CV × AV × Nat)) := match x with
  | .one (.map none) => some []
  | .one (.map (some r)) => match σ.get r with
    | some (.map es _) => some es
    | _ => none
  | _ => none
def lookIn (cx : Cx) (e : TypeId) (ok : Bool) : Option (Option (Nat × AV × Nat)) → Out
  | some (some (_, v, _)) => .val (bif ok then .tup [v, .one (.bool true)] else v)
  | some none => match zero cx e with
    | .bad => .no
    | z => .val (bif ok then .tup [z, .one (.bool false)] else z)
  | none => .no
noncomputable def lookupA (cx : Cx) (t : TypeId) (x k : AV) (ok : Bool) (σ : St) : Out :=
  match und cx t, k with
  | some (.map kt e), .one k => bif okKey cx kt k then (match mapOf x σ with | some es => lookIn cx e ok (findA k es 0) | none => .no) else .no
  | _, _ => .no
noncomputable def fLookup (t : TypeId) (x k : Operand) (ok : Bool) (cx : Cx) (_ : CallF) (env : Env) (σ : St) : Out := lookupA cx t (evA x env) (evA k env) ok σ

noncomputable def mapUpdateA (cx : Cx) (t : TypeId) (m k v : AV) (σ : St) : Out :=
  match und cx t, m, k with
  | some (.map kt _), .one (.map (some r)), .one k => bif okKey cx kt k then
      match σ.get r with
      | some (.map es clock) => match findA k es 0 with
        | some (some (i, _, _)) => .st (.tup []) (σ.put r (.map (modN (fun e => (k, v, e.2.2)) es i) clock))
        | some none => .st (.tup []) (σ.put r (.map (es ++ [(k, v, clock)]) (Nat.succ clock)))
        | none => .no
      | _ => .no
    else .no
  | _, _, _ => .no
noncomputable def fMapUpdate (t : TypeId) (m k v : Operand) (cx : Cx) (_ : CallF) (env : Env) (σ : St) : Out := mapUpdateA cx t (evA m env) (evA k env) (evA v env) σ
noncomputable def mapEntryA (cx : Cx) (t : TypeId) (m k : AV) (σ : St) : Out :=
  match und cx t, m, k with
  | some (.map kt e), .one (.map (some r)), .one k => bif okKey cx kt k then
      match σ.get r with
      | some (.map es clock) => match findA k es 0 with
        | some (some (i, v, b)) => .st (.tup [v, .one (.int .i64 (.ofNat b))]) (σ.put r (.map (modN (fun e => (k, e.2)) es i) clock))
        | some none => match zero cx e with
          | .bad => .no
          | z => .st (.tup [z, .one (.int .i64 (.ofNat clock))]) (σ.put r (.map (es ++ [(k, z, clock)]) (Nat.succ clock)))
        | none => .no
      | _ => .no
    else .no
  | _, _, _ => .no
noncomputable def fMapEntry (t : TypeId) (m k : Operand) (cx : Cx) (_ : CallF) (env : Env) (σ : St) : Out := mapEntryA cx t (evA m env) (evA k env) σ
def putBorn (b : Nat) (v : AV) : List (CV × AV × Nat) → Option (List (CV × AV × Nat))
  | [] => none
  | e :: r => bif Nat.beq e.2.2 b then some ((e.1, v, e.2.2) :: r) else match putBorn b v r with | some l => some (e :: l) | none => none
noncomputable def entryStoreA (m s v : AV) (σ : St) : Out :=
  match m, natOf s with
  | .one (.map (some r)), some b => match σ.get r with
    | some (.map es clock) => match putBorn b v es with
      | some es' => .st (.tup []) (σ.put r (.map es' clock))
      | none => .no
    | _ => .no
  | _, _ => .no
noncomputable def fEntryStore (m s v : Operand) (_ : Cx) (_ : CallF) (env : Env) (σ : St) : Out := entryStoreA (evA m env) (evA s env) (evA v env) σ

/-- the cells that are handed over: of a slice or of a string -/
noncomputable def firstA (sz n : Nat) (v : AV) (σ : St) : Option (List CV) :=
  match v with
  | .one (.slice none _ _) => bif Nat.beq n 0 then some [] else none
  | .one (.slice (some p) _ _) => bif Nat.beq n 0 then some [] else match σ.get p.1 with
    | some (.cells l _ _) => takeN (Nat.mul n sz) (dropN p.2 l)
    | _ => none
  | .one (.str s) => bif Nat.beq sz 1 then (match takeN n (bytesOf s) with | some l => some (cellsOfBytes l) | none => none) else none
  | _ => none
def lenA : AV → Option Nat
  | .one (.slice _ n _) => some n
  | .one (.str s) => some (lenN (bytesOf s))
  | _ => none

noncomputable def storeCellsA (p : Nat × Nat) (cs : List CV) (v : AV) (σ : St) : Out :=
  match σ.get p.1 with
  | some (.cells l e x) => match over p.2 cs l with
    | some l' => .st v (σ.put p.1 (.cells l' e x))
    | none => .no
  | _ => .no

noncomputable def elemIs (σ : St) (i : Nat) (e : TypeId) : Bool := match σ.get i with
  | some (.cells _ e' _) => Nat.beq e' e
  | _ => false
noncomputable def appendTo (e : TypeId) (sz : Nat) (p : Option (Nat × Nat)) (len : Nat) (cap : Cap) (n : Nat) (new : List CV) (σ : St) : Out :=
  match p with
  | none => .st (.one (.slice (some (σ.next, 0)) (Nat.add len n) (.to sz))) (σ.push (.cells new e false))
  | some p => match capOf p cap sz σ with
    | none => .no
    | some (c, x) =>
      bif Nat.ble (Nat.add len n) c then storeCellsA (p.1, Nat.add p.2 (Nat.mul len sz)) new (.one (.slice (some p) (Nat.add len n) cap)) σ
      else bif x || elemIs σ p.1 e then match firstA sz len (.one (.slice (some p) len cap)) σ with
        | none => .no
        | some old => .st (.one (.slice (some (σ.next, 0)) (Nat.add len n) (.to sz))) ((bif x then σ else σ.kill p.1).push (.cells (old ++ new) e false))
      else .no

def noInt (cx : Cx) : List TypeId → Bool
  | u :: _ => match und cx u with | some (.int _) => false | none => false | _ => true
  | [] => true

noncomputable def appendA (cx : Cx) (types : List TypeId) (args : List AV) (σ : St) : Out :=
  match types, args with
  | t :: ts, s :: x :: _ => match s with
    | .one (.slice p len cap) => match und cx t with
      | some (.slice e) => match cx.P.info? e, lenA x with
        | some inf, some n => bif noInt cx ts && !(Nat.beq inf.size 0) && Nat.ble (Nat.mul (Nat.add (Nat.mul 2 (Nat.add len n)) 2048) inf.bytes) 140737488355328 && Nat.ble (Nat.add len n) 4611686018427387904 then
          match firstA inf.size n x σ, rowOf cx e inf.size 1 with
          | none, _ => .no
          | _, none => .no
          | some new, some _ => bif Nat.beq n 0 then .val s else appendTo e inf.size p len cap n new σ
          else .no
        | _, _ => .no
      | _ => .no
    | _ => .no
  | _, _ => .no

noncomputable def copyA (cx : Cx) (types : List TypeId) (args : List AV) (σ : St) : Out :=
  match types, args with
  | t :: _, .one (.slice p len _) :: x :: _ => match und cx t with
    | some (.slice e) => match size cx e, lenA x with
      | some (sz + 1), some n =>
        let n := bif Nat.ble len n then len else n
        match firstA (sz + 1) n x σ with
        | none => .no
        | some cs => match p with
          | none => .val (.one (.int .i64 (.ofNat n)))
          | some p => bif Nat.beq n 0 then .val (.one (.int .i64 0)) else storeCellsA p cs (.one (.int .i64 (.ofNat n))) σ
      | _, _ => .no
    | _ => .no
  | _, _ => .no

def minA (gt : Bool) : AV → AV → AV
  | .one (.int k x), .one (.int _ y) => .one (.int k (bif (bif gt then intLt x y else intLt y x) then y else x))
  | _, _ => .bad
def foldA (f : AV → AV → AV) : AV → List AV → AV
  | a, [] => a
  | a, b :: r => foldA f (f a b) r
def minO (gt : Bool) : List AV → Out
  | a :: r => match foldA (minA gt) a r with | .one (.int k n) => .val (.one (.int k n)) | _ => .no
  | [] => .no

noncomputable def lenB (cx : Cx) (types : List TypeId) (args : List AV) (σ : St) : Out :=
  match types, args with
  | t :: _, x :: _ => match und cx t, x with
    | some .string, .one (.str s) => .val (.one (.int .i64 (.ofNat (lenN (bytesOf s)))))
    | some (.slice _), .one (.slice _ n _) => .val (.one (.int .i64 (.ofNat n)))
    | some (.array n _), _ => .val (.one (.int .i64 (.ofNat n)))
    | some (.map _ _), .one (.map none) => .val (.one (.int .i64 0))
    | some (.map _ _), .one (.map (some r)) => match σ.get r with
      | some (.map es _) => .val (.one (.int .i64 (.ofNat (lenN es))))
      | _ => .no
    | _, _ => .no
  | _, _ => .no
noncomputable def capB (cx : Cx) (types : List TypeId) (args : List AV) (σ : St) : Out :=
  match types, args with
  | t :: _, .one (.slice p _ c) :: _ => match und cx t with
    | some (.slice e) => match p, size cx e with
      | none, _ => .val (.one (.int .i64 0))
      | some p, some (n + 1) => match capOf p c (n + 1) σ with
        | some (c, true) => .val (.one (.int .i64 (.ofNat c)))
        | _ => .no
      | _, _ => .no
    | _ => .no
  | _, _ => .no
noncomputable def deleteB (cx : Cx) (types : List TypeId) (args : List AV) (σ : St) : Out :=
  match types, args with
  | t :: _, .one (.map (some r)) :: .one k :: _ => match und cx t with
    | some (.map kt _) => bif okKey cx kt k then match σ.get r with
      | some (.map es clock) => match findA k es 0 with
        | some (some (i, _, _)) => .st (.tup []) (σ.put r (.map (es.eraseIdx i) clock))
        | some none => .st (.tup []) (σ.put r (.map es clock))
        | none => .no
      | _ => .no
      else .no
    | _ => .no
  | _, _ => .no
def sliceDataB (args : List AV) : Out :=
  match args with
  | [.one (.slice none _ _)] => .val (.one (.ptr none))
  | [.one (.slice (some p) (_ + 1) _)] => .val (.one (.ptr (some p)))
  | _ => .no
noncomputable def stringB (cx : Cx) (types : List TypeId) (args : List AV) (σ : St) : Out :=
  match types, args with
  | t :: _, [.one (.ptr p), n] => match natOf n with
    | some 0 => .val (.one (.str (ofBytes [])))
    | some n => match p with
      | none => .no
      | some (i, o) => match und cx t, σ.get i with
        | some (.pointer u), some (.cells l e _) => bif Nat.beq e u && Nat.ble n 4611686018427387904 then match size cx e, takeN n (dropN o l) with
          | some 1, some cs => match bytesAt cs with
            | some b => .st (.one (.str (ofBytes b))) (σ.kill i)
            | none => .no
          | _, _ => .no
          else .no
        | _, _ => .no
    | none => .no
  | _, _ => .no

abbrev BuiltF := Cx → List TypeId → List AV → St → Out
noncomputable def builtT (b : Builtin) : BuiltF := match b with
  | .append => appendA
  | .copy => copyA
  | .len => lenB
  | .cap => capB
  | .min => fun _ _ args _ => minO false args
  | .max => fun _ _ args _ => minO true args
  | .delete => deleteB
  | .unsafeSliceData => fun _ _ args _ => sliceDataB args
  | .unsafeString => stringB
  | _ => fun _ _ _ _ => .no

noncomputable def extA (e : Ext) (args : List AV) (σ : St) : Out :=
  match e, args with
  | .same, [x] => .val x
  | .addI64, [.one (.ptr (some (i, o))), .one (.int .i64 y)] => match σ.get i with
    | some (.cells l _ _) => match nth l o with
      | some (.int .i64 v) => storeCellsA (i, o) [.int .i64 (wrapA .i64 (Int.add v y))] (.one (.int .i64 (wrapA .i64 (Int.add v y)))) σ
      | _ => .no
    | _ => .no
  | .loadI64, [.one (.ptr (some (i, o)))] => match σ.get i with
    | some (.cells l _ _) => match nth l o with
      | some (.int .i64 v) => .val (.one (.int .i64 v))
      | _ => .no
    | _ => .no
  | .cmp, [.one (.str a), .one (.str b)] => .val (.one (.int .i64 (bif bytesEq (bytesOf a) (bytesOf b) then 0 else bif bytesLt (bytesOf a) (bytesOf b) then -1 else 1)))
  | _, _ => .no

def capVs : List (Nat × Nat) → List AV
  | [] => []
  | p :: r => .one (.ptr (some p)) :: capVs r
def outC : Option (AV × St) → Out
  | some (v, σ) => .st v σ
  | none => .no

noncomputable def callV (f : AV) (args : List AV) (cx : Cx) (call : CallF) (σ : St) : Out :=
  match f with
  | .one (.func f caps) => match cx.ext f with
    | some e => extA e (args ++ capVs caps) σ
    | none => outC (call f (args ++ capVs caps) σ)
  | _ => .no
noncomputable def fCallee (c : Callee) (args : Array Operand) (types : Array TypeId) (cx : Cx) (call : CallF) (env : Env) (σ : St) : Out :=
  match c with
  | .builtin b => builtT b cx types.toList (evList env args.toList) σ
  | .value f => callV (evA f env) (evList env args.toList) cx call σ
  | _ => .no
noncomputable def fCall (c : Call) (cx : Cx) (call : CallF) (env : Env) (σ : St) : Out := fCallee c.callee c.args c.argTypes cx call env σ

def capsOf : List AV → Option (List (Nat × Nat))
  | [] => some []
  | .one (.ptr (some p)) :: r => match capsOf r with | some l => some (p :: l) | none => none
  | _ => none

abbrev OpF := Cx → CallF → Env → St → Out
noncomputable def fMove (x : Operand) (_ : Cx) (_ : CallF) (env : Env) (_ : St) : Out := .val (evA x env)
noncomputable def fPick (c a b : Operand) (_ : Cx) (_ : CallF) (env : Env) (_ : St) : Out := match evA c env with
  | .one (.bool t) => .val (bif t then evA a env else evA b env)
  | _ => .no
def newCells (e : TypeId) : Option (List CV) → Out
  | some z => .new (.cells z e true) fun i => .one (.ptr (some (i, 0)))
  | none => .no
def fAlloc (e : TypeId) (cx : Cx) (_ : CallF) (_ : Env) (_ : St) : Out := newCells e (zeroCells cx e)
noncomputable def fBox (e : TypeId) (x : Operand) (_ : Cx) (_ : CallF) (env : Env) (_ : St) : Out := newCells e (evA x env).cells
noncomputable def fNilCheck (x : Operand) (_ : Cx) (_ : CallF) (env : Env) (_ : St) : Out := match evA x env with
  | .one (.ptr (some p)) => .val (.one (.ptr (some p)))
  | _ => .no
noncomputable def fMakeFunc (fn : Fn) (fs cs : Array Operand) (_ : Cx) (_ : CallF) (env : Env) (_ : St) : Out := match fn with
  | .func f => bif fs.toList.isEmpty then (match capsOf (evList env cs.toList) with | some l => .val (.one (.func f l)) | none => .no) else .no
  | _ => .no
noncomputable def fMakeMap (t : TypeId) (r : Option Operand) (cx : Cx) (_ : CallF) (env : Env) (_ : St) : Out :=
  match r with
  | none => .new (.map [] 0) fun i => .one (.map (some i))
  | some r => match evA r env, und cx t with | .one (.int _ _), some (.map _ _) => .new (.map [] 0) fun i => .one (.map (some i)) | _, _ => .no
noncomputable def fExtract (x : Operand) (i : Nat) (_ : Cx) (_ : CallF) (env : Env) (_ : St) : Out := match evA x env with
  | .tup l => outV (nth l i)
  | _ => .no
def fNo : OpF := fun _ _ _ _ => .no

noncomputable def opT (o : Op) : OpF := match o with
  | .move x => fMove x
  | .assign x => fMove x
  | .pick c a b => fPick c a b
  | .alloc e => fAlloc e
  | .box e x => fBox e x
  | .build t ps => fBuild t ps
  | .buildSlice t n ps => fBuildSlice t n ps
  | .load t a => fLoad t a
  | .store t a v => fStore t a v
  | .nilCheck x => fNilCheck x
  | .binOp op t x y _ => fBin op t x y
  | .unOp op _ x => fUn op x
  | .convert s d x => fConv s d x
  | .makeFunc fn fs cs => fMakeFunc fn fs cs
  | .makeMap t r => fMakeMap t r
  | .makeSlice t l c => fMakeSlice t l c
  | .slice t x lo hi mx => fSlice t x lo hi mx
  | .fieldAddr s x f => fFieldAddr s x f
  | .field s x f => fField s x f
  | .indexAddr t x i => fIndexAddr t x i
  | .index t x i => fIndex t x i
  | .lookup t x k ok => fLookup t x k ok
  | .mapUpdate t m k v => fMapUpdate t m k v
  | .mapEntry t m k => fMapEntry t m k
  | .entryStore _ m s v => fEntryStore m s v
  | .extract x i => fExtract x i
  | .call c => fCall c
  | _ => fNo

noncomputable def putA (env : Env) (d : Option Tmp) (v : AV) : Env :=
  match d with
  | some t => ⟨env.t.set .bad v t, env.g⟩
  | none => env

/-- what a guard's operation yielded: none if that is not known -/
noncomputable def yieldA (all : List Oper) (env : Env) (j : Nat) (want : Bool) : Option Bool :=
  match nth all j with
  | some o => match o.dst with
    | some d => match env.t.get .bad d with
      | .one (.bool b) => some (b == want)
      | .tup [] => some false
      | _ => none
    | none => some false
  | none => some false
noncomputable def wantA (all : List Oper) (env : Env) (g : Option (Nat × Bool)) : Option Bool :=
  match g with
  | none => some true
  | some (j, want) => yieldA all env j want

inductive Res where
  | fail
  | nrm (env : Env) (σ : St)
  | exit (id : Nat) (env : Env) (σ : St)
  | ret (env : Env) (σ : St)

abbrev M := Cx → CallF → Env → St → Res

noncomputable def opOut (d : Option Tmp) (k : Env → St → Res) (env : Env) (σ : St) (o : Out) : Res :=
  match o with
  | .no => .fail
  | .val v => k (putA env d v) σ
  | .new b f => k (putA env d (f σ.next)) (σ.push b)
  | .st v σ => k (putA env d v) σ
noncomputable def opStep (all : List Oper) (o : Oper) (cx : Cx) (call : CallF) (k : Env → St → Res) (env : Env) (σ : St) : Res :=
  match wantA all env o.guard with
  | some true => opOut o.dst k env σ (opT o.op cx call env σ)
  | some false => k (putA env o.dst (.tup [])) σ
  | none => .fail
noncomputable def seqR (all : List Oper) (l : List Oper) (cx : Cx) (call : CallF) (env : Env) (σ : St) : Res :=
  List.rec (motive := fun _ => Env → St → Res) (fun env σ => .nrm env σ) (fun o _ ih env σ => opStep all o cx call ih env σ) l env σ


/-! A region that draws its order: the operations that act are in one order in all listings; all others are run as late as may be; what is read is read anew in each state in which it may be read. -/

def isEff : Op → Bool
  | .store .. => true
  | .mapUpdate .. => true
  | .mapEntry .. => true
  | .entryStore .. => true
  | .call c => match c.callee with
    | .builtin b => (match b with | .append => true | .copy => true | .clear => true | .delete => true | .unsafeString => true | _ => false)
    | _ => true
  | _ => false
def isNew : Op → Bool
  | .alloc _ => true
  | .box .. => true
  | .buildSlice .. => true
  | .makeMap .. => true
  | .makeSlice .. => true
  | .convert .. => true
  | _ => false

def edgeMask (acc : List Nat) : List Edge → Nat
  | [] => 0
  | e :: r => bif Region.binds .any e then Nat.lor (Nat.lor (Nat.pow 2 e.on) ((nth acc e.on).getD 0)) (edgeMask acc r) else edgeMask acc r
def befores (acc : List Nat) : List Oper → List Nat
  | [] => acc
  | o :: r => befores (acc ++ [edgeMask acc o.after.toList]) r
def bit (m i : Nat) : Bool := Nat.beq (Nat.mod (Nat.shiftRight m i) 2) 1
def bef (ms : List Nat) (i j : Nat) : Bool := bit ((nth ms j).getD 0) i

def numbered {α : Type} : Nat → List α → List (Nat × α)
  | _, [] => []
  | i, a :: r => (i, a) :: numbered (Nat.succ i) r
def keepB {α : Type} (f : α → Bool) : List α → List α
  | [] => []
  | a :: r => bif f a then a :: keepB f r else keepB f r
/-- as late as may be: ahead of each acting operation what it waits for, then it -/
def late (ms : List Nat) : List (Nat × Oper) → List (Nat × Oper) → List (Nat × Oper)
  | [], rest => rest
  | e :: es, rest => keepB (fun p => bef ms p.1 e.1) rest ++ (e :: late ms es (keepB (fun p => !(bef ms p.1 e.1) && !(Nat.beq p.1 e.1)) rest))
def allB {α : Type} (f : α → Bool) : List α → Bool
  | [] => true
  | a :: r => f a && allB f r
def tmpIs (t : Tmp) : Operand → Bool
  | .tmp u => Nat.beq u t
  | _ => false
def anyB {α : Type} (f : α → Bool) : List α → Bool
  | [] => false
  | a :: r => f a || anyB f r
def dstIs (t : Tmp) (o : Oper) : Bool := match o.dst with | some d => Nat.beq d t | none => false
/-- does an operation look at what another one yields, or yield into the same place? -/
def meets (all : List Oper) (x y : Oper) : Bool :=
  match x.dst with
  | none => false
  | some d => dstIs d y || anyB (tmpIs d) y.op.operands.toList || (match y.guard with
    | some (g, _) => (match nth all g with | some z => dstIs d z | none => false)
    | none => false)
/-- the masks are what is ahead of each; who meets is ordered; a guard is ahead -/
def drawOk (all : List Oper) (ms : List Nat) (l : List (Nat × Oper)) : Bool :=
  allB (fun p => Nat.beq ((nth ms p.1).getD 0) (edgeMask ms p.2.after.toList)) l &&
  allB (fun p => allB (fun q => Nat.beq p.1 q.1 || !(meets all p.2 q.2) || (bef ms p.1 q.1 || bef ms q.1 p.1)) l) l

def cvEq : CV → CV → Bool
  | .bool a, .bool b => a == b
  | .int k a, .int j b => kindEq k j && intEq a b
  | .str a, .str b => bytesEq (bytesOf a) (bytesOf b)
  | .ptr none, .ptr none => true
  | .ptr (some a), .ptr (some b) => Nat.beq a.1 b.1 && Nat.beq a.2 b.2
  | .slice none a _, .slice none b _ => Nat.beq a b
  | .slice (some a) x c, .slice (some b) y d => Nat.beq a.1 b.1 && Nat.beq a.2 b.2 && Nat.beq x y && (match c, d with | .to c, .to d => Nat.beq c d | .ex c, .ex d => Nat.beq c d | _, _ => false)
  | .map none, .map none => true
  | .map (some a), .map (some b) => Nat.beq a b
  | .nilFunc, .nilFunc => true
  | .nilI, .nilI => true
  | _, _ => false
def cvsEq : List CV → List CV → Bool
  | [], [] => true
  | a :: x, b :: y => cvEq a b && cvsEq x y
  | _, _ => false
def avEq : AV → AV → Bool
  | .one a, .one b => cvEq a b
  | .agg a, .agg b => cvsEq a b
  | _, _ => false

def isPure : Op → Bool
  | .load .. => false
  | .lookup .. => false
  | .convert .. => false
  | .slice .. => false
  | .call _ => false
  | _ => true

/-- the states in which the operation may run: from the last one back to the one behind an acting operation that it waits for -/
noncomputable def sameIn (p : Nat) (o : Op) (cx : Cx) (call : CallF) (env : Env) (ms : List Nat) (v : AV) : List (Nat × St) → Bool
  | [] => true
  | (i, σ) :: r => (match opT o cx call env σ with | .val v' => avEq v v' | _ => false) && (bef ms i p || sameIn p o cx call env ms v r)

abbrev DrawK := Nat → List (Nat × St) → Env → St → Res
noncomputable def drawEff (i : Nat) (d : Option Tmp) (ms : List Nat) (k : DrawK) (done : Nat) (hist : List (Nat × St)) (env : Env) (v : AV) (σ : St) : Res :=
  bif Nat.beq ((nth ms i).getD 0) done then k (Nat.lor done (Nat.pow 2 i)) ((i, σ) :: hist) (putA env d v) σ else .fail
noncomputable def drawOut (i : Nat) (o : Oper) (ms : List Nat) (base res : Nat) (cx : Cx) (call : CallF) (k : DrawK) (done : Nat) (hist : List (Nat × St)) (env : Env) (σ : St) (out : Out) : Res :=
  match out with
  | .no => .fail
  | .val v => bif isEff o.op then drawEff i o.dst ms k done hist env v σ
    else bif isPure o.op || sameIn i o.op cx call env ms v hist then k (Nat.lor done (Nat.pow 2 i)) hist (putA env o.dst v) σ else .fail
  | .new b f => bif isNew o.op && Nat.blt i res then k (Nat.lor done (Nat.pow 2 i)) hist (putA env o.dst (f (Nat.add base i))) ⟨σ.next, σ.m.set none (some b) (Nat.add base i)⟩ else .fail
  | .st v σ' => bif isEff o.op then drawEff i o.dst ms k done hist env v σ' else .fail
noncomputable def drawStep (all : List Oper) (p : Nat × Oper) (ms : List Nat) (base res : Nat) (cx : Cx) (call : CallF) (k : DrawK) (done : Nat) (hist : List (Nat × St)) (env : Env) (σ : St) : Res :=
  bif !(bit done p.1) && Nat.beq (Nat.lor done ((nth ms p.1).getD 0)) done then
    match wantA all env p.2.guard with
    | some true => drawOut p.1 p.2 ms base res cx call k done hist env σ (opT p.2.op cx call env σ)
    | some false => bif isEff p.2.op then drawEff p.1 p.2.dst ms k done hist env (.tup []) σ else k (Nat.lor done (Nat.pow 2 p.1)) hist (putA env p.2.dst (.tup [])) σ
    | none => .fail
  else .fail
noncomputable def drawList (all : List Oper) (ms : List Nat) (base res full : Nat) (l : List (Nat × Oper)) (cx : Cx) (call : CallF) (done : Nat) (hist : List (Nat × St)) (env : Env) (σ : St) : Res :=
  List.rec (motive := fun _ => DrawK) (fun done _ env σ => bif Nat.beq done full then .nrm env σ else .fail) (fun p _ ih done hist env σ => drawStep all p ms base res cx call ih done hist env σ) l done hist env σ
noncomputable def drawGo (all : List Oper) (n res : Nat) (ms : List Nat) (l effs : List (Nat × Oper)) : M := fun cx call env σ =>
  bif drawOk all ms l then
    (fun σ' : St => drawList all ms σ.next res (Nat.sub (Nat.pow 2 n) 1) (late ms effs l) cx call 0 [(n, σ')] env σ') ⟨Nat.add σ.next res, σ.m⟩
  else .fail
noncomputable def drawR (all : List Oper) : M := drawGo all (lenN all) (bif anyB (fun o => isNew o.op) all then lenN all else 0) (befores [] all) (numbered 0 all) (keepB (fun p => isEff p.2.op) (numbered 0 all))

noncomputable def hSkip : M := fun _ _ env σ => .nrm env σ
noncomputable def hRegion (ops : Array Oper) (draw : Bool) : M := bif draw then drawR ops.toList else seqR ops.toList ops.toList
def thenR (b : Env → St → Res) : Res → Res
  | .nrm env σ => b env σ
  | r => r
def hSeq (a b : M) : M := fun cx call env σ => thenR (b cx call) (a cx call env σ)
noncomputable def condR (v : AV) (a b : Res) : Res := match v with
  | .one (.bool t) => bif t then a else b
  | _ => .fail
noncomputable def hCond (c : Operand) (a b : M) : M := fun cx call env σ => condR (evA c env) (a cx call env σ) (b cx call env σ)
def blockR (id : Nat) : Res → Res
  | .exit j env σ => bif Nat.beq j id then .nrm env σ else .exit j env σ
  | r => r
def hBlock (id : Nat) (a : M) : M := fun cx call env σ => blockR id (a cx call env σ)
noncomputable def loopN (f : Env → St → Res) (n : Nat) (env : Env) (σ : St) : Res :=
  Nat.rec (motive := fun _ => Env → St → Res) (fun _ _ => .fail) (fun _ ih env σ => thenR ih (f env σ)) n env σ
noncomputable def hLoop (a : M) : M := fun cx call env σ => loopN (a cx call) cx.fuel env σ
def hExit (id : Nat) : M := fun _ _ env σ => .exit id env σ
def hRet : M := fun _ _ env σ => .ret env σ
def hFail : M := fun _ _ _ _ => .fail

noncomputable def comp (c : Code) : M :=
  Code.rec (motive := fun _ => M) hSkip (fun _ ops draw => hRegion ops draw) (fun _ _ a b => hSeq a b) (fun c _ _ a b => hCond c a b)
    (fun id _ a => hBlock id a) (fun _ a => hLoop a) (fun _ _ _ _ _ _ => hFail) (fun id => hExit id) (fun _ _ => hFail) (fun _ => hSkip) (fun _ => hFail) hRet (fun _ => hFail) c

noncomputable def resOne (cx : Cx) (env : Env) (σ : St) (r : ResultVar) : Option AV := match r with
  | .tmp t => some (env.t.get .bad t)
  | .cell a t => loadA cx t (env.t.get .bad a) σ
noncomputable def resList (cx : Cx) (env : Env) (σ : St) : List ResultVar → Option (List AV)
  | [] => some []
  | r :: l => match resOne cx env σ r, resList cx env σ l with
    | some v, some vs => some (v :: vs)
    | _, _ => none
def tupOf : List AV → AV
  | [v] => v
  | vs => .tup vs
noncomputable def finishR (cx : Cx) (rs : List ResultVar) (env : Env) (σ : St) : Option (AV × St) := match resList cx env σ rs with
  | some vs => some (tupOf vs, σ)
  | none => none
noncomputable def finish (cx : Cx) (rs : List ResultVar) : Res → Option (AV × St)
  | .nrm env σ => finishR cx rs env σ
  | .ret env σ => finishR cx rs env σ
  | _ => none

noncomputable def argsEnv : List AV → Nat → Tr AV → Tr AV
  | [], _, e => e
  | v :: r, i, e => argsEnv r (Nat.succ i) (e.set .bad v i)

/-- each operation yields into a place that there is -/
def dstOk (n : Nat) (o : Oper) : Bool := match o.dst with | some d => Nat.blt d n | none => true
noncomputable def codeOk (n : Nat) (c : Code) : Bool :=
  Code.rec (motive := fun _ => Bool) true (fun _ ops _ => allB (dstOk n) ops.toList) (fun _ _ a b => a && b) (fun _ _ _ a b => a && b) (fun _ _ a => a) (fun _ a => a) (fun _ _ _ _ _ _ => true) (fun _ => true) (fun _ _ => true) (fun _ => true) (fun _ => true) true (fun _ => true) c

noncomputable def enterF (cx : Cx) (call : CallF) (args : List AV) (σ : St) : Option Func → Option (AV × St)
  | some fn => match fn.body with
    | some c => bif Nat.ble (lenN args) fn.ntmps && codeOk fn.ntmps c then finish cx fn.results.toList (comp c cx call ⟨argsEnv args 0 .leaf, cx.g⟩ σ) else none
    | none => none
  | none => none
noncomputable def callStep (cx : Cx) (call : CallF) : CallF := fun f args σ => match cx.tab f with
  | some s => s args σ
  | none => enterF cx call args σ cx.P.funcs[f]?
noncomputable def callN (cx : Cx) (n : Nat) : CallF := Nat.rec (motive := fun _ => CallF) (fun _ _ _ => none) (fun _ ih => callStep cx ih) n
end Go.Run
