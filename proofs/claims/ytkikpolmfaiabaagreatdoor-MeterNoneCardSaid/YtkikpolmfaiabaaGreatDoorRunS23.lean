import Derived.Test.YtkikpolmfaiabaaGreatDoorRunS22
import GoSem.Extern.Table
import Derived.Lib.Bytealg
namespace Go.Run
variable {cx : Cx} {π : Pl} {σ : St} {w : World} {env : Env} {a : Act} {call : CallF}

theorem compareBytes_eq : ∀ (x y : List UInt8), Go.Lib.compareBytes x y = (bif bytesEq x y then 0 else bif bytesLt x y then -1 else 1)
  | [], [] => rfl
  | [], _ :: _ => rfl
  | _ :: _, [] => rfl
  | a :: x, b :: y => by
    have ih := compareBytes_eq x y
    unfold Go.Lib.compareBytes bytesEq bytesLt
    rw [ih, u8eq_ok]
    by_cases hab : a = b
    · subst hab
      have : ¬ a < a := UInt8.lt_irrefl a
      have h2 : Nat.blt a.toNat a.toNat = false := by cases h : Nat.blt a.toNat a.toNat <;> simp_all [Nat.blt_eq]
      simp [this, h2]
    · by_cases hlt : a < b
      · have h2 : Nat.blt a.toNat b.toNat = true := by rw [Nat.blt_eq]; exact UInt8.lt_iff_toNat_lt.1 hlt
        have h4 : (a == b) = false := by simpa using hab
        simp [hlt, h2, h4]
      · have h3 : b < a := UInt8.lt_of_le_of_ne (UInt8.not_lt.1 hlt) (Ne.symm hab)
        have h2 : Nat.blt a.toNat b.toNat = false := by
          cases h : Nat.blt a.toNat b.toNat
          · rfl
          · rw [Nat.blt_eq] at h; exact absurd (UInt8.lt_iff_toNat_lt.2 h) hlt
        have h4 : (a == b) = false := by simpa using hab
        simp [hlt, h2, h4, h3]

/-- what stands for the functions that the model gives -/
def entry : Ext → Array Value → Sem Value
  | .same => Extern.AbiNoEscape.same
  | .addI64 => Extern.Atomic.update (Op.intArith .add) .i64 true
  | .loadI64 => Extern.Atomic.loadT (.int .i64)
  | .cmp => Extern.BytealgCompare.compare

structure ExtOk (cx : Cx) : Prop where
  ext : ∀ f e, cx.ext f = some e → ∃ fn, cx.P.funcs[f]? = some fn ∧ fn.body = none ∧ Extern.findNext fn = none ∧ Extern.find fn = some (entry e)
  name : ∀ (f : FuncId) (fn : Func), cx.P.funcs[f]? = some fn → (fn.name == "runtime.NumGoroutine") = false

theorem RT.nil {vs : List Value} (h : RT π [] vs) : vs = [] := by cases vs with
  | nil => rfl
  | cons _ _ => simp [RT] at h
theorem RT.appendT : ∀ {l m : List AV} {vs us : List Value}, RT π l vs → RT π m us → RT π (l ++ m) (vs ++ us)
  | [], _, vs, _, h, k => by have := h.nil; subst this; exact k
  | c :: l, m, [], us, h, k => by simp [RT] at h
  | c :: l, m, v :: vs, us, h, k => by
    simp only [RT] at h
    show RT π (c :: (l ++ m)) (v :: (vs ++ us))
    simp only [RT]
    exact ⟨h.1, RT.appendT h.2 k⟩
theorem capVs_ok : ∀ {l : List (Nat × Nat)} {vs : List Value}, RPs π l vs → RT π (capVs l) vs
  | [], [], _ => by simp [RT, capVs]
  | p :: l, v :: vs, h => by
    show RT π (.one (.ptr (some p)) :: capVs l) (v :: vs)
    simp only [RT, RA]
    exact ⟨h.1, capVs_ok h.2⟩
theorem capsOf_ok : ∀ {l : List AV} {m : List (Nat × Nat)} {vs : List Value}, capsOf l = some m → RT π l vs → RPs π m vs
  | [], m, vs, h, k => by cases h; have := k.nil; subst this; trivial
  | c :: l, m, [], h, k => by simp [RT] at k
  | c :: l, m, v :: vs, h, k => by
    simp only [RT] at k
    unfold capsOf at h
    split at h
    · rename_i e; cases e
    · rename_i p r e
      cases e
      split at h
      · rename_i m' hm
        cases h
        have k1 := k.1
        simp only [RA] at k1
        exact ⟨k1, capsOf_ok hm k.2⟩
      · cases h
    · cases h

theorem ext_ok (hR : R π σ w) {e : Ext} {as : List AV} {vs : Array Value} (h : RT π as vs.toList) : Yields cx.P π σ w (entry e vs) (extA e as σ) := by
  unfold extA
  split
  · exact same_ok h rfl
  · rename_i p y
    split
    · rename_i l e x hi
      split
      · rename_i v hn
        exact addI64_ok hR (p := (_, _)) h hi hn
      · trivial
    · trivial
  · split
    · rename_i l e x hi
      split
      · rename_i v hn
        exact loadI64_ok hR (p := (_, _)) h hi hn
      · trivial
    · trivial
  · rename_i x y
    obtain ⟨X, r, hv, hx, hr⟩ := h.cons
    obtain ⟨Y, r', rfl, hy, hr'⟩ := hr.cons'
    have := hr'.nil
    subst this
    simp only [RA] at hx hy
    have hX : X = .string x := hx
    have hY : Y = .string y := hy
    subst hX; subst hY
    have : vs = #[.string x, .string y] := by apply Array.toList_inj.1; simpa using hv
    subst this
    refine yields_val (x := .int .i64 (Go.Lib.compareBytes x.data.toList y.data.toList)) (Go.Lib.run_compareString x y w) ?_
    rw [compareBytes_eq]
    exact RA_int _ _
  · trivial

/-- the variables' addresses -/
def GlobOk (cx : Cx) (π : Pl) : Prop := ∀ g, RA π (cx.g.get .bad g) (.pointer (some ⟨g, 0, none⟩))
theorem GlobOk.mono {π π' : Pl} (h : π.le π') (g : GlobOk cx π) : GlobOk cx π' := fun i => (g i).mono h

def Post (P : Program) (π : Pl) (σ : St) (w : World) (v : AV) (σ' : St) : Ending → World → Prop := fun e w' => ∃ π' x, e = .returned x ∧ R π' σ' w' ∧ RA π' v x ∧ Go π σ w π' σ' w'

/-- calls are what the model makes of them -/
def CallOk (cx : Cx) (call : CallF) : Prop := ∀ f args σ v σ', call f args σ = some (v, σ') → ∀ π w (vs : Array Value), R π σ w → GlobOk cx π → RT π args vs.toList →
  (∃ fn, cx.P.funcs[f]? = some fn ∧ fn.body ≠ none) ∧ Calls cx.P f vs w (Post cx.P π σ w v σ')

theorem callV_ok {o : Oper} {next : Act → World → Prop} {Q : Exit → Act → World → Prop} (hx : ExtOk cx) (hc : CallOk cx call) (hR : R π σ w) (hG : GlobOk cx π) {c : Call} (hop : o.op = .call c) {f : Operand} (hf : c.callee = .value f) (hE : RE π env a)
    (h : Conts o π σ w a next (callV (evA f env) (evList env c.args.toList) cx call σ)) : o.wp cx.P a w next Q := by
  have he : execOp a.eval o = (do let d ← Deferred.ofValue (a.eval f) (c.args.map a.eval); invoke d.target d.args) := by
    unfold execOp
    rw [hop]
    simp only [resolve, hf]
  have hargs : RT π (evList env c.args.toList) (c.args.map a.eval).toList := by simpa using evList_ok hE c.args.toList
  have hfv := evA_ok hE f
  unfold callV at h
  split at h
  · rename_i g caps hgv
    rw [hgv] at hfv
    simp only [RA] at hfv
    obtain ⟨cv, hcv, hps⟩ := hfv
    have hall : RT π (evList env c.args.toList ++ capVs caps) (c.args.map a.eval ++ cv).toList := by simpa using hargs.appendT (capVs_ok hps)
    have he' : execOp a.eval o = callFunc g (c.args.map a.eval ++ cv) := by
      rw [he, hcv]
      show (do let d ← (pure { target := .fn (.func g) cv, args := #[] ++ c.args.map a.eval } : Sem Deferred); invoke d.target d.args) = _
      rw [Array.empty_append]
      rfl
    cases hext : cx.ext g with
    | some e =>
      rw [hext] at h
      obtain ⟨fn, h1, h2, h3, h4⟩ := hx.ext g e hext
      have hn : ¬ fn.name = "runtime.NumGoroutine" := by simpa using hx.name g fn h1
      have hy := ext_ok (cx := cx) hR (e := e) hall
      have hrun : (execOp a.eval o).run cx.P w = ((do pure (.value (← entry e (c.args.map a.eval ++ cv))) : Sem Next)).run cx.P w := by
        rw [he']
        unfold callFunc
        simp [h1, hn, h2, h3, h4]
      unfold Oper.wp
      rw [hrun]
      simp only at h
      revert h hy
      generalize extA e (evList env c.args.toList ++ capVs caps) σ = out
      intro h hy
      cases out with
      | no => exact h.elim
      | val v => obtain ⟨x, hr, hx⟩ := hy; simp [hr, Oper.upon]; exact h x hx
      | new b f => obtain ⟨x, w1, pl, hr, hx⟩ := hy; simp [hr, Oper.upon]; exact h x w1 pl hx
      | st v σ' => obtain ⟨x, w1, π', hr, h1, h2, h3⟩ := hy; simp [hr, Oper.upon]; exact h x w1 π' h1 h2 h3
    | none =>
      rw [hext] at h
      simp only at h
      unfold outC at h
      split at h
      · rename_i v σ' hcall
        obtain ⟨⟨fn, h1, h2⟩, hcalls⟩ := hc g _ σ v σ' hcall π w _ hR hG hall
        have hn : ¬ fn.name = "runtime.NumGoroutine" := by simpa using hx.name g fn h1
        have hrun : (execOp a.eval o).run cx.P w = .ok (.enter g (c.args.map a.eval ++ cv)) w := by
          rw [he']
          unfold callFunc
          simp [h1, hn, h2]
        unfold Oper.wp
        rw [hrun, Oper.upon_enter]
        refine hcalls.mono ?_
        rintro e w' ⟨π', x, rfl, k1, k2, k3⟩
        exact h x w' π' k1 k2 k3
      · exact h.elim
  · exact h.elim

theorem makeMap_ok {t : TypeId} {r : Option Operand} (hE : RE π env a) : Yields cx.P π σ w (Instr.makeMap t (r.map a.eval)) (fMakeMap t r cx call env σ) := by
  have key : ∀ w : World, NewOk π w (w.alloc (.map #[] 0)) (w.heap.size, 0, 0) (.map [] 0) (fun i => .one (.map (some i))) (.map (some w.heap.size)) := fun w =>
    { at_ := rfl, more := more_alloc _ _, blk := fun i hi => ⟨#[], heap_alloc _ _, trivial⟩, val := fun i hi => by simp only [RA]; exact ⟨_, Pl.upd_same _ _ _, rfl⟩ }
  unfold fMakeMap
  cases r with
  | none =>
    refine ⟨.map (some w.heap.size), _, _, ?_, key w⟩
    simp [Instr.makeMap]
  | some r =>
    simp only
    split
    · rename_i k n kt e hr hu
      have hrv := evA_ok hE r
      rw [hr] at hrv
      simp only [RA] at hrv
      have hrv' : a.eval r = .int k n := hrv
      refine ⟨.map (some w.heap.size), _, _, ?_, key w⟩
      simp [Instr.makeMap, und_run hu, hrv', asInt, asIntOf]
    · trivial

def exA (x : AV) (i : Nat) : Out := match x with | .tup l => outV (nth l i) | _ => .no
theorem extract_ok {x : AV} {i : Nat} {X : Value} (hx : RA π x X) : Yields cx.P π σ w (Instr.extract X i) (exA x i) := by
  cases x with
  | tup l =>
    refine yields_outV fun v hv => ?_
    rw [nth_eq] at hv
    simp only [RA] at hx
    obtain ⟨vs, rfl, hl⟩ := hx
    have key : ∀ (l : List AV) (us : List Value) (i : Nat), RT π l us → l[i]? = some v → ∃ u, us[i]? = some u ∧ RA π v u := by
      intro l
      induction l with
      | nil => intro us i _ h; simp at h
      | cons c l ih =>
        intro us i hr h
        cases us with
        | nil => simp [RT] at hr
        | cons u us =>
          simp only [RT] at hr
          cases i with
          | zero => simp at h; subst h; exact ⟨u, rfl, hr.1⟩
          | succ i => simp at h; obtain ⟨y, h1, h2⟩ := ih us i hr.2 h; exact ⟨y, by simpa using h1, h2⟩
    obtain ⟨u, h1, h2⟩ := key l vs.toList i hl hv
    refine ⟨u, ?_, h2⟩
    have : vs[i]? = some u := by simpa using h1
    simp [Instr.extract, this]
  | _ => trivial
end Go.Run
