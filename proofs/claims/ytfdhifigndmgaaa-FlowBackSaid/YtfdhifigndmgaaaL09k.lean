/- Keys of flows (layer 9), told by plain functions on bytes. -/
import Derived.Test.YtfdhifigndmgaaaLAt
import Derived.Test.YtfdhifigndmgaaaQx3
import Derived.Test.YtfdhifigndmgaaaQx5
import Derived.Test.YtfdhifigndmgaaaQx7
import Derived.Test.YtfdhifigndmgaaaQx8
import Derived.Test.YtfdhifigndmgaaaQx9
namespace Go.Proofs.Ytfdhifigndmgaaa.L09
open Go Go.RowKit Go.Proofs.Ytfdhifigndmgaaa.Q Go.Proofs.Ytfdhifigndmgaaa.Base Go.Proofs.Ytfdhifigndmgaaa.L04 Go.Proofs.Ytfdhifigndmgaaa.LAt Go.Proofs.YtfdhifigndmgaaaW.PrintWords Go.Proofs.YtfdhifigndmgaaaW.PrintMore
set_option linter.unusedVariables false
set_option linter.unusedSimpArgs false

structure Fl where
  src : ByteArray
  dst : ByteArray
  proto : Int
  sp : Int
  dp : Int
def okF (f : Fl) : Prop := f.src.size = 16 ∧ f.dst.size = 16 ∧ (0 ≤ f.proto ∧ f.proto ≤ 255) ∧ (0 ≤ f.sp ∧ f.sp ≤ 65535) ∧ (0 ≤ f.dp ∧ f.dp ≤ 65535)
instance (f : Fl) : Decidable (okF f) := by unfold okF; infer_instance
def keyL (f : Fl) : List UInt8 := f.src.data.toList ++ f.dst.data.toList ++ one f.proto ++ two f.sp ++ two f.dp
def keyS (f : Fl) : ByteArray × Int := if okF f then (mkB (keyL f), 0) else (mkB [], 1)
theorem put_small (n : Int) (b : Nat) (hb : b = 1 ∨ b = 2) : (putS n (b : Int)).1.size ≤ 2 ∧ ((putS n (b : Int)).2 = 0 ∨ (putS n (b : Int)).2 = 1) := by
  unfold putS
  split
  · exact ⟨by simp [mkB_size], .inr rfl⟩
  · refine ⟨?_, .inl rfl⟩
    simp only [mkB_size, enc_length]; omega
theorem put1_ok (n : Int) : (putS n 1).2 = 0 ↔ (0 ≤ n ∧ n ≤ 255) := by
  unfold putS
  simp only [show (1 : Int).toNat = 1 from rfl]
  split
  · constructor
    · intro h; exact absurd h (by decide)
    · intro h; omega
  · constructor
    · intro _; omega
    · intro _; rfl
theorem put2_ok (n : Int) : (putS n 2).2 = 0 ↔ (0 ≤ n ∧ n ≤ 65535) := by
  unfold putS
  simp only [show (2 : Int).toNat = 2 from rfl]
  split
  · constructor
    · intro h; exact absurd h (by decide)
    · intro h; omega
  · constructor
    · intro _; omega
    · intro _; rfl
theorem mx3 (a b c : Int) (ha : a = 0 ∨ a = 1) (hb : b = 0 ∨ b = 1) (hc : c = 0 ∨ c = 1) : mx (mx a b) c = 0 ↔ a = 0 ∧ b = 0 ∧ c = 0 := by
  rcases ha with rfl | rfl <;> rcases hb with rfl | rfl <;> rcases hc with rfl | rfl <;> decide
theorem key_eq (f : Fl) (k : Nat) (hk : 20 ≤ k) : flow_Key.f k f.src f.dst f.proto f.sp f.dp = some (keyS f) := by
  unfold flow_Key.f keyS
  rw [put_eq _ _ _ (by omega), Option.bind_some, put_eq _ _ _ (by omega), Option.bind_some, put_eq _ _ _ (by omega), Option.bind_some]
  by_cases c1 : f.src.size = 16
  case neg => rw [if_neg (by omega), if_neg (fun o : okF f => c1 o.1)]; rfl
  by_cases c2 : f.dst.size = 16
  case neg => rw [if_pos (by omega), if_neg (by omega), if_neg (fun o : okF f => c2 o.2.1)]; rfl
  rw [if_pos (by omega), if_pos (by omega)]
  have p1 := put_small f.proto 1 (by omega)
  have p2 := put_small f.sp 2 (by omega)
  have p3 := put_small f.dp 2 (by omega)
  have m := mx3 _ _ _ p1.2 p2.2 p3.2
  rw [show ((1 : Nat) : Int) = 1 from rfl, show ((2 : Nat) : Int) = 2 from rfl, put1_ok, put2_ok, put2_ok] at m
  by_cases c3 : (0 ≤ f.proto ∧ f.proto ≤ 255) ∧ (0 ≤ f.sp ∧ f.sp ≤ 65535) ∧ (0 ≤ f.dp ∧ f.dp ≤ 65535)
  case neg => rw [if_neg (fun h => c3 (m.1 h)), if_neg (fun o : okF f => c3 o.2.2)]; rfl
  have hok : okF f := ⟨c1, c2, c3⟩
  rw [if_pos (m.2 c3), if_pos hok, putS_one c3.1.1 c3.1.2, putS_two c3.2.1.1 c3.2.1.2, putS_two c3.2.2.1 c3.2.2.2]
  have e : f.src ++ f.dst = mkB (f.src.data.toList ++ f.dst.data.toList) := by rw [← mkB_eta (f.src ++ f.dst), app_list]
  have hl1 := len f.src
  have hl2 := len f.dst
  simp only [e, mkB_app, mkB_size, List.length_append, one_length, two_length, hl1, hl2]
  rw [if_pos (by omega), if_pos (by omega), if_pos (by omega), if_pos (by omega)]
  rfl
theorem fright_eq (f : Fl) (k : Nat) (hk : 20 ≤ k) : flow_Right.f k f.src f.dst f.proto f.sp f.dp = some (decide (okF f)) := by
  unfold flow_Right.f
  rw [key_eq f k hk, Option.bind_some]
  unfold keyS
  by_cases h : okF f
  · rw [if_pos h, decide_eq_true h]; rfl
  · rw [if_neg h, decide_eq_false h]; rfl
/-- The flow of a key. -/
def ofS (s : ByteArray) : Fl := ⟨s.extract 0 16, s.extract 16 32, (at_ s 32 33 : Nat), (at_ s 33 35 : Nat), (at_ s 35 37 : Nat)⟩
theorem of_eq (s : ByteArray) (h : s.size = 37) (k : Nat) (hk : 20 ≤ k) : flow_Of.f k s = some ((ofS s).src, (ofS s).dst, (ofS s).proto, (ofS s).sp, (ofS s).dp, 0) := by
  unfold flow_Of.f
  have t1 := take_at s 32 1 (by omega) (by omega) k (by omega)
  have t2 := take_at s 33 2 (by omega) (by omega) k (by omega)
  have t3 := take_at s 35 2 (by omega) (by omega) k (by omega)
  simp only [Nat.reduceAdd, show ((1 : Nat) : Int) = 1 from rfl, show ((2 : Nat) : Int) = 2 from rfl] at t1 t2 t3
  rw [if_pos (by omega), if_pos (by decide), if_pos (by omega), if_pos (by decide), if_pos (by omega), t1]
  simp only [Option.bind_some]
  rw [t2]
  simp only [Option.bind_some]
  rw [t3]; rfl
theorem of_bad (s : ByteArray) (h : ¬ s.size = 37) (k : Nat) : flow_Of.f k s = some (mkB [], mkB [], 0, 0, 0, 1) := by
  unfold flow_Of.f
  rw [if_neg (by omega)]; rfl
theorem source_eq (s : ByteArray) : flow_Source.f s = some (if s.size = 37 then s.extract 0 16 else mkB []) := by
  unfold flow_Source.f
  by_cases h : s.size = 37
  · rw [if_pos (by omega), if_pos (by decide), if_pos (by omega), if_pos h]
  · rw [if_neg (by omega), if_neg h]; rfl
theorem target_eq (s : ByteArray) : flow_Target.f s = some (if s.size = 37 then s.extract 16 32 else mkB []) := by
  unfold flow_Target.f
  by_cases h : s.size = 37
  · rw [if_pos (by omega), if_pos (by decide), if_pos (by omega), if_pos h]
  · rw [if_neg (by omega), if_neg h]; rfl
theorem refof_eq (s : ByteArray) (h : s.size = 37) : rillmeterref09_Of.f s = some ((ofS s).src, (ofS s).dst, (ofS s).proto, (ofS s).sp, (ofS s).dp, true) := by
  unfold rillmeterref09_Of.f
  have b32 := bt_range s 32
  have b33 := bt_range s 33
  have b34 := bt_range s 34
  have b35 := bt_range s 35
  have b36 := bt_range s 36
  rw [if_pos (by omega), if_pos (by decide), if_pos (by omega), if_pos (by decide), if_pos (by omega), if_pos (by omega), if_pos (by omega), if_pos (by omega), if_pos (by omega), if_pos (by omega)]
  rw [w64 (n := bt s 32) (by omega) (by omega), w64 (n := bt s 33) (by omega) (by omega), w64 (n := bt s 34) (by omega) (by omega), w64 (n := bt s 35) (by omega) (by omega), w64 (n := bt s 36) (by omega) (by omega)]
  rw [w64 (n := 256 * bt s 33) (by omega) (by omega), w64 (n := 256 * bt s 35) (by omega) (by omega), w64 (by omega) (by omega), w64 (by omega) (by omega)]
  have a1 := at_one s 32 (by omega)
  have a2 := at_two s 33 (by omega)
  have a3 := at_two s 35 (by omega)
  simp only [Nat.reduceAdd, show ((32 : Nat) : Int) = 32 from rfl, show ((33 : Nat) : Int) = 33 from rfl, show ((34 : Nat) : Int) = 34 from rfl, show ((35 : Nat) : Int) = 35 from rfl, show ((36 : Nat) : Int) = 36 from rfl] at a1 a2 a3
  unfold ofS
  rw [a1, a2, a3]
theorem refof_bad (s : ByteArray) (h : ¬ s.size = 37) : rillmeterref09_Of.f s = some (mkB [], mkB [], 0, 0, 0, false) := by
  unfold rillmeterref09_Of.f
  rw [if_neg (by omega)]; rfl
theorem ok_of (s : ByteArray) (h : s.size = 37) : okF (ofS s) := by
  have a1 := at_lt s 32 33
  have a2 := at_lt s 33 35
  have a3 := at_lt s 35 37
  simp only [Nat.reduceSub, show 256 ^ 1 = 256 from rfl, show 256 ^ 2 = 65536 from rfl] at a1 a2 a3
  unfold okF ofS
  simp only [ByteArray.size_extract]
  omega
theorem key_of (s : ByteArray) (h : s.size = 37) : mkB (keyL (ofS s)) = s := by
  unfold keyL ofS one two
  simp only [Int.toNat_natCast, extract_list]
  have e1 := enc_at s 32 1 (by omega)
  have e2 := enc_at s 33 2 (by omega)
  have e3 := enc_at s 35 2 (by omega)
  simp only [Nat.reduceAdd] at e1 e2 e3
  rw [e1, e2, e3]
  have hl := len s
  conv => rhs; rw [← mkB_eta s]
  congr 1
  generalize s.data.toList = l at hl
  rw [h] at hl
  have f4 : List.take 2 (List.drop 35 l) = List.drop 35 l := List.take_of_length_le (by rw [List.length_drop]; omega)
  have f3 : List.take 2 (List.drop 33 l) ++ List.drop 35 l = List.drop 33 l := by
    have := List.take_append_drop 2 (List.drop 33 l); rwa [List.drop_drop] at this
  have f2 : List.take 1 (List.drop 32 l) ++ List.drop 33 l = List.drop 32 l := by
    have := List.take_append_drop 1 (List.drop 32 l); rwa [List.drop_drop] at this
  have f1 : List.take (32 - 16) (List.drop 16 l) ++ List.drop 32 l = List.drop 16 l := by
    have := List.take_append_drop 16 (List.drop 16 l); rwa [List.drop_drop] at this
  rw [f4, List.append_assoc, List.append_assoc, List.append_assoc, f3, f2, f1]
  exact List.take_append_drop 16 l
theorem awake_eq (k : Nat) (hk : 40 ≤ k) : rillmeterlaw09_awake.f k = some true := by
  unfold rillmeterlaw09_awake.f
  have := key_eq ⟨⟨#[115, 115, 115, 115, 115, 115, 115, 115, 115, 115, 115, 115, 115, 115, 115, 115]⟩, ⟨#[100, 100, 100, 100, 100, 100, 100, 100, 100, 100, 100, 100, 100, 100, 100, 100]⟩, 17, 258, 1⟩ k (by omega)
  rw [this, Option.bind_some, of_eq _ (by decide +kernel) k (by omega), Option.bind_some]
  decide +kernel
end Go.Proofs.Ytfdhifigndmgaaa.L09
