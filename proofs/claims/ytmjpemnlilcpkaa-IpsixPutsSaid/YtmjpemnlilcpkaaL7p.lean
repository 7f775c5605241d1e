/- Layer 7 (ipsix): the reference, where it writes. -/
import Derived.Test.YtmjpemnlilcpkaaL7q
import Derived.Test.YtmjpemnlilcpkaaQx20
import Derived.Test.YtmjpemnlilcpkaaQx22
import Derived.Test.YtmjpemnlilcpkaaQx21
import Derived.Test.YtmjpemnlilcpkaaQx19
namespace Go.Proofs.Ytmjpemnlilcpkaa.L07
open Go Go.RowKit Go.Proofs.Ytmjpemnlilcpkaa.Q Go.Proofs.Ytmjpemnlilcpkaa.Base Go.Proofs.Ytmjpemnlilcpkaa.L04 Go.Proofs.Ytmjpemnlilcpkaa.LAt Go.Proofs.YtmjpemnlilcpkaaW.PrintWords Go.Proofs.YtmjpemnlilcpkaaW.PrintMore
set_option linter.unusedVariables false
set_option linter.unusedSimpArgs false
theorem reftail_eq (h : H6) : (if h.cl < 0 then (some false) else (if h.cl > 255 then (some false) else (if h.ho < 0 then (some false) else (if h.ho > 255 then (some false) else (if h.la < 0 then (some false) else (if h.la > 1048575 then (some false) else (if h.pr < 0 then (some false) else (if h.pr > 255 then (some false) else ((rillmeterref07_extension.f h.pr).bind fun t105 => (if t105 = true then (some false) else (if (h.src.size : Int) = 16 then (if (h.dst.size : Int) = 16 then (some (decide ((((h.ch.map t2).length : Nat) : Int) < 9))) else (some false)) else (some false)))))))))))) = some (decide (okR h)) := by
  rw [List.length_map, refext_eq, Option.bind_some]
  by_cases c1 : 0 ≤ h.cl ∧ h.cl < 256
  case neg =>
    rw [decide_eq_false (fun r : okR h => c1 r.1)]
    by_cases a : h.cl < 0
    · rw [if_pos a]
    · rw [if_neg a, if_pos (by omega)]
  rw [if_neg (by omega), if_neg (by omega)]
  by_cases c2 : 0 ≤ h.ho ∧ h.ho < 256
  case neg =>
    rw [decide_eq_false (fun r : okR h => c2 r.2.1)]
    by_cases a : h.ho < 0
    · rw [if_pos a]
    · rw [if_neg a, if_pos (by omega)]
  rw [if_neg (by omega), if_neg (by omega)]
  by_cases c3 : 0 ≤ h.la ∧ h.la < 1048576
  case neg =>
    rw [decide_eq_false (fun r : okR h => c3 r.2.2.1)]
    by_cases a : h.la < 0
    · rw [if_pos a]
    · rw [if_neg a, if_pos (by omega)]
  rw [if_neg (by omega), if_neg (by omega)]
  by_cases c4 : 0 ≤ h.pr ∧ h.pr < 256
  case neg =>
    rw [decide_eq_false (fun r : okR h => c4 r.2.2.2.1)]
    by_cases a : h.pr < 0
    · rw [if_pos a]
    · rw [if_neg a, if_pos (by omega)]
  rw [if_neg (by omega), if_neg (by omega)]
  cases c5 : isExt h.pr
  case true => rw [if_pos rfl, decide_eq_false (fun r : okR h => by have := r.2.2.2.2.1; rw [c5] at this; cases this)]
  rw [if_neg (by decide)]
  by_cases c6 : h.src.size = 16
  case neg => rw [if_neg (by omega), decide_eq_false (fun r : okR h => c6 r.2.2.2.2.2.1)]
  by_cases c7 : h.dst.size = 16
  case neg => rw [if_pos (by omega), if_neg (by omega), decide_eq_false (fun r : okR h => c7 r.2.2.2.2.2.2.1)]
  rw [if_pos (by omega), if_pos (by omega)]
  by_cases c8 : h.ch.length ≤ 8
  · rw [decide_eq_true (show ((h.ch.length : Nat) : Int) < 9 by omega), decide_eq_true (show okR h from ⟨c1, c2, c3, c4, c5, c6, c7, c8⟩)]
  · rw [decide_eq_false (show ¬ ((h.ch.length : Nat) : Int) < 9 by omega), decide_eq_false (fun r : okR h => c8 r.2.2.2.2.2.2.2)]
theorem isExt_44 : isExt 44 = true := rfl
theorem refright_loop (h : H6) (hs : small h.ch) (r : List Ex) : ∀ (k i : Nat), h.ch.drop i = r → i ≤ h.ch.length → r.length < k →
    rillmeterref07_Right.l0 k (i : Int) h.cl h.la h.ho h.pr h.src h.dst (h.ch.map t2) = some (okC (decide (i = 0)) r && decide (okR h)) := by
  have hlen := hs.1
  induction r with
  | nil =>
    intro k i hd hi hk
    obtain ⟨k, rfl⟩ : ∃ m, k = m + 1 := ⟨k - 1, by omega⟩
    have := congrArg List.length hd
    rw [List.length_drop, List.length_nil] at this
    simp only [rillmeterref07_Right.l0]
    rw [if_neg (by rw [List.length_map]; omega), reftail_eq]; rfl
  | cons p r ih =>
    intro k i hd hi hk
    rw [List.length_cons] at hk
    obtain ⟨k, rfl⟩ : ∃ m, k = m + 1 := ⟨k - 1, by omega⟩
    obtain ⟨h1, h2, h3⟩ := drop_len hd
    have hp := small_drop hs hd
    have hrec := ih k (i + 1) h3 (by omega) (by omega)
    simp only [rillmeterref07_Right.l0]
    rw [if_pos (by rw [List.length_map]; omega), if_pos (by omega), rd2 hd]
    have e1 : wrap64 ((i : Int) + 1) = ((i + 1 : Nat) : Int) := by rw [w64 (by omega) (by omega)]; omega
    rw [e1, hrec, decide_eq_false (show ¬ i + 1 = 0 by omega)]
    show (rillmeterref07_extension.f p.1).bind (fun t104 => if t104 = true then if p.1 = 44 then if (p.2.size : Int) > 2046 then some false else if (p.2.size : Int) = 7 then if p.1 = 0 then _ else _ else some false else if ((p.2.size : Int) % 8) = 6 then if (p.2.size : Int) > 2046 then some false else if p.1 = 0 then _ else _ else some false else some false) = _
    rw [refext_eq, Option.bind_some]
    rw [okC_cons]
    unfold okE
    by_cases c4 : p.1 = 44
    · rw [if_pos c4, c4, isExt_44, if_pos rfl, if_pos rfl]
      by_cases c7 : p.2.size = 7
      · rw [if_neg (by omega), if_pos (by omega), if_neg (by decide), decide_eq_true c7]; rfl
      · rw [decide_eq_false c7]
        by_cases c2 : p.2.size ≤ 2046
        · rw [if_neg (by omega), if_neg (by omega)]; rfl
        · rw [if_pos (by omega)]; rfl
    rw [if_neg c4, if_neg c4]
    cases isExt p.1
    · rw [if_neg (by decide)]; rfl
    rw [if_pos rfl, Bool.true_and]
    by_cases c8 : p.2.size % 8 = 6
    case neg => rw [if_neg (by omega), decide_eq_false c8]; simp
    rw [if_pos (by omega), decide_eq_true c8, decide_eq_true (show 6 ≤ p.2.size by omega), Bool.true_and]
    by_cases c2 : p.2.size ≤ 2046
    case neg => rw [if_pos (by omega), decide_eq_false c2]; rfl
    rw [if_neg (by omega), decide_eq_true c2]
    by_cases c0 : p.1 = 0
    · rw [if_pos c0, show (p.1 != 0) = false by rw [c0]; rfl]
      by_cases ci : i = 0
      · rw [if_neg (by omega), decide_eq_true ci]; rfl
      · rw [if_pos (by omega), decide_eq_false ci]; rfl
    · rw [if_neg c0, show (p.1 != 0) = true from bne_iff_ne.mpr c0]; rfl
theorem refright_eq (h : H6) (hs : small h.ch) (k : Nat) (hk : h.ch.length < k) : rillmeterref07_Right.f k h.cl h.la h.ho h.pr h.src h.dst (h.ch.map t2) = some (right h) := by
  unfold rillmeterref07_Right.f
  exact refright_loop h hs h.ch k 0 rfl (by omega) hk

theorem one_eq (n : Int) (h : 0 ≤ n ∧ n ≤ 255) : rillmeterref07_one.f n = some (mkB (one n)) := by
  unfold rillmeterref07_one.f one
  rw [nums_mkB, Int.emod_eq_of_lt h.1 (by omega)]; rfl
theorem two_eq (n : Int) (h : 0 ≤ n ∧ n ≤ 65535) : rillmeterref07_two.f n = some (mkB (two n)) := by
  unfold rillmeterref07_two.f two
  have e1 : wrap64 (Int.tdiv n 256) % 256 = ((n.toNat / 256 : Nat) : Int) := by
    rw [Int.tdiv_eq_ediv_of_nonneg h.1, w64 (by omega) (by omega), Int.emod_eq_of_lt (by omega) (by omega)]; omega
  have e2 : Int.tmod n 256 % 256 = ((n.toNat % 256 : Nat) : Int) := by
    rw [Int.tmod_eq_emod_of_nonneg h.1]; omega
  rw [nums_mkB, e1, e2]
  simp only [List.map_cons, List.map_nil, Int.toNat_natCast, enc, List.nil_append, List.cons_append]
  congr 3
  congr 1
  apply UInt8.toNat_inj.1
  simp
theorem enc4 (n : Nat) (h : n < 4294967296) : enc n 4 = enc (n / 65536) 2 ++ enc (n % 65536) 2 := by
  simp only [enc, List.nil_append, List.cons_append, List.append_assoc]
  have a : n / 256 / 256 / 256 = n / 65536 / 256 := by omega
  have b : n / 256 / 256 = n / 65536 := by omega
  rw [a, b]
  congr 3
  · apply UInt8.toNat_inj.1; simp <;> omega
  · congr 1; apply UInt8.toNat_inj.1; simp <;> omega
theorem refput_loop (h : H6) (body : ByteArray) (hb : body.size ≤ 140737488351232) (hR : okR h) (hC : okC true h.ch = true) (i : Nat) : ∀ (k : Nat) (r : List Ex) (f : Bool), h.ch.drop i = r → okC f r = true → i ≤ h.ch.length → i < k →
    rillmeterref07_Put.l0 k (kindOf r h.pr) (mkB (encC h.pr r ++ body.data.toList)) ((i : Int) - 1) h.cl h.la h.ho h.pr h.src h.dst (h.ch.map t2) =
      some (mkB (enc (word h).toNat 4 ++ two ((((encC h.pr h.ch).length + body.size) % 65536 : Nat) : Int) ++ one (kindOf h.ch h.pr) ++ one h.ho ++ h.src.data.toList ++ h.dst.data.toList ++ (encC h.pr h.ch ++ body.data.toList)), decide ((((encC h.pr h.ch).length + body.size : Nat) : Int) < 65536)) := by
  have hl := hR.2.2.2.2.2.2.2
  have hE := encC_len h.pr h.ch hC
  induction i with
  | zero =>
    intro k r f hd hf hi hk
    obtain ⟨k, rfl⟩ : ∃ m, k = m + 1 := ⟨k - 1, by omega⟩
    rw [List.drop_zero] at hd
    subst hd
    have r1 := hR.1
    have r2 := hR.2.1
    have r3 := hR.2.2.1
    have r6 := hR.2.2.2.2.2.1
    have r7 := hR.2.2.2.2.2.2.1
    have hw : wrap64 (wrap64 (1610612736 + wrap64 (1048576 * h.cl)) + h.la) = word h := by
      rw [w64 (n := 1048576 * h.cl) (by omega) (by omega), w64 (n := 1610612736 + 1048576 * h.cl) (by omega) (by omega), w64 (by omega) (by omega)]; unfold word; omega
    have hwr : 0 ≤ word h ∧ word h < 4294967296 := by unfold word; omega
    have hq : (wrap64 (Int.tdiv (word h) 65536)) = word h / 65536 := by rw [Int.tdiv_eq_ediv_of_nonneg hwr.1, w64 (by omega) (by omega)]
    have hm : Int.tmod (word h) 65536 = word h % 65536 := Int.tmod_eq_emod_of_nonneg hwr.1
    have hz : (mkB (encC h.pr h.ch ++ body.data.toList)).size = (encC h.pr h.ch).length + body.size := by rw [mkB_size, List.length_append, len]
    have hzm : (((encC h.pr h.ch).length + body.size : Nat) : Int) % 65536 = ((((encC h.pr h.ch).length + body.size) % 65536 : Nat) : Int) := by omega
    simp only [rillmeterref07_Put.l0]
    rw [if_neg (by omega), hw, hq, hm, two_eq _ (by omega), Option.bind_some, two_eq _ (by omega), Option.bind_some, hz, hzm, two_eq _ (by omega), Option.bind_some, one_eq _ (kindOf_range hf hR.2.2.2.1), Option.bind_some, one_eq _ (by omega), Option.bind_some]
    have s0 : ∀ n : Int, (mkB (two n)).size = 2 := fun n => by rw [mkB_size, two_length]
    have s1 : ∀ n : Int, (mkB (one n)).size = 1 := fun n => by rw [mkB_size, one_length]
    rw [if_pos (by simp only [s0]; omega), if_pos (by simp only [ByteArray.size_append, s0]; omega), if_pos (by simp only [ByteArray.size_append, s0, s1]; omega), if_pos (by simp only [ByteArray.size_append, s0, s1]; omega), if_pos (by simp only [ByteArray.size_append, s0, s1]; omega), if_pos (by simp only [ByteArray.size_append, s0, s1]; omega), if_pos (by simp only [ByteArray.size_append, s0, s1]; omega)]
    congr 2
    apply ByteArray.ext
    apply Array.toList_inj.mp
    have e4 : enc (word h).toNat 4 = two (word h / 65536) ++ two (word h % 65536) := by
      rw [enc4 _ (by omega)]
      unfold two
      congr 2 <;> omega
    simp only [app_list, mkB_data, e4]
  | succ i ih =>
    intro k r f hd hf hi hk
    obtain ⟨k, rfl⟩ : ∃ m, k = m + 1 := ⟨k - 1, by omega⟩
    obtain ⟨p, hp⟩ : ∃ p, h.ch.drop i = p :: r := by
      refine ⟨h.ch[i], ?_⟩
      rw [List.drop_eq_getElem_cons (by omega), hd]
    have hwhole : okC (decide (i = 0)) (p :: r) = true := by
      have : ∀ (j : Nat) (l : List Ex) (g : Bool), okC g l = true → okC (if j = 0 then g else false) (l.drop j) = true := by
        intro j
        induction j with
        | zero => intro l g hg; rw [if_pos rfl]; exact hg
        | succ j ihj =>
          intro l g hg
          rw [if_neg (by omega)]
          cases l with
          | nil => rfl
          | cons a l =>
            have := ihj l false (okC_tail hg).2.2
            rw [List.drop_succ_cons]
            by_cases c : j = 0
            · rw [if_pos c] at this; exact this
            · rw [if_neg c] at this; exact this
      have := this i h.ch true hC
      rw [hp] at this
      by_cases c : i = 0
      · rw [if_pos c] at this; rw [decide_eq_true c]; exact this
      · rw [if_neg c] at this; rw [decide_eq_false c]; exact this
    have c1 := (okC_tail hwhole).1
    have c3 := (okC_tail hwhole).2.2
    have hs := (okE_size c1).1
    have hEr := encC_len h.pr r c3
    obtain ⟨h1, h2, h3⟩ := drop_len hp
    have hrec := ih k (p :: r) (decide (i = 0)) hp hwhole (by omega) (by omega)
    rw [encC_cons, kindOf_cons] at hrec
    simp only [rillmeterref07_Put.l0]
    have ei : (((i + 1 : Nat) : Int) - 1) = (i : Int) := by omega
    rw [ei, if_pos (by omega), if_pos (by omega), if_pos (by rw [List.length_map]; omega), rd2 hp, w64 (n := (i : Int) - 1) (by omega) (by omega)]
    have zt : (mkB (encC h.pr r ++ body.data.toList)).size = (encC h.pr r).length + body.size := by rw [mkB_size, List.length_append, len]
    rw [show (t2 p).f0 = p.1 from rfl, show (t2 p).f1 = p.2 from rfl]
    have s1 : ∀ n : Int, (mkB (one n)).size = 1 := fun n => by rw [mkB_size, one_length]
    rw [one_eq _ (kindOf_range c3 hR.2.2.2.1), Option.bind_some]
    by_cases c4 : p.1 = 44
    · have ee : encE p = p.2.data.toList := by unfold encE; rw [if_pos c4]
      rw [ee] at hrec
      rw [if_pos c4, if_pos (by simp only [s1]; omega), if_pos (by simp only [ByteArray.size_append, s1]; omega), app_mkB, mkB_app, ← List.append_assoc]
      exact hrec
    · have ee : encE p = one (((p.2.size : Int) - 6) / 8) ++ p.2.data.toList := by unfold encE; rw [if_neg c4]
      have h6 := (okE_size c1).2.2.1 c4
      have e8 : wrap64 ((p.2.size : Int) / 8) = ((p.2.size : Int) - 6) / 8 := by rw [w64 (by omega) (by omega)]; omega
      rw [ee] at hrec
      rw [if_neg c4, Option.bind_some, e8, one_eq _ (by omega), Option.bind_some, if_pos (by simp only [s1]; omega), if_pos (by simp only [ByteArray.size_append, s1]; omega), if_pos (by simp only [ByteArray.size_append, s1]; omega), mkB_app, app_mkB, mkB_app]
      have : one (kindOf r h.pr) ++ one (((p.2.size : Int) - 6) / 8) ++ p.2.data.toList ++ (encC h.pr r ++ body.data.toList) = one (kindOf r h.pr) ++ (one (((p.2.size : Int) - 6) / 8) ++ p.2.data.toList) ++ encC h.pr r ++ body.data.toList := by simp only [List.append_assoc]
      rw [this]
      exact hrec
theorem refput6_eq (h : H6) (body : ByteArray) (hb : body.size ≤ 140737488351232) (hr : right h = true) (hf : fits h body) (k : Nat) (hk : h.ch.length < k) :
    rillmeterref07_Put.f k h.cl h.la h.ho h.pr h.src h.dst (h.ch.map t2) body = some (mkB (put6 h body), true) := by
  obtain ⟨hC, hR⟩ := (right_iff h).mp hr
  have hl := hR.2.2.2.2.2.2.2
  unfold rillmeterref07_Put.f
  have := refput_loop h body hb hR hC h.ch.length k [] false (List.drop_length) rfl (by omega) hk
  rw [encC, List.nil_append, mkB_eta] at this
  have hf' := hf
  unfold fits at hf'
  rw [List.length_map, w64 (by omega) (by omega)]
  refine this.trans ?_
  rw [Nat.mod_eq_of_lt (by omega), decide_eq_true (by omega)]; rfl
end Go.Proofs.Ytmjpemnlilcpkaa.L07
