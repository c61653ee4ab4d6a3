/-
  Steps of the proof: walks of functions that the statement reaches; printed by a program of ours.
-/
import Derived.Test.YtpkemaglokbfiaaFairJ
import Derived.Test.YtpkemaglokbfiaaFairFacts
namespace Go.Proofs.Ytpkemaglokbfiaa
open Go.Sl Go.FairP
set_option linter.unusedVariables false
set_option linter.unusedSimpArgs false

theorem jb_yes {l : List Mb} {who : Int} {x : Nat} (h : jBad who x) : jRes l who x = 1 ∧ jList l who x = l := by unfold jRes jList; rw [if_pos h, if_pos h]; exact ⟨rfl, rfl⟩
theorem jb_in {l : List Mb} {who : Int} {x : Nat} (h0 : ¬ who < 0) (h1 : ¬ 8 ≤ who) (hw : Wt x) {i : Nat} (h : l.findIdx? (isWho who) = some i) : jRes l who x = 12 ∧ jList l who x = l := by
  have hb : ¬ jBad who x := by unfold jBad; intro h; rcases h with h | h | h; exact h0 h; exact h1 h; exact h hw
  have hi : isIn l who = true := by unfold isIn; rw [h]; rfl
  unfold jRes jList
  rw [if_neg hb, if_neg hb, if_pos hi, if_pos hi]; exact ⟨rfl, rfl⟩
theorem jb_new {l : List Mb} {who : Int} {x : Nat} (h0 : ¬ who < 0) (h1 : ¬ 8 ≤ who) (hw : Wt x) (h : l.findIdx? (isWho who) = none) : jRes l who x = 0 ∧ jList l who x = l ++ [⟨who, quan x, 0⟩] := by
  have hb : ¬ jBad who x := by unfold jBad; intro h; rcases h with h | h | h; exact h0 h; exact h1 h; exact h hw
  have hi : ¬ isIn l who = true := by unfold isIn; rw [h]; exact Bool.false_ne_true
  unfold jRes jList
  rw [if_neg hb, if_neg hb, if_neg hi, if_neg hi]; exact ⟨rfl, rfl⟩
theorem jb_none {who : Int} {x : Nat} (h : ¬ Wt x) : jBad who x := .inr (.inr h)
theorem jb_lo {who : Int} {x : Nat} (h : who < 0) : jBad who x := .inl h
theorem jb_hi {who : Int} {x : Nat} (h : 8 ≤ who) : jBad who x := .inr (.inl h)
theorem idx_in {l : List Mb} {who : Int} (h : 0 ≤ idx l (isWho who)) : ∃ i, l.findIdx? (isWho who) = some i := by
  cases e : l.findIdx? (isWho who) with
  | some i => exact ⟨i, rfl⟩
  | none => rw [idx_none e] at h; omega
theorem idx_out {l : List Mb} {who : Int} (h : ¬ 0 ≤ idx l (isWho who)) : l.findIdx? (isWho who) = none := by
  cases e : l.findIdx? (isWho who) with
  | none => rfl
  | some i => rw [idx_some e] at h; omega

set_option maxRecDepth 100000 in
theorem r_join (b : Nat) (who : Int) (x : Nat) (l : List Mb) (hl : l.length ≤ 1000) (hx : x < 18446744073709551616) : Ctr Try.prog 19 [.pointer (some ⟨b, 0, none⟩), .int .i64 who, .float .f64 x] [RF b l] (Ret fun v G => v = .int .i64 (jRes l who x) ∧ G = [RF b (jList l who x)]) := by
  refine spec_of [(0, _), (1, _), (2, _)] Try.func19 rfl Try.ntmps19 rfl rfl ?_
  intro w0 F
  refine w_seq ?_
  refine w_region ?_
  refine o_val (v_assign rfl) rfl ?_
  refine o_nil ?_
  refine thn_n ?_
  refine w_seq ?_
  refine w_region ?_
  refine o_val (v_move rfl) rfl ?_
  refine o_call (r_quantum x hx) V.b18  rfl .nil rfl ?_
  rintro _ _ ⟨rfl, rfl⟩
  refine o_val (v_move rfl) rfl ?_
  refine o_val (v_extract rfl rfl) rfl ?_
  refine o_val (v_extract rfl rfl) rfl ?_
  refine o_val (v_assign rfl) rfl ?_
  refine o_val (v_assign rfl) rfl ?_
  refine o_nil ?_
  refine thn_n ?_
  refine w_seq ?_
  refine w_seq ?_
  refine w_region ?_
  refine o_val (v_move rfl) rfl ?_
  refine o_val (v_lss rfl rfl) rfl ?_
  refine o_val (v_move rfl) rfl ?_
  first | refine o_boolD 16 rfl (fun h16 => ?_) (fun h16 => ?_) | refine o_bool 16 rfl (fun h16 => ?_) (fun h16 => ?_)
  ·
    refine o_pass rfl rfl rfl ?_
    refine o_pass rfl rfl rfl ?_
    refine o_val (v_pickT rfl rfl) rfl ?_
    refine o_val (v_move rfl) rfl ?_
    refine o_pass rfl rfl rfl ?_
    refine o_pass rfl rfl rfl ?_
    refine o_val (v_pickT rfl rfl) rfl ?_
    refine o_nil ?_
    refine thn_n ?_
    refine w_condT rfl ?_
    refine w_seq ?_
    refine w_region ?_
    refine o_val (v_assign rfl) rfl ?_
    refine o_nil ?_
    refine thn_n ?_
    refine w_ret ?_
    refine (thn_r ?_)
    first | (have hj := jb_yes (l := l) (x := x) (jb_lo (by assumption)); exact ret_ok (G := [RF b (jList l who x)]) (res1 rfl) ⟨by rw [hj.1], rfl⟩ (by rw [hj.2]; exact (sub (.cons (by first | exact rr0 | exact rr1 | exact rr2 | exact rr3 | exact rr4 | exact rr5 | exact rr6 | exact rr7 | exact rr8 | exact rr9 | exact rr10 | exact rr11 | exact rr12 | exact rr13 | exact rr14) .nil) (by first | exact dd0 | exact dd1 | exact dd2 | exact dd3 | exact dd4 | exact dd5 | exact dd6 | exact dd7 | exact dd8 | exact dd9 | exact dd10 | exact dd11 | exact dd12 | exact dd13 | exact dd14)))) | (have hj := jb_yes (l := l) (x := x) (jb_hi (by assumption)); exact ret_ok (G := [RF b (jList l who x)]) (res1 rfl) ⟨by rw [hj.1], rfl⟩ (by rw [hj.2]; exact (sub (.cons (by first | exact rr0 | exact rr1 | exact rr2 | exact rr3 | exact rr4 | exact rr5 | exact rr6 | exact rr7 | exact rr8 | exact rr9 | exact rr10 | exact rr11 | exact rr12 | exact rr13 | exact rr14) .nil) (by first | exact dd0 | exact dd1 | exact dd2 | exact dd3 | exact dd4 | exact dd5 | exact dd6 | exact dd7 | exact dd8 | exact dd9 | exact dd10 | exact dd11 | exact dd12 | exact dd13 | exact dd14)))) | (have hj := jb_yes (l := l) (who := who) (jb_none (by assumption)); exact ret_ok (G := [RF b (jList l who x)]) (res1 rfl) ⟨by rw [hj.1], rfl⟩ (by rw [hj.2]; exact (sub (.cons (by first | exact rr0 | exact rr1 | exact rr2 | exact rr3 | exact rr4 | exact rr5 | exact rr6 | exact rr7 | exact rr8 | exact rr9 | exact rr10 | exact rr11 | exact rr12 | exact rr13 | exact rr14) .nil) (by first | exact dd0 | exact dd1 | exact dd2 | exact dd3 | exact dd4 | exact dd5 | exact dd6 | exact dd7 | exact dd8 | exact dd9 | exact dd10 | exact dd11 | exact dd12 | exact dd13 | exact dd14))))
  ·
    refine o_want rfl ?_
    refine o_val (v_move rfl) rfl ?_
    refine o_want rfl ?_
    refine o_val (v_geq rfl rfl) rfl ?_
    refine o_val (v_pickF rfl rfl) rfl ?_
    refine o_val (v_move rfl) rfl ?_
    first | refine o_boolD 20 rfl (fun h20 => ?_) (fun h20 => ?_) | refine o_bool 20 rfl (fun h20 => ?_) (fun h20 => ?_)
    ·
      refine o_pass rfl rfl rfl ?_
      refine o_pass rfl rfl rfl ?_
      refine o_val (v_pickT rfl rfl) rfl ?_
      refine o_nil ?_
      refine thn_n ?_
      refine w_condT rfl ?_
      refine w_seq ?_
      refine w_region ?_
      refine o_val (v_assign rfl) rfl ?_
      refine o_nil ?_
      refine thn_n ?_
      refine w_ret ?_
      refine (thn_r ?_)
      first | (have hj := jb_yes (l := l) (x := x) (jb_lo (by assumption)); exact ret_ok (G := [RF b (jList l who x)]) (res1 rfl) ⟨by rw [hj.1], rfl⟩ (by rw [hj.2]; exact (sub (.cons (by first | exact rr0 | exact rr1 | exact rr2 | exact rr3 | exact rr4 | exact rr5 | exact rr6 | exact rr7 | exact rr8 | exact rr9 | exact rr10 | exact rr11 | exact rr12 | exact rr13 | exact rr14) .nil) (by first | exact dd0 | exact dd1 | exact dd2 | exact dd3 | exact dd4 | exact dd5 | exact dd6 | exact dd7 | exact dd8 | exact dd9 | exact dd10 | exact dd11 | exact dd12 | exact dd13 | exact dd14)))) | (have hj := jb_yes (l := l) (x := x) (jb_hi (by assumption)); exact ret_ok (G := [RF b (jList l who x)]) (res1 rfl) ⟨by rw [hj.1], rfl⟩ (by rw [hj.2]; exact (sub (.cons (by first | exact rr0 | exact rr1 | exact rr2 | exact rr3 | exact rr4 | exact rr5 | exact rr6 | exact rr7 | exact rr8 | exact rr9 | exact rr10 | exact rr11 | exact rr12 | exact rr13 | exact rr14) .nil) (by first | exact dd0 | exact dd1 | exact dd2 | exact dd3 | exact dd4 | exact dd5 | exact dd6 | exact dd7 | exact dd8 | exact dd9 | exact dd10 | exact dd11 | exact dd12 | exact dd13 | exact dd14)))) | (have hj := jb_yes (l := l) (who := who) (jb_none (by assumption)); exact ret_ok (G := [RF b (jList l who x)]) (res1 rfl) ⟨by rw [hj.1], rfl⟩ (by rw [hj.2]; exact (sub (.cons (by first | exact rr0 | exact rr1 | exact rr2 | exact rr3 | exact rr4 | exact rr5 | exact rr6 | exact rr7 | exact rr8 | exact rr9 | exact rr10 | exact rr11 | exact rr12 | exact rr13 | exact rr14) .nil) (by first | exact dd0 | exact dd1 | exact dd2 | exact dd3 | exact dd4 | exact dd5 | exact dd6 | exact dd7 | exact dd8 | exact dd9 | exact dd10 | exact dd11 | exact dd12 | exact dd13 | exact dd14))))
    ·
      refine o_want rfl ?_
      refine o_val (v_move rfl) rfl ?_
      refine o_want rfl ?_
      refine o_val (v_notD rfl) rfl ?_
      refine o_val (v_pickF rfl rfl) rfl ?_
      refine o_nil ?_
      refine thn_n ?_
      first | refine w_condD rfl (fun h23 => ?_) (fun h23 => ?_) | refine w_cond rfl (fun h23 => ?_) (fun h23 => ?_)
      ·
        refine w_seq ?_
        refine w_region ?_
        refine o_val (v_assign rfl) rfl ?_
        refine o_nil ?_
        refine thn_n ?_
        refine w_ret ?_
        refine (thn_r ?_)
        first | (have hj := jb_yes (l := l) (x := x) (jb_lo (by assumption)); exact ret_ok (G := [RF b (jList l who x)]) (res1 rfl) ⟨by rw [hj.1], rfl⟩ (by rw [hj.2]; exact (sub (.cons (by first | exact rr0 | exact rr1 | exact rr2 | exact rr3 | exact rr4 | exact rr5 | exact rr6 | exact rr7 | exact rr8 | exact rr9 | exact rr10 | exact rr11 | exact rr12 | exact rr13 | exact rr14) .nil) (by first | exact dd0 | exact dd1 | exact dd2 | exact dd3 | exact dd4 | exact dd5 | exact dd6 | exact dd7 | exact dd8 | exact dd9 | exact dd10 | exact dd11 | exact dd12 | exact dd13 | exact dd14)))) | (have hj := jb_yes (l := l) (x := x) (jb_hi (by assumption)); exact ret_ok (G := [RF b (jList l who x)]) (res1 rfl) ⟨by rw [hj.1], rfl⟩ (by rw [hj.2]; exact (sub (.cons (by first | exact rr0 | exact rr1 | exact rr2 | exact rr3 | exact rr4 | exact rr5 | exact rr6 | exact rr7 | exact rr8 | exact rr9 | exact rr10 | exact rr11 | exact rr12 | exact rr13 | exact rr14) .nil) (by first | exact dd0 | exact dd1 | exact dd2 | exact dd3 | exact dd4 | exact dd5 | exact dd6 | exact dd7 | exact dd8 | exact dd9 | exact dd10 | exact dd11 | exact dd12 | exact dd13 | exact dd14)))) | (have hj := jb_yes (l := l) (who := who) (jb_none (by assumption)); exact ret_ok (G := [RF b (jList l who x)]) (res1 rfl) ⟨by rw [hj.1], rfl⟩ (by rw [hj.2]; exact (sub (.cons (by first | exact rr0 | exact rr1 | exact rr2 | exact rr3 | exact rr4 | exact rr5 | exact rr6 | exact rr7 | exact rr8 | exact rr9 | exact rr10 | exact rr11 | exact rr12 | exact rr13 | exact rr14) .nil) (by first | exact dd0 | exact dd1 | exact dd2 | exact dd3 | exact dd4 | exact dd5 | exact dd6 | exact dd7 | exact dd8 | exact dd9 | exact dd10 | exact dd11 | exact dd12 | exact dd13 | exact dd14))))
      ·
        refine w_skip ?_
        refine thn_n ?_
        refine w_seq ?_
        refine w_seq ?_
        refine w_region ?_
        refine o_val (v_move rfl) rfl ?_
        refine o_val (v_move rfl) rfl ?_
        refine o_call (r_at b l who hl) V.b32  rfl (.cons (by first | exact rr0 | exact rr1 | exact rr2 | exact rr3 | exact rr4 | exact rr5 | exact rr6 | exact rr7 | exact rr8 | exact rr9 | exact rr10 | exact rr11 | exact rr12 | exact rr13 | exact rr14) .nil) rfl ?_
        rintro _ _ ⟨rfl, rfl⟩
        refine o_val (v_geq rfl rfl) rfl ?_
        refine o_nil ?_
        refine thn_n ?_
        first | refine w_condD rfl (fun h27 => ?_) (fun h27 => ?_) | refine w_cond rfl (fun h27 => ?_) (fun h27 => ?_)
        ·
          refine w_seq ?_
          refine w_region ?_
          refine o_val (v_assign rfl) rfl ?_
          refine o_nil ?_
          refine thn_n ?_
          refine w_ret ?_
          refine (thn_r ?_)
          obtain ⟨i, hi⟩ := idx_in h27
          have hj := jb_in (by assumption) (by assumption) (Classical.not_not.1 (by assumption)) hi
          exact ret_ok (G := [RF b (jList l who x)]) (res1 rfl) ⟨by rw [hj.1], rfl⟩ (by rw [hj.2]; exact (sub (.cons (by first | exact rr0 | exact rr1 | exact rr2 | exact rr3 | exact rr4 | exact rr5 | exact rr6 | exact rr7 | exact rr8 | exact rr9 | exact rr10 | exact rr11 | exact rr12 | exact rr13 | exact rr14) .nil) (by first | exact dd0 | exact dd1 | exact dd2 | exact dd3 | exact dd4 | exact dd5 | exact dd6 | exact dd7 | exact dd8 | exact dd9 | exact dd10 | exact dd11 | exact dd12 | exact dd13 | exact dd14)))
        ·
          refine w_skip ?_
          refine thn_n ?_
          refine w_seq ?_
          refine w_opn (fun h hh => hh) ?_
          rintro ⟨p1, c1, p2, c2, p3, c3⟩ _
          dsimp only
          have hq : (if Wt x then (quan x : Int) else 0) = (quan x : Int) := if_pos (Classical.not_not.1 (by assumption))
          rw [hq]
          refine w_net [⟨[], [], [0], 0, 0⟩, ⟨[], [], [0], 0, 0⟩, ⟨[], [], [0], 0, 0⟩, ⟨[], [], [0], 0, 0⟩, ⟨[3], [3], [], 0, 0⟩, ⟨[3, 4], [4], [], 0, 0⟩, ⟨[3, 4, 5], [5], [], 0, 0⟩, ⟨[], [], [1], 0, 0⟩, ⟨[7], [7], [], 0, 0⟩, ⟨[3, 4, 5, 6, 7, 8], [6, 8], [], 0, 0⟩, ⟨[], [], [0], 0, 0⟩, ⟨[10], [10], [], 0, 0⟩, ⟨[10, 11], [11], [], 0, 0⟩, ⟨[10, 11, 12], [12], [], 0, 0⟩, ⟨[], [], [7], 0, 0⟩, ⟨[14], [14], [], 0, 0⟩, ⟨[3, 4, 5, 6, 7, 8, 9, 10, 11, 12, 13, 14, 15], [13, 15], [], 0, 0⟩, ⟨[], [], [0], 0, 0⟩, ⟨[17], [17], [], 0, 0⟩, ⟨[17, 18], [18], [], 0, 0⟩, ⟨[17, 18, 19], [19], [], 0, 0⟩, ⟨[], [], [], 0, 0⟩, ⟨[3, 4, 5, 6, 7, 8, 9, 10, 11, 12, 13, 14, 15, 16, 17, 18, 19, 20, 21], [20, 21], [], 0, 0⟩, ⟨[0, 3, 4, 5, 6, 7, 8, 9, 10, 11, 12, 13, 14, 15, 16, 17, 18, 19, 20, 21, 22], [0], [], 0, 0⟩, ⟨[0, 3, 4, 5, 6, 7, 8, 9, 10, 11, 12, 13, 14, 15, 16, 17, 18, 19, 20, 21, 22, 23], [23], [], 0, 0⟩, ⟨[0, 3, 4, 5, 6, 7, 8, 9, 10, 11, 12, 13, 14, 15, 16, 17, 18, 19, 20, 21, 22, 23, 24], [24, 9], [], 0, 0⟩, ⟨[0, 1, 3, 4, 5, 6, 7, 8, 9, 10, 11, 12, 13, 14, 15, 16, 17, 18, 19, 20, 21, 22, 23, 24, 25], [1], [], 0, 0⟩, ⟨[0, 1, 3, 4, 5, 6, 7, 8, 9, 10, 11, 12, 13, 14, 15, 16, 17, 18, 19, 20, 21, 22, 23, 24, 25, 26], [26], [], 0, 0⟩, ⟨[0, 1, 3, 4, 5, 6, 7, 8, 9, 10, 11, 12, 13, 14, 15, 16, 17, 18, 19, 20, 21, 22, 23, 24, 25, 26, 27], [27, 16], [], 0, 0⟩, ⟨[0, 1, 2, 3, 4, 5, 6, 7, 8, 9, 10, 11, 12, 13, 14, 15, 16, 17, 18, 19, 20, 21, 22, 23, 24, 25, 26, 27, 28], [2], [], 0, 0⟩, ⟨[0, 1, 2, 3, 4, 5, 6, 7, 8, 9, 10, 11, 12, 13, 14, 15, 16, 17, 18, 19, 20, 21, 22, 23, 24, 25, 26, 27, 28, 29], [29], [], 0, 0⟩, ⟨[0, 1, 2, 3, 4, 5, 6, 7, 8, 9, 10, 11, 12, 13, 14, 15, 16, 17, 18, 19, 20, 21, 22, 23, 24, 25, 26, 27, 28, 29, 30], [30, 22], [], 0, 0⟩] [⟨fun y => Cel b 46 [.slice p1 l.length c1, .slice p2 l.length c2, .slice p3 l.length c3], none, some 25, [6, 13, 20]⟩, ⟨fun y => Row I3 p1 l.length c1 (l.map Mb.who), none, some 9, []⟩, ⟨fun y => Row I3 p2 l.length c2 (l.map Mb.q), none, some 16, []⟩, ⟨fun y => Row I3 p3 l.length c3 (l.map Mb.c), none, some 22, []⟩, ⟨fun y => Row (I3) (some ⟨(blk' (slP (y 8))), 0, none⟩) 1 1 [who], some 8, none, [9]⟩, ⟨fun y => Row (I3) (slP (y 9)) (l.length + 1) (slC (y 9)) ((l.map Mb.who) ++ [who]), some 9, none, []⟩, ⟨fun y => Row (I3) (some ⟨(blk' (slP (y 15))), 0, none⟩) 1 1 [(quan x : Int)], some 15, none, [16]⟩, ⟨fun y => Row (I3) (slP (y 16)) (l.length + 1) (slC (y 16)) ((l.map Mb.q) ++ [(quan x : Int)]), some 16, none, []⟩, ⟨fun y => Row (I3) (some ⟨(blk' (slP (y 21))), 0, none⟩) 1 1 [0], some 21, none, [22]⟩, ⟨fun y => Row (I3) (slP (y 22)) (l.length + 1) (slC (y 22)) ((l.map Mb.c) ++ [0]), some 22, none, []⟩, ⟨fun y => Cel b 46 [.slice (slP (y 9)) (l.length + 1) (slC (y 9)), .slice p2 l.length c2, .slice p3 l.length c3], some 25, some 28, []⟩, ⟨fun y => Cel b 46 [.slice (slP (y 9)) (l.length + 1) (slC (y 9)), .slice (slP (y 16)) (l.length + 1) (slC (y 16)), .slice p3 l.length c3], some 28, some 31, []⟩, ⟨fun y => Cel b 46 [.slice (slP (y 9)) (l.length + 1) (slC (y 9)), .slice (slP (y 16)) (l.length + 1) (slC (y 16)), .slice (slP (y 22)) (l.length + 1) (slC (y 22))], some 31, none, []⟩] F V.mixed (by kernel_rfl) rfl (fun _ => .refl _) (locT_0 _ (locT_0 _ (locT_0 _ (locT_0 _ (locT_1 [7] rfl (by intro y y2 h; simp only [h 8 (.inl rfl)]) (locT_1 [3, 4, 5, 6, 7, 8] rfl (by intro y y2 h; simp only [h 9 (.inl rfl)]) (locT_1 [14] rfl (by intro y y2 h; simp only [h 15 (.inl rfl)]) (locT_1 [3, 4, 5, 6, 7, 8, 9, 10, 11, 12, 13, 14, 15] rfl (by intro y y2 h; simp only [h 16 (.inl rfl)]) (locT_1 [] rfl (by intro y y2 h; simp only [h 21 (.inl rfl)]) (locT_1 [3, 4, 5, 6, 7, 8, 9, 10, 11, 12, 13, 14, 15, 16, 17, 18, 19, 20, 21] rfl (by intro y y2 h; simp only [h 22 (.inl rfl)]) (locT_1 [0, 3, 4, 5, 6, 7, 8, 9, 10, 11, 12, 13, 14, 15, 16, 17, 18, 19, 20, 21, 22, 23, 24] rfl (by intro y y2 h; simp only [h 9 (.inr (by decide))]) (locT_1 [0, 1, 3, 4, 5, 6, 7, 8, 9, 10, 11, 12, 13, 14, 15, 16, 17, 18, 19, 20, 21, 22, 23, 24, 25, 26, 27] rfl (by intro y y2 h; simp only [h 9 (.inr (by decide)), h 16 (.inr (by decide))]) (locT_1 [0, 1, 2, 3, 4, 5, 6, 7, 8, 9, 10, 11, 12, 13, 14, 15, 16, 17, 18, 19, 20, 21, 22, 23, 24, 25, 26, 27, 28, 29, 30] rfl (by intro y y2 h; simp only [h 9 (.inr (by decide)), h 16 (.inr (by decide)), h 22 (.inr (by decide))]) locT_nil))))))))))))) ?_
          refine net_pure (fun y => [(0, _)]) (fun y => rfl) rfl rfl rfl (fun y hA L => st_v (v_move rfl) ⟨rfl, rfl⟩) (by intros; rfl) (by intro y y2 h; rfl) ?_
          refine net_pure (fun y => [(0, _)]) (fun y => rfl) rfl rfl rfl (fun y hA L => st_v (v_move rfl) ⟨rfl, rfl⟩) (by intros; rfl) (by intro y y2 h; rfl) ?_
          refine net_pure (fun y => [(0, _)]) (fun y => rfl) rfl rfl rfl (fun y hA L => st_v (v_move rfl) ⟨rfl, rfl⟩) (by intros; rfl) (by intro y y2 h; rfl) ?_
          refine net_pure (fun y => [(0, _)]) (fun y => rfl) rfl rfl rfl (fun y hA L => st_v (v_move rfl) ⟨rfl, rfl⟩) (by intros; rfl) (by intro y y2 h; rfl) ?_
          refine net_pure (fun y => [(31, _)]) (fun y => rfl) rfl rfl rfl (fun y hA L => st_v (v_nil rfl) ⟨rfl, rfl⟩) (by intros; rfl) (by intro y y2 h; rfl) ?_
          refine net_pure (fun y => [(32, _)]) (fun y => rfl) rfl rfl rfl (fun y hA L => st_v (v_fieldAddr V.f46_0 rfl) ⟨rfl, rfl⟩) (by intros; rfl) (by intro y y2 h; rfl) ?_
          refine net_read (fun y => [Cel b 46 [.slice p1 l.length c1, .slice p2 l.length c2, .slice p3 l.length c3]]) (fun y => [(33, _)]) (fun y => rfl) rfl (fun y => rfl) rfl (fun y FF hA => st_v (v_load V.s27 rfl (by first | exact mm0 | exact mm1 | exact mm2 | exact mm3 | exact mm4 | exact mm5 | exact mm6 | exact mm7 | exact mm8 | exact mm9 | exact mm10 | exact mm11 | exact mm12 | exact mm13 | exact mm14) rfl) ⟨rfl, rfl⟩) (by intros; rfl) (by intro y y2 h; rfl) ?_
          refine net_pure (fun y => [(1, _)]) (fun y => rfl) rfl rfl rfl (fun y hA L => st_v (v_move rfl) ⟨rfl, rfl⟩) (by intros; rfl) (by intro y y2 h; rfl) ?_
          refine net_new (fun y v => .slice (some ⟨blk' (slP v), 0, none⟩) 1 1) (fun y v => True) (fun y => []) (fun y => []) (fun y v => [Row (I3) (some ⟨(blk' (slP v)), 0, none⟩) 1 1 [who]]) (fun y => [(35, _)]) (fun y => rfl) (fun y => rfl) (fun y => rfl) (fun y => rfl) (fun y FF hA => st_newN (r_buildX (I3) ([who]) V.sl27 V.z3 rfl rfl rfl rfl rfl)) (by intros; rfl) (by intros; rfl) (by intros; rfl) (by intro y y2 h; simp only [h 8 (.inl rfl)]) (by intro y y2 h; rfl) ?_
          refine net_new (fun y v => .slice (slP v) (l.length + 1) (slC v)) (fun y v => True) (fun y => [Row I3 p1 l.length c1 (l.map Mb.who)]) (fun y => [Row (I3) (some ⟨(blk' (slP (y 8))), 0, none⟩) 1 1 [who]]) (fun y v => [Row (I3) (slP v) (l.length + 1) (slC v) ((l.map Mb.who) ++ [who])]) (fun y => [(34, _), (36, _)]) (fun y => rfl) (fun y => rfl) (fun y => rfl) (fun y => rfl) (fun y FF hA => st_appN (r_appendX (c := (I3)) V.sl27 V.z3 rfl rfl rfl rfl rr0 (by first | exact own mm0 | exact own mm1 | exact own mm2 | exact own mm3 | exact own mm4 | exact own mm5 | exact own mm6 | exact own mm7 | exact own mm8 | exact own mm9 | exact own mm10 | exact own mm11) (by omega)) (.refl _)) (by intros; rfl) (by intros; rfl) (by intros; rfl) (by intro y y2 h; simp only [h 8 (.inr (by decide)), h 9 (.inl rfl)]) (by intro y y2 h; rfl) ?_
          refine net_pure (fun y => [(0, _)]) (fun y => rfl) rfl rfl rfl (fun y hA L => st_v (v_move rfl) ⟨rfl, rfl⟩) (by intros; rfl) (by intro y y2 h; rfl) ?_
          refine net_pure (fun y => [(38, _)]) (fun y => rfl) rfl rfl rfl (fun y hA L => st_v (v_nil rfl) ⟨rfl, rfl⟩) (by intros; rfl) (by intro y y2 h; rfl) ?_
          refine net_pure (fun y => [(39, _)]) (fun y => rfl) rfl rfl rfl (fun y hA L => st_v (v_fieldAddr V.f46_1 rfl) ⟨rfl, rfl⟩) (by intros; rfl) (by intro y y2 h; rfl) ?_
          refine net_read (fun y => [Cel b 46 [.slice p1 l.length c1, .slice p2 l.length c2, .slice p3 l.length c3]]) (fun y => [(40, _)]) (fun y => rfl) rfl (fun y => rfl) rfl (fun y FF hA => st_v (v_load V.s27 rfl (by first | exact mm0 | exact mm1 | exact mm2 | exact mm3 | exact mm4 | exact mm5 | exact mm6 | exact mm7 | exact mm8 | exact mm9 | exact mm10 | exact mm11 | exact mm12 | exact mm13 | exact mm14) rfl) ⟨rfl, rfl⟩) (by intros; rfl) (by intro y y2 h; rfl) ?_
          refine net_pure (fun y => [(7, _)]) (fun y => rfl) rfl rfl rfl (fun y hA L => st_v (v_move rfl) ⟨rfl, rfl⟩) (by intros; rfl) (by intro y y2 h; rfl) ?_
          refine net_new (fun y v => .slice (some ⟨blk' (slP v), 0, none⟩) 1 1) (fun y v => True) (fun y => []) (fun y => []) (fun y v => [Row (I3) (some ⟨(blk' (slP v)), 0, none⟩) 1 1 [(quan x : Int)]]) (fun y => [(42, _)]) (fun y => rfl) (fun y => rfl) (fun y => rfl) (fun y => rfl) (fun y FF hA => st_newN (r_buildX (I3) ([(quan x : Int)]) V.sl27 V.z3 rfl rfl rfl rfl rfl)) (by intros; rfl) (by intros; rfl) (by intros; rfl) (by intro y y2 h; simp only [h 15 (.inl rfl)]) (by intro y y2 h; rfl) ?_
          refine net_new (fun y v => .slice (slP v) (l.length + 1) (slC v)) (fun y v => True) (fun y => [Row I3 p2 l.length c2 (l.map Mb.q)]) (fun y => [Row (I3) (some ⟨(blk' (slP (y 15))), 0, none⟩) 1 1 [(quan x : Int)]]) (fun y v => [Row (I3) (slP v) (l.length + 1) (slC v) ((l.map Mb.q) ++ [(quan x : Int)])]) (fun y => [(41, _), (43, _)]) (fun y => rfl) (fun y => rfl) (fun y => rfl) (fun y => rfl) (fun y FF hA => st_appN (r_appendX (c := (I3)) V.sl27 V.z3 rfl rfl rfl rfl rr0 (by first | exact own mm0 | exact own mm1 | exact own mm2 | exact own mm3 | exact own mm4 | exact own mm5 | exact own mm6 | exact own mm7 | exact own mm8 | exact own mm9 | exact own mm10 | exact own mm11) (by omega)) (.refl _)) (by intros; rfl) (by intros; rfl) (by intros; rfl) (by intro y y2 h; simp only [h 15 (.inr (by decide)), h 16 (.inl rfl)]) (by intro y y2 h; rfl) ?_
          refine net_pure (fun y => [(0, _)]) (fun y => rfl) rfl rfl rfl (fun y hA L => st_v (v_move rfl) ⟨rfl, rfl⟩) (by intros; rfl) (by intro y y2 h; rfl) ?_
          refine net_pure (fun y => [(45, _)]) (fun y => rfl) rfl rfl rfl (fun y hA L => st_v (v_nil rfl) ⟨rfl, rfl⟩) (by intros; rfl) (by intro y y2 h; rfl) ?_
          refine net_pure (fun y => [(46, _)]) (fun y => rfl) rfl rfl rfl (fun y hA L => st_v (v_fieldAddr V.f46_2 rfl) ⟨rfl, rfl⟩) (by intros; rfl) (by intro y y2 h; rfl) ?_
          refine net_read (fun y => [Cel b 46 [.slice p1 l.length c1, .slice p2 l.length c2, .slice p3 l.length c3]]) (fun y => [(47, _)]) (fun y => rfl) rfl (fun y => rfl) rfl (fun y FF hA => st_v (v_load V.s27 rfl (by first | exact mm0 | exact mm1 | exact mm2 | exact mm3 | exact mm4 | exact mm5 | exact mm6 | exact mm7 | exact mm8 | exact mm9 | exact mm10 | exact mm11 | exact mm12 | exact mm13 | exact mm14) rfl) ⟨rfl, rfl⟩) (by intros; rfl) (by intro y y2 h; rfl) ?_
          refine net_new (fun y v => .slice (some ⟨blk' (slP v), 0, none⟩) 1 1) (fun y v => True) (fun y => []) (fun y => []) (fun y v => [Row (I3) (some ⟨(blk' (slP v)), 0, none⟩) 1 1 [0]]) (fun y => []) (fun y => rfl) (fun y => rfl) (fun y => rfl) (fun y => rfl) (fun y FF hA => st_newN (r_buildX (I3) ([0]) V.sl27 V.z3 rfl rfl rfl rfl rfl)) (by intros; rfl) (by intros; rfl) (by intros; rfl) (by intro y y2 h; simp only [h 21 (.inl rfl)]) (by intro y y2 h; rfl) ?_
          refine net_new (fun y v => .slice (slP v) (l.length + 1) (slC v)) (fun y v => True) (fun y => [Row I3 p3 l.length c3 (l.map Mb.c)]) (fun y => [Row (I3) (some ⟨(blk' (slP (y 21))), 0, none⟩) 1 1 [0]]) (fun y v => [Row (I3) (slP v) (l.length + 1) (slC v) ((l.map Mb.c) ++ [0])]) (fun y => [(48, _), (49, _)]) (fun y => rfl) (fun y => rfl) (fun y => rfl) (fun y => rfl) (fun y FF hA => st_appN (r_appendX (c := (I3)) V.sl27 V.z3 rfl rfl rfl rfl rr0 (by first | exact own mm0 | exact own mm1 | exact own mm2 | exact own mm3 | exact own mm4 | exact own mm5 | exact own mm6 | exact own mm7 | exact own mm8 | exact own mm9 | exact own mm10 | exact own mm11) (by omega)) (.refl _)) (by intros; rfl) (by intros; rfl) (by intros; rfl) (by intro y y2 h; simp only [h 21 (.inr (by decide)), h 22 (.inl rfl)]) (by intro y y2 h; rfl) ?_
          refine net_pure (fun y => [(28, _)]) (fun y => rfl) rfl rfl rfl (fun y hA L => st_v (v_nil rfl) ⟨rfl, rfl⟩) (by intros; rfl) (by intro y y2 h; rfl) ?_
          refine net_pure (fun y => [(51, _)]) (fun y => rfl) rfl rfl rfl (fun y hA L => st_v (v_fieldAddr V.f46_0 rfl) ⟨rfl, rfl⟩) (by intros; rfl) (by intro y y2 h; rfl) ?_
          refine net_eff (fun y => [Cel b 46 [.slice p1 l.length c1, .slice p2 l.length c2, .slice p3 l.length c3]]) (fun y => []) (fun y => [Cel b 46 [.slice (slP (y 9)) (l.length + 1) (slC (y 9)), .slice p2 l.length c2, .slice p3 l.length c3]]) (fun y => [(52, _), (37, _)]) (fun y => rfl) (fun y => rfl) (fun y => rfl) (fun y => rfl) (fun y FF hA => st_v (v_store V.s27 rfl rfl rfl (by first | exact pp0 | exact pp1 | exact pp2 | exact pp3 | exact pp4 | exact pp5 | exact pp6 | exact pp7 | exact pp8 | exact pp9 | exact pp10 | exact pp11 | exact pp12 | exact pp13 | exact pp14) (by exact Nat.le_of_ble_eq_true rfl) rfl) ⟨rfl, .refl _⟩) (by intros; rfl) (by intros; rfl) (by intro y y2 h; first | rfl | simp only [h 9 (.inr (by decide))]) ?_
          refine net_pure (fun y => [(29, _)]) (fun y => rfl) rfl rfl rfl (fun y hA L => st_v (v_nil rfl) ⟨rfl, rfl⟩) (by intros; rfl) (by intro y y2 h; rfl) ?_
          refine net_pure (fun y => [(53, _)]) (fun y => rfl) rfl rfl rfl (fun y hA L => st_v (v_fieldAddr V.f46_1 rfl) ⟨rfl, rfl⟩) (by intros; rfl) (by intro y y2 h; rfl) ?_
          refine net_eff (fun y => [Cel b 46 [.slice (slP (y 9)) (l.length + 1) (slC (y 9)), .slice p2 l.length c2, .slice p3 l.length c3]]) (fun y => []) (fun y => [Cel b 46 [.slice (slP (y 9)) (l.length + 1) (slC (y 9)), .slice (slP (y 16)) (l.length + 1) (slC (y 16)), .slice p3 l.length c3]]) (fun y => [(54, _), (44, _)]) (fun y => rfl) (fun y => rfl) (fun y => rfl) (fun y => rfl) (fun y FF hA => st_v (v_store V.s27 rfl rfl rfl (by first | exact pp0 | exact pp1 | exact pp2 | exact pp3 | exact pp4 | exact pp5 | exact pp6 | exact pp7 | exact pp8 | exact pp9 | exact pp10 | exact pp11 | exact pp12 | exact pp13 | exact pp14) (by exact Nat.le_of_ble_eq_true rfl) rfl) ⟨rfl, .refl _⟩) (by intros; rfl) (by intros; rfl) (by intro y y2 h; first | rfl | simp only [h 16 (.inr (by decide))]) ?_
          refine net_pure (fun y => [(30, _)]) (fun y => rfl) rfl rfl rfl (fun y hA L => st_v (v_nil rfl) ⟨rfl, rfl⟩) (by intros; rfl) (by intro y y2 h; rfl) ?_
          refine net_pure (fun y => [(55, _)]) (fun y => rfl) rfl rfl rfl (fun y hA L => st_v (v_fieldAddr V.f46_2 rfl) ⟨rfl, rfl⟩) (by intros; rfl) (by intro y y2 h; rfl) ?_
          refine net_eff (fun y => [Cel b 46 [.slice (slP (y 9)) (l.length + 1) (slC (y 9)), .slice (slP (y 16)) (l.length + 1) (slC (y 16)), .slice p3 l.length c3]]) (fun y => []) (fun y => [Cel b 46 [.slice (slP (y 9)) (l.length + 1) (slC (y 9)), .slice (slP (y 16)) (l.length + 1) (slC (y 16)), .slice (slP (y 22)) (l.length + 1) (slC (y 22))]]) (fun y => [(56, _), (50, _)]) (fun y => rfl) (fun y => rfl) (fun y => rfl) (fun y => rfl) (fun y FF hA => st_v (v_store V.s27 rfl rfl rfl (by first | exact pp0 | exact pp1 | exact pp2 | exact pp3 | exact pp4 | exact pp5 | exact pp6 | exact pp7 | exact pp8 | exact pp9 | exact pp10 | exact pp11 | exact pp12 | exact pp13 | exact pp14) (by exact Nat.le_of_ble_eq_true rfl) rfl) ⟨rfl, .refl _⟩) (by intros; rfl) (by intros; rfl) (by intro y y2 h; first | rfl | simp only [h 22 (.inr (by decide))]) ?_
          refine net_nil ?_
          intro y hA
          clear hA
          refine thn_n ?_
          refine w_keep _ (.nil _) ?_
          refine w_sub (M := Row (I3) (some ⟨(blk' (slP (y 8))), 0, none⟩) 1 1 [who] :: Row (I3) (slP (y 9)) (l.length + 1) (slC (y 9)) ((l.map Mb.who) ++ [who]) :: Row (I3) (some ⟨(blk' (slP (y 15))), 0, none⟩) 1 1 [(quan x : Int)] :: Row (I3) (slP (y 16)) (l.length + 1) (slC (y 16)) ((l.map Mb.q) ++ [(quan x : Int)]) :: Row (I3) (some ⟨(blk' (slP (y 21))), 0, none⟩) 1 1 [0] :: Row (I3) (slP (y 22)) (l.length + 1) (slC (y 22)) ((l.map Mb.c) ++ [0]) :: Cel b 46 [.slice (slP (y 9)) (l.length + 1) (slC (y 9)), .slice (slP (y 16)) (l.length + 1) (slC (y 16)), .slice (slP (y 22)) (l.length + 1) (slC (y 22))] :: F) (fun _ _ h => h) ?_
          refine w_sub (sub .nil (.skip (.keep (.skip (.keep (.skip (.keep (.keep .refl)))))))) ?_
          simp only [List.nil_append]
          generalize (blk' (slP (y 8))) = b36
          generalize (slP (y 9)) = p37
          generalize (slC (y 9)) = c37
          generalize (blk' (slP (y 15))) = b43
          generalize (slP (y 16)) = p44
          generalize (slC (y 16)) = c44
          generalize (blk' (slP (y 21))) = b49
          generalize (slP (y 22)) = p50
          generalize (slC (y 22)) = c50
          refine w_seq ?_
          refine w_region ?_
          refine o_val (v_assign rfl) rfl ?_
          refine o_nil ?_
          refine thn_n ?_
          refine w_ret ?_
          have hj := jb_new (by assumption) (by assumption) (Classical.not_not.1 (by assumption)) (idx_out h27)
          exact ret_ok (G := [RF b (jList l who x)]) (res1 rfl) ⟨by rw [hj.1], rfl⟩ (by rw [hj.2]; exact (fold' (.cons (by first | exact rr0 | exact rr1 | exact rr2 | exact rr3 | exact rr4 | exact rr5 | exact rr6 | exact rr7 | exact rr8 | exact rr9 | exact rr10 | exact rr11 | exact rr12 | exact rr13 | exact rr14) (.cons (by first | exact rr0 | exact rr1 | exact rr2 | exact rr3 | exact rr4 | exact rr5 | exact rr6 | exact rr7 | exact rr8 | exact rr9 | exact rr10 | exact rr11 | exact rr12 | exact rr13 | exact rr14) (.cons (by first | exact rr0 | exact rr1 | exact rr2 | exact rr3 | exact rr4 | exact rr5 | exact rr6 | exact rr7 | exact rr8 | exact rr9 | exact rr10 | exact rr11 | exact rr12 | exact rr13 | exact rr14) (.cons (by first | exact rr0 | exact rr1 | exact rr2 | exact rr3 | exact rr4 | exact rr5 | exact rr6 | exact rr7 | exact rr8 | exact rr9 | exact rr10 | exact rr11 | exact rr12 | exact rr13 | exact rr14) .nil)))) (by first | exact dd0 | exact dd1 | exact dd2 | exact dd3 | exact dd4 | exact dd5 | exact dd6 | exact dd7 | exact dd8 | exact dd9 | exact dd10 | exact dd11 | exact dd12 | exact dd13 | exact dd14) (fun w0 h hh => rf_close (by simp) (by simp) (by simp) (by simp) hh)))

set_option maxRecDepth 100000 in
theorem r_leave_no (b : Nat) (who : Int) (l : List Mb) (hl : l.length ≤ 1000) (hi : l.findIdx? (isWho who) = none) : Ctr Try.prog 20 [.pointer (some ⟨b, 0, none⟩), .int .i64 who] [RF b l] (Ret fun v G => v = .bool false ∧ G = [RF b l]) := by
  refine spec_of [(0, _), (1, _)] Try.func20 rfl Try.ntmps20 rfl rfl ?_
  intro w0 F
  refine w_seq ?_
  refine w_region ?_
  refine o_val (v_assign rfl) rfl ?_
  refine o_nil ?_
  refine thn_n ?_
  refine w_seq ?_
  refine w_region ?_
  refine o_val (v_move rfl) rfl ?_
  refine o_val (v_move rfl) rfl ?_
  refine o_call (r_at_none b who l hl hi) V.b32  rfl (.cons (by first | exact rr0 | exact rr1 | exact rr2 | exact rr3 | exact rr4 | exact rr5 | exact rr6 | exact rr7 | exact rr8 | exact rr9 | exact rr10 | exact rr11 | exact rr12 | exact rr13 | exact rr14) .nil) rfl ?_
  rintro _ _ ⟨rfl, rfl⟩
  refine o_val (v_assign rfl) rfl ?_
  refine o_nil ?_
  refine thn_n ?_
  refine w_seq ?_
  refine w_seq ?_
  refine w_region ?_
  refine o_val (v_move rfl) rfl ?_
  refine o_val (v_lss rfl rfl) rfl ?_
  refine o_nil ?_
  refine thn_n ?_
  first | refine w_condD rfl (fun h10 => ?_) (fun h10 => ?_) | refine w_cond rfl (fun h10 => ?_) (fun h10 => ?_)
  ·
    refine w_seq ?_
    refine w_region ?_
    refine o_val (v_assign rfl) rfl ?_
    refine o_nil ?_
    refine thn_n ?_
    refine w_ret ?_
    refine (thn_r ?_)
    exact ret_ok (G := [_]) (res1 rfl) ⟨rfl, rfl⟩ (sub (.cons (by first | exact rr0 | exact rr1 | exact rr2 | exact rr3 | exact rr4 | exact rr5 | exact rr6 | exact rr7 | exact rr8 | exact rr9 | exact rr10 | exact rr11 | exact rr12 | exact rr13 | exact rr14) .nil) (by first | exact dd0 | exact dd1 | exact dd2 | exact dd3 | exact dd4 | exact dd5 | exact dd6 | exact dd7 | exact dd8 | exact dd9 | exact dd10 | exact dd11 | exact dd12 | exact dd13 | exact dd14))
  ·
    exact absurd h10 (by omega)

set_option maxRecDepth 100000 in
theorem r_leave_yes (b : Nat) (who : Int) (l : List Mb) (hl : l.length ≤ 1000) (i : Nat) (hi : l.findIdx? (isWho who) = some i) : Ctr Try.prog 20 [.pointer (some ⟨b, 0, none⟩), .int .i64 who] [RF b l] (Ret fun v G => v = .bool true ∧ G = [RF b (l.eraseIdx i)]) := by
  refine spec_of [(0, _), (1, _)] Try.func20 rfl Try.ntmps20 rfl rfl ?_
  intro w0 F
  refine w_seq ?_
  refine w_region ?_
  refine o_val (v_assign rfl) rfl ?_
  refine o_nil ?_
  refine thn_n ?_
  refine w_seq ?_
  refine w_region ?_
  refine o_val (v_move rfl) rfl ?_
  refine o_val (v_move rfl) rfl ?_
  refine o_call (r_at_some b who l hl i hi) V.b32  rfl (.cons (by first | exact rr0 | exact rr1 | exact rr2 | exact rr3 | exact rr4 | exact rr5 | exact rr6 | exact rr7 | exact rr8 | exact rr9 | exact rr10 | exact rr11 | exact rr12 | exact rr13 | exact rr14) .nil) rfl ?_
  rintro _ _ ⟨rfl, rfl⟩
  refine o_val (v_assign rfl) rfl ?_
  refine o_nil ?_
  refine thn_n ?_
  refine w_seq ?_
  refine w_seq ?_
  refine w_region ?_
  refine o_val (v_move rfl) rfl ?_
  refine o_val (v_lss rfl rfl) rfl ?_
  refine o_nil ?_
  refine thn_n ?_
  first | refine w_condD rfl (fun h10 => ?_) (fun h10 => ?_) | refine w_cond rfl (fun h10 => ?_) (fun h10 => ?_)
  ·
    exact absurd h10 (by omega)
  ·
    refine w_skip ?_
    refine thn_n ?_
    refine w_seq ?_
    refine w_opn (fun h hh => hh) ?_
    rintro ⟨p1, c1, p2, c2, p3, c3⟩ _
    dsimp only
    have hlt := findIdx_lt hi
    refine w_cap mm1 (fun hc1 => ?_)
    refine w_cap mm2 (fun hc2 => ?_)
    refine w_cap mm3 (fun hc3 => ?_)
    refine w_net [⟨[], [], [0], 0, 0⟩, ⟨[], [], [0], 0, 0⟩, ⟨[1], [1], [], 0, 0⟩, ⟨[1, 2], [2], [], 0, 0⟩, ⟨[1, 2, 3], [3], [], 0, 0⟩, ⟨[], [], [5], 0, 0⟩, ⟨[1, 2, 3, 4, 5], [4, 5], [], 0, 0⟩, ⟨[1, 2, 3, 4, 5, 6], [6], [], 0, 0⟩, ⟨[], [], [0], 0, 0⟩, ⟨[8], [8], [], 0, 0⟩, ⟨[8, 9], [9], [], 0, 0⟩, ⟨[8, 9, 10], [10], [], 0, 0⟩, ⟨[], [], [5], 0, 0⟩, ⟨[12], [12], [], 0, 0⟩, ⟨[8, 9, 10, 11, 12, 13], [11, 13], [], 0, 0⟩, ⟨[1, 2, 3, 4, 5, 6, 7, 8, 9, 10, 11, 12, 13, 14], [7, 14], [], 0, 0⟩, ⟨[0, 1, 2, 3, 4, 5, 6, 7, 8, 9, 10, 11, 12, 13, 14, 15], [0], [], 0, 0⟩, ⟨[0, 1, 2, 3, 4, 5, 6, 7, 8, 9, 10, 11, 12, 13, 14, 15, 16], [16], [], 0, 0⟩, ⟨[0, 1, 2, 3, 4, 5, 6, 7, 8, 9, 10, 11, 12, 13, 14, 15, 16, 17], [17, 15], [], 0, 0⟩] [⟨fun y => Cel b 46 [.slice p1 l.length c1, .slice p2 l.length c2, .slice p3 l.length c3], none, some 18, [4, 11]⟩, ⟨fun y => Row I3 p1 l.length c1 (l.map Mb.who), none, none, [7, 15]⟩, ⟨fun y => Row I3 p2 l.length c2 (l.map Mb.q), none, none, []⟩, ⟨fun y => Row I3 p3 l.length c3 (l.map Mb.c), none, none, []⟩, ⟨fun y => Row (I3) (slP (y 7)) i (slC (y 7)) ((l.map Mb.who).take i), some 7, some 15, []⟩, ⟨fun y => Row (I3) (slP (y 15)) (i + (l.length - (i + 1))) (slC (y 15)) (((l.map Mb.who).take i) ++ (((l.map Mb.who).drop (i + 1)).take (l.length - (i + 1)))), some 15, none, []⟩, ⟨fun y => Cel b 46 [.slice (slP (y 15)) (i + (l.length - (i + 1))) (slC (y 15)), .slice p2 l.length c2, .slice p3 l.length c3], some 18, none, []⟩] F V.mixed (by kernel_rfl) rfl (fun _ => .refl _) (locT_0 _ (locT_0 _ (locT_0 _ (locT_0 _ (locT_1 [1, 2, 3, 4, 5, 6] rfl (by intro y y2 h; simp only [h 7 (.inl rfl)]) (locT_1 [1, 2, 3, 4, 5, 6, 7, 8, 9, 10, 11, 12, 13, 14] rfl (by intro y y2 h; simp only [h 15 (.inl rfl)]) (locT_1 [0, 1, 2, 3, 4, 5, 6, 7, 8, 9, 10, 11, 12, 13, 14, 15, 16, 17] rfl (by intro y y2 h; simp only [h 15 (.inr (by decide))]) locT_nil))))))) ?_
    refine net_pure (fun y => [(0, _)]) (fun y => rfl) rfl rfl rfl (fun y hA L => st_v (v_move rfl) ⟨rfl, rfl⟩) (by intros; rfl) (by intro y y2 h; rfl) ?_
    refine net_pure (fun y => [(0, _)]) (fun y => rfl) rfl rfl rfl (fun y hA L => st_v (v_move rfl) ⟨rfl, rfl⟩) (by intros; rfl) (by intro y y2 h; rfl) ?_
    refine net_pure (fun y => [(12, _)]) (fun y => rfl) rfl rfl rfl (fun y hA L => st_v (v_nil rfl) ⟨rfl, rfl⟩) (by intros; rfl) (by intro y y2 h; rfl) ?_
    refine net_pure (fun y => [(13, _)]) (fun y => rfl) rfl rfl rfl (fun y hA L => st_v (v_fieldAddr V.f46_0 rfl) ⟨rfl, rfl⟩) (by intros; rfl) (by intro y y2 h; rfl) ?_
    refine net_read (fun y => [Cel b 46 [.slice p1 l.length c1, .slice p2 l.length c2, .slice p3 l.length c3]]) (fun y => [(14, _)]) (fun y => rfl) rfl (fun y => rfl) rfl (fun y FF hA => st_v (v_load V.s27 rfl (by first | exact mm0 | exact mm1 | exact mm2 | exact mm3 | exact mm4 | exact mm5 | exact mm6 | exact mm7 | exact mm8 | exact mm9 | exact mm10 | exact mm11 | exact mm12 | exact mm13 | exact mm14) rfl) ⟨rfl, rfl⟩) (by intros; rfl) (by intro y y2 h; rfl) ?_
    refine net_pure (fun y => [(5, _)]) (fun y => rfl) rfl rfl rfl (fun y hA L => st_v (v_move rfl) ⟨rfl, rfl⟩) (by intros; rfl) (by intro y y2 h; rfl) ?_
    refine net_pure (fun y => [(15, _), (16, _)]) (fun y => rfl) rfl rfl rfl (fun y hA L => st_v (v_slice0 i _ V.sl27 rfl ⟨_, rfl⟩ rfl (by omega) (by omega)) ⟨rfl, rfl⟩) (by intros; rfl) (by intro y y2 h; rfl) ?_
    refine net_new (fun y v => .slice (slP v) i (slC v)) (fun y v => True) (fun y => []) (fun y => [Row I3 p1 l.length c1 (l.map Mb.who)]) (fun y v => [Row (I3) (slP v) i (slC v) ((l.map Mb.who).take i)]) (fun y => [(17, _)]) (fun y => rfl) (fun y => rfl) (fun y => rfl) (fun y => rfl) (fun y FF hA => st_appN (r_appNilX (c := (I3)) V.sl27 V.z3 rfl rfl rfl rfl (Has.take (by first | exact own mm0 | exact own mm1 | exact own mm2 | exact own mm3 | exact own mm4 | exact own mm5 | exact own mm6 | exact own mm7 | exact own mm8 | exact own mm9 | exact own mm10 | exact own mm11) i (by omega)) (by omega)) (.refl _)) (by intros; rfl) (by intros; rfl) (by intros; rfl) (by intro y y2 h; simp only [h 7 (.inl rfl)]) (by intro y y2 h; rfl) ?_
    refine net_pure (fun y => [(0, _)]) (fun y => rfl) rfl rfl rfl (fun y hA L => st_v (v_move rfl) ⟨rfl, rfl⟩) (by intros; rfl) (by intro y y2 h; rfl) ?_
    refine net_pure (fun y => [(19, _)]) (fun y => rfl) rfl rfl rfl (fun y hA L => st_v (v_nil rfl) ⟨rfl, rfl⟩) (by intros; rfl) (by intro y y2 h; rfl) ?_
    refine net_pure (fun y => [(20, _)]) (fun y => rfl) rfl rfl rfl (fun y hA L => st_v (v_fieldAddr V.f46_0 rfl) ⟨rfl, rfl⟩) (by intros; rfl) (by intro y y2 h; rfl) ?_
    refine net_read (fun y => [Cel b 46 [.slice p1 l.length c1, .slice p2 l.length c2, .slice p3 l.length c3]]) (fun y => [(21, _)]) (fun y => rfl) rfl (fun y => rfl) rfl (fun y FF hA => st_v (v_load V.s27 rfl (by first | exact mm0 | exact mm1 | exact mm2 | exact mm3 | exact mm4 | exact mm5 | exact mm6 | exact mm7 | exact mm8 | exact mm9 | exact mm10 | exact mm11 | exact mm12 | exact mm13 | exact mm14) rfl) ⟨rfl, rfl⟩) (by intros; rfl) (by intro y y2 h; rfl) ?_
    refine net_pure (fun y => [(5, _)]) (fun y => rfl) rfl rfl rfl (fun y hA L => st_v (v_move rfl) ⟨rfl, rfl⟩) (by intros; rfl) (by intro y y2 h; rfl) ?_
    refine net_pure (fun y => [(23, _)]) (fun y => rfl) rfl rfl rfl (fun y hA L => st_v (v_add rfl rfl (wrapI (by omega) (by omega))) ⟨rfl, rfl⟩) (by intros; rfl) (by intro y y2 h; rfl) ?_
    refine net_pure (fun y => [(22, _), (24, _)]) (fun y => rfl) rfl rfl rfl (fun y hA L => st_v (v_slice (i + 1) _ _ V.sl27 rfl ⟨_, rfl⟩ ⟨rfl, rfl⟩ rfl (by omega) (by omega) (by omega)) ⟨rfl, rfl⟩) (by intros; rfl) (by intro y y2 h; rfl) ?_
    refine net_new (fun y v => .slice (slP v) (i + (l.length - (i + 1))) (slC v)) (fun y v => True) (fun y => [Row (I3) (slP (y 7)) i (slC (y 7)) ((l.map Mb.who).take i)]) (fun y => [Row I3 p1 l.length c1 (l.map Mb.who)]) (fun y v => [Row (I3) (slP v) (i + (l.length - (i + 1))) (slC v) (((l.map Mb.who).take i) ++ (((l.map Mb.who).drop (i + 1)).take (l.length - (i + 1))))]) (fun y => [(18, _), (25, _)]) (fun y => rfl) (fun y => rfl) (fun y => rfl) (fun y => rfl) (fun y FF hA => st_appN (r_appendX (c := (I3)) V.sl27 V.z3 rfl rfl rfl rfl rr0 (Has.sub (by first | exact own mm0 | exact own mm1 | exact own mm2 | exact own mm3 | exact own mm4 | exact own mm5 | exact own mm6 | exact own mm7 | exact own mm8 | exact own mm9 | exact own mm10 | exact own mm11) (i + 1) l.length c1 (by omega) (by omega) (by omega)) (by omega)) (.refl _)) (by intros; rfl) (by intros; rfl) (by intros; rfl) (by intro y y2 h; simp only [h 7 (.inr (by decide)), h 15 (.inl rfl)]) (by intro y y2 h; rfl) ?_
    refine net_pure (fun y => [(11, _)]) (fun y => rfl) rfl rfl rfl (fun y hA L => st_v (v_nil rfl) ⟨rfl, rfl⟩) (by intros; rfl) (by intro y y2 h; rfl) ?_
    refine net_pure (fun y => [(27, _)]) (fun y => rfl) rfl rfl rfl (fun y hA L => st_v (v_fieldAddr V.f46_0 rfl) ⟨rfl, rfl⟩) (by intros; rfl) (by intro y y2 h; rfl) ?_
    refine net_eff (fun y => [Cel b 46 [.slice p1 l.length c1, .slice p2 l.length c2, .slice p3 l.length c3]]) (fun y => []) (fun y => [Cel b 46 [.slice (slP (y 15)) (i + (l.length - (i + 1))) (slC (y 15)), .slice p2 l.length c2, .slice p3 l.length c3]]) (fun y => [(28, _), (26, _)]) (fun y => rfl) (fun y => rfl) (fun y => rfl) (fun y => rfl) (fun y FF hA => st_v (v_store V.s27 rfl rfl rfl (by first | exact pp0 | exact pp1 | exact pp2 | exact pp3 | exact pp4 | exact pp5 | exact pp6 | exact pp7 | exact pp8 | exact pp9 | exact pp10 | exact pp11 | exact pp12 | exact pp13 | exact pp14) (by exact Nat.le_of_ble_eq_true rfl) rfl) ⟨rfl, .refl _⟩) (by intros; rfl) (by intros; rfl) (by intro y y2 h; first | rfl | simp only [h 15 (.inr (by decide))]) ?_
    refine net_nil ?_
    intro y hA
    clear hA
    refine thn_n ?_
    refine w_keep _ (.cons (d := 0) rfl (.cons (d := 5) rfl (.nil _))) ?_
    refine w_sub (M := Row I3 p1 l.length c1 (l.map Mb.who) :: Row I3 p2 l.length c2 (l.map Mb.q) :: Row I3 p3 l.length c3 (l.map Mb.c) :: Row (I3) (slP (y 15)) (i + (l.length - (i + 1))) (slC (y 15)) (((l.map Mb.who).take i) ++ (((l.map Mb.who).drop (i + 1)).take (l.length - (i + 1)))) :: Cel b 46 [.slice (slP (y 15)) (i + (l.length - (i + 1))) (slC (y 15)), .slice p2 l.length c2, .slice p3 l.length c3] :: F) (fun _ _ h => h) ?_
    refine w_sub (sub .nil (.skip (.keep (.keep (.keep (.keep .refl)))))) ?_
    simp only [List.nil_append]
    generalize (slP (y 7)) = p18
    generalize (slC (y 7)) = c18
    generalize (slP (y 15)) = p26
    generalize (slC (y 15)) = c26
    refine w_seq ?_
    refine w_net [⟨[], [], [0], 0, 0⟩, ⟨[], [], [0], 0, 0⟩, ⟨[1], [1], [], 0, 0⟩, ⟨[1, 2], [2], [], 0, 0⟩, ⟨[1, 2, 3], [3], [], 0, 0⟩, ⟨[], [], [5], 0, 0⟩, ⟨[1, 2, 3, 4, 5], [4, 5], [], 0, 0⟩, ⟨[1, 2, 3, 4, 5, 6], [6], [], 0, 0⟩, ⟨[], [], [0], 0, 0⟩, ⟨[8], [8], [], 0, 0⟩, ⟨[8, 9], [9], [], 0, 0⟩, ⟨[8, 9, 10], [10], [], 0, 0⟩, ⟨[], [], [5], 0, 0⟩, ⟨[12], [12], [], 0, 0⟩, ⟨[8, 9, 10, 11, 12, 13], [11, 13], [], 0, 0⟩, ⟨[1, 2, 3, 4, 5, 6, 7, 8, 9, 10, 11, 12, 13, 14], [7, 14], [], 0, 0⟩, ⟨[0, 1, 2, 3, 4, 5, 6, 7, 8, 9, 10, 11, 12, 13, 14, 15], [0], [], 0, 0⟩, ⟨[0, 1, 2, 3, 4, 5, 6, 7, 8, 9, 10, 11, 12, 13, 14, 15, 16], [16], [], 0, 0⟩, ⟨[0, 1, 2, 3, 4, 5, 6, 7, 8, 9, 10, 11, 12, 13, 14, 15, 16, 17], [17, 15], [], 0, 0⟩] [⟨fun y => Row I3 p2 l.length c2 (l.map Mb.q), none, none, [7, 15]⟩, ⟨fun y => Row I3 p3 l.length c3 (l.map Mb.c), none, none, []⟩, ⟨fun y => Row (I3) p26 (i + (l.length - (i + 1))) c26 (((l.map Mb.who).take i) ++ (((l.map Mb.who).drop (i + 1)).take (l.length - (i + 1)))), none, none, []⟩, ⟨fun y => Cel b 46 [.slice p26 (i + (l.length - (i + 1))) c26, .slice p2 l.length c2, .slice p3 l.length c3], none, some 18, [4, 11]⟩, ⟨fun y => Row (I3) (slP (y 7)) i (slC (y 7)) ((l.map Mb.q).take i), some 7, some 15, []⟩, ⟨fun y => Row (I3) (slP (y 15)) (i + (l.length - (i + 1))) (slC (y 15)) (((l.map Mb.q).take i) ++ (((l.map Mb.q).drop (i + 1)).take (l.length - (i + 1)))), some 15, none, []⟩, ⟨fun y => Cel b 46 [.slice p26 (i + (l.length - (i + 1))) c26, .slice (slP (y 15)) (i + (l.length - (i + 1))) (slC (y 15)), .slice p3 l.length c3], some 18, none, []⟩] F V.mixed (by kernel_rfl) rfl (fun _ => .refl _) (locT_0 _ (locT_0 _ (locT_0 _ (locT_0 _ (locT_1 [1, 2, 3, 4, 5, 6] rfl (by intro y y2 h; simp only [h 7 (.inl rfl)]) (locT_1 [1, 2, 3, 4, 5, 6, 7, 8, 9, 10, 11, 12, 13, 14] rfl (by intro y y2 h; simp only [h 15 (.inl rfl)]) (locT_1 [0, 1, 2, 3, 4, 5, 6, 7, 8, 9, 10, 11, 12, 13, 14, 15, 16, 17] rfl (by intro y y2 h; simp only [h 15 (.inr (by decide))]) locT_nil))))))) ?_
    refine net_pure (fun y => [(0, _)]) (fun y => rfl) rfl rfl rfl (fun y hA L => st_v (v_move rfl) ⟨rfl, rfl⟩) (by intros; rfl) (by intro y y2 h; rfl) ?_
    refine net_pure (fun y => [(0, _)]) (fun y => rfl) rfl rfl rfl (fun y hA L => st_v (v_move rfl) ⟨rfl, rfl⟩) (by intros; rfl) (by intro y y2 h; rfl) ?_
    refine net_pure (fun y => [(30, _)]) (fun y => rfl) rfl rfl rfl (fun y hA L => st_v (v_nil rfl) ⟨rfl, rfl⟩) (by intros; rfl) (by intro y y2 h; rfl) ?_
    refine net_pure (fun y => [(31, _)]) (fun y => rfl) rfl rfl rfl (fun y hA L => st_v (v_fieldAddr V.f46_1 rfl) ⟨rfl, rfl⟩) (by intros; rfl) (by intro y y2 h; rfl) ?_
    refine net_read (fun y => [Cel b 46 [.slice p26 (i + (l.length - (i + 1))) c26, .slice p2 l.length c2, .slice p3 l.length c3]]) (fun y => [(32, _)]) (fun y => rfl) rfl (fun y => rfl) rfl (fun y FF hA => st_v (v_load V.s27 rfl (by first | exact mm0 | exact mm1 | exact mm2 | exact mm3 | exact mm4 | exact mm5 | exact mm6 | exact mm7 | exact mm8 | exact mm9 | exact mm10 | exact mm11 | exact mm12 | exact mm13 | exact mm14) rfl) ⟨rfl, rfl⟩) (by intros; rfl) (by intro y y2 h; rfl) ?_
    refine net_pure (fun y => [(5, _)]) (fun y => rfl) rfl rfl rfl (fun y hA L => st_v (v_move rfl) ⟨rfl, rfl⟩) (by intros; rfl) (by intro y y2 h; rfl) ?_
    refine net_pure (fun y => [(33, _), (34, _)]) (fun y => rfl) rfl rfl rfl (fun y hA L => st_v (v_slice0 i _ V.sl27 rfl ⟨_, rfl⟩ rfl (by omega) (by omega)) ⟨rfl, rfl⟩) (by intros; rfl) (by intro y y2 h; rfl) ?_
    refine net_new (fun y v => .slice (slP v) i (slC v)) (fun y v => True) (fun y => []) (fun y => [Row I3 p2 l.length c2 (l.map Mb.q)]) (fun y v => [Row (I3) (slP v) i (slC v) ((l.map Mb.q).take i)]) (fun y => [(35, _)]) (fun y => rfl) (fun y => rfl) (fun y => rfl) (fun y => rfl) (fun y FF hA => st_appN (r_appNilX (c := (I3)) V.sl27 V.z3 rfl rfl rfl rfl (Has.take (by first | exact own mm0 | exact own mm1 | exact own mm2 | exact own mm3 | exact own mm4 | exact own mm5 | exact own mm6 | exact own mm7 | exact own mm8 | exact own mm9 | exact own mm10 | exact own mm11) i (by omega)) (by omega)) (.refl _)) (by intros; rfl) (by intros; rfl) (by intros; rfl) (by intro y y2 h; simp only [h 7 (.inl rfl)]) (by intro y y2 h; rfl) ?_
    refine net_pure (fun y => [(0, _)]) (fun y => rfl) rfl rfl rfl (fun y hA L => st_v (v_move rfl) ⟨rfl, rfl⟩) (by intros; rfl) (by intro y y2 h; rfl) ?_
    refine net_pure (fun y => [(37, _)]) (fun y => rfl) rfl rfl rfl (fun y hA L => st_v (v_nil rfl) ⟨rfl, rfl⟩) (by intros; rfl) (by intro y y2 h; rfl) ?_
    refine net_pure (fun y => [(38, _)]) (fun y => rfl) rfl rfl rfl (fun y hA L => st_v (v_fieldAddr V.f46_1 rfl) ⟨rfl, rfl⟩) (by intros; rfl) (by intro y y2 h; rfl) ?_
    refine net_read (fun y => [Cel b 46 [.slice p26 (i + (l.length - (i + 1))) c26, .slice p2 l.length c2, .slice p3 l.length c3]]) (fun y => [(39, _)]) (fun y => rfl) rfl (fun y => rfl) rfl (fun y FF hA => st_v (v_load V.s27 rfl (by first | exact mm0 | exact mm1 | exact mm2 | exact mm3 | exact mm4 | exact mm5 | exact mm6 | exact mm7 | exact mm8 | exact mm9 | exact mm10 | exact mm11 | exact mm12 | exact mm13 | exact mm14) rfl) ⟨rfl, rfl⟩) (by intros; rfl) (by intro y y2 h; rfl) ?_
    refine net_pure (fun y => [(5, _)]) (fun y => rfl) rfl rfl rfl (fun y hA L => st_v (v_move rfl) ⟨rfl, rfl⟩) (by intros; rfl) (by intro y y2 h; rfl) ?_
    refine net_pure (fun y => [(41, _)]) (fun y => rfl) rfl rfl rfl (fun y hA L => st_v (v_add rfl rfl (wrapI (by omega) (by omega))) ⟨rfl, rfl⟩) (by intros; rfl) (by intro y y2 h; rfl) ?_
    refine net_pure (fun y => [(40, _), (42, _)]) (fun y => rfl) rfl rfl rfl (fun y hA L => st_v (v_slice (i + 1) _ _ V.sl27 rfl ⟨_, rfl⟩ ⟨rfl, rfl⟩ rfl (by omega) (by omega) (by omega)) ⟨rfl, rfl⟩) (by intros; rfl) (by intro y y2 h; rfl) ?_
    refine net_new (fun y v => .slice (slP v) (i + (l.length - (i + 1))) (slC v)) (fun y v => True) (fun y => [Row (I3) (slP (y 7)) i (slC (y 7)) ((l.map Mb.q).take i)]) (fun y => [Row I3 p2 l.length c2 (l.map Mb.q)]) (fun y v => [Row (I3) (slP v) (i + (l.length - (i + 1))) (slC v) (((l.map Mb.q).take i) ++ (((l.map Mb.q).drop (i + 1)).take (l.length - (i + 1))))]) (fun y => [(36, _), (43, _)]) (fun y => rfl) (fun y => rfl) (fun y => rfl) (fun y => rfl) (fun y FF hA => st_appN (r_appendX (c := (I3)) V.sl27 V.z3 rfl rfl rfl rfl rr0 (Has.sub (by first | exact own mm0 | exact own mm1 | exact own mm2 | exact own mm3 | exact own mm4 | exact own mm5 | exact own mm6 | exact own mm7 | exact own mm8 | exact own mm9 | exact own mm10 | exact own mm11) (i + 1) l.length c2 (by omega) (by omega) (by omega)) (by omega)) (.refl _)) (by intros; rfl) (by intros; rfl) (by intros; rfl) (by intro y y2 h; simp only [h 7 (.inr (by decide)), h 15 (.inl rfl)]) (by intro y y2 h; rfl) ?_
    refine net_pure (fun y => [(29, _)]) (fun y => rfl) rfl rfl rfl (fun y hA L => st_v (v_nil rfl) ⟨rfl, rfl⟩) (by intros; rfl) (by intro y y2 h; rfl) ?_
    refine net_pure (fun y => [(45, _)]) (fun y => rfl) rfl rfl rfl (fun y hA L => st_v (v_fieldAddr V.f46_1 rfl) ⟨rfl, rfl⟩) (by intros; rfl) (by intro y y2 h; rfl) ?_
    refine net_eff (fun y => [Cel b 46 [.slice p26 (i + (l.length - (i + 1))) c26, .slice p2 l.length c2, .slice p3 l.length c3]]) (fun y => []) (fun y => [Cel b 46 [.slice p26 (i + (l.length - (i + 1))) c26, .slice (slP (y 15)) (i + (l.length - (i + 1))) (slC (y 15)), .slice p3 l.length c3]]) (fun y => [(46, _), (44, _)]) (fun y => rfl) (fun y => rfl) (fun y => rfl) (fun y => rfl) (fun y FF hA => st_v (v_store V.s27 rfl rfl rfl (by first | exact pp0 | exact pp1 | exact pp2 | exact pp3 | exact pp4 | exact pp5 | exact pp6 | exact pp7 | exact pp8 | exact pp9 | exact pp10 | exact pp11 | exact pp12 | exact pp13 | exact pp14) (by exact Nat.le_of_ble_eq_true rfl) rfl) ⟨rfl, .refl _⟩) (by intros; rfl) (by intros; rfl) (by intro y y2 h; first | rfl | simp only [h 15 (.inr (by decide))]) ?_
    refine net_nil ?_
    intro y hA
    clear hA
    refine thn_n ?_
    refine w_keep _ (.cons (d := 0) rfl (.cons (d := 5) rfl (.nil _))) ?_
    refine w_sub (M := Row I3 p2 l.length c2 (l.map Mb.q) :: Row I3 p3 l.length c3 (l.map Mb.c) :: Row (I3) p26 (i + (l.length - (i + 1))) c26 (((l.map Mb.who).take i) ++ (((l.map Mb.who).drop (i + 1)).take (l.length - (i + 1)))) :: Row (I3) (slP (y 15)) (i + (l.length - (i + 1))) (slC (y 15)) (((l.map Mb.q).take i) ++ (((l.map Mb.q).drop (i + 1)).take (l.length - (i + 1)))) :: Cel b 46 [.slice p26 (i + (l.length - (i + 1))) c26, .slice (slP (y 15)) (i + (l.length - (i + 1))) (slC (y 15)), .slice p3 l.length c3] :: F) (fun _ _ h => h) ?_
    refine w_sub (sub .nil (.skip (.keep (.keep (.keep (.keep .refl)))))) ?_
    simp only [List.nil_append]
    generalize (slP (y 7)) = p36
    generalize (slC (y 7)) = c36
    generalize (slP (y 15)) = p44
    generalize (slC (y 15)) = c44
    refine w_seq ?_
    refine w_net [⟨[], [], [0], 0, 0⟩, ⟨[], [], [0], 0, 0⟩, ⟨[1], [1], [], 0, 0⟩, ⟨[1, 2], [2], [], 0, 0⟩, ⟨[1, 2, 3], [3], [], 0, 0⟩, ⟨[], [], [5], 0, 0⟩, ⟨[1, 2, 3, 4, 5], [4, 5], [], 0, 0⟩, ⟨[1, 2, 3, 4, 5, 6], [6], [], 0, 0⟩, ⟨[], [], [0], 0, 0⟩, ⟨[8], [8], [], 0, 0⟩, ⟨[8, 9], [9], [], 0, 0⟩, ⟨[8, 9, 10], [10], [], 0, 0⟩, ⟨[], [], [5], 0, 0⟩, ⟨[12], [12], [], 0, 0⟩, ⟨[8, 9, 10, 11, 12, 13], [11, 13], [], 0, 0⟩, ⟨[1, 2, 3, 4, 5, 6, 7, 8, 9, 10, 11, 12, 13, 14], [7, 14], [], 0, 0⟩, ⟨[0, 1, 2, 3, 4, 5, 6, 7, 8, 9, 10, 11, 12, 13, 14, 15], [0], [], 0, 0⟩, ⟨[0, 1, 2, 3, 4, 5, 6, 7, 8, 9, 10, 11, 12, 13, 14, 15, 16], [16], [], 0, 0⟩, ⟨[0, 1, 2, 3, 4, 5, 6, 7, 8, 9, 10, 11, 12, 13, 14, 15, 16, 17], [17, 15], [], 0, 0⟩] [⟨fun y => Row I3 p3 l.length c3 (l.map Mb.c), none, none, [7, 15]⟩, ⟨fun y => Row (I3) p26 (i + (l.length - (i + 1))) c26 (((l.map Mb.who).take i) ++ (((l.map Mb.who).drop (i + 1)).take (l.length - (i + 1)))), none, none, []⟩, ⟨fun y => Row (I3) p44 (i + (l.length - (i + 1))) c44 (((l.map Mb.q).take i) ++ (((l.map Mb.q).drop (i + 1)).take (l.length - (i + 1)))), none, none, []⟩, ⟨fun y => Cel b 46 [.slice p26 (i + (l.length - (i + 1))) c26, .slice p44 (i + (l.length - (i + 1))) c44, .slice p3 l.length c3], none, some 18, [4, 11]⟩, ⟨fun y => Row (I3) (slP (y 7)) i (slC (y 7)) ((l.map Mb.c).take i), some 7, some 15, []⟩, ⟨fun y => Row (I3) (slP (y 15)) (i + (l.length - (i + 1))) (slC (y 15)) (((l.map Mb.c).take i) ++ (((l.map Mb.c).drop (i + 1)).take (l.length - (i + 1)))), some 15, none, []⟩, ⟨fun y => Cel b 46 [.slice p26 (i + (l.length - (i + 1))) c26, .slice p44 (i + (l.length - (i + 1))) c44, .slice (slP (y 15)) (i + (l.length - (i + 1))) (slC (y 15))], some 18, none, []⟩] F V.mixed (by kernel_rfl) rfl (fun _ => .refl _) (locT_0 _ (locT_0 _ (locT_0 _ (locT_0 _ (locT_1 [1, 2, 3, 4, 5, 6] rfl (by intro y y2 h; simp only [h 7 (.inl rfl)]) (locT_1 [1, 2, 3, 4, 5, 6, 7, 8, 9, 10, 11, 12, 13, 14] rfl (by intro y y2 h; simp only [h 15 (.inl rfl)]) (locT_1 [0, 1, 2, 3, 4, 5, 6, 7, 8, 9, 10, 11, 12, 13, 14, 15, 16, 17] rfl (by intro y y2 h; simp only [h 15 (.inr (by decide))]) locT_nil))))))) ?_
    refine net_pure (fun y => [(0, _)]) (fun y => rfl) rfl rfl rfl (fun y hA L => st_v (v_move rfl) ⟨rfl, rfl⟩) (by intros; rfl) (by intro y y2 h; rfl) ?_
    refine net_pure (fun y => [(0, _)]) (fun y => rfl) rfl rfl rfl (fun y hA L => st_v (v_move rfl) ⟨rfl, rfl⟩) (by intros; rfl) (by intro y y2 h; rfl) ?_
    refine net_pure (fun y => [(48, _)]) (fun y => rfl) rfl rfl rfl (fun y hA L => st_v (v_nil rfl) ⟨rfl, rfl⟩) (by intros; rfl) (by intro y y2 h; rfl) ?_
    refine net_pure (fun y => [(49, _)]) (fun y => rfl) rfl rfl rfl (fun y hA L => st_v (v_fieldAddr V.f46_2 rfl) ⟨rfl, rfl⟩) (by intros; rfl) (by intro y y2 h; rfl) ?_
    refine net_read (fun y => [Cel b 46 [.slice p26 (i + (l.length - (i + 1))) c26, .slice p44 (i + (l.length - (i + 1))) c44, .slice p3 l.length c3]]) (fun y => [(50, _)]) (fun y => rfl) rfl (fun y => rfl) rfl (fun y FF hA => st_v (v_load V.s27 rfl (by first | exact mm0 | exact mm1 | exact mm2 | exact mm3 | exact mm4 | exact mm5 | exact mm6 | exact mm7 | exact mm8 | exact mm9 | exact mm10 | exact mm11 | exact mm12 | exact mm13 | exact mm14) rfl) ⟨rfl, rfl⟩) (by intros; rfl) (by intro y y2 h; rfl) ?_
    refine net_pure (fun y => [(5, _)]) (fun y => rfl) rfl rfl rfl (fun y hA L => st_v (v_move rfl) ⟨rfl, rfl⟩) (by intros; rfl) (by intro y y2 h; rfl) ?_
    refine net_pure (fun y => [(51, _), (52, _)]) (fun y => rfl) rfl rfl rfl (fun y hA L => st_v (v_slice0 i _ V.sl27 rfl ⟨_, rfl⟩ rfl (by omega) (by omega)) ⟨rfl, rfl⟩) (by intros; rfl) (by intro y y2 h; rfl) ?_
    refine net_new (fun y v => .slice (slP v) i (slC v)) (fun y v => True) (fun y => []) (fun y => [Row I3 p3 l.length c3 (l.map Mb.c)]) (fun y v => [Row (I3) (slP v) i (slC v) ((l.map Mb.c).take i)]) (fun y => [(53, _)]) (fun y => rfl) (fun y => rfl) (fun y => rfl) (fun y => rfl) (fun y FF hA => st_appN (r_appNilX (c := (I3)) V.sl27 V.z3 rfl rfl rfl rfl (Has.take (by first | exact own mm0 | exact own mm1 | exact own mm2 | exact own mm3 | exact own mm4 | exact own mm5 | exact own mm6 | exact own mm7 | exact own mm8 | exact own mm9 | exact own mm10 | exact own mm11) i (by omega)) (by omega)) (.refl _)) (by intros; rfl) (by intros; rfl) (by intros; rfl) (by intro y y2 h; simp only [h 7 (.inl rfl)]) (by intro y y2 h; rfl) ?_
    refine net_pure (fun y => [(0, _)]) (fun y => rfl) rfl rfl rfl (fun y hA L => st_v (v_move rfl) ⟨rfl, rfl⟩) (by intros; rfl) (by intro y y2 h; rfl) ?_
    refine net_pure (fun y => [(55, _)]) (fun y => rfl) rfl rfl rfl (fun y hA L => st_v (v_nil rfl) ⟨rfl, rfl⟩) (by intros; rfl) (by intro y y2 h; rfl) ?_
    refine net_pure (fun y => [(56, _)]) (fun y => rfl) rfl rfl rfl (fun y hA L => st_v (v_fieldAddr V.f46_2 rfl) ⟨rfl, rfl⟩) (by intros; rfl) (by intro y y2 h; rfl) ?_
    refine net_read (fun y => [Cel b 46 [.slice p26 (i + (l.length - (i + 1))) c26, .slice p44 (i + (l.length - (i + 1))) c44, .slice p3 l.length c3]]) (fun y => [(57, _)]) (fun y => rfl) rfl (fun y => rfl) rfl (fun y FF hA => st_v (v_load V.s27 rfl (by first | exact mm0 | exact mm1 | exact mm2 | exact mm3 | exact mm4 | exact mm5 | exact mm6 | exact mm7 | exact mm8 | exact mm9 | exact mm10 | exact mm11 | exact mm12 | exact mm13 | exact mm14) rfl) ⟨rfl, rfl⟩) (by intros; rfl) (by intro y y2 h; rfl) ?_
    refine net_pure (fun y => [(5, _)]) (fun y => rfl) rfl rfl rfl (fun y hA L => st_v (v_move rfl) ⟨rfl, rfl⟩) (by intros; rfl) (by intro y y2 h; rfl) ?_
    refine net_pure (fun y => [(59, _)]) (fun y => rfl) rfl rfl rfl (fun y hA L => st_v (v_add rfl rfl (wrapI (by omega) (by omega))) ⟨rfl, rfl⟩) (by intros; rfl) (by intro y y2 h; rfl) ?_
    refine net_pure (fun y => [(58, _), (60, _)]) (fun y => rfl) rfl rfl rfl (fun y hA L => st_v (v_slice (i + 1) _ _ V.sl27 rfl ⟨_, rfl⟩ ⟨rfl, rfl⟩ rfl (by omega) (by omega) (by omega)) ⟨rfl, rfl⟩) (by intros; rfl) (by intro y y2 h; rfl) ?_
    refine net_new (fun y v => .slice (slP v) (i + (l.length - (i + 1))) (slC v)) (fun y v => True) (fun y => [Row (I3) (slP (y 7)) i (slC (y 7)) ((l.map Mb.c).take i)]) (fun y => [Row I3 p3 l.length c3 (l.map Mb.c)]) (fun y v => [Row (I3) (slP v) (i + (l.length - (i + 1))) (slC v) (((l.map Mb.c).take i) ++ (((l.map Mb.c).drop (i + 1)).take (l.length - (i + 1))))]) (fun y => [(54, _), (61, _)]) (fun y => rfl) (fun y => rfl) (fun y => rfl) (fun y => rfl) (fun y FF hA => st_appN (r_appendX (c := (I3)) V.sl27 V.z3 rfl rfl rfl rfl rr0 (Has.sub (by first | exact own mm0 | exact own mm1 | exact own mm2 | exact own mm3 | exact own mm4 | exact own mm5 | exact own mm6 | exact own mm7 | exact own mm8 | exact own mm9 | exact own mm10 | exact own mm11) (i + 1) l.length c3 (by omega) (by omega) (by omega)) (by omega)) (.refl _)) (by intros; rfl) (by intros; rfl) (by intros; rfl) (by intro y y2 h; simp only [h 7 (.inr (by decide)), h 15 (.inl rfl)]) (by intro y y2 h; rfl) ?_
    refine net_pure (fun y => [(47, _)]) (fun y => rfl) rfl rfl rfl (fun y hA L => st_v (v_nil rfl) ⟨rfl, rfl⟩) (by intros; rfl) (by intro y y2 h; rfl) ?_
    refine net_pure (fun y => [(63, _)]) (fun y => rfl) rfl rfl rfl (fun y hA L => st_v (v_fieldAddr V.f46_2 rfl) ⟨rfl, rfl⟩) (by intros; rfl) (by intro y y2 h; rfl) ?_
    refine net_eff (fun y => [Cel b 46 [.slice p26 (i + (l.length - (i + 1))) c26, .slice p44 (i + (l.length - (i + 1))) c44, .slice p3 l.length c3]]) (fun y => []) (fun y => [Cel b 46 [.slice p26 (i + (l.length - (i + 1))) c26, .slice p44 (i + (l.length - (i + 1))) c44, .slice (slP (y 15)) (i + (l.length - (i + 1))) (slC (y 15))]]) (fun y => [(64, _), (62, _)]) (fun y => rfl) (fun y => rfl) (fun y => rfl) (fun y => rfl) (fun y FF hA => st_v (v_store V.s27 rfl rfl rfl (by first | exact pp0 | exact pp1 | exact pp2 | exact pp3 | exact pp4 | exact pp5 | exact pp6 | exact pp7 | exact pp8 | exact pp9 | exact pp10 | exact pp11 | exact pp12 | exact pp13 | exact pp14) (by exact Nat.le_of_ble_eq_true rfl) rfl) ⟨rfl, .refl _⟩) (by intros; rfl) (by intros; rfl) (by intro y y2 h; first | rfl | simp only [h 15 (.inr (by decide))]) ?_
    refine net_nil ?_
    intro y hA
    clear hA
    refine thn_n ?_
    refine w_keep _ (.nil _) ?_
    refine w_sub (M := Row I3 p3 l.length c3 (l.map Mb.c) :: Row (I3) p26 (i + (l.length - (i + 1))) c26 (((l.map Mb.who).take i) ++ (((l.map Mb.who).drop (i + 1)).take (l.length - (i + 1)))) :: Row (I3) p44 (i + (l.length - (i + 1))) c44 (((l.map Mb.q).take i) ++ (((l.map Mb.q).drop (i + 1)).take (l.length - (i + 1)))) :: Row (I3) (slP (y 15)) (i + (l.length - (i + 1))) (slC (y 15)) (((l.map Mb.c).take i) ++ (((l.map Mb.c).drop (i + 1)).take (l.length - (i + 1)))) :: Cel b 46 [.slice p26 (i + (l.length - (i + 1))) c26, .slice p44 (i + (l.length - (i + 1))) c44, .slice (slP (y 15)) (i + (l.length - (i + 1))) (slC (y 15))] :: F) (fun _ _ h => h) ?_
    refine w_sub (sub .nil (.skip (.keep (.keep (.keep (.keep .refl)))))) ?_
    simp only [List.nil_append]
    generalize (slP (y 7)) = p54
    generalize (slC (y 7)) = c54
    generalize (slP (y 15)) = p62
    generalize (slC (y 15)) = c62
    refine w_seq ?_
    refine w_region ?_
    refine o_val (v_assign rfl) rfl ?_
    refine o_nil ?_
    refine thn_n ?_
    refine w_ret ?_
    exact ret_ok (G := [RF b (l.eraseIdx i)]) (res1 rfl) ⟨rfl, rfl⟩ (fold' (.cons (by first | exact rr0 | exact rr1 | exact rr2 | exact rr3 | exact rr4 | exact rr5 | exact rr6 | exact rr7 | exact rr8 | exact rr9 | exact rr10 | exact rr11 | exact rr12 | exact rr13 | exact rr14) (.cons (by first | exact rr0 | exact rr1 | exact rr2 | exact rr3 | exact rr4 | exact rr5 | exact rr6 | exact rr7 | exact rr8 | exact rr9 | exact rr10 | exact rr11 | exact rr12 | exact rr13 | exact rr14) (.cons (by first | exact rr0 | exact rr1 | exact rr2 | exact rr3 | exact rr4 | exact rr5 | exact rr6 | exact rr7 | exact rr8 | exact rr9 | exact rr10 | exact rr11 | exact rr12 | exact rr13 | exact rr14) (.cons (by first | exact rr0 | exact rr1 | exact rr2 | exact rr3 | exact rr4 | exact rr5 | exact rr6 | exact rr7 | exact rr8 | exact rr9 | exact rr10 | exact rr11 | exact rr12 | exact rr13 | exact rr14) .nil)))) (by first | exact dd0 | exact dd1 | exact dd2 | exact dd3 | exact dd4 | exact dd5 | exact dd6 | exact dd7 | exact dd8 | exact dd9 | exact dd10 | exact dd11 | exact dd12 | exact dd13 | exact dd14) (fun w0 h hh => rf_close (by rw [List.length_eraseIdx, if_pos hlt]; omega) (erase_list i _ hlt rfl) (erase_list i _ hlt rfl) (erase_list i _ hlt rfl) hh))

theorem r_leave (b : Nat) (who : Int) (l : List Mb) (hl : l.length ≤ 1000) : Ctr Try.prog 20 [.pointer (some ⟨b, 0, none⟩), .int .i64 who] [RF b l] (Ret fun v G => v = .bool (lRes l who) ∧ G = [RF b (lList l who)]) := by
  unfold lRes isIn lList
  cases hi : l.findIdx? (isWho who) with
  | none => exact r_leave_no b who l hl hi
  | some i => exact r_leave_yes b who l hl i hi
theorem p_leave (b : Nat) (who : Int) (l : List Mb) (hl : l.length ≤ 1000) : Ctr Try.prog 16 [.pointer (some ⟨b, 0, none⟩), .int .i64 who] [IsFair b l] (Ret fun v G => v = .bool (lRes l who) ∧ G = [IsFair b (lList l who)]) := by
  unfold lRes isIn lList
  cases hi : l.findIdx? (isWho who) with
  | none => exact leave_no b who l hl hi
  | some i => exact leave_yes b who l hl i hi
theorem r_credit (b : Nat) (who : Int) (l : List Mb) (hl : l.length ≤ 1000) : Ctr Try.prog 23 [.pointer (some ⟨b, 0, none⟩), .int .i64 who] [RF b l] (Ret fun v G => v = .int .i64 (cRes l who) ∧ G = [RF b l]) := by
  unfold cRes
  cases hi : l.findIdx? (isWho who) with
  | none => rw [find_none hi]; exact r_credit_no b who l hl hi
  | some i => rw [find_some hi]; exact r_credit_yes b who l hl i hi
theorem p_credit (b : Nat) (who : Int) (l : List Mb) (hl : l.length ≤ 1000) : Ctr Try.prog 14 [.pointer (some ⟨b, 0, none⟩), .int .i64 who] [IsFair b l] (Ret fun v G => v = .int .i64 (cRes l who) ∧ G = [IsFair b l]) := by
  unfold cRes
  cases hi : l.findIdx? (isWho who) with
  | none => rw [find_none hi]; exact credit_no b who l hl hi
  | some i => rw [find_some hi]; exact credit_yes b who l hl i hi
theorem p_next (b : Nat) (l : List Mb) (ws : List Bool) (pw : Option Addr) (cw : Nat) (RW : HProp) (hRW : ∀ w0 h, RW w0 h → Rd pw ws.length 1 (bools ws) w0 h) (hl : l.length ≤ 1000) (hwho : ∀ m ∈ l, 0 ≤ m.who) : Ctr Try.prog 12 [.pointer (some ⟨b, 0, none⟩), .slice pw ws.length cw] [IsFair b l, RW] (Ret fun v G => v = .tuple #[.int .i64 (nWho l ws), .int .i64 (nCred l ws), .bool (nOk l ws)] ∧ G = [IsFair b (nList l ws), RW]) := by
  unfold nWho nCred nOk nList
  cases hi : l.findIdx? (wantB ws) with
  | none => rw [find_none hi]; exact next_no b l ws pw cw RW hRW hl hwho hi
  | some i => rw [find_some hi]; exact next_yes b l ws pw cw RW hRW hl hwho i hi
theorem p_spend (b : Nat) (who n : Int) (l : List Mb) (hl : l.length ≤ 999) (hm : ∀ m ∈ l, m.c ≤ 100000) : Ctr Try.prog 13 [.pointer (some ⟨b, 0, none⟩), .int .i64 who, .int .i64 n] [IsFair b l] (Ret fun v G => v = .bool (sOk l who n) ∧ G = [IsFair b (sList l who n)]) := by
  cases l with
  | nil =>
    have := spend_no b who n [] (by simp) (by simp [idx])
    simpa [sOk, sList] using this
  | cons m r =>
    have hr : r.length ≤ 999 := by simp at hl; omega
    by_cases h1 : m.who = who
    · by_cases h2 : 1 ≤ n
      · by_cases h3 : n ≤ m.c
        · have hs : sOk (m :: r) who n = true := by simp [sOk, h1, h2, h3]
          have hc := hm m (by simp)
          unfold sList
          rw [if_pos hs, hs]
          show Ctr _ _ _ _ (Ret fun v G => v = .bool true ∧ G = [IsFair b (if n < m.c then sList.spentM m n :: r else r ++ [zero m])])
          split
          · exact spend_some b who n m r hr h1 h2 (by assumption) hc
          · exact spend_all b who n m r hr h1 h2 (by omega) hc
        · have hs : sOk (m :: r) who n = false := by simp [sOk, h3]
          unfold sList
          rw [hs, if_neg Bool.false_ne_true]
          exact spend_high b who n m r hr h1 h2 (by omega)
      · have hs : sOk (m :: r) who n = false := by simp [sOk, h2]
        unfold sList
        rw [hs, if_neg Bool.false_ne_true]
        exact spend_low b who n m r hr h1 (by omega)
    · have hs : sOk (m :: r) who n = false := by simp [sOk, h1]
      unfold sList
      rw [hs, if_neg Bool.false_ne_true]
      refine spend_no b who n (m :: r) (by simp; omega) ?_
      intro h0
      obtain ⟨i, hi⟩ := idx_in (l := m :: r) (who := who) (by omega)
      rw [idx_some hi] at h0
      obtain ⟨h4, h5, _⟩ := find_lt hi
      obtain rfl : i = 0 := by omega
      simp [isWho] at h5
      exact h1 h5


theorem p_quantum (x : Nat) (hx : x < 18446744073709551616) : Ctr Try.prog 17 [.float .f64 x] [] (Ret fun v G => v = .tuple #[.int .i64 (if Wt x then (quan x : Int) else 0), .bool (decide (Wt x))] ∧ G = []) := by
  by_cases h : Wt x
  · have := quantum_yes x _ h.fq
    simpa only [if_pos h, decide_eq_true h] using this
  · have := quantum_no x (not_wt_nq hx h)
    simpa only [if_neg h, decide_eq_false h] using this


set_option maxRecDepth 100000 in
theorem p_join_out (b : Nat) (who : Int) (x : Nat) (l : List Mb) (hl : l.length ≤ 1000) (hx : x < 18446744073709551616) (ho : who < 0 ∨ 8 ≤ who) : Ctr Try.prog 11 [.pointer (some ⟨b, 0, none⟩), .int .i64 who, .float .f64 x] [IsFair b l] (Ret fun v G => v = .int .i64 1 ∧ G = [IsFair b l]) := by
  refine spec_of [(0, _), (1, _), (2, _)] Try.func11 rfl Try.ntmps11 rfl rfl ?_
  intro w0 F
  refine w_seq ?_
  refine w_region ?_
  refine o_val (v_assign rfl) rfl ?_
  refine o_nil ?_
  refine thn_n ?_
  refine w_seq ?_
  refine w_region ?_
  refine o_val (v_move rfl) rfl ?_
  refine o_call (p_quantum x hx) V.b17  rfl .nil rfl ?_
  rintro _ _ ⟨rfl, rfl⟩
  refine o_val (v_move rfl) rfl ?_
  refine o_val (v_extract rfl rfl) rfl ?_
  refine o_val (v_extract rfl rfl) rfl ?_
  refine o_val (v_assign rfl) rfl ?_
  refine o_val (v_assign rfl) rfl ?_
  refine o_nil ?_
  refine thn_n ?_
  refine w_seq ?_
  refine w_block ?_
  refine w_seq ?_
  refine w_region ?_
  refine o_val (v_move rfl) rfl ?_
  refine o_val (v_to (v := .bool false) (v_eqnil Try.underlying24 rfl rfl) rfl) rfl ?_
  refine o_val (v_move rfl) rfl ?_
  refine o_want rfl ?_
  refine o_val (v_move rfl) rfl ?_
  refine o_want rfl ?_
  refine o_val (v_lss rfl rfl) rfl ?_
  refine o_val (v_pickF rfl rfl) rfl ?_
  refine o_val (v_move rfl) rfl ?_
  first | refine o_boolD 21 rfl (fun h21 => ?_) (fun h21 => ?_) | refine o_bool 21 rfl (fun h21 => ?_) (fun h21 => ?_)
  ·
    refine o_pass rfl rfl rfl ?_
    refine o_pass rfl rfl rfl ?_
    refine o_val (v_pickT rfl rfl) rfl ?_
    refine o_val (v_move rfl) rfl ?_
    refine o_pass rfl rfl rfl ?_
    refine o_pass rfl rfl rfl ?_
    refine o_val (v_pickT rfl rfl) rfl ?_
    refine o_val (v_assign rfl) rfl ?_
    refine o_nil ?_
    refine thn_n ?_
    refine w_condT rfl ?_
    refine w_seq ?_
    refine w_region ?_
    refine o_val (v_assign rfl) rfl ?_
    refine o_nil ?_
    refine thn_n ?_
    refine w_ret ?_
    refine (blk_r (thn_r ?_))
    exact ret_ok (G := [_]) (res1 rfl) ⟨rfl, rfl⟩ (sub (.cons (by first | exact rr0 | exact rr1 | exact rr2 | exact rr3 | exact rr4 | exact rr5 | exact rr6 | exact rr7 | exact rr8 | exact rr9 | exact rr10 | exact rr11 | exact rr12 | exact rr13 | exact rr14) .nil) (by first | exact dd0 | exact dd1 | exact dd2 | exact dd3 | exact dd4 | exact dd5 | exact dd6 | exact dd7 | exact dd8 | exact dd9 | exact dd10 | exact dd11 | exact dd12 | exact dd13 | exact dd14))
  ·
    refine o_want rfl ?_
    refine o_val (v_move rfl) rfl ?_
    refine o_want rfl ?_
    refine o_val (v_geq rfl rfl) rfl ?_
    refine o_val (v_pickF rfl rfl) rfl ?_
    refine o_val (v_move rfl) rfl ?_
    first | refine o_boolD 25 rfl (fun h25 => ?_) (fun h25 => ?_) | refine o_bool 25 rfl (fun h25 => ?_) (fun h25 => ?_)
    ·
      refine o_pass rfl rfl rfl ?_
      refine o_pass rfl rfl rfl ?_
      refine o_val (v_pickT rfl rfl) rfl ?_
      refine o_val (v_assign rfl) rfl ?_
      refine o_nil ?_
      refine thn_n ?_
      refine w_condT rfl ?_
      refine w_seq ?_
      refine w_region ?_
      refine o_val (v_assign rfl) rfl ?_
      refine o_nil ?_
      refine thn_n ?_
      refine w_ret ?_
      refine (blk_r (thn_r ?_))
      exact ret_ok (G := [_]) (res1 rfl) ⟨rfl, rfl⟩ (sub (.cons (by first | exact rr0 | exact rr1 | exact rr2 | exact rr3 | exact rr4 | exact rr5 | exact rr6 | exact rr7 | exact rr8 | exact rr9 | exact rr10 | exact rr11 | exact rr12 | exact rr13 | exact rr14) .nil) (by first | exact dd0 | exact dd1 | exact dd2 | exact dd3 | exact dd4 | exact dd5 | exact dd6 | exact dd7 | exact dd8 | exact dd9 | exact dd10 | exact dd11 | exact dd12 | exact dd13 | exact dd14))
    ·
      exfalso; omega

theorem p_join (b : Nat) (who : Int) (x : Nat) (l : List Mb) (hl : l.length ≤ 1000) (hx : x < 18446744073709551616) : Ctr Try.prog 11 [.pointer (some ⟨b, 0, none⟩), .int .i64 who, .float .f64 x] [IsFair b l] (Ret fun v G => v = .int .i64 (jRes l who x) ∧ G = [IsFair b (jList l who x)]) := by
  by_cases ho : who < 0 ∨ 8 ≤ who
  · have hb : jBad who x := by unfold jBad; rcases ho with h | h; exact .inl h; exact .inr (.inl h)
    obtain ⟨e1, e2⟩ := jb_yes (l := l) hb
    rw [e1, e2]
    exact p_join_out b who x l hl hx ho
  · have h0 : ¬ who < 0 := fun h => ho (.inl h)
    have h1 : ¬ 8 ≤ who := fun h => ho (.inr h)
    by_cases hw : Wt x
    · cases hi : l.findIdx? (isWho who) with
      | some i => obtain ⟨e1, e2⟩ := jb_in h0 h1 hw hi; rw [e1, e2]; exact join_in b who x l hl _ hw.fq (by omega) (by omega) i hi
      | none => obtain ⟨e1, e2⟩ := jb_new h0 h1 hw hi; rw [e1, e2]; exact join_ok b who x l hl _ hw.fq (by omega) (by omega) hi
    · obtain ⟨e1, e2⟩ := jb_yes (l := l) (who := who) (jb_none hw)
      rw [e1, e2]
      exact join_bad b who x l hl (not_wt_nq hx hw) (by omega) (by omega)


set_option maxHeartbeats 4000000 in
set_option maxRecDepth 100000 in
theorem r_next (b : Nat) (l : List Mb) (ws : List Bool) (pw : Option Addr) (cw : Nat) (RW : HProp) (hRW : ∀ w0 h, RW w0 h → RdR (ecB 4) pw ws.length ws w0 h) (hl : l.length ≤ 1000) (hwho : ∀ m ∈ l, 0 ≤ m.who ∧ m.who < 9223372036854775807) : Ctr Try.prog 21 [.pointer (some ⟨b, 0, none⟩), .slice pw ws.length cw] [RF b l, RW] (Ret fun v G => v = .tuple #[.int .i64 (nWho l ws), .int .i64 (nCred l ws), .bool (nOk l ws)] ∧ G = [RF b (nList l ws), RW]) := by
  refine spec_of [(0, _), (1, _)] Try.func21 rfl Try.ntmps21 rfl rfl ?_
  intro w0 F
  refine w_opn (fun h hh => hh) ?_
  rintro ⟨p1, c1, p2, c2, p3, c3⟩ _
  dsimp only
  refine w_seq ?_
  refine w_region ?_
  refine o_val (v_assign rfl) rfl ?_
  refine o_val (v_assign rfl) rfl ?_
  refine o_val (v_assign rfl) rfl ?_
  refine o_nil ?_
  refine thn_n ?_
  refine w_seq ?_
  refine w_region ?_
  refine o_val (v_assign rfl) rfl ?_
  refine o_nil ?_
  refine thn_n ?_
  refine w_seq ?_
  refine w_seq ?_
  refine w_region ?_
  refine o_val (v_assign rfl) rfl ?_
  refine o_nil ?_
  refine thn_n ?_
  refine w_block ?_
  refine w_loop2 (fun (k : Nat) (s : Bool) => [(0, .pointer (some ⟨b, 0, none⟩)), (1, .slice pw ws.length cw), (7, .bool s), (8, .int .i64 (k : Int))]) (fun (k : Nat) (s : Bool) => Cel b 46 [.slice p1 l.length c1, .slice p2 l.length c2, .slice p3 l.length c3] :: Row I3 p1 l.length c1 (l.map Mb.who) :: Row I3 p2 l.length c2 (l.map Mb.q) :: Row I3 p3 l.length c3 (l.map Mb.c) :: RW :: F) (fun (k : Nat) (s : Bool) => k ≤ l.length ∧ s = (l.take k).any (wantB ws)) (fun (k : Nat) (s : Bool) => l.length - k) (i2 (0) (false) ?_ (.cons rfl (.cons rfl (.cons rfl (.cons rfl (.nil _))))) (sub (.cons (by first | exact rr0 | exact rr1 | exact rr2 | exact rr3 | exact rr4 | exact rr5 | exact rr6 | exact rr7 | exact rr8 | exact rr9 | exact rr10 | exact rr11 | exact rr12 | exact rr13 | exact rr14) (.cons (by first | exact rr0 | exact rr1 | exact rr2 | exact rr3 | exact rr4 | exact rr5 | exact rr6 | exact rr7 | exact rr8 | exact rr9 | exact rr10 | exact rr11 | exact rr12 | exact rr13 | exact rr14) (.cons (by first | exact rr0 | exact rr1 | exact rr2 | exact rr3 | exact rr4 | exact rr5 | exact rr6 | exact rr7 | exact rr8 | exact rr9 | exact rr10 | exact rr11 | exact rr12 | exact rr13 | exact rr14) (.cons (by first | exact rr0 | exact rr1 | exact rr2 | exact rr3 | exact rr4 | exact rr5 | exact rr6 | exact rr7 | exact rr8 | exact rr9 | exact rr10 | exact rr11 | exact rr12 | exact rr13 | exact rr14) (.cons (by first | exact rr0 | exact rr1 | exact rr2 | exact rr3 | exact rr4 | exact rr5 | exact rr6 | exact rr7 | exact rr8 | exact rr9 | exact rr10 | exact rr11 | exact rr12 | exact rr13 | exact rr14) .nil))))) (by first | exact dd0 | exact dd1 | exact dd2 | exact dd3 | exact dd4 | exact dd5 | exact dd6 | exact dd7 | exact dd8 | exact dd9 | exact dd10 | exact dd11 | exact dd12 | exact dd13 | exact dd14))) ?_
  ·
    exact ⟨by omega, by simp⟩
  intro k s
  rintro ⟨hk, hs⟩
  refine w_seq ?_
  refine w_seq ?_
  refine w_region ?_
  refine o_val (v_move rfl) rfl ?_
  refine o_val (v_move rfl) rfl ?_
  refine o_val (v_nil rfl) rfl ?_
  refine o_val (v_fieldAddr V.f46_0 rfl) rfl ?_
  refine o_val (v_load V.s27 rfl (by first | exact mm0 | exact mm1 | exact mm2 | exact mm3 | exact mm4 | exact mm5 | exact mm6 | exact mm7 | exact mm8 | exact mm9 | exact mm10 | exact mm11 | exact mm12 | exact mm13 | exact mm14) rfl) rfl ?_
  refine o_val (v_len (ty' := 0) Try.underlying27 rfl) rfl ?_
  refine o_val (v_lss rfl rfl) rfl ?_
  refine o_nil ?_
  refine thn_n ?_
  first | refine w_condD rfl (fun h15 => ?_) (fun h15 => ?_) | refine w_cond rfl (fun h15 => ?_) (fun h15 => ?_)
  ·
    refine w_skip ?_
    refine thn_n ?_
    refine w_seq ?_
    refine w_block ?_
    have hk2 : k < l.length := by omega
    have hwk := hwho _ (List.getElem_mem hk2)
    have hgw := g_who hk2
    refine w_region ?_
    refine o_val (v_move rfl) rfl ?_
    refine o_val (v_move rfl) rfl ?_
    first | refine o_boolD 19 rfl (fun h19 => ?_) (fun h19 => ?_) | refine o_bool 19 rfl (fun h19 => ?_) (fun h19 => ?_)
    ·
      refine o_pass rfl rfl rfl ?_
      refine o_pass rfl rfl rfl ?_
      refine o_pass rfl rfl rfl ?_
      refine o_pass rfl rfl rfl ?_
      refine o_pass rfl rfl rfl ?_
      refine o_pass rfl rfl rfl ?_
      refine o_pass rfl rfl rfl ?_
      refine o_pass rfl rfl rfl ?_
      refine o_pass rfl rfl rfl ?_
      refine o_pass rfl rfl rfl ?_
      refine o_pass rfl rfl rfl ?_
      refine o_passU rfl rfl rfl rfl ?_
      refine o_passU rfl rfl rfl rfl ?_
      refine o_passU rfl rfl rfl rfl ?_
      refine o_passU rfl rfl rfl rfl ?_
      refine o_passU rfl rfl rfl rfl ?_
      refine o_passU rfl rfl rfl rfl ?_
      refine o_passU rfl rfl rfl rfl ?_
      refine o_passU rfl rfl rfl rfl ?_
      refine o_passU rfl rfl rfl rfl ?_
      refine o_passU rfl rfl rfl rfl ?_
      refine o_pass rfl rfl rfl ?_
      refine o_val (v_pickT rfl rfl) rfl ?_
      refine o_val (v_assign rfl) rfl ?_
      refine o_nil ?_
      refine blk_n ?_
      refine thn_n ?_
      refine w_region ?_
      refine o_val (v_move rfl) rfl ?_
      refine o_val (v_add rfl rfl (wrapI (by omega) (by omega))) rfl ?_
      refine o_val (v_assign rfl) rfl ?_
      refine o_nil ?_
      refine j2 (k + 1) (_) ?_ (.cons rfl (.cons rfl (.cons rfl (.cons rfl (.nil _))))) (sub (.cons (by first | exact rr0 | exact rr1 | exact rr2 | exact rr3 | exact rr4 | exact rr5 | exact rr6 | exact rr7 | exact rr8 | exact rr9 | exact rr10 | exact rr11 | exact rr12 | exact rr13 | exact rr14) (.cons (by first | exact rr0 | exact rr1 | exact rr2 | exact rr3 | exact rr4 | exact rr5 | exact rr6 | exact rr7 | exact rr8 | exact rr9 | exact rr10 | exact rr11 | exact rr12 | exact rr13 | exact rr14) (.cons (by first | exact rr0 | exact rr1 | exact rr2 | exact rr3 | exact rr4 | exact rr5 | exact rr6 | exact rr7 | exact rr8 | exact rr9 | exact rr10 | exact rr11 | exact rr12 | exact rr13 | exact rr14) (.cons (by first | exact rr0 | exact rr1 | exact rr2 | exact rr3 | exact rr4 | exact rr5 | exact rr6 | exact rr7 | exact rr8 | exact rr9 | exact rr10 | exact rr11 | exact rr12 | exact rr13 | exact rr14) (.cons (by first | exact rr0 | exact rr1 | exact rr2 | exact rr3 | exact rr4 | exact rr5 | exact rr6 | exact rr7 | exact rr8 | exact rr9 | exact rr10 | exact rr11 | exact rr12 | exact rr13 | exact rr14) .nil))))) (by first | exact dd0 | exact dd1 | exact dd2 | exact dd3 | exact dd4 | exact dd5 | exact dd6 | exact dd7 | exact dd8 | exact dd9 | exact dd10 | exact dd11 | exact dd12 | exact dd13 | exact dd14))
      first | (refine ⟨⟨by omega, ?_⟩, by omega⟩; rw [any_succ hk2, ← hs, h19]; rfl) | (refine ⟨⟨by omega, ?_⟩, by omega⟩; rw [any_succ hk2, ← hs, h19, want_in hwk.1 (by rw [← g_who hk2]; exact h30), ← g_who hk2]; rfl) | (refine ⟨⟨by omega, ?_⟩, by omega⟩; rw [any_succ hk2, ← hs, h19, want_out hwk.1 (by rw [← g_who hk2]; exact h30)]; rfl)
    ·
      refine o_want rfl ?_
      refine o_val (v_move rfl) rfl ?_
      refine o_want rfl ?_
      refine o_val (v_nil rfl) rfl ?_
      refine o_want rfl ?_
      refine o_val (v_fieldAddr V.f46_0 rfl) rfl ?_
      refine o_want rfl ?_
      refine o_val (v_load V.s27 rfl (by first | exact mm0 | exact mm1 | exact mm2 | exact mm3 | exact mm4 | exact mm5 | exact mm6 | exact mm7 | exact mm8 | exact mm9 | exact mm10 | exact mm11 | exact mm12 | exact mm13 | exact mm14) rfl) rfl ?_
      refine o_want rfl ?_
      refine o_val (v_move rfl) rfl ?_
      refine o_want rfl ?_
      refine o_val (r_index (c := (I3)) V.sl27 rfl rfl (by first | exact own mm0 | exact own mm1 | exact own mm2 | exact own mm3 | exact own mm4 | exact own mm5 | exact own mm6 | exact own mm7 | exact own mm8 | exact own mm9 | exact own mm10 | exact own mm11 | exact rdH hRW mm0 | exact rdH hRW mm1 | exact rdH hRW mm2 | exact rdH hRW mm3 | exact rdH hRW mm4 | exact rdH hRW mm5 | exact rdH hRW mm6 | exact rdH hRW mm7 | exact rdH hRW mm8 | exact rdH hRW mm9 | exact rdH hRW mm10 | exact rdH hRW mm11) (by omega) (by omega)) rfl ?_
      refine o_want rfl ?_
      refine o_val (r_load (c := (I3)) V.s3 rfl (by first | exact own mm0 | exact own mm1 | exact own mm2 | exact own mm3 | exact own mm4 | exact own mm5 | exact own mm6 | exact own mm7 | exact own mm8 | exact own mm9 | exact own mm10 | exact own mm11 | exact rdH hRW mm0 | exact rdH hRW mm1 | exact rdH hRW mm2 | exact rdH hRW mm3 | exact rdH hRW mm4 | exact rdH hRW mm5 | exact rdH hRW mm6 | exact rdH hRW mm7 | exact rdH hRW mm8 | exact rdH hRW mm9 | exact rdH hRW mm10 | exact rdH hRW mm11) (by omega) (by omega) rfl rfl) rfl ?_
      refine o_want rfl ?_
      refine o_val (v_move rfl) rfl ?_
      refine o_want rfl ?_
      refine o_val (v_len (ty' := 0) Try.underlying26 rfl) rfl ?_
      refine o_want rfl ?_
      refine o_val (v_lss rfl rfl) rfl ?_
      refine o_want rfl ?_
      refine o_val (v_move rfl) rfl ?_
      first | refine o_boolD 30 rfl (fun h30 => ?_) (fun h30 => ?_) | refine o_bool 30 rfl (fun h30 => ?_) (fun h30 => ?_)
      ·
        refine o_want rfl ?_
        refine o_val (v_move rfl) rfl ?_
        refine o_want rfl ?_
        refine o_val (v_move rfl) rfl ?_
        refine o_want rfl ?_
        refine o_val (v_nil rfl) rfl ?_
        refine o_want rfl ?_
        refine o_val (v_fieldAddr V.f46_0 rfl) rfl ?_
        refine o_want rfl ?_
        refine o_val (v_load V.s27 rfl (by first | exact mm0 | exact mm1 | exact mm2 | exact mm3 | exact mm4 | exact mm5 | exact mm6 | exact mm7 | exact mm8 | exact mm9 | exact mm10 | exact mm11 | exact mm12 | exact mm13 | exact mm14) rfl) rfl ?_
        refine o_want rfl ?_
        refine o_val (v_move rfl) rfl ?_
        refine o_want rfl ?_
        refine o_val (r_index (c := (I3)) V.sl27 rfl rfl (by first | exact own mm0 | exact own mm1 | exact own mm2 | exact own mm3 | exact own mm4 | exact own mm5 | exact own mm6 | exact own mm7 | exact own mm8 | exact own mm9 | exact own mm10 | exact own mm11 | exact rdH hRW mm0 | exact rdH hRW mm1 | exact rdH hRW mm2 | exact rdH hRW mm3 | exact rdH hRW mm4 | exact rdH hRW mm5 | exact rdH hRW mm6 | exact rdH hRW mm7 | exact rdH hRW mm8 | exact rdH hRW mm9 | exact rdH hRW mm10 | exact rdH hRW mm11) (by omega) (by omega)) rfl ?_
        refine o_want rfl ?_
        refine o_val (r_load (c := (I3)) V.s3 rfl (by first | exact own mm0 | exact own mm1 | exact own mm2 | exact own mm3 | exact own mm4 | exact own mm5 | exact own mm6 | exact own mm7 | exact own mm8 | exact own mm9 | exact own mm10 | exact own mm11 | exact rdH hRW mm0 | exact rdH hRW mm1 | exact rdH hRW mm2 | exact rdH hRW mm3 | exact rdH hRW mm4 | exact rdH hRW mm5 | exact rdH hRW mm6 | exact rdH hRW mm7 | exact rdH hRW mm8 | exact rdH hRW mm9 | exact rdH hRW mm10 | exact rdH hRW mm11) (by omega) (by omega) rfl rfl) rfl ?_
        refine o_want rfl ?_
        refine o_val (r_index (c := (ecB 4)) V.sl26 rfl rfl (by first | exact own mm0 | exact own mm1 | exact own mm2 | exact own mm3 | exact own mm4 | exact own mm5 | exact own mm6 | exact own mm7 | exact own mm8 | exact own mm9 | exact own mm10 | exact own mm11 | exact rdH hRW mm0 | exact rdH hRW mm1 | exact rdH hRW mm2 | exact rdH hRW mm3 | exact rdH hRW mm4 | exact rdH hRW mm5 | exact rdH hRW mm6 | exact rdH hRW mm7 | exact rdH hRW mm8 | exact rdH hRW mm9 | exact rdH hRW mm10 | exact rdH hRW mm11) (by omega) (by omega)) rfl ?_
        refine o_want rfl ?_
        refine o_val (r_load (c := (ecB 4)) V.s4 rfl (by first | exact own mm0 | exact own mm1 | exact own mm2 | exact own mm3 | exact own mm4 | exact own mm5 | exact own mm6 | exact own mm7 | exact own mm8 | exact own mm9 | exact own mm10 | exact own mm11 | exact rdH hRW mm0 | exact rdH hRW mm1 | exact rdH hRW mm2 | exact rdH hRW mm3 | exact rdH hRW mm4 | exact rdH hRW mm5 | exact rdH hRW mm6 | exact rdH hRW mm7 | exact rdH hRW mm8 | exact rdH hRW mm9 | exact rdH hRW mm10 | exact rdH hRW mm11) (by omega) (by omega) rfl rfl) rfl ?_
        refine o_want rfl ?_
        refine o_val (v_pickT rfl rfl) rfl ?_
        refine o_val (v_pickF rfl rfl) rfl ?_
        refine o_val (v_assign rfl) rfl ?_
        refine o_nil ?_
        refine blk_n ?_
        refine thn_n ?_
        refine w_region ?_
        refine o_val (v_move rfl) rfl ?_
        refine o_val (v_add rfl rfl (wrapI (by omega) (by omega))) rfl ?_
        refine o_val (v_assign rfl) rfl ?_
        refine o_nil ?_
        refine j2 (k + 1) (_) ?_ (.cons rfl (.cons rfl (.cons rfl (.cons rfl (.nil _))))) (sub (.cons (by first | exact rr0 | exact rr1 | exact rr2 | exact rr3 | exact rr4 | exact rr5 | exact rr6 | exact rr7 | exact rr8 | exact rr9 | exact rr10 | exact rr11 | exact rr12 | exact rr13 | exact rr14) (.cons (by first | exact rr0 | exact rr1 | exact rr2 | exact rr3 | exact rr4 | exact rr5 | exact rr6 | exact rr7 | exact rr8 | exact rr9 | exact rr10 | exact rr11 | exact rr12 | exact rr13 | exact rr14) (.cons (by first | exact rr0 | exact rr1 | exact rr2 | exact rr3 | exact rr4 | exact rr5 | exact rr6 | exact rr7 | exact rr8 | exact rr9 | exact rr10 | exact rr11 | exact rr12 | exact rr13 | exact rr14) (.cons (by first | exact rr0 | exact rr1 | exact rr2 | exact rr3 | exact rr4 | exact rr5 | exact rr6 | exact rr7 | exact rr8 | exact rr9 | exact rr10 | exact rr11 | exact rr12 | exact rr13 | exact rr14) (.cons (by first | exact rr0 | exact rr1 | exact rr2 | exact rr3 | exact rr4 | exact rr5 | exact rr6 | exact rr7 | exact rr8 | exact rr9 | exact rr10 | exact rr11 | exact rr12 | exact rr13 | exact rr14) .nil))))) (by first | exact dd0 | exact dd1 | exact dd2 | exact dd3 | exact dd4 | exact dd5 | exact dd6 | exact dd7 | exact dd8 | exact dd9 | exact dd10 | exact dd11 | exact dd12 | exact dd13 | exact dd14))
        first | (refine ⟨⟨by omega, ?_⟩, by omega⟩; rw [any_succ hk2, ← hs, h19]; rfl) | (refine ⟨⟨by omega, ?_⟩, by omega⟩; rw [any_succ hk2, ← hs, h19, want_in hwk.1 (by rw [← g_who hk2]; exact h30), ← g_who hk2]; rfl) | (refine ⟨⟨by omega, ?_⟩, by omega⟩; rw [any_succ hk2, ← hs, h19, want_out hwk.1 (by rw [← g_who hk2]; exact h30)]; rfl)
      ·
        refine o_pass rfl rfl rfl ?_
        refine o_pass rfl rfl rfl ?_
        refine o_pass rfl rfl rfl ?_
        refine o_pass rfl rfl rfl ?_
        refine o_pass rfl rfl rfl ?_
        refine o_pass rfl rfl rfl ?_
        refine o_pass rfl rfl rfl ?_
        refine o_pass rfl rfl rfl ?_
        refine o_pass rfl rfl rfl ?_
        refine o_pass rfl rfl rfl ?_
        refine o_want rfl ?_
        refine o_val (v_pickF rfl rfl) rfl ?_
        refine o_val (v_pickF rfl rfl) rfl ?_
        refine o_val (v_assign rfl) rfl ?_
        refine o_nil ?_
        refine blk_n ?_
        refine thn_n ?_
        refine w_region ?_
        refine o_val (v_move rfl) rfl ?_
        refine o_val (v_add rfl rfl (wrapI (by omega) (by omega))) rfl ?_
        refine o_val (v_assign rfl) rfl ?_
        refine o_nil ?_
        refine j2 (k + 1) (_) ?_ (.cons rfl (.cons rfl (.cons rfl (.cons rfl (.nil _))))) (sub (.cons (by first | exact rr0 | exact rr1 | exact rr2 | exact rr3 | exact rr4 | exact rr5 | exact rr6 | exact rr7 | exact rr8 | exact rr9 | exact rr10 | exact rr11 | exact rr12 | exact rr13 | exact rr14) (.cons (by first | exact rr0 | exact rr1 | exact rr2 | exact rr3 | exact rr4 | exact rr5 | exact rr6 | exact rr7 | exact rr8 | exact rr9 | exact rr10 | exact rr11 | exact rr12 | exact rr13 | exact rr14) (.cons (by first | exact rr0 | exact rr1 | exact rr2 | exact rr3 | exact rr4 | exact rr5 | exact rr6 | exact rr7 | exact rr8 | exact rr9 | exact rr10 | exact rr11 | exact rr12 | exact rr13 | exact rr14) (.cons (by first | exact rr0 | exact rr1 | exact rr2 | exact rr3 | exact rr4 | exact rr5 | exact rr6 | exact rr7 | exact rr8 | exact rr9 | exact rr10 | exact rr11 | exact rr12 | exact rr13 | exact rr14) (.cons (by first | exact rr0 | exact rr1 | exact rr2 | exact rr3 | exact rr4 | exact rr5 | exact rr6 | exact rr7 | exact rr8 | exact rr9 | exact rr10 | exact rr11 | exact rr12 | exact rr13 | exact rr14) .nil))))) (by first | exact dd0 | exact dd1 | exact dd2 | exact dd3 | exact dd4 | exact dd5 | exact dd6 | exact dd7 | exact dd8 | exact dd9 | exact dd10 | exact dd11 | exact dd12 | exact dd13 | exact dd14))
        first | (refine ⟨⟨by omega, ?_⟩, by omega⟩; rw [any_succ hk2, ← hs, h19]; rfl) | (refine ⟨⟨by omega, ?_⟩, by omega⟩; rw [any_succ hk2, ← hs, h19, want_in hwk.1 (by rw [← g_who hk2]; exact h30), ← g_who hk2]; rfl) | (refine ⟨⟨by omega, ?_⟩, by omega⟩; rw [any_succ hk2, ← hs, h19, want_out hwk.1 (by rw [← g_who hk2]; exact h30)]; rfl)
  ·
    refine w_exit ?_
    refine thn_e ?_
    refine thn_e ?_
    refine blk_x ?_
    refine thn_n ?_
    refine w_seq ?_
    refine w_seq ?_
    have hkl : k = l.length := by omega
    subst hkl
    refine w_region ?_
    refine o_val (v_move rfl) rfl ?_
    refine o_val (v_not rfl) rfl ?_
    refine o_nil ?_
    refine thn_n ?_
    first | refine w_condD rfl (fun h44 => ?_) (fun h44 => ?_) | refine w_cond rfl (fun h44 => ?_) (fun h44 => ?_)
    ·
      refine w_seq ?_
      refine w_region ?_
      refine o_val (v_assign rfl) rfl ?_
      refine o_val (v_assign rfl) rfl ?_
      refine o_val (v_assign rfl) rfl ?_
      refine o_nil ?_
      refine thn_n ?_
      refine w_ret ?_
      refine (thn_r ?_)
      have hn := any_none (hs.symm.trans (by simpa using h44))
      unfold nWho nCred nOk nList
      rw [find_none hn, hn]
      exact ret_ok (G := [RF b l, RW]) (res3 rfl rfl rfl) ⟨rfl, rfl⟩ (by exact fold' (.cons (by first | exact rr0 | exact rr1 | exact rr2 | exact rr3 | exact rr4 | exact rr5 | exact rr6 | exact rr7 | exact rr8 | exact rr9 | exact rr10 | exact rr11 | exact rr12 | exact rr13 | exact rr14) (.cons (by first | exact rr0 | exact rr1 | exact rr2 | exact rr3 | exact rr4 | exact rr5 | exact rr6 | exact rr7 | exact rr8 | exact rr9 | exact rr10 | exact rr11 | exact rr12 | exact rr13 | exact rr14) (.cons (by first | exact rr0 | exact rr1 | exact rr2 | exact rr3 | exact rr4 | exact rr5 | exact rr6 | exact rr7 | exact rr8 | exact rr9 | exact rr10 | exact rr11 | exact rr12 | exact rr13 | exact rr14) (.cons (by first | exact rr0 | exact rr1 | exact rr2 | exact rr3 | exact rr4 | exact rr5 | exact rr6 | exact rr7 | exact rr8 | exact rr9 | exact rr10 | exact rr11 | exact rr12 | exact rr13 | exact rr14) .nil)))) (by first | exact dd0 | exact dd1 | exact dd2 | exact dd3 | exact dd4 | exact dd5 | exact dd6 | exact dd7 | exact dd8 | exact dd9 | exact dd10 | exact dd11 | exact dd12 | exact dd13 | exact dd14) (fun w0 h hh => rf_close rfl rfl rfl rfl hh))
    ·
      refine w_skip ?_
      refine thn_n ?_
      refine w_seq ?_
      refine w_block ?_
      obtain ⟨i, hi⟩ := any_some (l := l) (p := wantB ws) (hs.symm.trans (by simpa using h44))
      obtain ⟨hil, hwi, hfi⟩ := find_lt hi
      refine w_sub (fold' (.cons (by first | exact rr0 | exact rr1 | exact rr2 | exact rr3 | exact rr4 | exact rr5 | exact rr6 | exact rr7 | exact rr8 | exact rr9 | exact rr10 | exact rr11 | exact rr12 | exact rr13 | exact rr14) (.cons (by first | exact rr0 | exact rr1 | exact rr2 | exact rr3 | exact rr4 | exact rr5 | exact rr6 | exact rr7 | exact rr8 | exact rr9 | exact rr10 | exact rr11 | exact rr12 | exact rr13 | exact rr14) (.cons (by first | exact rr0 | exact rr1 | exact rr2 | exact rr3 | exact rr4 | exact rr5 | exact rr6 | exact rr7 | exact rr8 | exact rr9 | exact rr10 | exact rr11 | exact rr12 | exact rr13 | exact rr14) (.cons (by first | exact rr0 | exact rr1 | exact rr2 | exact rr3 | exact rr4 | exact rr5 | exact rr6 | exact rr7 | exact rr8 | exact rr9 | exact rr10 | exact rr11 | exact rr12 | exact rr13 | exact rr14) .nil)))) dd0 (fun w0 h hh => rf_close (l := rotL l 0) (by rw [rotL_zero]) (by rw [rotL_zero]) (by rw [rotL_zero]) (by rw [rotL_zero]) hh)) ?_
      refine w_loop1 (fun (k : Nat) => [(0, .pointer (some ⟨b, 0, none⟩)), (1, .slice pw ws.length cw)]) (fun (k : Nat) => RF b (rotL l k) :: RW :: F) (fun (k : Nat) => k ≤ i) (fun (k : Nat) => i - k) (i1 (0) ?_ (.cons rfl (.cons rfl (.nil _))) (sub (.cons (by first | exact rr0 | exact rr1 | exact rr2 | exact rr3 | exact rr4 | exact rr5 | exact rr6 | exact rr7 | exact rr8 | exact rr9 | exact rr10 | exact rr11 | exact rr12 | exact rr13 | exact rr14) (.cons (by first | exact rr0 | exact rr1 | exact rr2 | exact rr3 | exact rr4 | exact rr5 | exact rr6 | exact rr7 | exact rr8 | exact rr9 | exact rr10 | exact rr11 | exact rr12 | exact rr13 | exact rr14) .nil)) (by first | exact dd0 | exact dd1 | exact dd2 | exact dd3 | exact dd4 | exact dd5 | exact dd6 | exact dd7 | exact dd8 | exact dd9 | exact dd10 | exact dd11 | exact dd12 | exact dd13 | exact dd14))) ?_
      ·
        exact Nat.zero_le _
      intro k
      rintro hki
      refine w_seq ?_
      refine w_seq ?_
      refine w_opn (fun h hh => hh) ?_
      rintro ⟨p1, c1, p2, c2, p3, c3⟩ _
      dsimp only
      have hkl : k < l.length := by omega
      have hlr := rotL_len l k
      have hwk := hwho _ (List.getElem_mem hkl)
      have hgw := rot_head hkl Mb.who
      refine w_region ?_
      refine o_val (v_move rfl) rfl ?_
      refine o_val (v_nil rfl) rfl ?_
      refine o_val (v_fieldAddr V.f46_0 rfl) rfl ?_
      refine o_val (v_load V.s27 rfl (by first | exact mm0 | exact mm1 | exact mm2 | exact mm3 | exact mm4 | exact mm5 | exact mm6 | exact mm7 | exact mm8 | exact mm9 | exact mm10 | exact mm11 | exact mm12 | exact mm13 | exact mm14) rfl) rfl ?_
      refine o_val (r_index (c := (I3)) V.sl27 rfl rfl (by first | exact own mm0 | exact own mm1 | exact own mm2 | exact own mm3 | exact own mm4 | exact own mm5 | exact own mm6 | exact own mm7 | exact own mm8 | exact own mm9 | exact own mm10 | exact own mm11 | exact rdH hRW mm0 | exact rdH hRW mm1 | exact rdH hRW mm2 | exact rdH hRW mm3 | exact rdH hRW mm4 | exact rdH hRW mm5 | exact rdH hRW mm6 | exact rdH hRW mm7 | exact rdH hRW mm8 | exact rdH hRW mm9 | exact rdH hRW mm10 | exact rdH hRW mm11) (by omega) (by omega)) rfl ?_
      refine o_val (r_load (c := (I3)) V.s3 rfl (by first | exact own mm0 | exact own mm1 | exact own mm2 | exact own mm3 | exact own mm4 | exact own mm5 | exact own mm6 | exact own mm7 | exact own mm8 | exact own mm9 | exact own mm10 | exact own mm11 | exact rdH hRW mm0 | exact rdH hRW mm1 | exact rdH hRW mm2 | exact rdH hRW mm3 | exact rdH hRW mm4 | exact rdH hRW mm5 | exact rdH hRW mm6 | exact rdH hRW mm7 | exact rdH hRW mm8 | exact rdH hRW mm9 | exact rdH hRW mm10 | exact rdH hRW mm11) (by omega) (by omega) rfl rfl) rfl ?_
      refine o_val (v_move rfl) rfl ?_
      refine o_val (v_len (ty' := 0) Try.underlying26 rfl) rfl ?_
      refine o_val (v_geq rfl rfl) rfl ?_
      refine o_val (v_move rfl) rfl ?_
      first | refine o_boolD 54 rfl (fun h54 => ?_) (fun h54 => ?_) | refine o_bool 54 rfl (fun h54 => ?_) (fun h54 => ?_)
      ·
        refine o_pass rfl rfl rfl ?_
        refine o_pass rfl rfl rfl ?_
        refine o_pass rfl rfl rfl ?_
        refine o_pass rfl rfl rfl ?_
        refine o_pass rfl rfl rfl ?_
        refine o_pass rfl rfl rfl ?_
        refine o_pass rfl rfl rfl ?_
        refine o_pass rfl rfl rfl ?_
        refine o_pass rfl rfl rfl ?_
        refine o_pass rfl rfl rfl ?_
        refine o_val (v_pickT rfl rfl) rfl ?_
        refine o_nil ?_
        refine thn_n ?_
        refine w_condT rfl ?_
        refine w_skip ?_
        refine thn_n ?_
        refine w_block ?_
        have hlt : k < i := next_lt hi hki hkl (by first | exact want_out hwk.1 (by omega) | (rw [want_in hwk.1 (by omega), ← hgw]; simpa using h65))
        refine w_sub (fold' (.cons (by first | exact rr0 | exact rr1 | exact rr2 | exact rr3 | exact rr4 | exact rr5 | exact rr6 | exact rr7 | exact rr8 | exact rr9 | exact rr10 | exact rr11 | exact rr12 | exact rr13 | exact rr14) (.cons (by first | exact rr0 | exact rr1 | exact rr2 | exact rr3 | exact rr4 | exact rr5 | exact rr6 | exact rr7 | exact rr8 | exact rr9 | exact rr10 | exact rr11 | exact rr12 | exact rr13 | exact rr14) (.cons (by first | exact rr0 | exact rr1 | exact rr2 | exact rr3 | exact rr4 | exact rr5 | exact rr6 | exact rr7 | exact rr8 | exact rr9 | exact rr10 | exact rr11 | exact rr12 | exact rr13 | exact rr14) (.cons (by first | exact rr0 | exact rr1 | exact rr2 | exact rr3 | exact rr4 | exact rr5 | exact rr6 | exact rr7 | exact rr8 | exact rr9 | exact rr10 | exact rr11 | exact rr12 | exact rr13 | exact rr14) .nil)))) dd0 (fun w0 h hh => rf_close (l := rotL l k) rfl rfl rfl rfl hh)) ?_
        rw [rotL_cons hkl]
        refine w_region ?_
        refine o_val (v_move rfl) rfl ?_
        refine o_call (r_turn b l[k] (l.drop (k + 1) ++ (l.take k).map zero) (by simp; omega)) V.b33  rfl (.cons (by first | exact rr0 | exact rr1 | exact rr2 | exact rr3 | exact rr4 | exact rr5 | exact rr6 | exact rr7 | exact rr8 | exact rr9 | exact rr10 | exact rr11 | exact rr12 | exact rr13 | exact rr14) .nil) rfl ?_
        rintro _ _ ⟨rfl, rfl⟩
        rw [rotL_step hkl]
        refine o_nil ?_
        refine blk_n ?_
        refine j1 (k + 1) ⟨by omega, by omega⟩ (.cons rfl (.cons rfl (.nil _))) (sub (.cons (by first | exact rr0 | exact rr1 | exact rr2 | exact rr3 | exact rr4 | exact rr5 | exact rr6 | exact rr7 | exact rr8 | exact rr9 | exact rr10 | exact rr11 | exact rr12 | exact rr13 | exact rr14) (.cons (by first | exact rr0 | exact rr1 | exact rr2 | exact rr3 | exact rr4 | exact rr5 | exact rr6 | exact rr7 | exact rr8 | exact rr9 | exact rr10 | exact rr11 | exact rr12 | exact rr13 | exact rr14) .nil)) (by first | exact dd0 | exact dd1 | exact dd2 | exact dd3 | exact dd4 | exact dd5 | exact dd6 | exact dd7 | exact dd8 | exact dd9 | exact dd10 | exact dd11 | exact dd12 | exact dd13 | exact dd14))
      ·
        refine o_want rfl ?_
        refine o_val (v_move rfl) rfl ?_
        refine o_want rfl ?_
        refine o_val (v_move rfl) rfl ?_
        refine o_want rfl ?_
        refine o_val (v_nil rfl) rfl ?_
        refine o_want rfl ?_
        refine o_val (v_fieldAddr V.f46_0 rfl) rfl ?_
        refine o_want rfl ?_
        refine o_val (v_load V.s27 rfl (by first | exact mm0 | exact mm1 | exact mm2 | exact mm3 | exact mm4 | exact mm5 | exact mm6 | exact mm7 | exact mm8 | exact mm9 | exact mm10 | exact mm11 | exact mm12 | exact mm13 | exact mm14) rfl) rfl ?_
        refine o_want rfl ?_
        refine o_val (r_index (c := (I3)) V.sl27 rfl rfl (by first | exact own mm0 | exact own mm1 | exact own mm2 | exact own mm3 | exact own mm4 | exact own mm5 | exact own mm6 | exact own mm7 | exact own mm8 | exact own mm9 | exact own mm10 | exact own mm11 | exact rdH hRW mm0 | exact rdH hRW mm1 | exact rdH hRW mm2 | exact rdH hRW mm3 | exact rdH hRW mm4 | exact rdH hRW mm5 | exact rdH hRW mm6 | exact rdH hRW mm7 | exact rdH hRW mm8 | exact rdH hRW mm9 | exact rdH hRW mm10 | exact rdH hRW mm11) (by omega) (by omega)) rfl ?_
        refine o_want rfl ?_
        refine o_val (r_load (c := (I3)) V.s3 rfl (by first | exact own mm0 | exact own mm1 | exact own mm2 | exact own mm3 | exact own mm4 | exact own mm5 | exact own mm6 | exact own mm7 | exact own mm8 | exact own mm9 | exact own mm10 | exact own mm11 | exact rdH hRW mm0 | exact rdH hRW mm1 | exact rdH hRW mm2 | exact rdH hRW mm3 | exact rdH hRW mm4 | exact rdH hRW mm5 | exact rdH hRW mm6 | exact rdH hRW mm7 | exact rdH hRW mm8 | exact rdH hRW mm9 | exact rdH hRW mm10 | exact rdH hRW mm11) (by omega) (by omega) rfl rfl) rfl ?_
        refine o_want rfl ?_
        refine o_val (r_index (c := (ecB 4)) V.sl26 rfl rfl (by first | exact own mm0 | exact own mm1 | exact own mm2 | exact own mm3 | exact own mm4 | exact own mm5 | exact own mm6 | exact own mm7 | exact own mm8 | exact own mm9 | exact own mm10 | exact own mm11 | exact rdH hRW mm0 | exact rdH hRW mm1 | exact rdH hRW mm2 | exact rdH hRW mm3 | exact rdH hRW mm4 | exact rdH hRW mm5 | exact rdH hRW mm6 | exact rdH hRW mm7 | exact rdH hRW mm8 | exact rdH hRW mm9 | exact rdH hRW mm10 | exact rdH hRW mm11) (by omega) (by omega)) rfl ?_
        refine o_want rfl ?_
        refine o_val (r_load (c := (ecB 4)) V.s4 rfl (by first | exact own mm0 | exact own mm1 | exact own mm2 | exact own mm3 | exact own mm4 | exact own mm5 | exact own mm6 | exact own mm7 | exact own mm8 | exact own mm9 | exact own mm10 | exact own mm11 | exact rdH hRW mm0 | exact rdH hRW mm1 | exact rdH hRW mm2 | exact rdH hRW mm3 | exact rdH hRW mm4 | exact rdH hRW mm5 | exact rdH hRW mm6 | exact rdH hRW mm7 | exact rdH hRW mm8 | exact rdH hRW mm9 | exact rdH hRW mm10 | exact rdH hRW mm11) (by omega) (by omega) rfl rfl) rfl ?_
        refine o_want rfl ?_
        refine o_val (v_not rfl) rfl ?_
        refine o_val (v_pickF rfl rfl) rfl ?_
        refine o_nil ?_
        refine thn_n ?_
        first | refine w_condD rfl (fun h65 => ?_) (fun h65 => ?_) | refine w_cond rfl (fun h65 => ?_) (fun h65 => ?_)
        ·
          refine w_skip ?_
          refine thn_n ?_
          refine w_block ?_
          have hlt : k < i := next_lt hi hki hkl (by first | exact want_out hwk.1 (by omega) | (rw [want_in hwk.1 (by omega), ← hgw]; simpa using h65))
          refine w_sub (fold' (.cons (by first | exact rr0 | exact rr1 | exact rr2 | exact rr3 | exact rr4 | exact rr5 | exact rr6 | exact rr7 | exact rr8 | exact rr9 | exact rr10 | exact rr11 | exact rr12 | exact rr13 | exact rr14) (.cons (by first | exact rr0 | exact rr1 | exact rr2 | exact rr3 | exact rr4 | exact rr5 | exact rr6 | exact rr7 | exact rr8 | exact rr9 | exact rr10 | exact rr11 | exact rr12 | exact rr13 | exact rr14) (.cons (by first | exact rr0 | exact rr1 | exact rr2 | exact rr3 | exact rr4 | exact rr5 | exact rr6 | exact rr7 | exact rr8 | exact rr9 | exact rr10 | exact rr11 | exact rr12 | exact rr13 | exact rr14) (.cons (by first | exact rr0 | exact rr1 | exact rr2 | exact rr3 | exact rr4 | exact rr5 | exact rr6 | exact rr7 | exact rr8 | exact rr9 | exact rr10 | exact rr11 | exact rr12 | exact rr13 | exact rr14) .nil)))) dd0 (fun w0 h hh => rf_close (l := rotL l k) rfl rfl rfl rfl hh)) ?_
          rw [rotL_cons hkl]
          refine w_region ?_
          refine o_val (v_move rfl) rfl ?_
          refine o_call (r_turn b l[k] (l.drop (k + 1) ++ (l.take k).map zero) (by simp; omega)) V.b33  rfl (.cons (by first | exact rr0 | exact rr1 | exact rr2 | exact rr3 | exact rr4 | exact rr5 | exact rr6 | exact rr7 | exact rr8 | exact rr9 | exact rr10 | exact rr11 | exact rr12 | exact rr13 | exact rr14) .nil) rfl ?_
          rintro _ _ ⟨rfl, rfl⟩
          rw [rotL_step hkl]
          refine o_nil ?_
          refine blk_n ?_
          refine j1 (k + 1) ⟨by omega, by omega⟩ (.cons rfl (.cons rfl (.nil _))) (sub (.cons (by first | exact rr0 | exact rr1 | exact rr2 | exact rr3 | exact rr4 | exact rr5 | exact rr6 | exact rr7 | exact rr8 | exact rr9 | exact rr10 | exact rr11 | exact rr12 | exact rr13 | exact rr14) (.cons (by first | exact rr0 | exact rr1 | exact rr2 | exact rr3 | exact rr4 | exact rr5 | exact rr6 | exact rr7 | exact rr8 | exact rr9 | exact rr10 | exact rr11 | exact rr12 | exact rr13 | exact rr14) .nil)) (by first | exact dd0 | exact dd1 | exact dd2 | exact dd3 | exact dd4 | exact dd5 | exact dd6 | exact dd7 | exact dd8 | exact dd9 | exact dd10 | exact dd11 | exact dd12 | exact dd13 | exact dd14))
        ·
          refine w_exit ?_
          refine thn_e ?_
          refine thn_e ?_
          refine blk_x ?_
          refine thn_n ?_
          refine w_seq ?_
          refine w_seq ?_
          have hke : k = i := next_eq hi hki hkl (by rw [want_in hwk.1 (by omega), ← hgw]; simpa using h65)
          subst hke
          have hgc := rot_head hkl Mb.c
          have hgq := rot_head hkl Mb.q
          refine w_region ?_
          refine o_val (v_move rfl) rfl ?_
          refine o_val (v_nil rfl) rfl ?_
          refine o_val (v_fieldAddr V.f46_2 rfl) rfl ?_
          refine o_val (v_load V.s27 rfl (by first | exact mm0 | exact mm1 | exact mm2 | exact mm3 | exact mm4 | exact mm5 | exact mm6 | exact mm7 | exact mm8 | exact mm9 | exact mm10 | exact mm11 | exact mm12 | exact mm13 | exact mm14) rfl) rfl ?_
          refine o_val (r_index (c := (I3)) V.sl27 rfl rfl (by first | exact own mm0 | exact own mm1 | exact own mm2 | exact own mm3 | exact own mm4 | exact own mm5 | exact own mm6 | exact own mm7 | exact own mm8 | exact own mm9 | exact own mm10 | exact own mm11 | exact rdH hRW mm0 | exact rdH hRW mm1 | exact rdH hRW mm2 | exact rdH hRW mm3 | exact rdH hRW mm4 | exact rdH hRW mm5 | exact rdH hRW mm6 | exact rdH hRW mm7 | exact rdH hRW mm8 | exact rdH hRW mm9 | exact rdH hRW mm10 | exact rdH hRW mm11) (by omega) (by omega)) rfl ?_
          refine o_val (r_load (c := (I3)) V.s3 rfl (by first | exact own mm0 | exact own mm1 | exact own mm2 | exact own mm3 | exact own mm4 | exact own mm5 | exact own mm6 | exact own mm7 | exact own mm8 | exact own mm9 | exact own mm10 | exact own mm11 | exact rdH hRW mm0 | exact rdH hRW mm1 | exact rdH hRW mm2 | exact rdH hRW mm3 | exact rdH hRW mm4 | exact rdH hRW mm5 | exact rdH hRW mm6 | exact rdH hRW mm7 | exact rdH hRW mm8 | exact rdH hRW mm9 | exact rdH hRW mm10 | exact rdH hRW mm11) (by omega) (by omega) rfl rfl) rfl ?_
          refine o_val (v_eql rfl rfl) rfl ?_
          refine o_nil ?_
          refine thn_n ?_
          first | refine w_condD rfl (fun h74 => ?_) (fun h74 => ?_) | refine w_cond rfl (fun h74 => ?_) (fun h74 => ?_)
          ·
            refine w_net [⟨[], [], [0], 0, 0⟩, ⟨[0], [0], [], 0, 0⟩, ⟨[0, 1], [1], [], 0, 0⟩, ⟨[0, 1, 2], [2], [], 0, 0⟩, ⟨[], [], [0], 0, 0⟩, ⟨[4], [4], [], 0, 0⟩, ⟨[4, 5], [5], [], 0, 0⟩, ⟨[4, 5, 6], [6], [], 0, 0⟩, ⟨[4, 5, 6, 7], [7], [], 0, 0⟩, ⟨[4, 5, 6, 7, 8], [8], [], 0, 0⟩, ⟨[0, 1, 2, 3, 4, 5, 6, 7, 8, 9], [3], [], 0, 0⟩, ⟨[0, 1, 2, 3, 4, 5, 6, 7, 8, 9, 10], [10, 9], [], 0, 0⟩] [⟨fun y => Cel b 46 [.slice p1 (rotL l k).length c1, .slice p2 (rotL l k).length c2, .slice p3 (rotL l k).length c3], none, none, [3, 7]⟩, ⟨fun y => Row I3 p1 (rotL l k).length c1 ((rotL l k).map Mb.who), none, none, []⟩, ⟨fun y => Row I3 p2 (rotL l k).length c2 ((rotL l k).map Mb.q), none, none, [8, 9]⟩, ⟨fun y => Row I3 p3 (rotL l k).length c3 ((rotL l k).map Mb.c), none, some 11, [10]⟩, ⟨fun y => RW, none, none, []⟩, ⟨fun y => Row I3 p3 (rotL l k).length c3 (((rotL l k).map Mb.c).set (0 : Int).toNat ((I3).g ((rotL l k).map Mb.q) 0)), some 11, none, []⟩] F V.mixed (by kernel_rfl) rfl (fun _ => .refl _) (locT_0 _ (locT_0 _ (locT_0 _ (locT_0 _ (locT_0 _ (locT_1 [0, 1, 2, 3, 4, 5, 6, 7, 8, 9, 10] rfl (by intro y y2 h; rfl) locT_nil)))))) ?_
            refine net_pure (fun y => [(0, _)]) (fun y => rfl) rfl rfl rfl (fun y hA L => st_v (v_move rfl) ⟨rfl, rfl⟩) (by intros; rfl) (by intro y y2 h; rfl) ?_
            refine net_pure (fun y => [(75, _)]) (fun y => rfl) rfl rfl rfl (fun y hA L => st_v (v_nil rfl) ⟨rfl, rfl⟩) (by intros; rfl) (by intro y y2 h; rfl) ?_
            refine net_pure (fun y => [(76, _)]) (fun y => rfl) rfl rfl rfl (fun y hA L => st_v (v_fieldAddr V.f46_2 rfl) ⟨rfl, rfl⟩) (by intros; rfl) (by intro y y2 h; rfl) ?_
            refine net_read (fun y => [Cel b 46 [.slice p1 (rotL l k).length c1, .slice p2 (rotL l k).length c2, .slice p3 (rotL l k).length c3]]) (fun y => [(77, _)]) (fun y => rfl) rfl (fun y => rfl) rfl (fun y FF hA => st_v (v_load V.s27 rfl (by first | exact mm0 | exact mm1 | exact mm2 | exact mm3 | exact mm4 | exact mm5 | exact mm6 | exact mm7 | exact mm8 | exact mm9 | exact mm10 | exact mm11 | exact mm12 | exact mm13 | exact mm14) rfl) ⟨rfl, rfl⟩) (by intros; rfl) (by intro y y2 h; rfl) ?_
            refine net_pure (fun y => [(0, _)]) (fun y => rfl) rfl rfl rfl (fun y hA L => st_v (v_move rfl) ⟨rfl, rfl⟩) (by intros; rfl) (by intro y y2 h; rfl) ?_
            refine net_pure (fun y => [(79, _)]) (fun y => rfl) rfl rfl rfl (fun y hA L => st_v (v_nil rfl) ⟨rfl, rfl⟩) (by intros; rfl) (by intro y y2 h; rfl) ?_
            refine net_pure (fun y => [(80, _)]) (fun y => rfl) rfl rfl rfl (fun y hA L => st_v (v_fieldAddr V.f46_1 rfl) ⟨rfl, rfl⟩) (by intros; rfl) (by intro y y2 h; rfl) ?_
            refine net_read (fun y => [Cel b 46 [.slice p1 (rotL l k).length c1, .slice p2 (rotL l k).length c2, .slice p3 (rotL l k).length c3]]) (fun y => [(81, _)]) (fun y => rfl) rfl (fun y => rfl) rfl (fun y FF hA => st_v (v_load V.s27 rfl (by first | exact mm0 | exact mm1 | exact mm2 | exact mm3 | exact mm4 | exact mm5 | exact mm6 | exact mm7 | exact mm8 | exact mm9 | exact mm10 | exact mm11 | exact mm12 | exact mm13 | exact mm14) rfl) ⟨rfl, rfl⟩) (by intros; rfl) (by intro y y2 h; rfl) ?_
            refine net_read (fun y => [Row I3 p2 (rotL l k).length c2 ((rotL l k).map Mb.q)]) (fun y => [(82, _)]) (fun y => rfl) rfl (fun y => rfl) rfl (fun y FF hA => st_v (r_index (c := (I3)) V.sl27 rfl rfl (by first | exact own mm0 | exact own mm1 | exact own mm2 | exact own mm3 | exact own mm4 | exact own mm5 | exact own mm6 | exact own mm7 | exact own mm8 | exact own mm9 | exact own mm10 | exact own mm11 | exact rdH hRW mm0 | exact rdH hRW mm1 | exact rdH hRW mm2 | exact rdH hRW mm3 | exact rdH hRW mm4 | exact rdH hRW mm5 | exact rdH hRW mm6 | exact rdH hRW mm7 | exact rdH hRW mm8 | exact rdH hRW mm9 | exact rdH hRW mm10 | exact rdH hRW mm11) (by omega) (by omega)) ⟨rfl, rfl⟩) (by intros; rfl) (by intro y y2 h; rfl) ?_
            refine net_read (fun y => [Row I3 p2 (rotL l k).length c2 ((rotL l k).map Mb.q)]) (fun y => [(83, _)]) (fun y => rfl) rfl (fun y => rfl) rfl (fun y FF hA => st_v (r_load (c := (I3)) V.s3 rfl (by first | exact own mm0 | exact own mm1 | exact own mm2 | exact own mm3 | exact own mm4 | exact own mm5 | exact own mm6 | exact own mm7 | exact own mm8 | exact own mm9 | exact own mm10 | exact own mm11 | exact rdH hRW mm0 | exact rdH hRW mm1 | exact rdH hRW mm2 | exact rdH hRW mm3 | exact rdH hRW mm4 | exact rdH hRW mm5 | exact rdH hRW mm6 | exact rdH hRW mm7 | exact rdH hRW mm8 | exact rdH hRW mm9 | exact rdH hRW mm10 | exact rdH hRW mm11) (by omega) (by omega) rfl rfl) ⟨rfl, rfl⟩) (by intros; rfl) (by intro y y2 h; rfl) ?_
            refine net_read (fun y => [Row I3 p3 (rotL l k).length c3 ((rotL l k).map Mb.c)]) (fun y => [(78, _)]) (fun y => rfl) rfl (fun y => rfl) rfl (fun y FF hA => st_v (r_index (c := (I3)) V.sl27 rfl rfl (by first | exact own mm0 | exact own mm1 | exact own mm2 | exact own mm3 | exact own mm4 | exact own mm5 | exact own mm6 | exact own mm7 | exact own mm8 | exact own mm9 | exact own mm10 | exact own mm11 | exact rdH hRW mm0 | exact rdH hRW mm1 | exact rdH hRW mm2 | exact rdH hRW mm3 | exact rdH hRW mm4 | exact rdH hRW mm5 | exact rdH hRW mm6 | exact rdH hRW mm7 | exact rdH hRW mm8 | exact rdH hRW mm9 | exact rdH hRW mm10 | exact rdH hRW mm11) (by omega) (by omega)) ⟨rfl, rfl⟩) (by intros; rfl) (by intro y y2 h; rfl) ?_
            refine net_eff (fun y => [Row I3 p3 (rotL l k).length c3 ((rotL l k).map Mb.c)]) (fun y => []) (fun y => [Row I3 p3 (rotL l k).length c3 (((rotL l k).map Mb.c).set (0 : Int).toNat ((I3).g ((rotL l k).map Mb.q) 0))]) (fun y => [(85, _), (84, _)]) (fun y => rfl) (fun y => rfl) (fun y => rfl) (fun y => rfl) (fun y FF hA => st_v (r_store (c := (I3)) (_) V.s3 rfl rfl rfl (by first | exact pp0 | exact pp1 | exact pp2 | exact pp3 | exact pp4 | exact pp5 | exact pp6 | exact pp7 | exact pp8 | exact pp9 | exact pp10 | exact pp11 | exact pp12 | exact pp13 | exact pp14) (by omega) (by omega) rfl rfl) ⟨rfl, .refl _⟩) (by intros; rfl) (by intros; rfl) (by intro y y2 h; rfl) ?_
            refine net_nil ?_
            intro y hA
            clear hA
            refine thn_n ?_
            refine w_keep _ (.cons (d := 0) rfl (.nil _)) ?_
            refine w_sub (M := Cel b 46 [.slice p1 (rotL l k).length c1, .slice p2 (rotL l k).length c2, .slice p3 (rotL l k).length c3] :: Row I3 p1 (rotL l k).length c1 ((rotL l k).map Mb.who) :: Row I3 p2 (rotL l k).length c2 ((rotL l k).map Mb.q) :: RW :: Row I3 p3 (rotL l k).length c3 (((rotL l k).map Mb.c).set (0 : Int).toNat ((I3).g ((rotL l k).map Mb.q) 0)) :: F) (fun _ _ h => h) ?_
            refine w_seq ?_
            refine w_net [⟨[], [], [0], 0, 0⟩, ⟨[0], [0], [], 0, 0⟩, ⟨[0, 1], [1], [], 0, 0⟩, ⟨[0, 1, 2], [2], [], 0, 0⟩, ⟨[0, 1, 2, 3], [3], [], 0, 0⟩, ⟨[0, 1, 2, 3, 4], [4], [], 0, 0⟩, ⟨[], [], [0], 0, 0⟩, ⟨[6], [6], [], 0, 0⟩, ⟨[6, 7], [7], [], 0, 0⟩, ⟨[6, 7, 8], [8], [], 0, 0⟩, ⟨[6, 7, 8, 9], [9], [], 0, 0⟩, ⟨[6, 7, 8, 9, 10], [10], [], 0, 0⟩, ⟨[0, 1, 2, 3, 4, 5], [5], [], 0, 0⟩, ⟨[0, 1, 2, 3, 4, 5, 6, 7, 8, 9, 10, 11, 12], [11], [], 0, 0⟩, ⟨[0, 1, 2, 3, 4, 5, 6, 7, 8, 9, 10, 11, 12, 13], [], [], 0, 0⟩] [⟨fun y => Cel b 46 [.slice p1 (rotL l k).length c1, .slice p2 (rotL l k).length c2, .slice p3 (rotL l k).length c3], none, none, [3, 9]⟩, ⟨fun y => Row I3 p1 (rotL l k).length c1 ((rotL l k).map Mb.who), none, none, [4, 5]⟩, ⟨fun y => Row I3 p2 (rotL l k).length c2 ((rotL l k).map Mb.q), none, none, []⟩, ⟨fun y => RW, none, none, []⟩, ⟨fun y => Row I3 p3 (rotL l k).length c3 (((rotL l k).map Mb.c).set (0 : Int).toNat ((I3).g ((rotL l k).map Mb.q) 0)), none, none, [10, 11]⟩] F V.mixed (by kernel_rfl) rfl (fun _ => .refl _) (locT_0 _ (locT_0 _ (locT_0 _ (locT_0 _ (locT_0 _ locT_nil))))) ?_
            refine net_pure (fun y => [(0, _)]) (fun y => rfl) rfl rfl rfl (fun y hA L => st_v (v_move rfl) ⟨rfl, rfl⟩) (by intros; rfl) (by intro y y2 h; rfl) ?_
            refine net_pure (fun y => [(86, _)]) (fun y => rfl) rfl rfl rfl (fun y hA L => st_v (v_nil rfl) ⟨rfl, rfl⟩) (by intros; rfl) (by intro y y2 h; rfl) ?_
            refine net_pure (fun y => [(87, _)]) (fun y => rfl) rfl rfl rfl (fun y hA L => st_v (v_fieldAddr V.f46_0 rfl) ⟨rfl, rfl⟩) (by intros; rfl) (by intro y y2 h; rfl) ?_
            refine net_read (fun y => [Cel b 46 [.slice p1 (rotL l k).length c1, .slice p2 (rotL l k).length c2, .slice p3 (rotL l k).length c3]]) (fun y => [(88, _)]) (fun y => rfl) rfl (fun y => rfl) rfl (fun y FF hA => st_v (v_load V.s27 rfl (by first | exact mm0 | exact mm1 | exact mm2 | exact mm3 | exact mm4 | exact mm5 | exact mm6 | exact mm7 | exact mm8 | exact mm9 | exact mm10 | exact mm11 | exact mm12 | exact mm13 | exact mm14) rfl) ⟨rfl, rfl⟩) (by intros; rfl) (by intro y y2 h; rfl) ?_
            refine net_read (fun y => [Row I3 p1 (rotL l k).length c1 ((rotL l k).map Mb.who)]) (fun y => [(89, _)]) (fun y => rfl) rfl (fun y => rfl) rfl (fun y FF hA => st_v (r_index (c := (I3)) V.sl27 rfl rfl (by first | exact own mm0 | exact own mm1 | exact own mm2 | exact own mm3 | exact own mm4 | exact own mm5 | exact own mm6 | exact own mm7 | exact own mm8 | exact own mm9 | exact own mm10 | exact own mm11 | exact rdH hRW mm0 | exact rdH hRW mm1 | exact rdH hRW mm2 | exact rdH hRW mm3 | exact rdH hRW mm4 | exact rdH hRW mm5 | exact rdH hRW mm6 | exact rdH hRW mm7 | exact rdH hRW mm8 | exact rdH hRW mm9 | exact rdH hRW mm10 | exact rdH hRW mm11) (by omega) (by omega)) ⟨rfl, rfl⟩) (by intros; rfl) (by intro y y2 h; rfl) ?_
            refine net_read (fun y => [Row I3 p1 (rotL l k).length c1 ((rotL l k).map Mb.who)]) (fun y => [(90, _)]) (fun y => rfl) rfl (fun y => rfl) rfl (fun y FF hA => st_v (r_load (c := (I3)) V.s3 rfl (by first | exact own mm0 | exact own mm1 | exact own mm2 | exact own mm3 | exact own mm4 | exact own mm5 | exact own mm6 | exact own mm7 | exact own mm8 | exact own mm9 | exact own mm10 | exact own mm11 | exact rdH hRW mm0 | exact rdH hRW mm1 | exact rdH hRW mm2 | exact rdH hRW mm3 | exact rdH hRW mm4 | exact rdH hRW mm5 | exact rdH hRW mm6 | exact rdH hRW mm7 | exact rdH hRW mm8 | exact rdH hRW mm9 | exact rdH hRW mm10 | exact rdH hRW mm11) (by omega) (by omega) rfl rfl) ⟨rfl, rfl⟩) (by intros; rfl) (by intro y y2 h; rfl) ?_
            refine net_pure (fun y => [(0, _)]) (fun y => rfl) rfl rfl rfl (fun y hA L => st_v (v_move rfl) ⟨rfl, rfl⟩) (by intros; rfl) (by intro y y2 h; rfl) ?_
            refine net_pure (fun y => [(92, _)]) (fun y => rfl) rfl rfl rfl (fun y hA L => st_v (v_nil rfl) ⟨rfl, rfl⟩) (by intros; rfl) (by intro y y2 h; rfl) ?_
            refine net_pure (fun y => [(93, _)]) (fun y => rfl) rfl rfl rfl (fun y hA L => st_v (v_fieldAddr V.f46_2 rfl) ⟨rfl, rfl⟩) (by intros; rfl) (by intro y y2 h; rfl) ?_
            refine net_read (fun y => [Cel b 46 [.slice p1 (rotL l k).length c1, .slice p2 (rotL l k).length c2, .slice p3 (rotL l k).length c3]]) (fun y => [(94, _)]) (fun y => rfl) rfl (fun y => rfl) rfl (fun y FF hA => st_v (v_load V.s27 rfl (by first | exact mm0 | exact mm1 | exact mm2 | exact mm3 | exact mm4 | exact mm5 | exact mm6 | exact mm7 | exact mm8 | exact mm9 | exact mm10 | exact mm11 | exact mm12 | exact mm13 | exact mm14) rfl) ⟨rfl, rfl⟩) (by intros; rfl) (by intro y y2 h; rfl) ?_
            refine net_read (fun y => [Row I3 p3 (rotL l k).length c3 (((rotL l k).map Mb.c).set (0 : Int).toNat ((I3).g ((rotL l k).map Mb.q) 0))]) (fun y => [(95, _)]) (fun y => rfl) rfl (fun y => rfl) rfl (fun y FF hA => st_v (r_index (c := (I3)) V.sl27 rfl rfl (by first | exact own mm0 | exact own mm1 | exact own mm2 | exact own mm3 | exact own mm4 | exact own mm5 | exact own mm6 | exact own mm7 | exact own mm8 | exact own mm9 | exact own mm10 | exact own mm11 | exact rdH hRW mm0 | exact rdH hRW mm1 | exact rdH hRW mm2 | exact rdH hRW mm3 | exact rdH hRW mm4 | exact rdH hRW mm5 | exact rdH hRW mm6 | exact rdH hRW mm7 | exact rdH hRW mm8 | exact rdH hRW mm9 | exact rdH hRW mm10 | exact rdH hRW mm11) (by omega) (by omega)) ⟨rfl, rfl⟩) (by intros; rfl) (by intro y y2 h; rfl) ?_
            refine net_read (fun y => [Row I3 p3 (rotL l k).length c3 (((rotL l k).map Mb.c).set (0 : Int).toNat ((I3).g ((rotL l k).map Mb.q) 0))]) (fun y => [(96, _)]) (fun y => rfl) rfl (fun y => rfl) rfl (fun y FF hA => st_v (r_load (c := (I3)) V.s3 rfl (by first | exact own mm0 | exact own mm1 | exact own mm2 | exact own mm3 | exact own mm4 | exact own mm5 | exact own mm6 | exact own mm7 | exact own mm8 | exact own mm9 | exact own mm10 | exact own mm11 | exact rdH hRW mm0 | exact rdH hRW mm1 | exact rdH hRW mm2 | exact rdH hRW mm3 | exact rdH hRW mm4 | exact rdH hRW mm5 | exact rdH hRW mm6 | exact rdH hRW mm7 | exact rdH hRW mm8 | exact rdH hRW mm9 | exact rdH hRW mm10 | exact rdH hRW mm11) (by omega) (by omega) rfl rfl) ⟨rfl, rfl⟩) (by intros; rfl) (by intro y y2 h; rfl) ?_
            refine net_pure (fun y => [(91, _)]) (fun y => rfl) rfl rfl rfl (fun y hA L => st_v (v_assign rfl) ⟨rfl, rfl⟩) (by intros; rfl) (by intro y y2 h; rfl) ?_
            refine net_pure (fun y => [(97, _)]) (fun y => rfl) rfl rfl rfl (fun y hA L => st_v (v_assign rfl) ⟨rfl, rfl⟩) (by intros; rfl) (by intro y y2 h; rfl) ?_
            refine net_pure (fun y => []) (fun y => rfl) rfl rfl rfl (fun y hA L => st_v (v_assign rfl) ⟨rfl, rfl⟩) (by intros; rfl) (by intro y y2 h; rfl) ?_
            refine net_nil ?_
            intro y hA
            clear hA
            refine thn_n ?_
            refine w_keep _ (.cons (d := 4) rfl (.cons (d := 5) rfl (.cons (d := 6) rfl (.nil _)))) ?_
            refine w_sub (M := Cel b 46 [.slice p1 (rotL l k).length c1, .slice p2 (rotL l k).length c2, .slice p3 (rotL l k).length c3] :: Row I3 p1 (rotL l k).length c1 ((rotL l k).map Mb.who) :: Row I3 p2 (rotL l k).length c2 ((rotL l k).map Mb.q) :: RW :: Row I3 p3 (rotL l k).length c3 (((rotL l k).map Mb.c).set (0 : Int).toNat ((I3).g ((rotL l k).map Mb.q) 0)) :: F) (fun _ _ h => h) ?_
            refine w_ret ?_
            unfold nWho nCred nOk nList
            rw [find_some hi, hi]
            rw [hgw]
            first
            | exact ret_ok (G := [RF b (fnext l k), RW]) (res3 rfl rfl rfl) ⟨by dsimp only; rw [g_set0 (by rw [List.length_map, rotL_len]; omega), hgq, full_zero (by rw [← hgc]; exact h74)]; rfl, rfl⟩ (by exact fold' (.cons (by first | exact rr0 | exact rr1 | exact rr2 | exact rr3 | exact rr4 | exact rr5 | exact rr6 | exact rr7 | exact rr8 | exact rr9 | exact rr10 | exact rr11 | exact rr12 | exact rr13 | exact rr14) (.cons (by first | exact rr0 | exact rr1 | exact rr2 | exact rr3 | exact rr4 | exact rr5 | exact rr6 | exact rr7 | exact rr8 | exact rr9 | exact rr10 | exact rr11 | exact rr12 | exact rr13 | exact rr14) (.cons (by first | exact rr0 | exact rr1 | exact rr2 | exact rr3 | exact rr4 | exact rr5 | exact rr6 | exact rr7 | exact rr8 | exact rr9 | exact rr10 | exact rr11 | exact rr12 | exact rr13 | exact rr14) (.cons (by first | exact rr0 | exact rr1 | exact rr2 | exact rr3 | exact rr4 | exact rr5 | exact rr6 | exact rr7 | exact rr8 | exact rr9 | exact rr10 | exact rr11 | exact rr12 | exact rr13 | exact rr14) .nil)))) (by first | exact dd0 | exact dd1 | exact dd2 | exact dd3 | exact dd4 | exact dd5 | exact dd6 | exact dd7 | exact dd8 | exact dd9 | exact dd10 | exact dd11 | exact dd12 | exact dd13 | exact dd14) (fun w0 h hh => rf_close (by rw [rotL_len, fnext_len _ hkl]) (fnext_map hkl).1.symm (fnext_map hkl).2.1.symm (by rw [hgq]; exact fnext_c0 hkl (by rw [← hgc]; exact h74)) hh))
            | exact ret_ok (G := [RF b (fnext l k), RW]) (res3 rfl rfl rfl) ⟨by dsimp only; rw [hgc, full_same (by rw [← hgc]; exact h74)]; rfl, rfl⟩ (by exact fold' (.cons (by first | exact rr0 | exact rr1 | exact rr2 | exact rr3 | exact rr4 | exact rr5 | exact rr6 | exact rr7 | exact rr8 | exact rr9 | exact rr10 | exact rr11 | exact rr12 | exact rr13 | exact rr14) (.cons (by first | exact rr0 | exact rr1 | exact rr2 | exact rr3 | exact rr4 | exact rr5 | exact rr6 | exact rr7 | exact rr8 | exact rr9 | exact rr10 | exact rr11 | exact rr12 | exact rr13 | exact rr14) (.cons (by first | exact rr0 | exact rr1 | exact rr2 | exact rr3 | exact rr4 | exact rr5 | exact rr6 | exact rr7 | exact rr8 | exact rr9 | exact rr10 | exact rr11 | exact rr12 | exact rr13 | exact rr14) (.cons (by first | exact rr0 | exact rr1 | exact rr2 | exact rr3 | exact rr4 | exact rr5 | exact rr6 | exact rr7 | exact rr8 | exact rr9 | exact rr10 | exact rr11 | exact rr12 | exact rr13 | exact rr14) .nil)))) (by first | exact dd0 | exact dd1 | exact dd2 | exact dd3 | exact dd4 | exact dd5 | exact dd6 | exact dd7 | exact dd8 | exact dd9 | exact dd10 | exact dd11 | exact dd12 | exact dd13 | exact dd14) (fun w0 h hh => rf_close (by rw [rotL_len, fnext_len _ hkl]) (fnext_map hkl).1.symm (fnext_map hkl).2.1.symm (fnext_c1 hkl (by rw [← hgc]; exact h74)) hh))
          ·
            refine w_skip ?_
            refine thn_n ?_
            refine w_seq ?_
            refine w_net [⟨[], [], [0], 0, 0⟩, ⟨[0], [0], [], 0, 0⟩, ⟨[0, 1], [1], [], 0, 0⟩, ⟨[0, 1, 2], [2], [], 0, 0⟩, ⟨[0, 1, 2, 3], [3], [], 0, 0⟩, ⟨[0, 1, 2, 3, 4], [4], [], 0, 0⟩, ⟨[], [], [0], 0, 0⟩, ⟨[6], [6], [], 0, 0⟩, ⟨[6, 7], [7], [], 0, 0⟩, ⟨[6, 7, 8], [8], [], 0, 0⟩, ⟨[6, 7, 8, 9], [9], [], 0, 0⟩, ⟨[6, 7, 8, 9, 10], [10], [], 0, 0⟩, ⟨[0, 1, 2, 3, 4, 5], [5], [], 0, 0⟩, ⟨[0, 1, 2, 3, 4, 5, 6, 7, 8, 9, 10, 11, 12], [11], [], 0, 0⟩, ⟨[0, 1, 2, 3, 4, 5, 6, 7, 8, 9, 10, 11, 12, 13], [], [], 0, 0⟩] [⟨fun y => Cel b 46 [.slice p1 (rotL l k).length c1, .slice p2 (rotL l k).length c2, .slice p3 (rotL l k).length c3], none, none, [3, 9]⟩, ⟨fun y => Row I3 p1 (rotL l k).length c1 ((rotL l k).map Mb.who), none, none, [4, 5]⟩, ⟨fun y => Row I3 p2 (rotL l k).length c2 ((rotL l k).map Mb.q), none, none, []⟩, ⟨fun y => Row I3 p3 (rotL l k).length c3 ((rotL l k).map Mb.c), none, none, [10, 11]⟩, ⟨fun y => RW, none, none, []⟩] F V.mixed (by kernel_rfl) rfl (fun _ => .refl _) (locT_0 _ (locT_0 _ (locT_0 _ (locT_0 _ (locT_0 _ locT_nil))))) ?_
            refine net_pure (fun y => [(0, _)]) (fun y => rfl) rfl rfl rfl (fun y hA L => st_v (v_move rfl) ⟨rfl, rfl⟩) (by intros; rfl) (by intro y y2 h; rfl) ?_
            refine net_pure (fun y => [(86, _)]) (fun y => rfl) rfl rfl rfl (fun y hA L => st_v (v_nil rfl) ⟨rfl, rfl⟩) (by intros; rfl) (by intro y y2 h; rfl) ?_
            refine net_pure (fun y => [(87, _)]) (fun y => rfl) rfl rfl rfl (fun y hA L => st_v (v_fieldAddr V.f46_0 rfl) ⟨rfl, rfl⟩) (by intros; rfl) (by intro y y2 h; rfl) ?_
            refine net_read (fun y => [Cel b 46 [.slice p1 (rotL l k).length c1, .slice p2 (rotL l k).length c2, .slice p3 (rotL l k).length c3]]) (fun y => [(88, _)]) (fun y => rfl) rfl (fun y => rfl) rfl (fun y FF hA => st_v (v_load V.s27 rfl (by first | exact mm0 | exact mm1 | exact mm2 | exact mm3 | exact mm4 | exact mm5 | exact mm6 | exact mm7 | exact mm8 | exact mm9 | exact mm10 | exact mm11 | exact mm12 | exact mm13 | exact mm14) rfl) ⟨rfl, rfl⟩) (by intros; rfl) (by intro y y2 h; rfl) ?_
            refine net_read (fun y => [Row I3 p1 (rotL l k).length c1 ((rotL l k).map Mb.who)]) (fun y => [(89, _)]) (fun y => rfl) rfl (fun y => rfl) rfl (fun y FF hA => st_v (r_index (c := (I3)) V.sl27 rfl rfl (by first | exact own mm0 | exact own mm1 | exact own mm2 | exact own mm3 | exact own mm4 | exact own mm5 | exact own mm6 | exact own mm7 | exact own mm8 | exact own mm9 | exact own mm10 | exact own mm11 | exact rdH hRW mm0 | exact rdH hRW mm1 | exact rdH hRW mm2 | exact rdH hRW mm3 | exact rdH hRW mm4 | exact rdH hRW mm5 | exact rdH hRW mm6 | exact rdH hRW mm7 | exact rdH hRW mm8 | exact rdH hRW mm9 | exact rdH hRW mm10 | exact rdH hRW mm11) (by omega) (by omega)) ⟨rfl, rfl⟩) (by intros; rfl) (by intro y y2 h; rfl) ?_
            refine net_read (fun y => [Row I3 p1 (rotL l k).length c1 ((rotL l k).map Mb.who)]) (fun y => [(90, _)]) (fun y => rfl) rfl (fun y => rfl) rfl (fun y FF hA => st_v (r_load (c := (I3)) V.s3 rfl (by first | exact own mm0 | exact own mm1 | exact own mm2 | exact own mm3 | exact own mm4 | exact own mm5 | exact own mm6 | exact own mm7 | exact own mm8 | exact own mm9 | exact own mm10 | exact own mm11 | exact rdH hRW mm0 | exact rdH hRW mm1 | exact rdH hRW mm2 | exact rdH hRW mm3 | exact rdH hRW mm4 | exact rdH hRW mm5 | exact rdH hRW mm6 | exact rdH hRW mm7 | exact rdH hRW mm8 | exact rdH hRW mm9 | exact rdH hRW mm10 | exact rdH hRW mm11) (by omega) (by omega) rfl rfl) ⟨rfl, rfl⟩) (by intros; rfl) (by intro y y2 h; rfl) ?_
            refine net_pure (fun y => [(0, _)]) (fun y => rfl) rfl rfl rfl (fun y hA L => st_v (v_move rfl) ⟨rfl, rfl⟩) (by intros; rfl) (by intro y y2 h; rfl) ?_
            refine net_pure (fun y => [(92, _)]) (fun y => rfl) rfl rfl rfl (fun y hA L => st_v (v_nil rfl) ⟨rfl, rfl⟩) (by intros; rfl) (by intro y y2 h; rfl) ?_
            refine net_pure (fun y => [(93, _)]) (fun y => rfl) rfl rfl rfl (fun y hA L => st_v (v_fieldAddr V.f46_2 rfl) ⟨rfl, rfl⟩) (by intros; rfl) (by intro y y2 h; rfl) ?_
            refine net_read (fun y => [Cel b 46 [.slice p1 (rotL l k).length c1, .slice p2 (rotL l k).length c2, .slice p3 (rotL l k).length c3]]) (fun y => [(94, _)]) (fun y => rfl) rfl (fun y => rfl) rfl (fun y FF hA => st_v (v_load V.s27 rfl (by first | exact mm0 | exact mm1 | exact mm2 | exact mm3 | exact mm4 | exact mm5 | exact mm6 | exact mm7 | exact mm8 | exact mm9 | exact mm10 | exact mm11 | exact mm12 | exact mm13 | exact mm14) rfl) ⟨rfl, rfl⟩) (by intros; rfl) (by intro y y2 h; rfl) ?_
            refine net_read (fun y => [Row I3 p3 (rotL l k).length c3 ((rotL l k).map Mb.c)]) (fun y => [(95, _)]) (fun y => rfl) rfl (fun y => rfl) rfl (fun y FF hA => st_v (r_index (c := (I3)) V.sl27 rfl rfl (by first | exact own mm0 | exact own mm1 | exact own mm2 | exact own mm3 | exact own mm4 | exact own mm5 | exact own mm6 | exact own mm7 | exact own mm8 | exact own mm9 | exact own mm10 | exact own mm11 | exact rdH hRW mm0 | exact rdH hRW mm1 | exact rdH hRW mm2 | exact rdH hRW mm3 | exact rdH hRW mm4 | exact rdH hRW mm5 | exact rdH hRW mm6 | exact rdH hRW mm7 | exact rdH hRW mm8 | exact rdH hRW mm9 | exact rdH hRW mm10 | exact rdH hRW mm11) (by omega) (by omega)) ⟨rfl, rfl⟩) (by intros; rfl) (by intro y y2 h; rfl) ?_
            refine net_read (fun y => [Row I3 p3 (rotL l k).length c3 ((rotL l k).map Mb.c)]) (fun y => [(96, _)]) (fun y => rfl) rfl (fun y => rfl) rfl (fun y FF hA => st_v (r_load (c := (I3)) V.s3 rfl (by first | exact own mm0 | exact own mm1 | exact own mm2 | exact own mm3 | exact own mm4 | exact own mm5 | exact own mm6 | exact own mm7 | exact own mm8 | exact own mm9 | exact own mm10 | exact own mm11 | exact rdH hRW mm0 | exact rdH hRW mm1 | exact rdH hRW mm2 | exact rdH hRW mm3 | exact rdH hRW mm4 | exact rdH hRW mm5 | exact rdH hRW mm6 | exact rdH hRW mm7 | exact rdH hRW mm8 | exact rdH hRW mm9 | exact rdH hRW mm10 | exact rdH hRW mm11) (by omega) (by omega) rfl rfl) ⟨rfl, rfl⟩) (by intros; rfl) (by intro y y2 h; rfl) ?_
            refine net_pure (fun y => [(91, _)]) (fun y => rfl) rfl rfl rfl (fun y hA L => st_v (v_assign rfl) ⟨rfl, rfl⟩) (by intros; rfl) (by intro y y2 h; rfl) ?_
            refine net_pure (fun y => [(97, _)]) (fun y => rfl) rfl rfl rfl (fun y hA L => st_v (v_assign rfl) ⟨rfl, rfl⟩) (by intros; rfl) (by intro y y2 h; rfl) ?_
            refine net_pure (fun y => []) (fun y => rfl) rfl rfl rfl (fun y hA L => st_v (v_assign rfl) ⟨rfl, rfl⟩) (by intros; rfl) (by intro y y2 h; rfl) ?_
            refine net_nil ?_
            intro y hA
            clear hA
            refine thn_n ?_
            refine w_keep _ (.cons (d := 4) rfl (.cons (d := 5) rfl (.cons (d := 6) rfl (.nil _)))) ?_
            refine w_sub (M := Cel b 46 [.slice p1 (rotL l k).length c1, .slice p2 (rotL l k).length c2, .slice p3 (rotL l k).length c3] :: Row I3 p1 (rotL l k).length c1 ((rotL l k).map Mb.who) :: Row I3 p2 (rotL l k).length c2 ((rotL l k).map Mb.q) :: Row I3 p3 (rotL l k).length c3 ((rotL l k).map Mb.c) :: RW :: F) (fun _ _ h => h) ?_
            refine w_ret ?_
            unfold nWho nCred nOk nList
            rw [find_some hi, hi]
            rw [hgw]
            first
            | exact ret_ok (G := [RF b (fnext l k), RW]) (res3 rfl rfl rfl) ⟨by dsimp only; rw [g_set0 (by rw [List.length_map, rotL_len]; omega), hgq, full_zero (by rw [← hgc]; exact h74)]; rfl, rfl⟩ (by exact fold' (.cons (by first | exact rr0 | exact rr1 | exact rr2 | exact rr3 | exact rr4 | exact rr5 | exact rr6 | exact rr7 | exact rr8 | exact rr9 | exact rr10 | exact rr11 | exact rr12 | exact rr13 | exact rr14) (.cons (by first | exact rr0 | exact rr1 | exact rr2 | exact rr3 | exact rr4 | exact rr5 | exact rr6 | exact rr7 | exact rr8 | exact rr9 | exact rr10 | exact rr11 | exact rr12 | exact rr13 | exact rr14) (.cons (by first | exact rr0 | exact rr1 | exact rr2 | exact rr3 | exact rr4 | exact rr5 | exact rr6 | exact rr7 | exact rr8 | exact rr9 | exact rr10 | exact rr11 | exact rr12 | exact rr13 | exact rr14) (.cons (by first | exact rr0 | exact rr1 | exact rr2 | exact rr3 | exact rr4 | exact rr5 | exact rr6 | exact rr7 | exact rr8 | exact rr9 | exact rr10 | exact rr11 | exact rr12 | exact rr13 | exact rr14) .nil)))) (by first | exact dd0 | exact dd1 | exact dd2 | exact dd3 | exact dd4 | exact dd5 | exact dd6 | exact dd7 | exact dd8 | exact dd9 | exact dd10 | exact dd11 | exact dd12 | exact dd13 | exact dd14) (fun w0 h hh => rf_close (by rw [rotL_len, fnext_len _ hkl]) (fnext_map hkl).1.symm (fnext_map hkl).2.1.symm (by rw [hgq]; exact fnext_c0 hkl (by rw [← hgc]; exact h74)) hh))
            | exact ret_ok (G := [RF b (fnext l k), RW]) (res3 rfl rfl rfl) ⟨by dsimp only; rw [hgc, full_same (by rw [← hgc]; exact h74)]; rfl, rfl⟩ (by exact fold' (.cons (by first | exact rr0 | exact rr1 | exact rr2 | exact rr3 | exact rr4 | exact rr5 | exact rr6 | exact rr7 | exact rr8 | exact rr9 | exact rr10 | exact rr11 | exact rr12 | exact rr13 | exact rr14) (.cons (by first | exact rr0 | exact rr1 | exact rr2 | exact rr3 | exact rr4 | exact rr5 | exact rr6 | exact rr7 | exact rr8 | exact rr9 | exact rr10 | exact rr11 | exact rr12 | exact rr13 | exact rr14) (.cons (by first | exact rr0 | exact rr1 | exact rr2 | exact rr3 | exact rr4 | exact rr5 | exact rr6 | exact rr7 | exact rr8 | exact rr9 | exact rr10 | exact rr11 | exact rr12 | exact rr13 | exact rr14) (.cons (by first | exact rr0 | exact rr1 | exact rr2 | exact rr3 | exact rr4 | exact rr5 | exact rr6 | exact rr7 | exact rr8 | exact rr9 | exact rr10 | exact rr11 | exact rr12 | exact rr13 | exact rr14) .nil)))) (by first | exact dd0 | exact dd1 | exact dd2 | exact dd3 | exact dd4 | exact dd5 | exact dd6 | exact dd7 | exact dd8 | exact dd9 | exact dd10 | exact dd11 | exact dd12 | exact dd13 | exact dd14) (fun w0 h hh => rf_close (by rw [rotL_len, fnext_len _ hkl]) (fnext_map hkl).1.symm (fnext_map hkl).2.1.symm (fnext_c1 hkl (by rw [← hgc]; exact h74)) hh))

set_option maxHeartbeats 4000000 in
set_option maxRecDepth 100000 in
theorem r_spend_nil (b : Nat) (who n : Int) : Ctr Try.prog 22 [.pointer (some ⟨b, 0, none⟩), .int .i64 who, .int .i64 n] [RF b []] (Ret fun v G => v = .bool false ∧ G = [RF b []]) := by
  refine spec_of [(0, _), (1, _), (2, _)] Try.func22 rfl Try.ntmps22 rfl rfl ?_
  intro w0 F
  refine w_opn (fun h hh => hh) ?_
  rintro ⟨p1, c1, p2, c2, p3, c3⟩ _
  dsimp only
  simp only [List.length_nil]
  refine w_seq ?_
  refine w_region ?_
  refine o_val (v_assign rfl) rfl ?_
  refine o_nil ?_
  refine thn_n ?_
  refine w_seq ?_
  refine w_seq ?_
  refine w_region ?_
  refine o_val (v_move rfl) rfl ?_
  refine o_val (v_nil rfl) rfl ?_
  refine o_val (v_fieldAddr V.f46_0 rfl) rfl ?_
  refine o_val (v_load V.s27 rfl (by first | exact mm0 | exact mm1 | exact mm2 | exact mm3 | exact mm4 | exact mm5 | exact mm6 | exact mm7 | exact mm8 | exact mm9 | exact mm10 | exact mm11 | exact mm12 | exact mm13 | exact mm14) rfl) rfl ?_
  refine o_val (v_len (ty' := 0) Try.underlying27 rfl) rfl ?_
  refine o_val (v_T (v_eql rfl rfl) (by omega)) rfl ?_
  refine o_val (v_move rfl) rfl ?_
  refine o_pass rfl rfl rfl ?_
  refine o_pass rfl rfl rfl ?_
  refine o_pass rfl rfl rfl ?_
  refine o_pass rfl rfl rfl ?_
  refine o_pass rfl rfl rfl ?_
  refine o_pass rfl rfl rfl ?_
  refine o_pass rfl rfl rfl ?_
  refine o_pass rfl rfl rfl ?_
  refine o_val (v_pickT rfl rfl) rfl ?_
  refine o_val (v_move rfl) rfl ?_
  refine o_pass rfl rfl rfl ?_
  refine o_pass rfl rfl rfl ?_
  refine o_val (v_pickT rfl rfl) rfl ?_
  refine o_val (v_move rfl) rfl ?_
  refine o_pass rfl rfl rfl ?_
  refine o_pass rfl rfl rfl ?_
  refine o_pass rfl rfl rfl ?_
  refine o_pass rfl rfl rfl ?_
  refine o_pass rfl rfl rfl ?_
  refine o_pass rfl rfl rfl ?_
  refine o_pass rfl rfl rfl ?_
  refine o_pass rfl rfl rfl ?_
  refine o_val (v_pickT rfl rfl) rfl ?_
  refine o_nil ?_
  refine thn_n ?_
  refine w_condT rfl ?_
  refine w_seq ?_
  refine w_region ?_
  refine o_val (v_assign rfl) rfl ?_
  refine o_nil ?_
  refine thn_n ?_
  refine w_ret ?_
  refine (thn_r ?_)
  exact ret_ok (G := [RF b []]) (res1 rfl) ⟨rfl, rfl⟩ (fold' (.cons (by first | exact rr0 | exact rr1 | exact rr2 | exact rr3 | exact rr4 | exact rr5 | exact rr6 | exact rr7 | exact rr8 | exact rr9 | exact rr10 | exact rr11 | exact rr12 | exact rr13 | exact rr14) (.cons (by first | exact rr0 | exact rr1 | exact rr2 | exact rr3 | exact rr4 | exact rr5 | exact rr6 | exact rr7 | exact rr8 | exact rr9 | exact rr10 | exact rr11 | exact rr12 | exact rr13 | exact rr14) (.cons (by first | exact rr0 | exact rr1 | exact rr2 | exact rr3 | exact rr4 | exact rr5 | exact rr6 | exact rr7 | exact rr8 | exact rr9 | exact rr10 | exact rr11 | exact rr12 | exact rr13 | exact rr14) (.cons (by first | exact rr0 | exact rr1 | exact rr2 | exact rr3 | exact rr4 | exact rr5 | exact rr6 | exact rr7 | exact rr8 | exact rr9 | exact rr10 | exact rr11 | exact rr12 | exact rr13 | exact rr14) .nil)))) (by first | exact dd0 | exact dd1 | exact dd2 | exact dd3 | exact dd4 | exact dd5 | exact dd6 | exact dd7 | exact dd8 | exact dd9 | exact dd10 | exact dd11 | exact dd12 | exact dd13 | exact dd14) (fun w0 h hh => rf_close (rfl) (rfl) (rfl) (rfl) hh))

set_option maxHeartbeats 4000000 in
set_option maxRecDepth 100000 in
theorem r_spend_cons (b : Nat) (who n : Int) (m : Mb) (r : List Mb) (hl : r.length ≤ 999) (hm : 0 ≤ m.c ∧ m.c ≤ 100000) : Ctr Try.prog 22 [.pointer (some ⟨b, 0, none⟩), .int .i64 who, .int .i64 n] [RF b (m :: r)] (Ret fun v G => v = .bool (sOk (m :: r) who n) ∧ G = [RF b (sList (m :: r) who n)]) := by
  refine spec_of [(0, _), (1, _), (2, _)] Try.func22 rfl Try.ntmps22 rfl rfl ?_
  intro w0 F
  refine w_opn (fun h hh => hh) ?_
  rintro ⟨p1, c1, p2, c2, p3, c3⟩ _
  dsimp only
  have hlen : (m :: r).length = r.length + 1 := rfl
  have hgw := g_head m r Mb.who
  have hgc := g_head m r Mb.c
  refine w_seq ?_
  refine w_region ?_
  refine o_val (v_assign rfl) rfl ?_
  refine o_nil ?_
  refine thn_n ?_
  refine w_seq ?_
  refine w_seq ?_
  refine w_region ?_
  refine o_val (v_move rfl) rfl ?_
  refine o_val (v_nil rfl) rfl ?_
  refine o_val (v_fieldAddr V.f46_0 rfl) rfl ?_
  refine o_val (v_load V.s27 rfl (by first | exact mm0 | exact mm1 | exact mm2 | exact mm3 | exact mm4 | exact mm5 | exact mm6 | exact mm7 | exact mm8 | exact mm9 | exact mm10 | exact mm11 | exact mm12 | exact mm13 | exact mm14) rfl) rfl ?_
  refine o_val (v_len (ty' := 0) Try.underlying27 rfl) rfl ?_
  refine o_val (v_F (v_eql rfl rfl) (by omega)) rfl ?_
  refine o_val (v_move rfl) rfl ?_
  refine o_want rfl ?_
  refine o_val (v_move rfl) rfl ?_
  refine o_want rfl ?_
  refine o_val (v_nil rfl) rfl ?_
  refine o_want rfl ?_
  refine o_val (v_fieldAddr V.f46_0 rfl) rfl ?_
  refine o_want rfl ?_
  refine o_val (v_load V.s27 rfl (by first | exact mm0 | exact mm1 | exact mm2 | exact mm3 | exact mm4 | exact mm5 | exact mm6 | exact mm7 | exact mm8 | exact mm9 | exact mm10 | exact mm11 | exact mm12 | exact mm13 | exact mm14) rfl) rfl ?_
  refine o_want rfl ?_
  refine o_val (r_index (c := (I3)) V.sl27 rfl rfl (by first | exact own mm0 | exact own mm1 | exact own mm2 | exact own mm3 | exact own mm4 | exact own mm5 | exact own mm6 | exact own mm7 | exact own mm8 | exact own mm9 | exact own mm10 | exact own mm11) (by omega) (by omega)) rfl ?_
  refine o_want rfl ?_
  refine o_val (r_load (c := (I3)) V.s3 rfl (by first | exact own mm0 | exact own mm1 | exact own mm2 | exact own mm3 | exact own mm4 | exact own mm5 | exact own mm6 | exact own mm7 | exact own mm8 | exact own mm9 | exact own mm10 | exact own mm11) (by omega) (by omega) rfl rfl) rfl ?_
  refine o_want rfl ?_
  refine o_val (v_move rfl) rfl ?_
  refine o_want rfl ?_
  refine o_val (v_neq rfl rfl) rfl ?_
  refine o_val (v_pickF rfl rfl) rfl ?_
  refine o_val (v_move rfl) rfl ?_
  first | refine o_boolD 23 rfl (fun h23 => ?_) (fun h23 => ?_) | refine o_bool 23 rfl (fun h23 => ?_) (fun h23 => ?_)
  ·
    refine o_pass rfl rfl rfl ?_
    refine o_pass rfl rfl rfl ?_
    refine o_val (v_pickT rfl rfl) rfl ?_
    refine o_val (v_move rfl) rfl ?_
    refine o_pass rfl rfl rfl ?_
    refine o_pass rfl rfl rfl ?_
    refine o_pass rfl rfl rfl ?_
    refine o_pass rfl rfl rfl ?_
    refine o_pass rfl rfl rfl ?_
    refine o_pass rfl rfl rfl ?_
    refine o_pass rfl rfl rfl ?_
    refine o_pass rfl rfl rfl ?_
    refine o_val (v_pickT rfl rfl) rfl ?_
    refine o_nil ?_
    refine thn_n ?_
    refine w_condT rfl ?_
    refine w_seq ?_
    refine w_region ?_
    refine o_val (v_assign rfl) rfl ?_
    refine o_nil ?_
    refine thn_n ?_
    refine w_ret ?_
    refine (thn_r ?_)
    have hs := sp_no (m := m) (r := r) (who := who) (n := n) (fun ⟨a, b, c⟩ => by omega)
    exact ret_ok (G := [RF b (sList (m :: r) who n)]) (res1 rfl) ⟨by rw [hs.1], rfl⟩ (by rw [hs.2]; exact (fold' (.cons (by first | exact rr0 | exact rr1 | exact rr2 | exact rr3 | exact rr4 | exact rr5 | exact rr6 | exact rr7 | exact rr8 | exact rr9 | exact rr10 | exact rr11 | exact rr12 | exact rr13 | exact rr14) (.cons (by first | exact rr0 | exact rr1 | exact rr2 | exact rr3 | exact rr4 | exact rr5 | exact rr6 | exact rr7 | exact rr8 | exact rr9 | exact rr10 | exact rr11 | exact rr12 | exact rr13 | exact rr14) (.cons (by first | exact rr0 | exact rr1 | exact rr2 | exact rr3 | exact rr4 | exact rr5 | exact rr6 | exact rr7 | exact rr8 | exact rr9 | exact rr10 | exact rr11 | exact rr12 | exact rr13 | exact rr14) (.cons (by first | exact rr0 | exact rr1 | exact rr2 | exact rr3 | exact rr4 | exact rr5 | exact rr6 | exact rr7 | exact rr8 | exact rr9 | exact rr10 | exact rr11 | exact rr12 | exact rr13 | exact rr14) .nil)))) (by first | exact dd0 | exact dd1 | exact dd2 | exact dd3 | exact dd4 | exact dd5 | exact dd6 | exact dd7 | exact dd8 | exact dd9 | exact dd10 | exact dd11 | exact dd12 | exact dd13 | exact dd14) (fun w0 h hh => rf_close (rfl) (rfl) (rfl) (rfl) hh)))
  ·
    refine o_want rfl ?_
    refine o_val (v_move rfl) rfl ?_
    refine o_want rfl ?_
    refine o_val (v_lss rfl rfl) rfl ?_
    refine o_val (v_pickF rfl rfl) rfl ?_
    refine o_val (v_move rfl) rfl ?_
    first | refine o_boolD 27 rfl (fun h27 => ?_) (fun h27 => ?_) | refine o_bool 27 rfl (fun h27 => ?_) (fun h27 => ?_)
    ·
      refine o_pass rfl rfl rfl ?_
      refine o_pass rfl rfl rfl ?_
      refine o_pass rfl rfl rfl ?_
      refine o_pass rfl rfl rfl ?_
      refine o_pass rfl rfl rfl ?_
      refine o_pass rfl rfl rfl ?_
      refine o_pass rfl rfl rfl ?_
      refine o_pass rfl rfl rfl ?_
      refine o_val (v_pickT rfl rfl) rfl ?_
      refine o_nil ?_
      refine thn_n ?_
      refine w_condT rfl ?_
      refine w_seq ?_
      refine w_region ?_
      refine o_val (v_assign rfl) rfl ?_
      refine o_nil ?_
      refine thn_n ?_
      refine w_ret ?_
      refine (thn_r ?_)
      have hs := sp_no (m := m) (r := r) (who := who) (n := n) (fun ⟨a, b, c⟩ => by omega)
      exact ret_ok (G := [RF b (sList (m :: r) who n)]) (res1 rfl) ⟨by rw [hs.1], rfl⟩ (by rw [hs.2]; exact (fold' (.cons (by first | exact rr0 | exact rr1 | exact rr2 | exact rr3 | exact rr4 | exact rr5 | exact rr6 | exact rr7 | exact rr8 | exact rr9 | exact rr10 | exact rr11 | exact rr12 | exact rr13 | exact rr14) (.cons (by first | exact rr0 | exact rr1 | exact rr2 | exact rr3 | exact rr4 | exact rr5 | exact rr6 | exact rr7 | exact rr8 | exact rr9 | exact rr10 | exact rr11 | exact rr12 | exact rr13 | exact rr14) (.cons (by first | exact rr0 | exact rr1 | exact rr2 | exact rr3 | exact rr4 | exact rr5 | exact rr6 | exact rr7 | exact rr8 | exact rr9 | exact rr10 | exact rr11 | exact rr12 | exact rr13 | exact rr14) (.cons (by first | exact rr0 | exact rr1 | exact rr2 | exact rr3 | exact rr4 | exact rr5 | exact rr6 | exact rr7 | exact rr8 | exact rr9 | exact rr10 | exact rr11 | exact rr12 | exact rr13 | exact rr14) .nil)))) (by first | exact dd0 | exact dd1 | exact dd2 | exact dd3 | exact dd4 | exact dd5 | exact dd6 | exact dd7 | exact dd8 | exact dd9 | exact dd10 | exact dd11 | exact dd12 | exact dd13 | exact dd14) (fun w0 h hh => rf_close (rfl) (rfl) (rfl) (rfl) hh)))
    ·
      refine o_want rfl ?_
      refine o_val (v_move rfl) rfl ?_
      refine o_want rfl ?_
      refine o_val (v_move rfl) rfl ?_
      refine o_want rfl ?_
      refine o_val (v_nil rfl) rfl ?_
      refine o_want rfl ?_
      refine o_val (v_fieldAddr V.f46_2 rfl) rfl ?_
      refine o_want rfl ?_
      refine o_val (v_load V.s27 rfl (by first | exact mm0 | exact mm1 | exact mm2 | exact mm3 | exact mm4 | exact mm5 | exact mm6 | exact mm7 | exact mm8 | exact mm9 | exact mm10 | exact mm11 | exact mm12 | exact mm13 | exact mm14) rfl) rfl ?_
      refine o_want rfl ?_
      refine o_val (r_index (c := (I3)) V.sl27 rfl rfl (by first | exact own mm0 | exact own mm1 | exact own mm2 | exact own mm3 | exact own mm4 | exact own mm5 | exact own mm6 | exact own mm7 | exact own mm8 | exact own mm9 | exact own mm10 | exact own mm11) (by omega) (by omega)) rfl ?_
      refine o_want rfl ?_
      refine o_val (r_load (c := (I3)) V.s3 rfl (by first | exact own mm0 | exact own mm1 | exact own mm2 | exact own mm3 | exact own mm4 | exact own mm5 | exact own mm6 | exact own mm7 | exact own mm8 | exact own mm9 | exact own mm10 | exact own mm11) (by omega) (by omega) rfl rfl) rfl ?_
      refine o_want rfl ?_
      refine o_val (v_gtr rfl rfl) rfl ?_
      refine o_val (v_pickF rfl rfl) rfl ?_
      refine o_nil ?_
      refine thn_n ?_
      first | refine w_condD rfl (fun h36 => ?_) (fun h36 => ?_) | refine w_cond rfl (fun h36 => ?_) (fun h36 => ?_)
      ·
        refine w_seq ?_
        refine w_region ?_
        refine o_val (v_assign rfl) rfl ?_
        refine o_nil ?_
        refine thn_n ?_
        refine w_ret ?_
        refine (thn_r ?_)
        have hs := sp_no (m := m) (r := r) (who := who) (n := n) (fun ⟨a, b, c⟩ => by omega)
        exact ret_ok (G := [RF b (sList (m :: r) who n)]) (res1 rfl) ⟨by rw [hs.1], rfl⟩ (by rw [hs.2]; exact (fold' (.cons (by first | exact rr0 | exact rr1 | exact rr2 | exact rr3 | exact rr4 | exact rr5 | exact rr6 | exact rr7 | exact rr8 | exact rr9 | exact rr10 | exact rr11 | exact rr12 | exact rr13 | exact rr14) (.cons (by first | exact rr0 | exact rr1 | exact rr2 | exact rr3 | exact rr4 | exact rr5 | exact rr6 | exact rr7 | exact rr8 | exact rr9 | exact rr10 | exact rr11 | exact rr12 | exact rr13 | exact rr14) (.cons (by first | exact rr0 | exact rr1 | exact rr2 | exact rr3 | exact rr4 | exact rr5 | exact rr6 | exact rr7 | exact rr8 | exact rr9 | exact rr10 | exact rr11 | exact rr12 | exact rr13 | exact rr14) (.cons (by first | exact rr0 | exact rr1 | exact rr2 | exact rr3 | exact rr4 | exact rr5 | exact rr6 | exact rr7 | exact rr8 | exact rr9 | exact rr10 | exact rr11 | exact rr12 | exact rr13 | exact rr14) .nil)))) (by first | exact dd0 | exact dd1 | exact dd2 | exact dd3 | exact dd4 | exact dd5 | exact dd6 | exact dd7 | exact dd8 | exact dd9 | exact dd10 | exact dd11 | exact dd12 | exact dd13 | exact dd14) (fun w0 h hh => rf_close (rfl) (rfl) (rfl) (rfl) hh)))
      ·
        refine w_skip ?_
        refine thn_n ?_
        refine w_seq ?_
        refine w_net [⟨[], [], [0], 0, 0⟩, ⟨[0], [0], [], 0, 0⟩, ⟨[0, 1], [1], [], 0, 0⟩, ⟨[0, 1, 2], [2], [], 0, 0⟩, ⟨[], [], [0], 0, 0⟩, ⟨[4], [4], [], 0, 0⟩, ⟨[4, 5], [5], [], 0, 0⟩, ⟨[4, 5, 6], [6], [], 0, 0⟩, ⟨[4, 5, 6, 7], [7], [], 0, 0⟩, ⟨[4, 5, 6, 7, 8], [8], [], 0, 0⟩, ⟨[], [], [2], 0, 0⟩, ⟨[4, 5, 6, 7, 8, 9, 10], [9, 10], [], 0, 0⟩, ⟨[0, 1, 2, 3, 4, 5, 6, 7, 8, 9, 10, 11], [3], [], 0, 0⟩, ⟨[0, 1, 2, 3, 4, 5, 6, 7, 8, 9, 10, 11, 12], [12, 11], [], 0, 0⟩] [⟨fun y => Cel b 46 [.slice p1 (m :: r).length c1, .slice p2 (m :: r).length c2, .slice p3 (m :: r).length c3], none, none, [3, 7]⟩, ⟨fun y => Row I3 p1 (m :: r).length c1 ((m :: r).map Mb.who), none, none, []⟩, ⟨fun y => Row I3 p2 (m :: r).length c2 ((m :: r).map Mb.q), none, none, []⟩, ⟨fun y => Row I3 p3 (m :: r).length c3 ((m :: r).map Mb.c), none, some 13, [8, 9, 12]⟩, ⟨fun y => Row I3 p3 (m :: r).length c3 (((m :: r).map Mb.c).set (0 : Int).toNat (((I3).g ((m :: r).map Mb.c) 0) - n)), some 13, none, []⟩] F V.mixed (by kernel_rfl) rfl (fun _ => .refl _) (locT_0 _ (locT_0 _ (locT_0 _ (locT_0 _ (locT_1 [0, 1, 2, 3, 4, 5, 6, 7, 8, 9, 10, 11, 12] rfl (by intro y y2 h; rfl) locT_nil))))) ?_
        refine net_pure (fun y => [(0, _)]) (fun y => rfl) rfl rfl rfl (fun y hA L => st_v (v_move rfl) ⟨rfl, rfl⟩) (by intros; rfl) (by intro y y2 h; rfl) ?_
        refine net_pure (fun y => [(37, _)]) (fun y => rfl) rfl rfl rfl (fun y hA L => st_v (v_nil rfl) ⟨rfl, rfl⟩) (by intros; rfl) (by intro y y2 h; rfl) ?_
        refine net_pure (fun y => [(38, _)]) (fun y => rfl) rfl rfl rfl (fun y hA L => st_v (v_fieldAddr V.f46_2 rfl) ⟨rfl, rfl⟩) (by intros; rfl) (by intro y y2 h; rfl) ?_
        refine net_read (fun y => [Cel b 46 [.slice p1 (m :: r).length c1, .slice p2 (m :: r).length c2, .slice p3 (m :: r).length c3]]) (fun y => [(39, _)]) (fun y => rfl) rfl (fun y => rfl) rfl (fun y FF hA => st_v (v_load V.s27 rfl (by first | exact mm0 | exact mm1 | exact mm2 | exact mm3 | exact mm4 | exact mm5 | exact mm6 | exact mm7 | exact mm8 | exact mm9 | exact mm10 | exact mm11 | exact mm12 | exact mm13 | exact mm14) rfl) ⟨rfl, rfl⟩) (by intros; rfl) (by intro y y2 h; rfl) ?_
        refine net_pure (fun y => [(0, _)]) (fun y => rfl) rfl rfl rfl (fun y hA L => st_v (v_move rfl) ⟨rfl, rfl⟩) (by intros; rfl) (by intro y y2 h; rfl) ?_
        refine net_pure (fun y => [(41, _)]) (fun y => rfl) rfl rfl rfl (fun y hA L => st_v (v_nil rfl) ⟨rfl, rfl⟩) (by intros; rfl) (by intro y y2 h; rfl) ?_
        refine net_pure (fun y => [(42, _)]) (fun y => rfl) rfl rfl rfl (fun y hA L => st_v (v_fieldAddr V.f46_2 rfl) ⟨rfl, rfl⟩) (by intros; rfl) (by intro y y2 h; rfl) ?_
        refine net_read (fun y => [Cel b 46 [.slice p1 (m :: r).length c1, .slice p2 (m :: r).length c2, .slice p3 (m :: r).length c3]]) (fun y => [(43, _)]) (fun y => rfl) rfl (fun y => rfl) rfl (fun y FF hA => st_v (v_load V.s27 rfl (by first | exact mm0 | exact mm1 | exact mm2 | exact mm3 | exact mm4 | exact mm5 | exact mm6 | exact mm7 | exact mm8 | exact mm9 | exact mm10 | exact mm11 | exact mm12 | exact mm13 | exact mm14) rfl) ⟨rfl, rfl⟩) (by intros; rfl) (by intro y y2 h; rfl) ?_
        refine net_read (fun y => [Row I3 p3 (m :: r).length c3 ((m :: r).map Mb.c)]) (fun y => [(44, _)]) (fun y => rfl) rfl (fun y => rfl) rfl (fun y FF hA => st_v (r_index (c := (I3)) V.sl27 rfl rfl (by first | exact own mm0 | exact own mm1 | exact own mm2 | exact own mm3 | exact own mm4 | exact own mm5 | exact own mm6 | exact own mm7 | exact own mm8 | exact own mm9 | exact own mm10 | exact own mm11) (by omega) (by omega)) ⟨rfl, rfl⟩) (by intros; rfl) (by intro y y2 h; rfl) ?_
        refine net_read (fun y => [Row I3 p3 (m :: r).length c3 ((m :: r).map Mb.c)]) (fun y => [(45, _)]) (fun y => rfl) rfl (fun y => rfl) rfl (fun y FF hA => st_v (r_load (c := (I3)) V.s3 rfl (by first | exact own mm0 | exact own mm1 | exact own mm2 | exact own mm3 | exact own mm4 | exact own mm5 | exact own mm6 | exact own mm7 | exact own mm8 | exact own mm9 | exact own mm10 | exact own mm11) (by omega) (by omega) rfl rfl) ⟨rfl, rfl⟩) (by intros; rfl) (by intro y y2 h; rfl) ?_
        refine net_pure (fun y => [(2, _)]) (fun y => rfl) rfl rfl rfl (fun y hA L => st_v (v_move rfl) ⟨rfl, rfl⟩) (by intros; rfl) (by intro y y2 h; rfl) ?_
        refine net_pure (fun y => [(46, _), (47, _)]) (fun y => rfl) rfl rfl rfl (fun y hA L => st_v (v_sub rfl rfl (wrapI (by omega) (by omega))) ⟨rfl, rfl⟩) (by intros; rfl) (by intro y y2 h; rfl) ?_
        refine net_read (fun y => [Row I3 p3 (m :: r).length c3 ((m :: r).map Mb.c)]) (fun y => [(40, _)]) (fun y => rfl) rfl (fun y => rfl) rfl (fun y FF hA => st_v (r_index (c := (I3)) V.sl27 rfl rfl (by first | exact own mm0 | exact own mm1 | exact own mm2 | exact own mm3 | exact own mm4 | exact own mm5 | exact own mm6 | exact own mm7 | exact own mm8 | exact own mm9 | exact own mm10 | exact own mm11) (by omega) (by omega)) ⟨rfl, rfl⟩) (by intros; rfl) (by intro y y2 h; rfl) ?_
        refine net_eff (fun y => [Row I3 p3 (m :: r).length c3 ((m :: r).map Mb.c)]) (fun y => []) (fun y => [Row I3 p3 (m :: r).length c3 (((m :: r).map Mb.c).set (0 : Int).toNat (((I3).g ((m :: r).map Mb.c) 0) - n))]) (fun y => [(49, _), (48, _)]) (fun y => rfl) (fun y => rfl) (fun y => rfl) (fun y => rfl) (fun y FF hA => st_v (r_store (c := (I3)) (_) V.s3 rfl rfl rfl (by first | exact pp0 | exact pp1 | exact pp2 | exact pp3 | exact pp4 | exact pp5 | exact pp6 | exact pp7 | exact pp8 | exact pp9 | exact pp10 | exact pp11 | exact pp12 | exact pp13 | exact pp14) (by omega) (by omega) rfl rfl) ⟨rfl, .refl _⟩) (by intros; rfl) (by intros; rfl) (by intro y y2 h; rfl) ?_
        refine net_nil ?_
        intro y hA
        clear hA
        refine thn_n ?_
        refine w_keep _ (.cons (d := 0) rfl (.nil _)) ?_
        refine w_sub (M := Cel b 46 [.slice p1 (m :: r).length c1, .slice p2 (m :: r).length c2, .slice p3 (m :: r).length c3] :: Row I3 p1 (m :: r).length c1 ((m :: r).map Mb.who) :: Row I3 p2 (m :: r).length c2 ((m :: r).map Mb.q) :: Row I3 p3 (m :: r).length c3 (((m :: r).map Mb.c).set (0 : Int).toNat (((I3).g ((m :: r).map Mb.c) 0) - n)) :: F) (fun _ _ h => h) ?_
        refine w_seq ?_
        refine w_seq ?_
        rw [hgc]
        have hg2 := g_set_head m r Mb.c (m.c - n)
        refine w_region ?_
        refine o_val (v_move rfl) rfl ?_
        refine o_val (v_nil rfl) rfl ?_
        refine o_val (v_fieldAddr V.f46_2 rfl) rfl ?_
        refine o_val (v_load V.s27 rfl (by first | exact mm0 | exact mm1 | exact mm2 | exact mm3 | exact mm4 | exact mm5 | exact mm6 | exact mm7 | exact mm8 | exact mm9 | exact mm10 | exact mm11 | exact mm12 | exact mm13 | exact mm14) rfl) rfl ?_
        refine o_val (r_index (c := (I3)) V.sl27 rfl rfl (by first | exact own mm0 | exact own mm1 | exact own mm2 | exact own mm3 | exact own mm4 | exact own mm5 | exact own mm6 | exact own mm7 | exact own mm8 | exact own mm9 | exact own mm10 | exact own mm11) (by omega) (by omega)) rfl ?_
        refine o_val (r_load (c := (I3)) V.s3 rfl (by first | exact own mm0 | exact own mm1 | exact own mm2 | exact own mm3 | exact own mm4 | exact own mm5 | exact own mm6 | exact own mm7 | exact own mm8 | exact own mm9 | exact own mm10 | exact own mm11) (by omega) (by omega) rfl rfl) rfl ?_
        refine o_val (v_eql rfl rfl) rfl ?_
        refine o_nil ?_
        refine thn_n ?_
        first | refine w_condD rfl (fun h56 => ?_) (fun h56 => ?_) | refine w_cond rfl (fun h56 => ?_) (fun h56 => ?_)
        ·
          refine w_sub (fold' (.cons (by first | exact rr0 | exact rr1 | exact rr2 | exact rr3 | exact rr4 | exact rr5 | exact rr6 | exact rr7 | exact rr8 | exact rr9 | exact rr10 | exact rr11 | exact rr12 | exact rr13 | exact rr14) (.cons (by first | exact rr0 | exact rr1 | exact rr2 | exact rr3 | exact rr4 | exact rr5 | exact rr6 | exact rr7 | exact rr8 | exact rr9 | exact rr10 | exact rr11 | exact rr12 | exact rr13 | exact rr14) (.cons (by first | exact rr0 | exact rr1 | exact rr2 | exact rr3 | exact rr4 | exact rr5 | exact rr6 | exact rr7 | exact rr8 | exact rr9 | exact rr10 | exact rr11 | exact rr12 | exact rr13 | exact rr14) (.cons (by first | exact rr0 | exact rr1 | exact rr2 | exact rr3 | exact rr4 | exact rr5 | exact rr6 | exact rr7 | exact rr8 | exact rr9 | exact rr10 | exact rr11 | exact rr12 | exact rr13 | exact rr14) .nil)))) dd0 (fun w0 h hh => rf_close (l := sList.spentM m n :: r) rfl rfl rfl rfl hh)) ?_
          refine w_region ?_
          refine o_val (v_move rfl) rfl ?_
          refine o_call (r_turn b (sList.spentM m n) r (by omega)) V.b33  rfl (.cons (by first | exact rr0 | exact rr1 | exact rr2 | exact rr3 | exact rr4 | exact rr5 | exact rr6 | exact rr7 | exact rr8 | exact rr9 | exact rr10 | exact rr11 | exact rr12 | exact rr13 | exact rr14) .nil) rfl ?_
          rintro _ _ ⟨rfl, rfl⟩
          refine o_nil ?_
          refine thn_n ?_
          refine w_seq ?_
          refine w_region ?_
          refine o_val (v_assign rfl) rfl ?_
          refine o_nil ?_
          refine thn_n ?_
          refine w_ret ?_
          first
          | (have hs := sp_some (m := m) (r := r) (who := who) (n := n) (by omega) (by omega) (by omega); exact ret_ok (G := [RF b (sList (m :: r) who n)]) (res1 rfl) ⟨by rw [hs.1], rfl⟩ (by rw [hs.2]; exact (fold' (.cons (by first | exact rr0 | exact rr1 | exact rr2 | exact rr3 | exact rr4 | exact rr5 | exact rr6 | exact rr7 | exact rr8 | exact rr9 | exact rr10 | exact rr11 | exact rr12 | exact rr13 | exact rr14) (.cons (by first | exact rr0 | exact rr1 | exact rr2 | exact rr3 | exact rr4 | exact rr5 | exact rr6 | exact rr7 | exact rr8 | exact rr9 | exact rr10 | exact rr11 | exact rr12 | exact rr13 | exact rr14) (.cons (by first | exact rr0 | exact rr1 | exact rr2 | exact rr3 | exact rr4 | exact rr5 | exact rr6 | exact rr7 | exact rr8 | exact rr9 | exact rr10 | exact rr11 | exact rr12 | exact rr13 | exact rr14) (.cons (by first | exact rr0 | exact rr1 | exact rr2 | exact rr3 | exact rr4 | exact rr5 | exact rr6 | exact rr7 | exact rr8 | exact rr9 | exact rr10 | exact rr11 | exact rr12 | exact rr13 | exact rr14) .nil)))) (by first | exact dd0 | exact dd1 | exact dd2 | exact dd3 | exact dd4 | exact dd5 | exact dd6 | exact dd7 | exact dd8 | exact dd9 | exact dd10 | exact dd11 | exact dd12 | exact dd13 | exact dd14) (fun w0 h hh => rf_close (rfl) (rfl) (rfl) (rfl) hh))))
          | (have hs := sp_all (m := m) (r := r) (who := who) (n := n) (by omega) (by omega) (by omega); exact ret_ok (G := [RF b (sList (m :: r) who n)]) (res1 rfl) ⟨by rw [hs.1], rfl⟩ (by rw [hs.2]; exact (sub (.cons (by first | exact rr0 | exact rr1 | exact rr2 | exact rr3 | exact rr4 | exact rr5 | exact rr6 | exact rr7 | exact rr8 | exact rr9 | exact rr10 | exact rr11 | exact rr12 | exact rr13 | exact rr14) .nil) (by first | exact dd0 | exact dd1 | exact dd2 | exact dd3 | exact dd4 | exact dd5 | exact dd6 | exact dd7 | exact dd8 | exact dd9 | exact dd10 | exact dd11 | exact dd12 | exact dd13 | exact dd14))))
        ·
          refine w_skip ?_
          refine thn_n ?_
          refine w_seq ?_
          refine w_region ?_
          refine o_val (v_assign rfl) rfl ?_
          refine o_nil ?_
          refine thn_n ?_
          refine w_ret ?_
          first
          | (have hs := sp_some (m := m) (r := r) (who := who) (n := n) (by omega) (by omega) (by omega); exact ret_ok (G := [RF b (sList (m :: r) who n)]) (res1 rfl) ⟨by rw [hs.1], rfl⟩ (by rw [hs.2]; exact (fold' (.cons (by first | exact rr0 | exact rr1 | exact rr2 | exact rr3 | exact rr4 | exact rr5 | exact rr6 | exact rr7 | exact rr8 | exact rr9 | exact rr10 | exact rr11 | exact rr12 | exact rr13 | exact rr14) (.cons (by first | exact rr0 | exact rr1 | exact rr2 | exact rr3 | exact rr4 | exact rr5 | exact rr6 | exact rr7 | exact rr8 | exact rr9 | exact rr10 | exact rr11 | exact rr12 | exact rr13 | exact rr14) (.cons (by first | exact rr0 | exact rr1 | exact rr2 | exact rr3 | exact rr4 | exact rr5 | exact rr6 | exact rr7 | exact rr8 | exact rr9 | exact rr10 | exact rr11 | exact rr12 | exact rr13 | exact rr14) (.cons (by first | exact rr0 | exact rr1 | exact rr2 | exact rr3 | exact rr4 | exact rr5 | exact rr6 | exact rr7 | exact rr8 | exact rr9 | exact rr10 | exact rr11 | exact rr12 | exact rr13 | exact rr14) .nil)))) (by first | exact dd0 | exact dd1 | exact dd2 | exact dd3 | exact dd4 | exact dd5 | exact dd6 | exact dd7 | exact dd8 | exact dd9 | exact dd10 | exact dd11 | exact dd12 | exact dd13 | exact dd14) (fun w0 h hh => rf_close (rfl) (rfl) (rfl) (rfl) hh))))
          | (have hs := sp_all (m := m) (r := r) (who := who) (n := n) (by omega) (by omega) (by omega); exact ret_ok (G := [RF b (sList (m :: r) who n)]) (res1 rfl) ⟨by rw [hs.1], rfl⟩ (by rw [hs.2]; exact (sub (.cons (by first | exact rr0 | exact rr1 | exact rr2 | exact rr3 | exact rr4 | exact rr5 | exact rr6 | exact rr7 | exact rr8 | exact rr9 | exact rr10 | exact rr11 | exact rr12 | exact rr13 | exact rr14) .nil) (by first | exact dd0 | exact dd1 | exact dd2 | exact dd3 | exact dd4 | exact dd5 | exact dd6 | exact dd7 | exact dd8 | exact dd9 | exact dd10 | exact dd11 | exact dd12 | exact dd13 | exact dd14))))

theorem r_spend (b : Nat) (who n : Int) (l : List Mb) (hl : l.length ≤ 999) (hm : ∀ m ∈ l, 0 ≤ m.c ∧ m.c ≤ 100000) : Ctr Try.prog 22 [.pointer (some ⟨b, 0, none⟩), .int .i64 who, .int .i64 n] [RF b l] (Ret fun v G => v = .bool (sOk l who n) ∧ G = [RF b (sList l who n)]) := by
  cases l with
  | nil => exact r_spend_nil b who n
  | cons m r => exact r_spend_cons b who n m r (by simp at hl; omega) (hm m (by simp))


set_option maxRecDepth 100000 in
theorem ints_same (l : List Int) (p q : Option Addr) (c d : Nat) (A B : HProp) (hPA : ∀ w0 h, A w0 h → RdR I3 p l.length l w0 h) (hPB : ∀ w0 h, B w0 h → RdR I3 q l.length l w0 h) (hl : l.length ≤ 1000) : Ctr Try.prog 24 [.slice p l.length c, .slice q l.length d] [A, B] (Ret fun v G => v = .bool true ∧ G = [A, B]) := by
  refine spec_of [(0, _), (1, _)] Try.func24 rfl Try.ntmps24 rfl rfl ?_
  intro w0 F
  refine w_seq ?_
  refine w_region ?_
  refine o_val (v_assign rfl) rfl ?_
  refine o_nil ?_
  refine thn_n ?_
  refine w_seq ?_
  refine w_seq ?_
  refine w_region ?_
  refine o_val (v_move rfl) rfl ?_
  refine o_val (v_len (ty' := 0) Try.underlying27 rfl) rfl ?_
  refine o_val (v_move rfl) rfl ?_
  refine o_val (v_len (ty' := 0) Try.underlying27 rfl) rfl ?_
  refine o_val (v_F (v_neq rfl rfl) (fun h => h rfl)) rfl ?_
  refine o_nil ?_
  refine thn_n ?_
  refine w_condF rfl ?_
  refine w_skip ?_
  refine thn_n ?_
  refine w_seq ?_
  refine w_seq ?_
  refine w_region ?_
  refine o_val (v_assign rfl) rfl ?_
  refine o_nil ?_
  refine thn_n ?_
  refine w_block ?_
  refine w_loop1 (fun (k : Nat) => [(0, .slice p l.length c), (1, .slice q l.length d), (5, .int .i64 (k : Int))]) (fun (k : Nat) => A :: B :: F) (fun (k : Nat) => k ≤ l.length) (fun (k : Nat) => l.length - k) (i1 (0) ?_ (.cons rfl (.cons rfl (.cons rfl (.nil _)))) (sub (.cons (by first | exact rr0 | exact rr1 | exact rr2 | exact rr3 | exact rr4 | exact rr5 | exact rr6 | exact rr7 | exact rr8 | exact rr9 | exact rr10 | exact rr11 | exact rr12 | exact rr13 | exact rr14) (.cons (by first | exact rr0 | exact rr1 | exact rr2 | exact rr3 | exact rr4 | exact rr5 | exact rr6 | exact rr7 | exact rr8 | exact rr9 | exact rr10 | exact rr11 | exact rr12 | exact rr13 | exact rr14) .nil)) (by first | exact dd0 | exact dd1 | exact dd2 | exact dd3 | exact dd4 | exact dd5 | exact dd6 | exact dd7 | exact dd8 | exact dd9 | exact dd10 | exact dd11 | exact dd12 | exact dd13 | exact dd14))) ?_
  ·
    exact Nat.zero_le _
  intro k
  rintro hk
  refine w_seq ?_
  refine w_seq ?_
  refine w_region ?_
  refine o_val (v_move rfl) rfl ?_
  refine o_val (v_move rfl) rfl ?_
  refine o_val (v_len (ty' := 0) Try.underlying27 rfl) rfl ?_
  refine o_val (v_lss rfl rfl) rfl ?_
  refine o_nil ?_
  refine thn_n ?_
  first | refine w_condD rfl (fun h14 => ?_) (fun h14 => ?_) | refine w_cond rfl (fun h14 => ?_) (fun h14 => ?_)
  ·
    refine w_skip ?_
    refine thn_n ?_
    refine w_seq ?_
    refine w_block ?_
    refine w_seq ?_
    refine w_net [⟨[], [], [0], 0, 0⟩, ⟨[], [], [5], 0, 0⟩, ⟨[0, 1], [0, 1], [], 0, 0⟩, ⟨[0, 1, 2], [2], [], 0, 0⟩, ⟨[], [], [1], 0, 0⟩, ⟨[], [], [5], 0, 0⟩, ⟨[4, 5], [4, 5], [], 0, 0⟩, ⟨[4, 5, 6], [6], [], 0, 0⟩, ⟨[0, 1, 2, 3, 4, 5, 6, 7], [3, 7], [], 0, 0⟩] [⟨fun y => A, none, none, [2, 3]⟩, ⟨fun y => B, none, none, [6, 7]⟩] F V.mixed (by kernel_rfl) rfl (fun _ => .refl _) (locT_0 _ (locT_0 _ locT_nil)) ?_
    refine net_pure (fun y => [(0, _)]) (fun y => rfl) rfl rfl rfl (fun y hA L => st_v (v_move rfl) ⟨rfl, rfl⟩) (by intros; rfl) (by intro y y2 h; rfl) ?_
    refine net_pure (fun y => [(5, _)]) (fun y => rfl) rfl rfl rfl (fun y hA L => st_v (v_move rfl) ⟨rfl, rfl⟩) (by intros; rfl) (by intro y y2 h; rfl) ?_
    refine net_read (fun y => [A]) (fun y => [(17, _), (18, _)]) (fun y => rfl) rfl (fun y => rfl) rfl (fun y FF hA => st_v (r_index (c := (I3)) V.sl27 rfl rfl (by first | exact own mm0 | exact own mm1 | exact own mm2 | exact own mm3 | exact own mm4 | exact own mm5 | exact own mm6 | exact own mm7 | exact own mm8 | exact own mm9 | exact own mm10 | exact own mm11 | exact rdH hPA mm0 | exact rdH hPA mm1 | exact rdH hPA mm2 | exact rdH hPA mm3 | exact rdH hPA mm4 | exact rdH hPA mm5 | exact rdH hPA mm6 | exact rdH hPA mm7 | exact rdH hPA mm8 | exact rdH hPA mm9 | exact rdH hPA mm10 | exact rdH hPA mm11 | exact rdH hPB mm0 | exact rdH hPB mm1 | exact rdH hPB mm2 | exact rdH hPB mm3 | exact rdH hPB mm4 | exact rdH hPB mm5 | exact rdH hPB mm6 | exact rdH hPB mm7 | exact rdH hPB mm8 | exact rdH hPB mm9 | exact rdH hPB mm10 | exact rdH hPB mm11) (by omega) (by omega)) ⟨rfl, rfl⟩) (by intros; rfl) (by intro y y2 h; rfl) ?_
    refine net_read (fun y => [A]) (fun y => [(19, _)]) (fun y => rfl) rfl (fun y => rfl) rfl (fun y FF hA => st_v (r_load (c := (I3)) V.s3 rfl (by first | exact own mm0 | exact own mm1 | exact own mm2 | exact own mm3 | exact own mm4 | exact own mm5 | exact own mm6 | exact own mm7 | exact own mm8 | exact own mm9 | exact own mm10 | exact own mm11 | exact rdH hPA mm0 | exact rdH hPA mm1 | exact rdH hPA mm2 | exact rdH hPA mm3 | exact rdH hPA mm4 | exact rdH hPA mm5 | exact rdH hPA mm6 | exact rdH hPA mm7 | exact rdH hPA mm8 | exact rdH hPA mm9 | exact rdH hPA mm10 | exact rdH hPA mm11 | exact rdH hPB mm0 | exact rdH hPB mm1 | exact rdH hPB mm2 | exact rdH hPB mm3 | exact rdH hPB mm4 | exact rdH hPB mm5 | exact rdH hPB mm6 | exact rdH hPB mm7 | exact rdH hPB mm8 | exact rdH hPB mm9 | exact rdH hPB mm10 | exact rdH hPB mm11) (by omega) (by omega) rfl rfl) ⟨rfl, rfl⟩) (by intros; rfl) (by intro y y2 h; rfl) ?_
    refine net_pure (fun y => [(1, _)]) (fun y => rfl) rfl rfl rfl (fun y hA L => st_v (v_move rfl) ⟨rfl, rfl⟩) (by intros; rfl) (by intro y y2 h; rfl) ?_
    refine net_pure (fun y => [(5, _)]) (fun y => rfl) rfl rfl rfl (fun y hA L => st_v (v_move rfl) ⟨rfl, rfl⟩) (by intros; rfl) (by intro y y2 h; rfl) ?_
    refine net_read (fun y => [B]) (fun y => [(21, _), (22, _)]) (fun y => rfl) rfl (fun y => rfl) rfl (fun y FF hA => st_v (r_index (c := (I3)) V.sl27 rfl rfl (by first | exact own mm0 | exact own mm1 | exact own mm2 | exact own mm3 | exact own mm4 | exact own mm5 | exact own mm6 | exact own mm7 | exact own mm8 | exact own mm9 | exact own mm10 | exact own mm11 | exact rdH hPA mm0 | exact rdH hPA mm1 | exact rdH hPA mm2 | exact rdH hPA mm3 | exact rdH hPA mm4 | exact rdH hPA mm5 | exact rdH hPA mm6 | exact rdH hPA mm7 | exact rdH hPA mm8 | exact rdH hPA mm9 | exact rdH hPA mm10 | exact rdH hPA mm11 | exact rdH hPB mm0 | exact rdH hPB mm1 | exact rdH hPB mm2 | exact rdH hPB mm3 | exact rdH hPB mm4 | exact rdH hPB mm5 | exact rdH hPB mm6 | exact rdH hPB mm7 | exact rdH hPB mm8 | exact rdH hPB mm9 | exact rdH hPB mm10 | exact rdH hPB mm11) (by omega) (by omega)) ⟨rfl, rfl⟩) (by intros; rfl) (by intro y y2 h; rfl) ?_
    refine net_read (fun y => [B]) (fun y => [(23, _)]) (fun y => rfl) rfl (fun y => rfl) rfl (fun y FF hA => st_v (r_load (c := (I3)) V.s3 rfl (by first | exact own mm0 | exact own mm1 | exact own mm2 | exact own mm3 | exact own mm4 | exact own mm5 | exact own mm6 | exact own mm7 | exact own mm8 | exact own mm9 | exact own mm10 | exact own mm11 | exact rdH hPA mm0 | exact rdH hPA mm1 | exact rdH hPA mm2 | exact rdH hPA mm3 | exact rdH hPA mm4 | exact rdH hPA mm5 | exact rdH hPA mm6 | exact rdH hPA mm7 | exact rdH hPA mm8 | exact rdH hPA mm9 | exact rdH hPA mm10 | exact rdH hPA mm11 | exact rdH hPB mm0 | exact rdH hPB mm1 | exact rdH hPB mm2 | exact rdH hPB mm3 | exact rdH hPB mm4 | exact rdH hPB mm5 | exact rdH hPB mm6 | exact rdH hPB mm7 | exact rdH hPB mm8 | exact rdH hPB mm9 | exact rdH hPB mm10 | exact rdH hPB mm11) (by omega) (by omega) rfl rfl) ⟨rfl, rfl⟩) (by intros; rfl) (by intro y y2 h; rfl) ?_
    refine net_pure (fun y => [(20, _), (24, _)]) (fun y => rfl) rfl rfl rfl (fun y hA L => st_v (v_F (v_neq rfl rfl) (fun h => h rfl)) ⟨rfl, rfl⟩) (by intros; rfl) (by intro y y2 h; rfl) ?_
    refine net_nil ?_
    intro y hA
    clear hA
    refine thn_n ?_
    refine w_keep _ (.cons (d := 0) rfl (.cons (d := 1) rfl (.cons (d := 5) rfl (.cons (d := 25) rfl (.nil _))))) ?_
    refine w_sub (M := A :: B :: F) (fun _ _ h => h) ?_
    refine w_condF rfl ?_
    refine w_skip ?_
    refine blk_n ?_
    refine thn_n ?_
    refine w_region ?_
    refine o_val (v_move rfl) rfl ?_
    refine o_val (v_add rfl rfl (wrapI (by omega) (by omega))) rfl ?_
    refine o_val (v_assign rfl) rfl ?_
    refine o_nil ?_
    refine j1 (k + 1) ?_ (.cons rfl (.cons rfl (.cons rfl (.nil _)))) (sub (.cons (by first | exact rr0 | exact rr1 | exact rr2 | exact rr3 | exact rr4 | exact rr5 | exact rr6 | exact rr7 | exact rr8 | exact rr9 | exact rr10 | exact rr11 | exact rr12 | exact rr13 | exact rr14) (.cons (by first | exact rr0 | exact rr1 | exact rr2 | exact rr3 | exact rr4 | exact rr5 | exact rr6 | exact rr7 | exact rr8 | exact rr9 | exact rr10 | exact rr11 | exact rr12 | exact rr13 | exact rr14) .nil)) (by first | exact dd0 | exact dd1 | exact dd2 | exact dd3 | exact dd4 | exact dd5 | exact dd6 | exact dd7 | exact dd8 | exact dd9 | exact dd10 | exact dd11 | exact dd12 | exact dd13 | exact dd14))
    exact ⟨by omega, by omega⟩
  ·
    refine w_exit ?_
    refine thn_e ?_
    refine thn_e ?_
    refine blk_x ?_
    refine thn_n ?_
    refine w_seq ?_
    refine w_region ?_
    refine o_val (v_assign rfl) rfl ?_
    refine o_nil ?_
    refine thn_n ?_
    refine w_ret ?_
    exact ret_ok (G := [_, _]) (res1 rfl) ⟨rfl, rfl⟩ (sub (.cons (by first | exact rr0 | exact rr1 | exact rr2 | exact rr3 | exact rr4 | exact rr5 | exact rr6 | exact rr7 | exact rr8 | exact rr9 | exact rr10 | exact rr11 | exact rr12 | exact rr13 | exact rr14) (.cons (by first | exact rr0 | exact rr1 | exact rr2 | exact rr3 | exact rr4 | exact rr5 | exact rr6 | exact rr7 | exact rr8 | exact rr9 | exact rr10 | exact rr11 | exact rr12 | exact rr13 | exact rr14) .nil)) (by first | exact dd0 | exact dd1 | exact dd2 | exact dd3 | exact dd4 | exact dd5 | exact dd6 | exact dd7 | exact dd8 | exact dd9 | exact dd10 | exact dd11 | exact dd12 | exact dd13 | exact dd14))
end Go.Proofs.Ytpkemaglokbfiaa
