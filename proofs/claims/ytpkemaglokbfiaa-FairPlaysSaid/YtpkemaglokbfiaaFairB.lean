/- Steps of the proof: the walks of the functions that the statement reaches; printed by a program of ours. -/
import Derived.Test.YtpkemaglokbfiaaProg
import Derived.KernelRfl
import Derived.Test.YtpkemaglokbfiaaFairA
namespace Go.Proofs.Ytpkemaglokbfiaa
open Go.Sl Go.FairP
set_option linter.unusedVariables false
set_option linter.unusedSimpArgs false
theorem T.b26 : bodyB Try.prog 26 = true := by kernel_rfl
theorem T.pl55 : placesB Try.prog 55 = some [(0, 1)] := by kernel_rfl
theorem T.s26 : scalarB Try.prog 26 = true := by kernel_rfl
theorem T.s4 : scalarB Try.prog 4 = true := by kernel_rfl
theorem T.sl26 : sliceB Try.prog 26 = some (4, 1, 1) := by kernel_rfl
theorem T.z55 : zeroB Try.prog 55 = some ([.slice none 0 0]) := by kernel_rfl

set_option maxRecDepth 100000 in
theorem new  : Ctr Try.prog 10 [] [] (Ret fun v G => ∃ b, v = .pointer (some ⟨b, 0, none⟩) ∧ G = [IsFair b []]) := by
  refine spec_of [] Try.func10 rfl Try.ntmps10 rfl rfl ?_
  intro w0 F
  refine w_add0 (Sl none 0 0 57 3 []) (Sl.nil 57 3 _ _) ?_
  refine w_seq ?_
  refine w_region ?_
  refine o_val (v_assign rfl) rfl ?_
  refine o_nil ?_
  refine thn_n ?_
  refine w_seq ?_
  refine w_region ?_
  refine o_val (v_build T.pl55 T.z55 rfl (cs := [_]) rfl) rfl ?_
  refine o_box rfl (cs := [_]) rfl rfl ?_
  intro b2
  refine o_val (v_assign rfl) rfl ?_
  refine o_nil ?_
  refine thn_n ?_
  refine w_ret ?_
  exact ret_ok (G := [IsFair b2 []]) (res1 rfl) ⟨b2, rfl, rfl⟩ (fold' (.cons (by first | exact rr0 | exact rr1 | exact rr2 | exact rr3 | exact rr4 | exact rr5 | exact rr6 | exact rr7) (.cons (by first | exact rr0 | exact rr1 | exact rr2 | exact rr3 | exact rr4 | exact rr5 | exact rr6 | exact rr7) .nil)) (by first | exact dd0 | exact dd1 | exact dd2 | exact dd3 | exact dd4 | exact dd5 | exact dd6 | exact dd7 | exact dd8) (fun w0 h hh => fair_close' rfl rfl hh))

set_option maxRecDepth 100000 in
theorem containsFunc (l : List Mb) (p : Option Addr) (cap : Nat) (cf : Nat) (fs cs : List Value) (S R : HProp) (pr : Mb → Bool) (hb : bodyB Try.prog cf = true) (hf : ∀ m ∈ l, Ctr Try.prog cf (fs ++ [.agg (enc m).toArray] ++ cs) [S] (Ret fun v G => v = .bool (pr m) ∧ G = [S])) (hR : ∀ w0 h, R w0 h → Rd p l.length 3 (l.flatMap enc) w0 h) (hl : l.length ≤ 100000) : Ctr Try.prog 27 [.slice p l.length cap, .func (.func cf) fs.toArray cs.toArray] [R, S] (Ret fun v G => v = .bool (decide (0 ≤ idx l pr)) ∧ G = [R, S]) := by
  refine spec_of [(0, _), (1, _)] Try.func27 rfl Try.ntmps27 rfl rfl ?_
  intro w0 F
  refine w_seq ?_
  refine w_region ?_
  refine o_val (v_assign rfl) rfl ?_
  refine o_nil ?_
  refine thn_n ?_
  refine w_seq ?_
  refine w_region ?_
  refine o_val (v_move rfl) rfl ?_
  refine o_val (v_move rfl) rfl ?_
  refine o_call (indexFunc l p cap cf fs cs S R pr hb hf hR hl) T.b34  rfl (.cons (by first | exact rr0 | exact rr1 | exact rr2 | exact rr3 | exact rr4 | exact rr5 | exact rr6 | exact rr7) (.cons (by first | exact rr0 | exact rr1 | exact rr2 | exact rr3 | exact rr4 | exact rr5 | exact rr6 | exact rr7) .nil)) rfl ?_
  rintro _ _ ⟨rfl, rfl⟩
  refine o_val (v_geq rfl rfl) rfl ?_
  refine o_val (v_assign rfl) rfl ?_
  refine o_nil ?_
  refine thn_n ?_
  refine w_ret ?_
  exact ret_ok (G := [_, _]) (res1 rfl) ⟨rfl, rfl⟩ (sub (.cons (by first | exact rr0 | exact rr1 | exact rr2 | exact rr3 | exact rr4 | exact rr5 | exact rr6 | exact rr7) (.cons (by first | exact rr0 | exact rr1 | exact rr2 | exact rr3 | exact rr4 | exact rr5 | exact rr6 | exact rr7) .nil)) (by first | exact dd0 | exact dd1 | exact dd2 | exact dd3 | exact dd4 | exact dd5 | exact dd6 | exact dd7 | exact dd8))


theorem contains_no (l : List Mb) (p : Option Addr) (cap : Nat) (cf : Nat) (fs cs : List Value) (S R : HProp) (pr : Mb → Bool) (hb : bodyB Try.prog cf = true) (hf : ∀ m ∈ l, Ctr Try.prog cf (fs ++ [.agg (enc m).toArray] ++ cs) [S] (Ret fun v G => v = .bool (pr m) ∧ G = [S])) (hR : ∀ w0 h, R w0 h → Rd p l.length 3 (l.flatMap enc) w0 h) (hl : l.length ≤ 100000) (hn : l.findIdx? pr = none) : Ctr Try.prog 27 [.slice p l.length cap, .func (.func cf) fs.toArray cs.toArray] [R, S] (Ret fun v G => v = .bool false ∧ G = [R, S]) := by
  have h := containsFunc l p cap cf fs cs S R pr hb hf hR hl
  rw [idx_none hn] at h
  exact h
theorem contains_yes (l : List Mb) (p : Option Addr) (cap : Nat) (cf : Nat) (fs cs : List Value) (S R : HProp) (pr : Mb → Bool) (hb : bodyB Try.prog cf = true) (hf : ∀ m ∈ l, Ctr Try.prog cf (fs ++ [.agg (enc m).toArray] ++ cs) [S] (Ret fun v G => v = .bool (pr m) ∧ G = [S])) (hR : ∀ w0 h, R w0 h → Rd p l.length 3 (l.flatMap enc) w0 h) (hl : l.length ≤ 100000) (i : Nat) (hn : l.findIdx? pr = some i) : Ctr Try.prog 27 [.slice p l.length cap, .func (.func cf) fs.toArray cs.toArray] [R, S] (Ret fun v G => v = .bool true ∧ G = [R, S]) := by
  have h := containsFunc l p cap cf fs cs S R pr hb hf hR hl
  rw [idx_some hn, decide_eq_true (by omega)] at h
  exact h


set_option maxRecDepth 100000 in
theorem next1 (m : Mb) (ws : List Bool) (pw : Option Addr) (cw b3 : Nat) (RW : HProp) (hRW : ∀ w0 h, RW w0 h → Rd pw ws.length 1 (bools ws) w0 h) (h0 : 0 ≤ m.who) : Ctr Try.prog 26 [.agg (enc m).toArray, .pointer (some ⟨b3, 0, none⟩)] [Star [Cel b3 26 [.slice pw ws.length cw], RW]] (Ret fun v G => v = .bool (wantB ws m) ∧ G = [Star [Cel b3 26 [.slice pw ws.length cw], RW]]) := by
  refine spec_of [(0, _), (1, _)] Try.func26 rfl Try.ntmps26 rfl rfl ?_
  intro w0 F
  refine w_opn (ι := Unit) (K := fun _ => True) (B := fun _ => [Cel b3 26 [.slice pw ws.length cw], RW]) (fun h hh => ⟨(), trivial, hh⟩) ?_
  rintro ⟨⟩ _
  refine w_seq ?_
  refine w_region ?_
  refine o_box rfl (cs := [_, _, _]) rfl rfl ?_
  intro b2
  refine o_val (v_assign rfl) rfl ?_
  refine o_nil ?_
  refine thn_n ?_
  refine w_seq ?_
  refine w_region ?_
  refine o_val (v_fieldAddr T.f57_0 rfl) rfl ?_
  refine o_val (v_load T.s3 rfl (by first | exact mm0 | exact mm1 | exact mm2 | exact mm3 | exact mm4 | exact mm5 | exact mm6 | exact mm7) rfl) rfl ?_
  refine o_val (v_load T.s26 rfl (by first | exact mm0 | exact mm1 | exact mm2 | exact mm3 | exact mm4 | exact mm5 | exact mm6 | exact mm7) rfl) rfl ?_
  refine o_val (v_len (ty' := 0) Try.underlying26 rfl) rfl ?_
  refine o_val (v_lss rfl rfl) rfl ?_
  refine o_val (v_move rfl) rfl ?_
  first | refine o_boolD 9 rfl (fun h9 => ?_) (fun h9 => ?_) | refine o_bool 9 rfl (fun h9 => ?_) (fun h9 => ?_)
  ·
    refine o_want rfl ?_
    refine o_val (v_load T.s26 rfl (by first | exact mm0 | exact mm1 | exact mm2 | exact mm3 | exact mm4 | exact mm5 | exact mm6 | exact mm7) rfl) rfl ?_
    refine o_want rfl ?_
    refine o_val (v_fieldAddr T.f57_0 rfl) rfl ?_
    refine o_want rfl ?_
    refine o_val (v_load T.s3 rfl (by first | exact mm0 | exact mm1 | exact mm2 | exact mm3 | exact mm4 | exact mm5 | exact mm6 | exact mm7) rfl) rfl ?_
    have hlt : m.who.toNat < ws.length := by omega
    refine o_someR (R := RW) (by first | exact mm0 | exact mm1 | exact mm2 | exact mm3 | exact mm4 | exact mm5 | exact mm6 | exact mm7) (fun h hh => hRW _ h hh) (by omega) (fun bw o e => ?_)
    subst e
    refine o_want rfl ?_
    refine o_val (v_index1 m.who.toNat (by omega) T.sl26 rfl rfl hlt) rfl ?_
    refine o_want rfl ?_
    refine o_val (v_loadR m.who.toNat T.s4 rfl (R := RW) (by first | exact mm0 | exact mm1 | exact mm2 | exact mm3 | exact mm4 | exact mm5 | exact mm6 | exact mm7) (fun h hh => hRW _ h hh) rfl (bools_get hlt)) rfl ?_
    refine o_val (v_pickT rfl rfl) rfl ?_
    refine o_val (v_assign rfl) rfl ?_
    refine o_nil ?_
    refine thn_n ?_
    refine w_ret ?_
    first | (have hv : wantB ws m = false := by
               unfold wantB
               rw [List.getElem?_eq_none (by omega)]
             rw [hv]
             exact ret_ok (G := [_]) (res1 rfl) ⟨rfl, rfl⟩ (fold' (.cons (by first | exact rr0 | exact rr1 | exact rr2 | exact rr3 | exact rr4 | exact rr5 | exact rr6 | exact rr7) (.cons (by first | exact rr0 | exact rr1 | exact rr2 | exact rr3 | exact rr4 | exact rr5 | exact rr6 | exact rr7) .nil)) (by first | exact dd0 | exact dd1 | exact dd2 | exact dd3 | exact dd4 | exact dd5 | exact dd6 | exact dd7 | exact dd8) (fun w0 h hh => hh)))
          | (have hv : wantB ws m = ws[m.who.toNat] := by
               unfold wantB
               rw [List.getElem?_eq_getElem hlt]
             rw [hv]
             exact ret_ok (G := [_]) (res1 rfl) ⟨rfl, rfl⟩ (fold' (.cons (by first | exact rr0 | exact rr1 | exact rr2 | exact rr3 | exact rr4 | exact rr5 | exact rr6 | exact rr7) (.cons (by first | exact rr0 | exact rr1 | exact rr2 | exact rr3 | exact rr4 | exact rr5 | exact rr6 | exact rr7) .nil)) (by first | exact dd0 | exact dd1 | exact dd2 | exact dd3 | exact dd4 | exact dd5 | exact dd6 | exact dd7 | exact dd8) (fun w0 h hh => hh)))
  ·
    refine o_pass rfl rfl rfl ?_
    refine o_pass rfl rfl rfl ?_
    refine o_pass rfl rfl rfl ?_
    refine o_pass rfl rfl rfl ?_
    refine o_pass rfl rfl rfl ?_
    refine o_val (v_pickF rfl rfl) rfl ?_
    refine o_val (v_assign rfl) rfl ?_
    refine o_nil ?_
    refine thn_n ?_
    refine w_ret ?_
    first | (have hv : wantB ws m = false := by
               unfold wantB
               rw [List.getElem?_eq_none (by omega)]
             rw [hv]
             exact ret_ok (G := [_]) (res1 rfl) ⟨rfl, rfl⟩ (fold' (.cons (by first | exact rr0 | exact rr1 | exact rr2 | exact rr3 | exact rr4 | exact rr5 | exact rr6 | exact rr7) (.cons (by first | exact rr0 | exact rr1 | exact rr2 | exact rr3 | exact rr4 | exact rr5 | exact rr6 | exact rr7) .nil)) (by first | exact dd0 | exact dd1 | exact dd2 | exact dd3 | exact dd4 | exact dd5 | exact dd6 | exact dd7 | exact dd8) (fun w0 h hh => hh)))
          | (have hv : wantB ws m = ws[m.who.toNat] := by
               unfold wantB
               rw [List.getElem?_eq_getElem hlt]
             rw [hv]
             exact ret_ok (G := [_]) (res1 rfl) ⟨rfl, rfl⟩ (fold' (.cons (by first | exact rr0 | exact rr1 | exact rr2 | exact rr3 | exact rr4 | exact rr5 | exact rr6 | exact rr7) (.cons (by first | exact rr0 | exact rr1 | exact rr2 | exact rr3 | exact rr4 | exact rr5 | exact rr6 | exact rr7) .nil)) (by first | exact dd0 | exact dd1 | exact dd2 | exact dd3 | exact dd4 | exact dd5 | exact dd6 | exact dd7 | exact dd8) (fun w0 h hh => hh)))
