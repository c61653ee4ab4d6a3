/- Steps of the proof: the walks of the functions that the statement reaches; printed by a program of ours. -/
import Derived.Test.YtmclopghpnndnaaM34
/-
  The document's search of a word.
-/
namespace Go.HuffP
set_option linter.unusedVariables false
set_option linter.unusedSimpArgs false
theorem wd_none {ls : List Int} {s : Nat} (h : ls.getD s 0 = 0) : (wd ls s).2 = 0 := by
  unfold wd
  rw [if_neg (by unfold lenOf; omega)]
def bk (ls : List Int) (n : Nat) : Nat → Int
  | 0 => base ls n
  | k + 1 => bk ls n k + 1
theorem bk_eq (ls : List Int) (n : Nat) : ∀ k, bk ls n k = base ls n + (k : Int)
  | 0 => by simp [bk]
  | k + 1 => by simp only [bk]; rw [bk_eq ls n k]; omega
/-- What is known of a symbol that has a word. -/
structure Sy (ls : List Int) (x : Int) (L r : Nat) : Prop where
  one : 1 ≤ L
  top : L ≤ 15
  lt : r < (cls ls L).length
  get : (cls ls L).getD r 0 = x
  w : lkW ls x = base ls L + (r : Int)
  n : lkN ls x = (L : Int)
  b : lkB ls x = true
theorem sym_of {ls : List Int} (hV : Vl ls) {x : Int} (h0 : 0 ≤ x) (h1 : x < ls.length) (h : ls.getD x.toNat 0 ≠ 0) : ∃ L r, Sy ls x L r := by
  have hlt : x.toNat < ls.length := by omega
  have hb := hV.2 (ls.getD x.toNat 0) (by simp [List.getD_eq_getElem?_getD, hlt])
  have hlen : ls.getD x.toNat 0 = (lenOf ls x.toNat : Int) := by unfold lenOf; omega
  obtain ⟨t, ht⟩ := cls_take hlt hlen
  have hp : 0 < lenOf ls x.toNat := by omega
  have hw : wd ls x.toNat = (wordOf ls x.toNat, (lenOf ls x.toNat : Int)) := by unfold wd; rw [if_pos hp]
  obtain ⟨e1, e2, e3⟩ := lk_some h0 h1 (by rw [hw]; simp only; omega)
  refine ⟨lenOf ls x.toNat, (cls (ls.take x.toNat) (lenOf ls x.toNat)).length, by omega, by omega, ?_, ?_, ?_, ?_, e3⟩
  · rw [ht]; simp
  · rw [ht, List.getD_eq_getElem?_getD, List.getElem?_append_right (Nat.le_refl _), Nat.sub_self]
    simp
    omega
  · rw [e1, hw]; rfl
  · rw [e2, hw]
theorem sym_hit {ls : List Int} {x : Int} {L r m k : Nat} (hs : Sy ls x L r) (hm : m < 15) (hk : k < (cls ls (m + 1)).length) (h : (cls ls (m + 1)).getD k 0 = x) : m + 1 = L ∧ k = r := by
  have g1 : (cls ls (m + 1))[k]? = some x := by rw [← h]; simp [List.getD_eq_getElem?_getD, hk]
  have g2 : (cls ls L)[r]? = some x := by rw [← hs.get]; simp [List.getD_eq_getElem?_getD, hs.lt]
  have m1 := (cls_mem.1 (List.mem_of_getElem? g1)).2.2
  have m2 := (cls_mem.1 (List.mem_of_getElem? g2)).2.2
  have e : m + 1 = L := by omega
  subst e
  exact ⟨rfl, (List.getElem?_inj hk (cls_nodup ls _)).1 (g1.trans g2.symm)⟩
theorem sym_end {ls : List Int} {x : Int} {L r m k : Nat} (hs : Sy ls x L r) (h1 : m < L) (h2 : m + 1 = L → k ≤ r) (hk : (cls ls (m + 1)).length ≤ k) : m + 1 < L := by
  have := hs.lt
  by_cases e : m + 1 = L
  · subst e; have := h2 rfl; omega
  · omega
theorem sym_miss {ls : List Int} {x : Int} {L r m k : Nat} (hs : Sy ls x L r) (h : m + 1 = L → k ≤ r) (hne : ¬ (cls ls (m + 1)).getD k 0 = x) : m + 1 = L → k + 1 ≤ r := by
  intro e
  have h2 := h e
  by_cases h3 : k = r
  · exfalso
    subst h3
    subst e
    exact hne hs.get
  · omega
theorem cnt_cls (ls : List Int) (m : Nat) : cnt ls (m + 1) = ((cls ls (m + 1)).length : Int) := by unfold cnt; rw [if_neg (by omega)]
theorem off_le (ls : List Int) {m k : Nat} (hm : m < 15) (hk : k < (cls ls (m + 1)).length) : off ls (m + 1) + k < (ord ls).length := by
  have h1 := off_succ ls (n := m + 1) (by omega)
  have h2 := off_mono ls (show m + 1 + 1 ≤ 16 by omega)
  rw [ord_len]
  omega
theorem full_le {ls : List Int} {all : Int} (hw : wholeB (cntL ls) all = true) {n : Nat} (hn : n ≤ 15) : base ls n + cnt ls n ≤ 32768 := by
  have h3 := whole_left hw hn
  rw [left_base n hn] at h3
  have := pow_15 hn
  omega
theorem row_ends {ls : List Int} {m k : Nat} (h : k = (cls ls (m + 1)).length) : bk ls (m + 1) k = base ls (m + 1) + cnt ls (m + 1) ∧ off ls (m + 1) + k = off ls (m + 1 + 1) := by
  subst h
  refine ⟨by rw [bk_eq, cnt_cls], (off_succ ls (by omega)).symm⟩
end Go.HuffP
namespace Go.Sl
theorem shl_base {ls : List Int} {all : Int} (hw : HuffP.wholeB (HuffP.cntL ls) all = true) {m : Nat} (hm : m ≤ 15) : IntKind.i64.wrap ((HuffP.base ls m + HuffP.cnt ls m) * 2 ^ (min (1 : Int).toNat IntKind.i64.bits)) = HuffP.base ls (m + 1) := by
  have h1 := HuffP.full_le hw hm
  have h2 := HuffP.base_nn ls m
  have h3 := HuffP.cnt_nonneg ls m
  rw [show min (1 : Int).toNat IntKind.i64.bits = 1 from rfl]
  simp only [HuffP.base]
  rw [Int.mul_comm 2, Int.pow_one]
  exact wrapI (by omega) (by omega)
end Go.Sl

/-
  Steps of the proof: walks of functions that the statement reaches; printed by a program of ours.
-/
namespace Go.Proofs.Ytmclopghpnndnaa
open Go.Sl 
set_option linter.unusedVariables false
set_option linter.unusedSimpArgs false

attribute [local irreducible] HuffP.ord HuffP.wordsK HuffP.posn HuffP.cntL HuffP.mostL HuffP.words HuffP.wordOf HuffP.lenOf HuffP.newE HuffP.left HuffP.wholeB
attribute [local irreducible] HuffP.wd HuffP.lkW HuffP.lkN HuffP.lkB HuffP.cls HuffP.off

set_option maxHeartbeats 2000000 in
set_option maxRecDepth 100000 in
theorem r_word (b : Nat) (ls : List Int) (x : Int) (hE : HuffP.newE ls = 0) : Ctr Try.prog 13 [.pointer (some ⟨b, 0, none⟩), .int .i64 x] [RC b ls] (Ret fun v G => v = .tuple #[.int .i64 (HuffP.lkW ls x), .int .i64 (HuffP.lkN ls x), .bool (HuffP.lkB ls x)] ∧ G = [RC b ls]) := by
  refine spec_of [(0, _), (1, _)] Try.func13 rfl Try.ntmps13 rfl rfl ?_
  intro w0 F
  have hV := (HuffP.newE_vl hE).1
  have hW := (HuffP.newE_vl hE).2
  have hcl := HuffP.cntL_len ls
  have hCb := HuffP.cntL_bound hV.1
  have hol2 : (HuffP.ord ls).length ≤ 320 := by have := HuffP.posn_len hV; have := HuffP.posn_le ls; have := hV.1; omega
  refine w_opn (fun h hh => hh) ?_
  rintro ⟨p1, c1, p2, c2⟩ _
  dsimp only
  have hgl : I3.g ls x = ls.getD x.toNat 0 := rfl
  refine w_seq ?_
  refine w_region ?_
  refine o_val (v_assign rfl) rfl ?_
  refine o_val (v_assign rfl) rfl ?_
  refine o_val (v_assign rfl) rfl ?_
  refine o_nil ?_
  refine thn_n ?_
  refine w_seq ?_
  refine w_seq ?_
  refine w_region ?_
  refine o_val (v_move rfl) rfl ?_
  refine o_val (v_lss rfl rfl) rfl ?_
  refine o_val (v_move rfl) rfl ?_
  first | refine o_boolD 13 rfl (fun h13 => ?_) (fun h13 => ?_) | refine o_bool 13 rfl (fun h13 => ?_) (fun h13 => ?_)
  ·
    refine o_pass rfl rfl rfl ?_
    refine o_pass rfl rfl rfl ?_
    refine o_pass rfl rfl rfl ?_
    refine o_pass rfl rfl rfl ?_
    refine o_pass rfl rfl rfl ?_
    refine o_pass rfl rfl rfl ?_
    refine o_pass rfl rfl rfl ?_
    refine o_val (v_pickT rfl rfl) rfl ?_
    refine o_val (v_move rfl) rfl ?_
    refine o_pass rfl rfl rfl ?_
    refine o_pass rfl rfl rfl ?_
    refine o_pass rfl rfl rfl ?_
    refine o_pass rfl rfl rfl ?_
    refine o_pass rfl rfl rfl ?_
    refine o_pass rfl rfl rfl ?_
    refine o_pass rfl rfl rfl ?_
    refine o_pass rfl rfl rfl ?_
    refine o_val (v_pickT rfl rfl) rfl ?_
    refine o_nil ?_
    refine thn_n ?_
    refine w_condT rfl ?_
    refine w_seq ?_
    refine w_region ?_
    refine o_val (v_assign rfl) rfl ?_
    refine o_val (v_assign rfl) rfl ?_
    refine o_val (v_assign rfl) rfl ?_
    refine o_nil ?_
    refine thn_n ?_
    refine w_ret ?_
    refine (thn_r ?_)
    obtain ⟨e1, e2, e3⟩ := HuffP.lk_none (ls := ls) (x := x) (by first | exact .inl (by omega) | exact .inr (.inl (by omega)) | exact .inr (.inr (HuffP.wd_none (by rw [← hgl]; assumption))))
    rw [e1, e2, e3]
    exact ret_ok (G := [RC b ls]) (res3 rfl rfl rfl) ⟨rfl, rfl⟩ (fold' (.cons (by first | exact rr0 | exact rr1 | exact rr2 | exact rr3 | exact rr4 | exact rr5 | exact rr6 | exact rr7 | exact rr8 | exact rr9 | exact rr10 | exact rr11 | exact rr12 | exact rr13 | exact rr14) (.cons (by first | exact rr0 | exact rr1 | exact rr2 | exact rr3 | exact rr4 | exact rr5 | exact rr6 | exact rr7 | exact rr8 | exact rr9 | exact rr10 | exact rr11 | exact rr12 | exact rr13 | exact rr14) (.cons (by first | exact rr0 | exact rr1 | exact rr2 | exact rr3 | exact rr4 | exact rr5 | exact rr6 | exact rr7 | exact rr8 | exact rr9 | exact rr10 | exact rr11 | exact rr12 | exact rr13 | exact rr14) .nil))) (by first | exact dd0 | exact dd1 | exact dd2 | exact dd3 | exact dd4 | exact dd5 | exact dd6 | exact dd7 | exact dd8 | exact dd9 | exact dd10 | exact dd11 | exact dd12 | exact dd13 | exact dd14) (fun w0 h hh => rc_close hh))
  ·
    refine o_want rfl ?_
    refine o_val (v_move rfl) rfl ?_
    refine o_want rfl ?_
    refine o_val (v_move rfl) rfl ?_
    refine o_want rfl ?_
    refine o_val (v_nil rfl) rfl ?_
    refine o_want rfl ?_
    refine o_val (v_fieldAddr V.f65_2 rfl) rfl ?_
    refine o_want rfl ?_
    refine o_val (a_loadP (n := 16) 1 V.s22 rfl (by first | exact mm0 | exact mm1 | exact mm2 | exact mm3 | exact mm4 | exact mm5 | exact mm6 | exact mm7 | exact mm8 | exact mm9 | exact mm10 | exact mm11 | exact mm12 | exact mm13 | exact mm14) (by first | omega | (simp only [List.length_set]; omega)) rfl rfl) rfl ?_
    refine o_want rfl ?_
    refine o_val (v_len (ty' := 0) Try.underlying22 rfl) rfl ?_
    refine o_want rfl ?_
    refine o_val (v_geq rfl rfl) rfl ?_
    refine o_val (v_pickF rfl rfl) rfl ?_
    refine o_val (v_move rfl) rfl ?_
    first | refine o_boolD 22 rfl (fun h22 => ?_) (fun h22 => ?_) | refine o_bool 22 rfl (fun h22 => ?_) (fun h22 => ?_)
    ·
      refine o_pass rfl rfl rfl ?_
      refine o_pass rfl rfl rfl ?_
      refine o_pass rfl rfl rfl ?_
      refine o_pass rfl rfl rfl ?_
      refine o_pass rfl rfl rfl ?_
      refine o_pass rfl rfl rfl ?_
      refine o_pass rfl rfl rfl ?_
      refine o_pass rfl rfl rfl ?_
      refine o_val (v_pickT rfl rfl) rfl ?_
      refine o_nil ?_
      refine thn_n ?_
      refine w_condT rfl ?_
      refine w_seq ?_
      refine w_region ?_
      refine o_val (v_assign rfl) rfl ?_
      refine o_val (v_assign rfl) rfl ?_
      refine o_val (v_assign rfl) rfl ?_
      refine o_nil ?_
      refine thn_n ?_
      refine w_ret ?_
      refine (thn_r ?_)
      obtain ⟨e1, e2, e3⟩ := HuffP.lk_none (ls := ls) (x := x) (by first | exact .inl (by omega) | exact .inr (.inl (by omega)) | exact .inr (.inr (HuffP.wd_none (by rw [← hgl]; assumption))))
      rw [e1, e2, e3]
      exact ret_ok (G := [RC b ls]) (res3 rfl rfl rfl) ⟨rfl, rfl⟩ (fold' (.cons (by first | exact rr0 | exact rr1 | exact rr2 | exact rr3 | exact rr4 | exact rr5 | exact rr6 | exact rr7 | exact rr8 | exact rr9 | exact rr10 | exact rr11 | exact rr12 | exact rr13 | exact rr14) (.cons (by first | exact rr0 | exact rr1 | exact rr2 | exact rr3 | exact rr4 | exact rr5 | exact rr6 | exact rr7 | exact rr8 | exact rr9 | exact rr10 | exact rr11 | exact rr12 | exact rr13 | exact rr14) (.cons (by first | exact rr0 | exact rr1 | exact rr2 | exact rr3 | exact rr4 | exact rr5 | exact rr6 | exact rr7 | exact rr8 | exact rr9 | exact rr10 | exact rr11 | exact rr12 | exact rr13 | exact rr14) .nil))) (by first | exact dd0 | exact dd1 | exact dd2 | exact dd3 | exact dd4 | exact dd5 | exact dd6 | exact dd7 | exact dd8 | exact dd9 | exact dd10 | exact dd11 | exact dd12 | exact dd13 | exact dd14) (fun w0 h hh => rc_close hh))
    ·
      refine o_want rfl ?_
      refine o_val (v_move rfl) rfl ?_
      refine o_want rfl ?_
      refine o_val (v_nil rfl) rfl ?_
      refine o_want rfl ?_
      refine o_val (v_fieldAddr V.f65_2 rfl) rfl ?_
      refine o_want rfl ?_
      refine o_val (a_loadP (n := 16) 1 V.s22 rfl (by first | exact mm0 | exact mm1 | exact mm2 | exact mm3 | exact mm4 | exact mm5 | exact mm6 | exact mm7 | exact mm8 | exact mm9 | exact mm10 | exact mm11 | exact mm12 | exact mm13 | exact mm14) (by first | omega | (simp only [List.length_set]; omega)) rfl rfl) rfl ?_
      refine o_want rfl ?_
      refine o_val (v_move rfl) rfl ?_
      refine o_want rfl ?_
      refine o_val (r_index (c := (I3)) V.sl22 rfl rfl (by first | exact own mm0 | exact own mm1 | exact own mm2 | exact own mm3 | exact own mm4 | exact own mm5 | exact own mm6 | exact own mm7 | exact own mm8 | exact own mm9 | exact own mm10 | exact own mm11) (by omega) (by omega)) rfl ?_
      refine o_want rfl ?_
      refine o_val (r_load (c := (I3)) V.s3 rfl (by first | exact own mm0 | exact own mm1 | exact own mm2 | exact own mm3 | exact own mm4 | exact own mm5 | exact own mm6 | exact own mm7 | exact own mm8 | exact own mm9 | exact own mm10 | exact own mm11) (by omega) (by omega) rfl rfl) rfl ?_
      refine o_want rfl ?_
      refine o_val (v_eql rfl rfl) rfl ?_
      refine o_val (v_pickF rfl rfl) rfl ?_
      refine o_nil ?_
      refine thn_n ?_
      first | refine w_condD rfl (fun h31 => ?_) (fun h31 => ?_) | refine w_cond rfl (fun h31 => ?_) (fun h31 => ?_)
      ·
        refine w_seq ?_
        refine w_region ?_
        refine o_val (v_assign rfl) rfl ?_
        refine o_val (v_assign rfl) rfl ?_
        refine o_val (v_assign rfl) rfl ?_
        refine o_nil ?_
        refine thn_n ?_
        refine w_ret ?_
        refine (thn_r ?_)
        obtain ⟨e1, e2, e3⟩ := HuffP.lk_none (ls := ls) (x := x) (by first | exact .inl (by omega) | exact .inr (.inl (by omega)) | exact .inr (.inr (HuffP.wd_none (by rw [← hgl]; assumption))))
        rw [e1, e2, e3]
        exact ret_ok (G := [RC b ls]) (res3 rfl rfl rfl) ⟨rfl, rfl⟩ (fold' (.cons (by first | exact rr0 | exact rr1 | exact rr2 | exact rr3 | exact rr4 | exact rr5 | exact rr6 | exact rr7 | exact rr8 | exact rr9 | exact rr10 | exact rr11 | exact rr12 | exact rr13 | exact rr14) (.cons (by first | exact rr0 | exact rr1 | exact rr2 | exact rr3 | exact rr4 | exact rr5 | exact rr6 | exact rr7 | exact rr8 | exact rr9 | exact rr10 | exact rr11 | exact rr12 | exact rr13 | exact rr14) (.cons (by first | exact rr0 | exact rr1 | exact rr2 | exact rr3 | exact rr4 | exact rr5 | exact rr6 | exact rr7 | exact rr8 | exact rr9 | exact rr10 | exact rr11 | exact rr12 | exact rr13 | exact rr14) .nil))) (by first | exact dd0 | exact dd1 | exact dd2 | exact dd3 | exact dd4 | exact dd5 | exact dd6 | exact dd7 | exact dd8 | exact dd9 | exact dd10 | exact dd11 | exact dd12 | exact dd13 | exact dd14) (fun w0 h hh => rc_close hh))
      ·
        refine w_skip ?_
        refine thn_n ?_
        refine w_seq ?_
        obtain ⟨L, r, hs⟩ := HuffP.sym_of hV (x := x) (by omega) (by omega) (by rw [← hgl]; assumption)
        have hsL := hs.top
        have hs1 := hs.one
        refine w_region ?_
        refine o_val (v_assign rfl) rfl ?_
        refine o_val (v_assign rfl) rfl ?_
        refine o_nil ?_
        refine thn_n ?_
        refine w_seq ?_
        refine w_seq ?_
        refine w_region ?_
        refine o_val (v_assign rfl) rfl ?_
        refine o_nil ?_
        refine thn_n ?_
        refine w_block ?_
        rw [show ((8 : Nat), Value.int .i64 0) = (8, .int .i64 (HuffP.off ls (0 + 1) : Int)) from by unfold HuffP.off; rfl]
        refine w_loop1 (fun (m : Nat) => [(0, .pointer (some ⟨b, 0, none⟩)), (1, .int .i64 x), (7, .int .i64 (HuffP.base ls m + HuffP.cnt ls m)), (8, .int .i64 (HuffP.off ls (m + 1) : Int)), (9, .int .i64 ((m : Int) + 1))]) (fun (m : Nat) => Cel b 65 (CA [] .i64 (HuffP.cntL ls) [.slice p1 (HuffP.ord ls).length c1, .slice p2 ls.length c2]) :: Row I3 p1 (HuffP.ord ls).length c1 (HuffP.ord ls) :: Row I3 p2 ls.length c2 ls :: F) (fun (m : Nat) => m < L) (fun (m : Nat) => 15 - m) (i1 (0) ?_ (.cons rfl (.cons rfl (.cons rfl (.cons rfl (.cons rfl (.nil _)))))) (sub (.cons (by first | exact rr0 | exact rr1 | exact rr2 | exact rr3 | exact rr4 | exact rr5 | exact rr6 | exact rr7 | exact rr8 | exact rr9 | exact rr10 | exact rr11 | exact rr12 | exact rr13 | exact rr14) (.cons (by first | exact rr0 | exact rr1 | exact rr2 | exact rr3 | exact rr4 | exact rr5 | exact rr6 | exact rr7 | exact rr8 | exact rr9 | exact rr10 | exact rr11 | exact rr12 | exact rr13 | exact rr14) (.cons (by first | exact rr0 | exact rr1 | exact rr2 | exact rr3 | exact rr4 | exact rr5 | exact rr6 | exact rr7 | exact rr8 | exact rr9 | exact rr10 | exact rr11 | exact rr12 | exact rr13 | exact rr14) .nil))) (by first | exact dd0 | exact dd1 | exact dd2 | exact dd3 | exact dd4 | exact dd5 | exact dd6 | exact dd7 | exact dd8 | exact dd9 | exact dd10 | exact dd11 | exact dd12 | exact dd13 | exact dd14))) ?_
        ·
          exact hs1
        intro m
        rintro hm
        refine w_seq ?_
        refine w_seq ?_
        refine w_region ?_
        refine o_val (v_move rfl) rfl ?_
        refine o_val (v_leq rfl rfl) rfl ?_
        refine o_nil ?_
        refine thn_n ?_
        first | refine w_condD rfl (fun h33 => ?_) (fun h33 => ?_) | refine w_cond rfl (fun h33 => ?_) (fun h33 => ?_)
        ·
          refine w_skip ?_
          refine thn_n ?_
          refine w_seq ?_
          refine w_block ?_
          refine w_seq ?_
          refine w_region ?_
          refine o_val (v_move rfl) rfl ?_
          refine o_val (v_shl (r := HuffP.base ls (m + 1)) rfl rfl (by omega) (shl_base hW (by omega))) rfl ?_
          refine o_val (v_assign rfl) rfl ?_
          refine o_nil ?_
          refine thn_n ?_
          refine w_seq ?_
          refine w_region ?_
          refine o_val (v_assign rfl) rfl ?_
          refine o_nil ?_
          refine thn_n ?_
          refine w_block ?_
          refine w_loop1 (fun (k : Nat) => [(0, .pointer (some ⟨b, 0, none⟩)), (1, .int .i64 x), (7, .int .i64 (HuffP.bk ls (m + 1) k)), (8, .int .i64 ((HuffP.off ls (m + 1) + k : Nat) : Int)), (9, .int .i64 ((m : Int) + 1)), (10, .int .i64 (k : Int))]) (fun (k : Nat) => Cel b 65 (CA [] .i64 (HuffP.cntL ls) [.slice p1 (HuffP.ord ls).length c1, .slice p2 ls.length c2]) :: Row I3 p1 (HuffP.ord ls).length c1 (HuffP.ord ls) :: Row I3 p2 ls.length c2 ls :: F) (fun (k : Nat) => k ≤ (HuffP.cls ls (m + 1)).length ∧ (m + 1 = L → k ≤ r)) (fun (k : Nat) => (HuffP.cls ls (m + 1)).length - k) (i1 (0) ?_ (.cons rfl (.cons rfl (.cons rfl (.cons rfl (.cons rfl (.cons rfl (.nil _))))))) (sub (.cons (by first | exact rr0 | exact rr1 | exact rr2 | exact rr3 | exact rr4 | exact rr5 | exact rr6 | exact rr7 | exact rr8 | exact rr9 | exact rr10 | exact rr11 | exact rr12 | exact rr13 | exact rr14) (.cons (by first | exact rr0 | exact rr1 | exact rr2 | exact rr3 | exact rr4 | exact rr5 | exact rr6 | exact rr7 | exact rr8 | exact rr9 | exact rr10 | exact rr11 | exact rr12 | exact rr13 | exact rr14) (.cons (by first | exact rr0 | exact rr1 | exact rr2 | exact rr3 | exact rr4 | exact rr5 | exact rr6 | exact rr7 | exact rr8 | exact rr9 | exact rr10 | exact rr11 | exact rr12 | exact rr13 | exact rr14) .nil))) (by first | exact dd0 | exact dd1 | exact dd2 | exact dd3 | exact dd4 | exact dd5 | exact dd6 | exact dd7 | exact dd8 | exact dd9 | exact dd10 | exact dd11 | exact dd12 | exact dd13 | exact dd14))) ?_
          ·
            exact ⟨Nat.zero_le _, fun _ => Nat.zero_le _⟩
          intro k
          rintro ⟨hk, hkr⟩
          have hcn : (HuffP.cntL ls).getD ((m : Int) + 1).toNat 0 = ((HuffP.cls ls (m + 1)).length : Int) := by rw [← HuffP.cnt_cls, ← HuffP.cntL_get (by omega)]; congr 1
          have hbf := HuffP.full_le hW (n := m + 1) (by omega)
          have hbn := HuffP.base_nn ls (m + 1)
          have hcc := HuffP.cnt_cls ls m
          refine w_seq ?_
          refine w_seq ?_
          refine w_region ?_
          refine o_val (v_move rfl) rfl ?_
          refine o_val (v_move rfl) rfl ?_
          refine o_val (v_move rfl) rfl ?_
          refine o_val (v_nil rfl) rfl ?_
          refine o_val (v_fieldAddr V.f65_0 rfl) rfl ?_
          refine o_val (v_indexA (m + 1) rfl V.ar56 rfl rfl (by omega)) rfl ?_
          refine o_val (a_load ((m : Int) + 1) V.s3 rfl (by first | exact mm0 | exact mm1 | exact mm2 | exact mm3 | exact mm4 | exact mm5 | exact mm6 | exact mm7 | exact mm8 | exact mm9 | exact mm10 | exact mm11 | exact mm12 | exact mm13 | exact mm14) (by first | (simp only [List.length_cons, List.length_nil]; omega) | omega) (by omega) (by first | omega | (simp only [List.length_set]; omega))) rfl ?_
          refine o_val (v_lss rfl rfl) rfl ?_
          refine o_nil ?_
          refine thn_n ?_
          first | refine w_condD rfl (fun h45 => ?_) (fun h45 => ?_) | refine w_cond rfl (fun h45 => ?_) (fun h45 => ?_)
          ·
            refine w_skip ?_
            refine thn_n ?_
            refine w_seq ?_
            refine w_block ?_
            refine w_seq ?_
            refine w_seq ?_
            have hk2 : k < (HuffP.cls ls (m + 1)).length := by omega
            have hol := HuffP.off_le ls (by omega) hk2
            have hgo : I3.g (HuffP.ord ls) ((HuffP.off ls (m + 1) + k : Nat) : Int) = (HuffP.cls ls (m + 1)).getD k 0 := by rw [← HuffP.ord_get (by omega) (by omega) hk2]; rfl
            have hbe := HuffP.bk_eq ls (m + 1) k
            refine w_region ?_
            refine o_val (v_move rfl) rfl ?_
            refine o_val (v_nil rfl) rfl ?_
            refine o_val (v_fieldAddr V.f65_1 rfl) rfl ?_
            refine o_val (a_loadP (n := 16) 0 V.s22 rfl (by first | exact mm0 | exact mm1 | exact mm2 | exact mm3 | exact mm4 | exact mm5 | exact mm6 | exact mm7 | exact mm8 | exact mm9 | exact mm10 | exact mm11 | exact mm12 | exact mm13 | exact mm14) (by first | omega | (simp only [List.length_set]; omega)) rfl rfl) rfl ?_
            refine o_val (v_move rfl) rfl ?_
            refine o_val (r_index (c := (I3)) V.sl22 rfl rfl (by first | exact own mm0 | exact own mm1 | exact own mm2 | exact own mm3 | exact own mm4 | exact own mm5 | exact own mm6 | exact own mm7 | exact own mm8 | exact own mm9 | exact own mm10 | exact own mm11) (by omega) (by omega)) rfl ?_
            refine o_val (r_load (c := (I3)) V.s3 rfl (by first | exact own mm0 | exact own mm1 | exact own mm2 | exact own mm3 | exact own mm4 | exact own mm5 | exact own mm6 | exact own mm7 | exact own mm8 | exact own mm9 | exact own mm10 | exact own mm11) (by omega) (by omega) rfl rfl) rfl ?_
            refine o_val (v_move rfl) rfl ?_
            refine o_val (v_eql rfl rfl) rfl ?_
            refine o_nil ?_
            refine thn_n ?_
            first | refine w_condD rfl (fun h56 => ?_) (fun h56 => ?_) | refine w_cond rfl (fun h56 => ?_) (fun h56 => ?_)
            ·
              refine w_seq ?_
              refine w_region ?_
              refine o_val (v_move rfl) rfl ?_
              refine o_val (v_move rfl) rfl ?_
              refine o_val (v_assign rfl) rfl ?_
              refine o_val (v_assign rfl) rfl ?_
              refine o_val (v_assign rfl) rfl ?_
              refine o_nil ?_
              refine thn_n ?_
              refine w_ret ?_
              refine (thn_r (blk_r (thn_r (thn_r (blk_r (blk_r (thn_r (thn_r (blk_r (thn_r ?_))))))))))
              obtain ⟨e1, e2⟩ := HuffP.sym_hit hs (by omega) hk2 (by rw [← hgo]; assumption)
              rw [hs.w, hs.n, hs.b, ← e1, ← e2, HuffP.bk_eq]
              exact ret_ok (G := [RC b ls]) (res3 rfl rfl rfl) ⟨rfl, rfl⟩ (fold' (.cons (by first | exact rr0 | exact rr1 | exact rr2 | exact rr3 | exact rr4 | exact rr5 | exact rr6 | exact rr7 | exact rr8 | exact rr9 | exact rr10 | exact rr11 | exact rr12 | exact rr13 | exact rr14) (.cons (by first | exact rr0 | exact rr1 | exact rr2 | exact rr3 | exact rr4 | exact rr5 | exact rr6 | exact rr7 | exact rr8 | exact rr9 | exact rr10 | exact rr11 | exact rr12 | exact rr13 | exact rr14) (.cons (by first | exact rr0 | exact rr1 | exact rr2 | exact rr3 | exact rr4 | exact rr5 | exact rr6 | exact rr7 | exact rr8 | exact rr9 | exact rr10 | exact rr11 | exact rr12 | exact rr13 | exact rr14) .nil))) (by first | exact dd0 | exact dd1 | exact dd2 | exact dd3 | exact dd4 | exact dd5 | exact dd6 | exact dd7 | exact dd8 | exact dd9 | exact dd10 | exact dd11 | exact dd12 | exact dd13 | exact dd14) (fun w0 h hh => rc_close hh))
            ·
              refine w_skip ?_
              refine thn_n ?_
              refine w_seq ?_
              refine w_region ?_
              refine o_val (v_move rfl) rfl ?_
              refine o_val (v_add rfl rfl (wrapI (by omega) (by omega))) rfl ?_
              refine o_val (v_assign rfl) rfl ?_
              refine o_nil ?_
              refine thn_n ?_
              refine w_region ?_
              refine o_val (v_move rfl) rfl ?_
              refine o_val (v_add rfl rfl (wrapI (by omega) (by omega))) rfl ?_
              refine o_val (v_assign rfl) rfl ?_
              refine o_nil ?_
              refine blk_n ?_
              refine thn_n ?_
              refine w_region ?_
              refine o_val (v_move rfl) rfl ?_
              refine o_val (v_add rfl rfl (wrapI (by omega) (by omega))) rfl ?_
              refine o_val (v_assign rfl) rfl ?_
              refine o_nil ?_
              have hne := HuffP.sym_miss hs hkr (by rw [← hgo]; assumption)
              rw [show ((HuffP.off ls (m + 1) + k : Nat) : Int) + 1 = ((HuffP.off ls (m + 1) + (k + 1) : Nat) : Int) from by omega]
              exact j1 (k + 1) ⟨⟨by omega, hne⟩, by omega⟩ (.cons rfl (.cons rfl (.cons rfl (.cons rfl (.cons rfl (.cons rfl (.nil _))))))) (sub (.cons (by first | exact rr0 | exact rr1 | exact rr2 | exact rr3 | exact rr4 | exact rr5 | exact rr6 | exact rr7 | exact rr8 | exact rr9 | exact rr10 | exact rr11 | exact rr12 | exact rr13 | exact rr14) (.cons (by first | exact rr0 | exact rr1 | exact rr2 | exact rr3 | exact rr4 | exact rr5 | exact rr6 | exact rr7 | exact rr8 | exact rr9 | exact rr10 | exact rr11 | exact rr12 | exact rr13 | exact rr14) (.cons (by first | exact rr0 | exact rr1 | exact rr2 | exact rr3 | exact rr4 | exact rr5 | exact rr6 | exact rr7 | exact rr8 | exact rr9 | exact rr10 | exact rr11 | exact rr12 | exact rr13 | exact rr14) .nil))) (by first | exact dd0 | exact dd1 | exact dd2 | exact dd3 | exact dd4 | exact dd5 | exact dd6 | exact dd7 | exact dd8 | exact dd9 | exact dd10 | exact dd11 | exact dd12 | exact dd13 | exact dd14))
          ·
            refine w_exit ?_
            refine thn_e ?_
            refine thn_e ?_
            refine blk_x ?_
            refine blk_n ?_
            refine thn_n ?_
            refine w_region ?_
            refine o_val (v_move rfl) rfl ?_
            refine o_val (v_add rfl rfl (wrapI (by omega) (by omega))) rfl ?_
            refine o_val (v_assign rfl) rfl ?_
            refine o_nil ?_
            have hm3 := HuffP.sym_end hs hm hkr (by omega)
            obtain ⟨e1, e2⟩ := HuffP.row_ends (ls := ls) (m := m) (k := k) (by omega)
            rw [e1, e2]
            refine j1 (m + 1) ?_ (.cons rfl (.cons rfl (.cons rfl (.cons rfl (.cons rfl (.nil _)))))) (sub (.cons (by first | exact rr0 | exact rr1 | exact rr2 | exact rr3 | exact rr4 | exact rr5 | exact rr6 | exact rr7 | exact rr8 | exact rr9 | exact rr10 | exact rr11 | exact rr12 | exact rr13 | exact rr14) (.cons (by first | exact rr0 | exact rr1 | exact rr2 | exact rr3 | exact rr4 | exact rr5 | exact rr6 | exact rr7 | exact rr8 | exact rr9 | exact rr10 | exact rr11 | exact rr12 | exact rr13 | exact rr14) (.cons (by first | exact rr0 | exact rr1 | exact rr2 | exact rr3 | exact rr4 | exact rr5 | exact rr6 | exact rr7 | exact rr8 | exact rr9 | exact rr10 | exact rr11 | exact rr12 | exact rr13 | exact rr14) .nil))) (by first | exact dd0 | exact dd1 | exact dd2 | exact dd3 | exact dd4 | exact dd5 | exact dd6 | exact dd7 | exact dd8 | exact dd9 | exact dd10 | exact dd11 | exact dd12 | exact dd13 | exact dd14))
            exact ⟨hm3, by omega⟩
        ·
          refine w_exit ?_
          refine thn_e ?_
          refine thn_e ?_
          refine blk_x ?_
          refine thn_n ?_
          refine w_seq ?_
          refine w_region ?_
          refine o_val (v_assign rfl) rfl ?_
          refine o_val (v_assign rfl) rfl ?_
          refine o_val (v_assign rfl) rfl ?_
          refine o_nil ?_
          refine thn_n ?_
          refine w_ret ?_
          exact absurd hs.top (by omega)
end Go.Proofs.Ytmclopghpnndnaa
