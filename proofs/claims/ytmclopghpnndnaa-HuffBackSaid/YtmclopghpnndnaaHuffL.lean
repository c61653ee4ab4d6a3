/-
  Steps of the proof: walks of functions that the statement reaches; printed by a program of ours.
-/
import Derived.Test.YtmclopghpnndnaaHuffK
namespace Go.Proofs.Ytmclopghpnndnaa
open Go.Sl 
set_option linter.unusedVariables false
set_option linter.unusedSimpArgs false


theorem h_take_hit (b : Nat) (ls : List Int) (b2 : Nat) (B : List Int) (at_ : Nat) (out : List Int) (free : Int) (hE : HuffP.newE ls = 0) (hl : B.length < 500000000) (hB : BitP.Byt B) (ha : at_ ≤ 8 * B.length) {n : Nat} {s : Int} (htk : HuffP.tk ls B at_ = .hit n s) : Ctr Try.prog 17 [.pointer (some ⟨b, 0, none⟩), .pointer (some ⟨b2, 0, none⟩)] [HC b ls, LW b2 B at_ out free] (Ret fun v G => v = .int .i64 s ∧ G = [HC b ls, LW b2 B (at_ + n) out free]) := by
  refine (h_take b ls b2 B at_ out free hE hl hB ha).mono ?_
  rintro e G (⟨v, rfl, n', s', h, rfl, rfl⟩ | ⟨ch, rfl, (⟨n', h, _, _⟩ | ⟨n', h, _, _⟩)⟩)
  · rw [htk] at h; cases h; exact ⟨_, rfl, rfl, rfl⟩
  · rw [htk] at h; cases h
  · rw [htk] at h; cases h
theorem h_take_err (b : Nat) (ls : List Int) (b2 : Nat) (B : List Int) (at_ : Nat) (out : List Int) (free : Int) (hE : HuffP.newE ls = 0) (hl : B.length < 500000000) (hB : BitP.Byt B) (ha : at_ ≤ 8 * B.length) (htk : ∀ n s, HuffP.tk ls B at_ ≠ .hit n s) : Ctr Try.prog 17 [.pointer (some ⟨b, 0, none⟩), .pointer (some ⟨b2, 0, none⟩)] [HC b ls, LW b2 B at_ out free] (Pan fun ch G => (∃ t u, ch = pan1 t u) ∧ ∃ n, G = [HC b ls, LW b2 B (at_ + n) out free]) := by
  refine (h_take b ls b2 B at_ out free hE hl hB ha).mono ?_
  rintro e G (⟨v, rfl, n', s', h, rfl, rfl⟩ | ⟨ch, rfl, (⟨n', h, rfl, rfl⟩ | ⟨n', h, rfl, rfl⟩)⟩)
  · exact absurd h (htk _ _)
  · exact ⟨_, rfl, ⟨_, _, rfl⟩, n', rfl⟩
  · exact ⟨_, rfl, ⟨_, _, rfl⟩, n', rfl⟩



theorem r_take_hit (b : Nat) (ls : List Int) (b2 : Nat) (p : Option Addr) (cap : Nat) (B : List Int) (R : HProp) (hR : ∀ w0 h, R w0 h → RdR U5 p B.length B w0 h) (at_ : Nat) (sh : Bool) (hE : HuffP.newE ls = 0) (hl : B.length < 500000000) (hB : BitP.Byt B) (ha : at_ ≤ 8 * B.length) {n : Nat} {s : Int} (htk : HuffP.tk ls B at_ = .hit n s) : Ctr Try.prog 18 [.pointer (some ⟨b, 0, none⟩), .pointer (some ⟨b2, 0, none⟩)] [RC b ls, Cel b2 40 [.slice p B.length cap, .int .i64 (at_ : Int), .bool false, .bool sh], R] (Ret fun v G => v = .tuple #[.int .i64 s, .int .i64 0] ∧ G = [RC b ls, Cel b2 40 [.slice p B.length cap, .int .i64 ((at_ + n : Nat) : Int), .bool false, .bool sh], R]) := by
  refine (r_take b ls b2 p cap B R hR at_ sh hE hl hB ha).mono ?_
  rintro e G ⟨v, rfl, (⟨n', s', h, rfl, rfl⟩ | ⟨n', h, rfl, rfl⟩ | ⟨n', h, rfl, rfl⟩)⟩
  · rw [htk] at h; cases h; exact ⟨_, rfl, rfl, rfl⟩
  · rw [htk] at h; cases h
  · rw [htk] at h; cases h
theorem r_take_err (b : Nat) (ls : List Int) (b2 : Nat) (p : Option Addr) (cap : Nat) (B : List Int) (R : HProp) (hR : ∀ w0 h, R w0 h → RdR U5 p B.length B w0 h) (at_ : Nat) (sh : Bool) (hE : HuffP.newE ls = 0) (hl : B.length < 500000000) (hB : BitP.Byt B) (ha : at_ ≤ 8 * B.length) (htk : ∀ n s, HuffP.tk ls B at_ ≠ .hit n s) : Ctr Try.prog 18 [.pointer (some ⟨b, 0, none⟩), .pointer (some ⟨b2, 0, none⟩)] [RC b ls, Cel b2 40 [.slice p B.length cap, .int .i64 (at_ : Int), .bool false, .bool sh], R] (Ret fun v G => ∃ (n : Nat) (y : Bool) (z : Int), z ≠ 0 ∧ v = .tuple #[.int .i64 0, .int .i64 z] ∧ G = [RC b ls, Cel b2 40 [.slice p B.length cap, .int .i64 ((at_ + n : Nat) : Int), .bool false, .bool y], R]) := by
  refine (r_take b ls b2 p cap B R hR at_ sh hE hl hB ha).mono ?_
  rintro e G ⟨v, rfl, (⟨n', s', h, rfl, rfl⟩ | ⟨n', h, rfl, rfl⟩ | ⟨n', h, rfl, rfl⟩)⟩
  · exact absurd h (htk _ _)
  · exact ⟨_, rfl, n', true, 2, by decide, rfl, rfl⟩
  · exact ⟨_, rfl, n', sh, 4, by decide, rfl, rfl⟩


set_option maxRecDepth 100000 in
theorem t1_hitTakes (x5 x9 x12 : Nat) (y : Int) (b : Nat) (ls : List Int) (b2 : Nat) (B : List Int) (at_ : Nat) (out : List Int) (free : Int) (hE : HuffP.newE ls = 0) (hl : B.length < 500000000) (hB : BitP.Byt B) (ha : at_ ≤ 8 * B.length) {n : Nat} {s : Int} (htk : HuffP.tk ls B at_ = .hit n s) : Ctr Try.prog 16 [.pointer (some ⟨x5, 0, none⟩), .pointer (some ⟨x9, 0, none⟩), .pointer (some ⟨x12, 0, none⟩)] [Cel x12 3 [.int .i64 y], Cel x5 24 [.pointer (some ⟨b, 0, none⟩)], Cel x9 36 [.pointer (some ⟨b2, 0, none⟩)], HC b ls, LW b2 B at_ out free] (Ret fun v G => G = [Cel x12 3 [.int .i64 s], Cel x5 24 [.pointer (some ⟨b, 0, none⟩)], Cel x9 36 [.pointer (some ⟨b2, 0, none⟩)], HC b ls, LW b2 B (at_ + n) out free]) := by
  refine spec_of [(0, _), (1, _), (2, _)] Try.func16 rfl Try.ntmps16 rfl rfl ?_
  intro w0 F
  refine w_region ?_
  refine o_val (v_load V.s24 rfl (by first | exact mm0 | exact mm1 | exact mm2 | exact mm3 | exact mm4 | exact mm5 | exact mm6 | exact mm7 | exact mm8 | exact mm9 | exact mm10 | exact mm11 | exact mm12 | exact mm13 | exact mm14) rfl) rfl ?_
  refine o_val (v_load V.s36 rfl (by first | exact mm0 | exact mm1 | exact mm2 | exact mm3 | exact mm4 | exact mm5 | exact mm6 | exact mm7 | exact mm8 | exact mm9 | exact mm10 | exact mm11 | exact mm12 | exact mm13 | exact mm14) rfl) rfl ?_
  refine o_call (h_take_hit b ls b2 B at_ out free hE hl hB ha htk) V.b17  rfl (.cons (by first | exact rr0 | exact rr1 | exact rr2 | exact rr3 | exact rr4 | exact rr5 | exact rr6 | exact rr7 | exact rr8 | exact rr9 | exact rr10 | exact rr11 | exact rr12 | exact rr13 | exact rr14) (.cons (by first | exact rr0 | exact rr1 | exact rr2 | exact rr3 | exact rr4 | exact rr5 | exact rr6 | exact rr7 | exact rr8 | exact rr9 | exact rr10 | exact rr11 | exact rr12 | exact rr13 | exact rr14) .nil)) rfl ?_
  rintro _ _ ⟨rfl, rfl⟩
  refine o_eff (v_store V.s3 rfl rfl rfl (by first | exact pp0 | exact pp1 | exact pp2 | exact pp3 | exact pp4 | exact pp5 | exact pp6 | exact pp7 | exact pp8 | exact pp9 | exact pp10 | exact pp11 | exact pp12 | exact pp13 | exact pp14) (by exact Nat.le_of_ble_eq_true rfl) rfl) ?_
  refine o_nil ?_
  exact end_ok (G := [Cel x12 3 [.int .i64 s], Cel x5 24 [.pointer (some ⟨b, 0, none⟩)], Cel x9 36 [.pointer (some ⟨b2, 0, none⟩)], HC b ls, LW b2 B (at_ + n) out free]) res0 rfl (sub (.cons (by first | exact rr0 | exact rr1 | exact rr2 | exact rr3 | exact rr4 | exact rr5 | exact rr6 | exact rr7 | exact rr8 | exact rr9 | exact rr10 | exact rr11 | exact rr12 | exact rr13 | exact rr14) (.cons (by first | exact rr0 | exact rr1 | exact rr2 | exact rr3 | exact rr4 | exact rr5 | exact rr6 | exact rr7 | exact rr8 | exact rr9 | exact rr10 | exact rr11 | exact rr12 | exact rr13 | exact rr14) (.cons (by first | exact rr0 | exact rr1 | exact rr2 | exact rr3 | exact rr4 | exact rr5 | exact rr6 | exact rr7 | exact rr8 | exact rr9 | exact rr10 | exact rr11 | exact rr12 | exact rr13 | exact rr14) (.cons (by first | exact rr0 | exact rr1 | exact rr2 | exact rr3 | exact rr4 | exact rr5 | exact rr6 | exact rr7 | exact rr8 | exact rr9 | exact rr10 | exact rr11 | exact rr12 | exact rr13 | exact rr14) (.cons (by first | exact rr0 | exact rr1 | exact rr2 | exact rr3 | exact rr4 | exact rr5 | exact rr6 | exact rr7 | exact rr8 | exact rr9 | exact rr10 | exact rr11 | exact rr12 | exact rr13 | exact rr14) .nil))))) (by first | exact dd0 | exact dd1 | exact dd2 | exact dd3 | exact dd4 | exact dd5 | exact dd6 | exact dd7 | exact dd8 | exact dd9 | exact dd10 | exact dd11 | exact dd12 | exact dd13 | exact dd14))

set_option maxRecDepth 100000 in
theorem t1_errTakes (x5 x9 x12 : Nat) (y : Int) (b : Nat) (ls : List Int) (b2 : Nat) (B : List Int) (at_ : Nat) (out : List Int) (free : Int) (hE : HuffP.newE ls = 0) (hl : B.length < 500000000) (hB : BitP.Byt B) (ha : at_ ≤ 8 * B.length) (htk : ∀ n s, HuffP.tk ls B at_ ≠ .hit n s) : Ctr Try.prog 16 [.pointer (some ⟨x5, 0, none⟩), .pointer (some ⟨x9, 0, none⟩), .pointer (some ⟨x12, 0, none⟩)] [Cel x12 3 [.int .i64 y], Cel x5 24 [.pointer (some ⟨b, 0, none⟩)], Cel x9 36 [.pointer (some ⟨b2, 0, none⟩)], HC b ls, LW b2 B at_ out free] (Pan fun ch G => (∃ t u, ch = pan1 t u) ∧ ∃ n, G = [Cel x12 3 [.int .i64 y], Cel x5 24 [.pointer (some ⟨b, 0, none⟩)], Cel x9 36 [.pointer (some ⟨b2, 0, none⟩)], HC b ls, LW b2 B (at_ + n) out free]) := by
  refine spec_of [(0, _), (1, _), (2, _)] Try.func16 rfl Try.ntmps16 rfl rfl ?_
  intro w0 F
  refine w_region ?_
  refine o_val (v_load V.s24 rfl (by first | exact mm0 | exact mm1 | exact mm2 | exact mm3 | exact mm4 | exact mm5 | exact mm6 | exact mm7 | exact mm8 | exact mm9 | exact mm10 | exact mm11 | exact mm12 | exact mm13 | exact mm14) rfl) rfl ?_
  refine o_val (v_load V.s36 rfl (by first | exact mm0 | exact mm1 | exact mm2 | exact mm3 | exact mm4 | exact mm5 | exact mm6 | exact mm7 | exact mm8 | exact mm9 | exact mm10 | exact mm11 | exact mm12 | exact mm13 | exact mm14) rfl) rfl ?_
  refine o_callE (h_take_err b ls b2 B at_ out free hE hl hB ha htk) V.b17 rfl (.cons (by first | exact rr0 | exact rr1 | exact rr2 | exact rr3 | exact rr4 | exact rr5 | exact rr6 | exact rr7 | exact rr8 | exact rr9 | exact rr10 | exact rr11 | exact rr12 | exact rr13 | exact rr14) (.cons (by first | exact rr0 | exact rr1 | exact rr2 | exact rr3 | exact rr4 | exact rr5 | exact rr6 | exact rr7 | exact rr8 | exact rr9 | exact rr10 | exact rr11 | exact rr12 | exact rr13 | exact rr14) .nil)) ?_
  rintro _ _ ⟨⟨t, u, rfl⟩, n, rfl⟩
  skip
  exact pan_ok (G := [Cel x12 3 [.int .i64 y], Cel x5 24 [.pointer (some ⟨b, 0, none⟩)], Cel x9 36 [.pointer (some ⟨b2, 0, none⟩)], HC b ls, LW b2 B (at_ + n) out free]) ⟨⟨t, u, rfl⟩, n, rfl⟩ (sub (.cons (by first | exact rr0 | exact rr1 | exact rr2 | exact rr3 | exact rr4 | exact rr5 | exact rr6 | exact rr7 | exact rr8 | exact rr9 | exact rr10 | exact rr11 | exact rr12 | exact rr13 | exact rr14) (.cons (by first | exact rr0 | exact rr1 | exact rr2 | exact rr3 | exact rr4 | exact rr5 | exact rr6 | exact rr7 | exact rr8 | exact rr9 | exact rr10 | exact rr11 | exact rr12 | exact rr13 | exact rr14) (.cons (by first | exact rr0 | exact rr1 | exact rr2 | exact rr3 | exact rr4 | exact rr5 | exact rr6 | exact rr7 | exact rr8 | exact rr9 | exact rr10 | exact rr11 | exact rr12 | exact rr13 | exact rr14) (.cons (by first | exact rr0 | exact rr1 | exact rr2 | exact rr3 | exact rr4 | exact rr5 | exact rr6 | exact rr7 | exact rr8 | exact rr9 | exact rr10 | exact rr11 | exact rr12 | exact rr13 | exact rr14) (.cons (by first | exact rr0 | exact rr1 | exact rr2 | exact rr3 | exact rr4 | exact rr5 | exact rr6 | exact rr7 | exact rr8 | exact rr9 | exact rr10 | exact rr11 | exact rr12 | exact rr13 | exact rr14) .nil))))) (by first | exact dd0 | exact dd1 | exact dd2 | exact dd3 | exact dd4 | exact dd5 | exact dd6 | exact dd7 | exact dd8 | exact dd9 | exact dd10 | exact dd11 | exact dd12 | exact dd13 | exact dd14))

set_option maxRecDepth 100000 in
theorem t1_hitBack (x5 x9 x12 : Nat) (y : Int) (b : Nat) (ls : List Int) (b2 : Nat) (B : List Int) (at_ : Nat) (out : List Int) (free : Int) (hE : HuffP.newE ls = 0) (hl : B.length < 500000000) (hB : BitP.Byt B) (ha : at_ ≤ 8 * B.length) {n : Nat} {s : Int} (htk : HuffP.tk ls B at_ = .hit n s) : Ctr Try.prog 23 [.pointer (some ⟨x5, 0, none⟩), .pointer (some ⟨x9, 0, none⟩), .pointer (some ⟨x12, 0, none⟩)] [Cel x12 3 [.int .i64 y], Cel x5 24 [.pointer (some ⟨b, 0, none⟩)], Cel x9 36 [.pointer (some ⟨b2, 0, none⟩)], HC b ls, LW b2 B at_ out free] (Ret fun v G => G = [Cel x12 3 [.int .i64 s], Cel x5 24 [.pointer (some ⟨b, 0, none⟩)], Cel x9 36 [.pointer (some ⟨b2, 0, none⟩)], HC b ls, LW b2 B (at_ + n) out free]) := by
  refine spec_of [(0, _), (1, _), (2, _)] Try.func23 rfl Try.ntmps23 rfl rfl ?_
  intro w0 F
  refine w_region ?_
  refine o_val (v_load V.s24 rfl (by first | exact mm0 | exact mm1 | exact mm2 | exact mm3 | exact mm4 | exact mm5 | exact mm6 | exact mm7 | exact mm8 | exact mm9 | exact mm10 | exact mm11 | exact mm12 | exact mm13 | exact mm14) rfl) rfl ?_
  refine o_val (v_load V.s36 rfl (by first | exact mm0 | exact mm1 | exact mm2 | exact mm3 | exact mm4 | exact mm5 | exact mm6 | exact mm7 | exact mm8 | exact mm9 | exact mm10 | exact mm11 | exact mm12 | exact mm13 | exact mm14) rfl) rfl ?_
  refine o_call (h_take_hit b ls b2 B at_ out free hE hl hB ha htk) V.b17  rfl (.cons (by first | exact rr0 | exact rr1 | exact rr2 | exact rr3 | exact rr4 | exact rr5 | exact rr6 | exact rr7 | exact rr8 | exact rr9 | exact rr10 | exact rr11 | exact rr12 | exact rr13 | exact rr14) (.cons (by first | exact rr0 | exact rr1 | exact rr2 | exact rr3 | exact rr4 | exact rr5 | exact rr6 | exact rr7 | exact rr8 | exact rr9 | exact rr10 | exact rr11 | exact rr12 | exact rr13 | exact rr14) .nil)) rfl ?_
  rintro _ _ ⟨rfl, rfl⟩
  refine o_eff (v_store V.s3 rfl rfl rfl (by first | exact pp0 | exact pp1 | exact pp2 | exact pp3 | exact pp4 | exact pp5 | exact pp6 | exact pp7 | exact pp8 | exact pp9 | exact pp10 | exact pp11 | exact pp12 | exact pp13 | exact pp14) (by exact Nat.le_of_ble_eq_true rfl) rfl) ?_
  refine o_nil ?_
  exact end_ok (G := [Cel x12 3 [.int .i64 s], Cel x5 24 [.pointer (some ⟨b, 0, none⟩)], Cel x9 36 [.pointer (some ⟨b2, 0, none⟩)], HC b ls, LW b2 B (at_ + n) out free]) res0 rfl (sub (.cons (by first | exact rr0 | exact rr1 | exact rr2 | exact rr3 | exact rr4 | exact rr5 | exact rr6 | exact rr7 | exact rr8 | exact rr9 | exact rr10 | exact rr11 | exact rr12 | exact rr13 | exact rr14) (.cons (by first | exact rr0 | exact rr1 | exact rr2 | exact rr3 | exact rr4 | exact rr5 | exact rr6 | exact rr7 | exact rr8 | exact rr9 | exact rr10 | exact rr11 | exact rr12 | exact rr13 | exact rr14) (.cons (by first | exact rr0 | exact rr1 | exact rr2 | exact rr3 | exact rr4 | exact rr5 | exact rr6 | exact rr7 | exact rr8 | exact rr9 | exact rr10 | exact rr11 | exact rr12 | exact rr13 | exact rr14) (.cons (by first | exact rr0 | exact rr1 | exact rr2 | exact rr3 | exact rr4 | exact rr5 | exact rr6 | exact rr7 | exact rr8 | exact rr9 | exact rr10 | exact rr11 | exact rr12 | exact rr13 | exact rr14) (.cons (by first | exact rr0 | exact rr1 | exact rr2 | exact rr3 | exact rr4 | exact rr5 | exact rr6 | exact rr7 | exact rr8 | exact rr9 | exact rr10 | exact rr11 | exact rr12 | exact rr13 | exact rr14) .nil))))) (by first | exact dd0 | exact dd1 | exact dd2 | exact dd3 | exact dd4 | exact dd5 | exact dd6 | exact dd7 | exact dd8 | exact dd9 | exact dd10 | exact dd11 | exact dd12 | exact dd13 | exact dd14))

set_option maxRecDepth 100000 in
theorem t1_errBack (x5 x9 x12 : Nat) (y : Int) (b : Nat) (ls : List Int) (b2 : Nat) (B : List Int) (at_ : Nat) (out : List Int) (free : Int) (hE : HuffP.newE ls = 0) (hl : B.length < 500000000) (hB : BitP.Byt B) (ha : at_ ≤ 8 * B.length) (htk : ∀ n s, HuffP.tk ls B at_ ≠ .hit n s) : Ctr Try.prog 23 [.pointer (some ⟨x5, 0, none⟩), .pointer (some ⟨x9, 0, none⟩), .pointer (some ⟨x12, 0, none⟩)] [Cel x12 3 [.int .i64 y], Cel x5 24 [.pointer (some ⟨b, 0, none⟩)], Cel x9 36 [.pointer (some ⟨b2, 0, none⟩)], HC b ls, LW b2 B at_ out free] (Pan fun ch G => (∃ t u, ch = pan1 t u) ∧ ∃ n, G = [Cel x12 3 [.int .i64 y], Cel x5 24 [.pointer (some ⟨b, 0, none⟩)], Cel x9 36 [.pointer (some ⟨b2, 0, none⟩)], HC b ls, LW b2 B (at_ + n) out free]) := by
  refine spec_of [(0, _), (1, _), (2, _)] Try.func23 rfl Try.ntmps23 rfl rfl ?_
  intro w0 F
  refine w_region ?_
  refine o_val (v_load V.s24 rfl (by first | exact mm0 | exact mm1 | exact mm2 | exact mm3 | exact mm4 | exact mm5 | exact mm6 | exact mm7 | exact mm8 | exact mm9 | exact mm10 | exact mm11 | exact mm12 | exact mm13 | exact mm14) rfl) rfl ?_
  refine o_val (v_load V.s36 rfl (by first | exact mm0 | exact mm1 | exact mm2 | exact mm3 | exact mm4 | exact mm5 | exact mm6 | exact mm7 | exact mm8 | exact mm9 | exact mm10 | exact mm11 | exact mm12 | exact mm13 | exact mm14) rfl) rfl ?_
  refine o_callE (h_take_err b ls b2 B at_ out free hE hl hB ha htk) V.b17 rfl (.cons (by first | exact rr0 | exact rr1 | exact rr2 | exact rr3 | exact rr4 | exact rr5 | exact rr6 | exact rr7 | exact rr8 | exact rr9 | exact rr10 | exact rr11 | exact rr12 | exact rr13 | exact rr14) (.cons (by first | exact rr0 | exact rr1 | exact rr2 | exact rr3 | exact rr4 | exact rr5 | exact rr6 | exact rr7 | exact rr8 | exact rr9 | exact rr10 | exact rr11 | exact rr12 | exact rr13 | exact rr14) .nil)) ?_
  rintro _ _ ⟨⟨t, u, rfl⟩, n, rfl⟩
  skip
  exact pan_ok (G := [Cel x12 3 [.int .i64 y], Cel x5 24 [.pointer (some ⟨b, 0, none⟩)], Cel x9 36 [.pointer (some ⟨b2, 0, none⟩)], HC b ls, LW b2 B (at_ + n) out free]) ⟨⟨t, u, rfl⟩, n, rfl⟩ (sub (.cons (by first | exact rr0 | exact rr1 | exact rr2 | exact rr3 | exact rr4 | exact rr5 | exact rr6 | exact rr7 | exact rr8 | exact rr9 | exact rr10 | exact rr11 | exact rr12 | exact rr13 | exact rr14) (.cons (by first | exact rr0 | exact rr1 | exact rr2 | exact rr3 | exact rr4 | exact rr5 | exact rr6 | exact rr7 | exact rr8 | exact rr9 | exact rr10 | exact rr11 | exact rr12 | exact rr13 | exact rr14) (.cons (by first | exact rr0 | exact rr1 | exact rr2 | exact rr3 | exact rr4 | exact rr5 | exact rr6 | exact rr7 | exact rr8 | exact rr9 | exact rr10 | exact rr11 | exact rr12 | exact rr13 | exact rr14) (.cons (by first | exact rr0 | exact rr1 | exact rr2 | exact rr3 | exact rr4 | exact rr5 | exact rr6 | exact rr7 | exact rr8 | exact rr9 | exact rr10 | exact rr11 | exact rr12 | exact rr13 | exact rr14) (.cons (by first | exact rr0 | exact rr1 | exact rr2 | exact rr3 | exact rr4 | exact rr5 | exact rr6 | exact rr7 | exact rr8 | exact rr9 | exact rr10 | exact rr11 | exact rr12 | exact rr13 | exact rr14) .nil))))) (by first | exact dd0 | exact dd1 | exact dd2 | exact dd3 | exact dd4 | exact dd5 | exact dd6 | exact dd7 | exact dd8 | exact dd9 | exact dd10 | exact dd11 | exact dd12 | exact dd13 | exact dd14))
end Go.Proofs.Ytmclopghpnndnaa
