/- Walks of functions that the law reaches, and what they lean on; no conditions. -/
import Derived.Test.YtookicfejdbddaaGreatM4
import Derived.Test.YtookicfejdbddaaGreatM7
import Derived.Test.YtookicfejdbddaaGreatSl24
import Derived.Test.YtookicfejdbddaaGreatUsFacts
set_option linter.unusedVariables false
set_option linter.unusedSimpArgs false
set_option linter.unnecessarySimpa false
set_option maxRecDepth 100000
namespace Go.Sl
abbrev I3 : Ec Int := ecI 3 .i64
abbrev W63 : Ec (Int × Int) := ⟨440, 2, fun x => [.int .i64 x.1, .int .i64 x.2], (0, 0), fun _ => rfl, fun _ => rfl⟩
structure Cv where
  p1 : Option Addr
  c1 : Nat
  p2 : Option Addr
  c2 : Nat
def HC (b : Nat) (ls : List Int) : HProp := fun w0 h => ∃ i : Cv, True ∧ sats w0 [Cel b 436 (CA [.slice i.p1 ls.length i.c1] .i64 (HuffP.cntL ls) [.slice i.p2 (HuffP.ord ls).length i.c2, .int .i64 (HuffP.mostL ls)]), Row W63 i.p1 ls.length i.c1 (HuffP.words ls), Row I3 i.p2 (HuffP.ord ls).length i.c2 (HuffP.ord ls)] h
end Go.Sl
namespace Go.Sl
def RC (b : Nat) (ls : List Int) : HProp := fun w0 h => ∃ i : Cv, True ∧ sats w0 [Cel b 286 (CA [] .i64 (HuffP.cntL ls) [.slice i.p1 (HuffP.ord ls).length i.c1, .slice i.p2 ls.length i.c2]), Row I3 i.p1 (HuffP.ord ls).length i.c1 (HuffP.ord ls), Row I3 i.p2 ls.length i.c2 ls] h
theorem rc_close {b c1 c2 : Nat} {p1 p2 : Option Addr} {ls : List Int} {w0 : World} {h : Hp}
    (hh : sats w0 [Cel b 286 (CA [] .i64 (HuffP.cntL ls) [.slice p1 (HuffP.ord ls).length c1, .slice p2 ls.length c2]), Row I3 p1 (HuffP.ord ls).length c1 (HuffP.ord ls), Row I3 p2 ls.length c2 ls] h) : RC b ls w0 h := ⟨⟨p1, c1, p2, c2⟩, trivial, hh⟩
end Go.Sl
namespace Go.Sl
abbrev U5 : Ec Int := ecI 5 .u8
structure Lv where
  p1 : Option Addr
  c1 : Nat
  p2 : Option Addr
  c2 : Nat
def LW (b : Nat) (B : List Int) (at_ : Nat) (out : List Int) (free : Int) : HProp := fun w0 h => ∃ i : Lv, True ∧ sats w0 [Cel b 399 [.slice i.p1 B.length i.c1, .slice i.p2 out.length i.c2, .int .i64 (at_ : Int), .int .i64 free], Row U5 i.p1 B.length i.c1 B, Row U5 i.p2 out.length i.c2 out] h
def WB (b : Nat) (bs : List Int) : HProp := fun w0 h => ∃ i : List Int × Nat, (BitP.Pk bs i.1 i.2 ∧ i.2 < 8) ∧ sats w0 [LW b [] 0 i.1 (i.2 : Int)] h
end Go.Sl
namespace Go.Sl
structure Mi where
  po : Option Addr
  co : Nat
def MS (b bl : Nat) (sz mo : Int) (li di : Value) (s : InfP.St) : HProp := fun w0 h => ∃ i : Mi, True ∧ sats w0 [Cel b 392 [.pointer (some ⟨bl, 0, none⟩), .int .i64 sz, .int .i64 mo, .slice i.po s.out.length i.co, .bool s.ended, .int .i64 0, .int .i64 s.kind, .int .i64 (s.left : Int), .bool s.last, li, di, .int .i64 (s.copies : Int), .int .i64 (s.far : Int)], Row U5 i.po s.out.length i.co s.out] h
structure Vx where
  v3 : Value
  v4 : Value
  v5 : Value
  v6 : Value
  v7 : Value
  v8 : Value
  v9 : Value
  v10 : Value
  v11 : Value
  v12 : Value
def MX (b bl : Nat) (sz mo : Int) : HProp := fun w0 h => ∃ i : Vx, True ∧ sats w0 [Cel b 392 [.pointer (some ⟨bl, 0, none⟩), .int .i64 sz, .int .i64 mo, i.v3, i.v4, i.v5, i.v6, i.v7, i.v8, i.v9, i.v10, i.v11, i.v12]] h
def PE (e : Int) (ch : List PanicEntry) : Prop := (ch = pan1 377 (.agg #[]) ∧ e = 2) ∨ (ch = pan1 400 (.agg #[]) ∧ e = 4) ∨ (ch = pan1 29 (.int .i64 e) ∧ e ≠ 0)
def PostE {α : Type} (E : Except Int α) (R : α → Value → List HProp → Prop) (Gx : List HProp) : Ending → List HProp → Prop := RetPan (fun v G => ∃ x, E = .ok x ∧ R x v G) (fun ch G => ∃ e, E = .error e ∧ PE e ch ∧ G = Gx)
section
variable {P : Program} {f : FuncId} {args : List Value} {Pre Gx : List HProp} {α : Type} {E : Except Int α} {R : α → Value → List HProp → Prop}
variable {C : Ctx} {Q : QT} {En : Env} {L F G : List HProp} {rs : Array ResultVar} {v : Value} {ch : List PanicEntry}
end
end Go.Sl
namespace Go.Sl
theorem ba_eq {l m : List Int} {t : Bool} (hl : ∀ x ∈ l, 0 ≤ x ∧ x < 256) (hm : ∀ x ∈ m, 0 ≤ x ∧ x < 256) (ht : t = decide (l = m)) : ((strOfNums l).toList == (strOfNums m).toList) = t := by
  by_cases h : l = m
  · rw [ht, decide_eq_true h, h]; exact beq_self_eq_true _
  · rw [ht, decide_eq_false h]; exact ba_ne hl hm h
theorem v_sk {C : Ctx} {E : Env} {L : List HProp} {ty : TypeId} {x y : Operand} {t t' : TypeId} {l : List Int} (m : List Int) (hl : ∀ x ∈ l, 0 ≤ x ∧ x < 256) (hm : ∀ x ∈ m, 0 ≤ x ∧ x < 256) (hx : evalE E x = some (.string (strOfNums l))) (hy : evalE E y = some (.string (strOfNums m))) : OpV C (.binOp .eql t x y t') ty E L (.bool (decide (l = m))) L := s_eq hx hy (ba_eq hl hm rfl)
theorem str_take (l : List Int) (n : Nat) : (strOfNums l).extract 0 n = strOfNums (l.take n) := by
  refine ByteArray.ext ?_
  rw [ByteArray.data_extract]
  refine Array.ext' ?_
  simp [strOfNums, List.map_take]
theorem rdr_tk {c : Ec Int} {p : Option Addr} {l : List Int} {R : HProp} (hR : ∀ w0 h, R w0 h → RdR c p l.length l w0 h) (k n : Nat) (hn : n = (l.take k).length) : ∀ w0 h, R w0 h → RdR c p n (l.take k) w0 h := fun w0 h hh => by
  subst hn
  have hle : (l.take k).length ≤ l.length := by rw [List.length_take]; omega
  have := (hR w0 h hh).sub 0 (l.take k).length l.length (Nat.zero_le _) hle hle
  rw [subP_zero, Nat.sub_zero, List.drop_zero] at this
  rwa [show l.take (l.take k).length = l.take k from by
    rw [List.length_take]
    rcases Nat.le_total k l.length with h | h
    · rw [Nat.min_eq_left h]
    · rw [Nat.min_eq_right h, List.take_of_length_le h, List.take_length]] at this
theorem rdr_part {c : Ec Int} {p : Option Addr} {cap : Nat} {l : List Int} {R : HProp} (hc : c.sz = 1) (hR : ∀ w0 h, R w0 h → RdR c p l.length l w0 h) (a b n : Nat) (hab : a ≤ b) (hb : b ≤ l.length) (hcap : l.length ≤ cap) (hn : n = b - a) : ∀ w0 h, R w0 h → RdR c (subP p a cap 1) n ((l.drop a).take n) w0 h := fun w0 h hh => by
  subst hn
  have := (hR w0 h hh).sub a b cap hab hb (by omega)
  rwa [hc] at this
end Go.Sl
namespace Go.Proofs.YtookicfejdbddaaGreat
open Go.Sl 
attribute [local irreducible] BitP.Byt UsP.hi UsP.lo UsP.dn UsP.sg UsP.sizeE UsP.kind UsP.bgs UsP.sgn UsP.g7 UsP.g9 UsP.bm UsP.sid UsP.lst UsP.err UsP.pw UsP.ph UsP.cost UsP.room
set_option maxHeartbeats 1000000 in
theorem u_high (p : Option Addr) (c n : Nat) (L : List Int) (R : HProp) (hR : ∀ w0 h, R w0 h → RdR U5 p n L w0 h) (hn : L.length = n) (hB : BitP.Byt L) (h4 : n ≤ 4) : Ctr Tryz.prog 237 [.slice p n c] [R] (Ret fun v G => v = .int .i64 (UsP.hi L 0 n) ∧ G = [R]) := by
  refine spec_of [(0, _)] Tryz.func237 rfl Tryz.ntmps237 rfl rfl ?_
  intro w0 F
  refine w_seq ?_
  refine w_region ?_
  refine o_val (v_assign rfl) rfl ?_
  refine o_nil ?_
  refine thn_n ?_
  refine w_seq ?_
  refine w_region ?_
  refine o_val (v_assign rfl) rfl ?_
  refine o_nil ?_
  refine thn_n ?_
  refine w_seq ?_
  refine w_seq ?_
  refine w_region ?_
  refine o_val (v_move rfl) rfl ?_
  refine o_val (v_len (ty' := 0) Tryz.underlying28 rfl) rfl ?_
  refine o_val (v_move rfl) rfl ?_
  refine o_nil ?_
  refine thn_n ?_
  refine w_block ?_
  rw [show ((3 : Nat), Value.int .i64 0) = (3, .int .i64 (UsP.hi L 0 0)) from by unfold UsP.hi; rfl]
  refine w_loop1 (fun (k : Nat) => [(3, .int .i64 (UsP.hi L 0 k)), (6, .slice p n c), (7, .int .i64 (n : Int)), (8, .int .i64 (k : Int))]) (fun (k : Nat) => R :: F) (fun (k : Nat) => k ≤ n) (fun (k : Nat) => n - k) (i1 (0) ?_ (.cons rfl (.cons rfl (.cons rfl (.cons rfl (.nil _))))) (sub (.cons (by repeat first | exact .head | apply Rem.tail) .nil) (by repeat first | exact .refl | apply Drop.skip))) ?_
  ·
    exact Nat.zero_le _
  intro k
  rintro hk
  refine w_seq ?_
  refine w_region ?_
  refine o_val (v_lss rfl rfl) rfl ?_
  refine o_nil ?_
  refine thn_n ?_
  refine w_seq ?_
  first | refine w_condD rfl (fun h9 => ?_) (fun h9 => ?_) | refine w_cond rfl (fun h9 => ?_) (fun h9 => ?_)
  ·
    refine w_skip ?_
    refine thn_n ?_
    refine w_seq ?_
    refine w_block ?_
    refine w_seq ?_
    have hv : 0 ≤ (U5.g L (k : Int)) ∧ (U5.g L (k : Int)) < 256 := hB.get k
    have ha := UsP.hi_in hB 0 k (by omega)
    have ha3 := ha.2.2 (by omega)
    refine w_region ?_
    refine o_val (r_index (c := (U5)) W.sl28 rfl rfl (by first | exact own mm0 | exact own mm1 | exact own mm2 | exact own mm3 | exact own mm4 | exact own mm5 | exact own mm6 | exact own mm7 | exact own mm8 | exact own mm9 | exact own mm10 | exact own mm11 | exact rdH hR mm0 | exact rdH hR mm1 | exact rdH hR mm2 | exact rdH hR mm3 | exact rdH hR mm4 | exact rdH hR mm5 | exact rdH hR mm6 | exact rdH hR mm7 | exact rdH hR mm8 | exact rdH hR mm9 | exact rdH hR mm10 | exact rdH hR mm11) (by omega) (by omega)) rfl ?_
    refine o_val (r_load (c := (U5)) W.s5 rfl (by first | exact own mm0 | exact own mm1 | exact own mm2 | exact own mm3 | exact own mm4 | exact own mm5 | exact own mm6 | exact own mm7 | exact own mm8 | exact own mm9 | exact own mm10 | exact own mm11 | exact rdH hR mm0 | exact rdH hR mm1 | exact rdH hR mm2 | exact rdH hR mm3 | exact rdH hR mm4 | exact rdH hR mm5 | exact rdH hR mm6 | exact rdH hR mm7 | exact rdH hR mm8 | exact rdH hR mm9 | exact rdH hR mm10 | exact rdH hR mm11) (by omega) (by omega) rfl rfl) rfl ?_
    refine o_val (v_assign rfl) rfl ?_
    refine o_nil ?_
    refine thn_n ?_
    refine w_region ?_
    refine o_val (v_move rfl) rfl ?_
    refine o_val (v_shl (r := (UsP.hi L 0 k) * 256) rfl rfl (by decide) (UsP.shlI (n := 8) rfl (by decide) rfl (by omega) (by omega))) rfl ?_
    refine o_val (v_move rfl) rfl ?_
    refine o_val (v_conv W.u5 Tryz.underlying3 rfl (wrapI (by omega) (by omega))) rfl ?_
    refine o_val (v_or (r := (UsP.hi L 0 k) * 256 + (U5.g L (k : Int))) rfl rfl (UsP.or64 (u := (UsP.hi L 0 k)) (n := 8) rfl ha.1 (by omega) (by omega))) rfl ?_
    refine o_val (v_assign rfl) rfl ?_
    refine o_nil ?_
    refine blk_n ?_
    refine thn_n ?_
    refine w_region ?_
    refine o_val (v_add rfl rfl (wrapI (by omega) (by omega))) rfl ?_
    refine o_val (v_move rfl) rfl ?_
    refine o_nil ?_
    rw [show (UsP.hi L 0 k) * 256 + (U5.g L (k : Int)) = UsP.hi L 0 (k + 1) from by rw [UsP.hi, Nat.zero_add]; rfl]
    exact j1 (k + 1) ⟨by omega, by omega⟩ (.cons rfl (.cons rfl (.cons rfl (.cons rfl (.nil _))))) (sub (.cons (by repeat first | exact .head | apply Rem.tail) .nil) (by repeat first | exact .refl | apply Drop.skip))
  ·
    refine w_exit ?_
    refine thn_e ?_
    refine thn_e ?_
    refine blk_x ?_
    refine thn_n ?_
    refine w_seq ?_
    refine w_region ?_
    refine o_val (v_move rfl) rfl ?_
    refine o_val (v_assign rfl) rfl ?_
    refine o_nil ?_
    refine thn_n ?_
    refine w_ret ?_
    obtain rfl : k = n := by omega
    exact ret_ok (G := [R]) (res1 rfl) ⟨rfl, rfl⟩ (sub (.cons (by repeat first | exact .head | apply Rem.tail) .nil) (by repeat first | exact .refl | apply Drop.skip))
set_option maxHeartbeats 1000000 in
theorem u_low (p : Option Addr) (c n : Nat) (L : List Int) (R : HProp) (hR : ∀ w0 h, R w0 h → RdR U5 p n L w0 h) (hn : L.length = n) (hB : BitP.Byt L) (h4 : n ≤ 4) : Ctr Tryz.prog 429 [.slice p n c] [R] (Ret fun v G => v = .int .i64 (UsP.lo L 0 n) ∧ G = [R]) := by
  refine spec_of [(0, _)] Tryz.func429 rfl Tryz.ntmps429 rfl rfl ?_
  intro w0 F
  refine w_seq ?_
  refine w_region ?_
  refine o_val (v_assign rfl) rfl ?_
  refine o_nil ?_
  refine thn_n ?_
  refine w_seq ?_
  refine w_region ?_
  refine o_val (v_assign rfl) rfl ?_
  refine o_nil ?_
  refine thn_n ?_
  refine w_seq ?_
  refine w_seq ?_
  refine w_region ?_
  refine o_val (v_move rfl) rfl ?_
  refine o_val (v_len (ty' := 0) Tryz.underlying28 rfl) rfl ?_
  refine o_val (v_move rfl) rfl ?_
  refine o_nil ?_
  refine thn_n ?_
  refine w_block ?_
  rw [show ((3 : Nat), Value.int .i64 0) = (3, .int .i64 (UsP.lo L 0 0)) from by unfold UsP.lo; rfl]
  refine w_loop1 (fun (k : Nat) => [(3, .int .i64 (UsP.lo L 0 k)), (6, .slice p n c), (7, .int .i64 (n : Int)), (8, .int .i64 (k : Int))]) (fun (k : Nat) => R :: F) (fun (k : Nat) => k ≤ n) (fun (k : Nat) => n - k) (i1 (0) ?_ (.cons rfl (.cons rfl (.cons rfl (.cons rfl (.nil _))))) (sub (.cons (by repeat first | exact .head | apply Rem.tail) .nil) (by repeat first | exact .refl | apply Drop.skip))) ?_
  ·
    exact Nat.zero_le _
  intro k
  rintro hk
  refine w_seq ?_
  refine w_region ?_
  refine o_val (v_lss rfl rfl) rfl ?_
  refine o_nil ?_
  refine thn_n ?_
  refine w_seq ?_
  first | refine w_condD rfl (fun h9 => ?_) (fun h9 => ?_) | refine w_cond rfl (fun h9 => ?_) (fun h9 => ?_)
  ·
    refine w_skip ?_
    refine thn_n ?_
    refine w_seq ?_
    refine w_block ?_
    refine w_seq ?_
    have hv : 0 ≤ (U5.g L (k : Int)) ∧ (U5.g L (k : Int)) < 256 := hB.get k
    have ha := UsP.lo_in hB 0 k (by omega)
    have hs := UsP.sh_in hv (k := k) (by omega)
    have hst : UsP.lo L 0 (k + 1) = (UsP.lo L 0 k) + ((U5.g L (k : Int)) * 2 ^ (8 * k)) := by rw [UsP.lo, Nat.zero_add]; rfl
    have hs2 : ((U5.g L (k : Int)) * 2 ^ (8 * k)) + (UsP.lo L 0 k) < 4294967296 := by rw [Int.add_comm, ← hst]; exact UsP.lo_lt hB 0 (k + 1) (by omega)
    refine w_region ?_
    refine o_val (v_move rfl) rfl ?_
    refine o_val (r_index (c := (U5)) W.sl28 rfl rfl (by first | exact own mm0 | exact own mm1 | exact own mm2 | exact own mm3 | exact own mm4 | exact own mm5 | exact own mm6 | exact own mm7 | exact own mm8 | exact own mm9 | exact own mm10 | exact own mm11 | exact rdH hR mm0 | exact rdH hR mm1 | exact rdH hR mm2 | exact rdH hR mm3 | exact rdH hR mm4 | exact rdH hR mm5 | exact rdH hR mm6 | exact rdH hR mm7 | exact rdH hR mm8 | exact rdH hR mm9 | exact rdH hR mm10 | exact rdH hR mm11) (by omega) (by omega)) rfl ?_
    refine o_val (r_load (c := (U5)) W.s5 rfl (by first | exact own mm0 | exact own mm1 | exact own mm2 | exact own mm3 | exact own mm4 | exact own mm5 | exact own mm6 | exact own mm7 | exact own mm8 | exact own mm9 | exact own mm10 | exact own mm11 | exact rdH hR mm0 | exact rdH hR mm1 | exact rdH hR mm2 | exact rdH hR mm3 | exact rdH hR mm4 | exact rdH hR mm5 | exact rdH hR mm6 | exact rdH hR mm7 | exact rdH hR mm8 | exact rdH hR mm9 | exact rdH hR mm10 | exact rdH hR mm11) (by omega) (by omega) rfl rfl) rfl ?_
    refine o_val (v_assign rfl) rfl ?_
    refine o_val (v_assign rfl) rfl ?_
    refine o_nil ?_
    refine thn_n ?_
    refine w_region ?_
    refine o_val (v_move rfl) rfl ?_
    refine o_val (v_move rfl) rfl ?_
    refine o_val (v_conv W.u5 Tryz.underlying3 rfl (wrapI (by omega) (by omega))) rfl ?_
    refine o_val (v_move rfl) rfl ?_
    refine o_val (v_mul rfl rfl (wrapI (by omega) (by omega))) rfl ?_
    refine o_val (v_shl (r := ((U5.g L (k : Int)) * 2 ^ (8 * k))) rfl rfl (by omega) (UsP.shlI (n := 8 * k) (by omega) (by omega) rfl hs.1 hs.2)) rfl ?_
    refine o_val (v_or (r := (UsP.lo L 0 k) + ((U5.g L (k : Int)) * 2 ^ (8 * k))) rfl rfl (UsP.or64' (u := (U5.g L (k : Int))) (n := 8 * k) rfl hv.1 ha hs2)) rfl ?_
    refine o_val (v_assign rfl) rfl ?_
    refine o_nil ?_
    refine blk_n ?_
    refine thn_n ?_
    refine w_region ?_
    refine o_val (v_add rfl rfl (wrapI (by omega) (by omega))) rfl ?_
    refine o_val (v_move rfl) rfl ?_
    refine o_nil ?_
    rw [← hst]
    exact j1 (k + 1) ⟨by omega, by omega⟩ (.cons rfl (.cons rfl (.cons rfl (.cons rfl (.nil _))))) (sub (.cons (by repeat first | exact .head | apply Rem.tail) .nil) (by repeat first | exact .refl | apply Drop.skip))
  ·
    refine w_exit ?_
    refine thn_e ?_
    refine thn_e ?_
    refine blk_x ?_
    refine thn_n ?_
    refine w_seq ?_
    refine w_region ?_
    refine o_val (v_move rfl) rfl ?_
    refine o_val (v_assign rfl) rfl ?_
    refine o_nil ?_
    refine thn_n ?_
    refine w_ret ?_
    obtain rfl : k = n := by omega
    exact ret_ok (G := [R]) (res1 rfl) ⟨rfl, rfl⟩ (sub (.cons (by repeat first | exact .head | apply Rem.tail) .nil) (by repeat first | exact .refl | apply Drop.skip))
theorem u_signed (n : Int) : Ctr Tryz.prog 481 [.int .i64 n] [] (Ret fun v G => v = .int .i64 (UsP.sg n) ∧ G = []) := by
  refine spec_of [(0, _)] Tryz.func481 rfl Tryz.ntmps481 rfl rfl ?_
  intro w0 F
  have hs := UsP.sg_in n
  refine w_seq ?_
  refine w_region ?_
  refine o_val (v_assign rfl) rfl ?_
  refine o_nil ?_
  refine thn_n ?_
  refine w_seq ?_
  refine w_region ?_
  refine o_val (v_move rfl) rfl ?_
  refine o_val (v_conv (r := UsP.sg n) W.u3 Tryz.underlying21 rfl (by unfold UsP.sg; rfl)) rfl ?_
  refine o_val (v_conv (r := UsP.sg n) W.u21 Tryz.underlying3 rfl (wrapI (by omega) (by omega))) rfl ?_
  refine o_val (v_assign rfl) rfl ?_
  refine o_nil ?_
  refine thn_n ?_
  refine w_ret ?_
  exact ret_ok (G := []) (res1 rfl) ⟨rfl, rfl⟩ (sub .nil (by repeat first | exact .refl | apply Drop.skip))
set_option maxHeartbeats 1000000 in
theorem d_high (p : Option Addr) (c : Nat) (B : List Int) (R : HProp) (hR : ∀ w0 h, R w0 h → RdR U5 p B.length B w0 h) (hB : BitP.Byt B) (hl : B.length < 500000000) (hcap : B.length ≤ c) (a m : Nat) (hm : m ≤ 4) (ha : a + m ≤ B.length) : Ctr Tryz.prog 76 [.slice p B.length c, .int .i64 (a : Int), .int .i64 (m : Int)] [R] (Ret fun v G => v = .int .i64 (UsP.hi B a m) ∧ G = [R]) := by
  refine spec_of [(0, _), (1, _), (2, _)] Tryz.func76 rfl Tryz.ntmps76 rfl rfl ?_
  intro w0 F
  refine w_seq ?_
  refine w_region ?_
  refine o_val (v_assign rfl) rfl ?_
  refine o_nil ?_
  refine thn_n ?_
  refine w_seq ?_
  refine w_region ?_
  refine o_val (v_assign rfl) rfl ?_
  refine o_nil ?_
  refine thn_n ?_
  refine w_seq ?_
  refine w_seq ?_
  refine w_region ?_
  refine o_val (v_assign rfl) rfl ?_
  refine o_nil ?_
  refine thn_n ?_
  refine w_block ?_
  rw [show ((7 : Nat), Value.int .i64 0) = (7, .int .i64 (UsP.hi B a 0)) from by unfold UsP.hi; rfl]
  refine w_loop1 (fun (k : Nat) => [(0, .slice p B.length c), (1, .int .i64 (a : Int)), (2, .int .i64 (m : Int)), (7, .int .i64 (UsP.hi B a k)), (8, .int .i64 (k : Int))]) (fun (k : Nat) => R :: F) (fun (k : Nat) => k ≤ m) (fun (k : Nat) => m - k) (i1 (0) ?_ (.cons rfl (.cons rfl (.cons rfl (.cons rfl (.cons rfl (.nil _)))))) (sub (.cons (by repeat first | exact .head | apply Rem.tail) .nil) (by repeat first | exact .refl | apply Drop.skip))) ?_
  ·
    exact Nat.zero_le _
  intro k
  rintro hk
  refine w_seq ?_
  refine w_seq ?_
  refine w_region ?_
  refine o_val (v_move rfl) rfl ?_
  refine o_val (v_move rfl) rfl ?_
  refine o_val (v_lss rfl rfl) rfl ?_
  refine o_nil ?_
  refine thn_n ?_
  first | refine w_condD rfl (fun h11 => ?_) (fun h11 => ?_) | refine w_cond rfl (fun h11 => ?_) (fun h11 => ?_)
  ·
    refine w_skip ?_
    refine thn_n ?_
    refine w_seq ?_
    refine w_block ?_
    have hh4 := UsP.hi_in hB a k (by omega)
    have hv := hB.get (a + k)
    have hh3 := hh4.2.2 (by omega)
    have hq : U5.g B ((a : Int) + (k : Int)) = B.getD (a + k) 0 := gE (a + k) (by omega)
    refine w_region ?_
    refine o_val (v_move rfl) rfl ?_
    refine o_val (v_shl (r := (UsP.hi B a k) * 256) rfl rfl (by decide) (UsP.shlI (n := 8) rfl (by decide) rfl (by omega) (by omega))) rfl ?_
    refine o_val (v_move rfl) rfl ?_
    refine o_val (v_move rfl) rfl ?_
    refine o_val (v_move rfl) rfl ?_
    refine o_val (v_add rfl rfl (wrapI (by omega) (by omega))) rfl ?_
    refine o_val (r_index (c := (U5)) W.sl28 rfl rfl (by first | exact own mm0 | exact own mm1 | exact own mm2 | exact own mm3 | exact own mm4 | exact own mm5 | exact own mm6 | exact own mm7 | exact own mm8 | exact own mm9 | exact own mm10 | exact own mm11 | exact rdH hR mm0 | exact rdH hR mm1 | exact rdH hR mm2 | exact rdH hR mm3 | exact rdH hR mm4 | exact rdH hR mm5 | exact rdH hR mm6 | exact rdH hR mm7 | exact rdH hR mm8 | exact rdH hR mm9 | exact rdH hR mm10 | exact rdH hR mm11) (by omega) (by omega)) rfl ?_
    refine o_val (r_load (c := (U5)) W.s5 rfl (by first | exact own mm0 | exact own mm1 | exact own mm2 | exact own mm3 | exact own mm4 | exact own mm5 | exact own mm6 | exact own mm7 | exact own mm8 | exact own mm9 | exact own mm10 | exact own mm11 | exact rdH hR mm0 | exact rdH hR mm1 | exact rdH hR mm2 | exact rdH hR mm3 | exact rdH hR mm4 | exact rdH hR mm5 | exact rdH hR mm6 | exact rdH hR mm7 | exact rdH hR mm8 | exact rdH hR mm9 | exact rdH hR mm10 | exact rdH hR mm11) (by omega) (by omega) rfl rfl) rfl ?_
    rw [hq]
    refine o_val (v_conv W.u5 Tryz.underlying3 rfl (wrapI (by omega) (by omega))) rfl ?_
    refine o_val (v_or (r := (UsP.hi B a k) * 256 + B.getD (a + k) 0) rfl rfl (UsP.or64 (u := (UsP.hi B a k)) (n := 8) rfl hh4.1 (by omega) (by omega))) rfl ?_
    refine o_val (v_assign rfl) rfl ?_
    refine o_nil ?_
    refine blk_n ?_
    refine thn_n ?_
    refine w_region ?_
    refine o_val (v_move rfl) rfl ?_
    refine o_val (v_add rfl rfl (wrapI (by omega) (by omega))) rfl ?_
    refine o_val (v_assign rfl) rfl ?_
    refine o_nil ?_
    rw [show (UsP.hi B a k) * 256 + B.getD (a + k) 0 = (UsP.hi B a (k + 1)) from by rw [UsP.hi]]
    exact j1 (k + 1) ⟨by omega, by omega⟩ (.cons rfl (.cons rfl (.cons rfl (.cons rfl (.cons rfl (.nil _)))))) (sub (.cons (by repeat first | exact .head | apply Rem.tail) .nil) (by repeat first | exact .refl | apply Drop.skip))
  ·
    refine w_exit ?_
    refine thn_e ?_
    refine thn_e ?_
    refine blk_x ?_
    refine thn_n ?_
    refine w_seq ?_
    refine w_region ?_
    refine o_val (v_move rfl) rfl ?_
    refine o_val (v_assign rfl) rfl ?_
    refine o_nil ?_
    refine thn_n ?_
    refine w_ret ?_
    obtain rfl : k = m := by omega
    exact ret_ok (G := [R]) (res1 rfl) ⟨rfl, rfl⟩ (sub (.cons (by repeat first | exact .head | apply Rem.tail) .nil) (by repeat first | exact .refl | apply Drop.skip))
set_option maxHeartbeats 1000000 in
theorem d_low (p : Option Addr) (c : Nat) (B : List Int) (R : HProp) (hR : ∀ w0 h, R w0 h → RdR U5 p B.length B w0 h) (hB : BitP.Byt B) (hl : B.length < 500000000) (hcap : B.length ≤ c) (a m : Nat) (hm : m ≤ 4) (ha : a + m ≤ B.length) : Ctr Tryz.prog 75 [.slice p B.length c, .int .i64 (a : Int), .int .i64 (m : Int)] [R] (Ret fun v G => v = .int .i64 (UsP.dn B a m m) ∧ G = [R]) := by
  refine spec_of [(0, _), (1, _), (2, _)] Tryz.func75 rfl Tryz.ntmps75 rfl rfl ?_
  intro w0 F
  refine w_seq ?_
  refine w_region ?_
  refine o_val (v_assign rfl) rfl ?_
  refine o_nil ?_
  refine thn_n ?_
  refine w_seq ?_
  refine w_region ?_
  refine o_val (v_assign rfl) rfl ?_
  refine o_nil ?_
  refine thn_n ?_
  refine w_seq ?_
  refine w_seq ?_
  refine w_region ?_
  refine o_val (v_move rfl) rfl ?_
  refine o_val (v_sub rfl rfl (wrapI (by omega) (by omega))) rfl ?_
  refine o_val (v_assign rfl) rfl ?_
  refine o_nil ?_
  refine thn_n ?_
  refine w_block ?_
  rw [show ((7 : Nat), Value.int .i64 0) = (7, .int .i64 (UsP.dn B a m 0)) from by unfold UsP.dn; rfl]
  refine w_loop2 (fun (k : Nat) (i : Int) => [(0, .slice p B.length c), (1, .int .i64 (a : Int)), (7, .int .i64 (UsP.dn B a m k)), (8, .int .i64 i)]) (fun (k : Nat) (i : Int) => R :: F) (fun (k : Nat) (i : Int) => k ≤ m ∧ i = (m : Int) - 1 - k) (fun (k : Nat) (i : Int) => m - k) (i2 (0) (((m : Int) - 1)) ?_ (.cons rfl (.cons rfl (.cons rfl (.cons rfl (.nil _))))) (sub (.cons (by repeat first | exact .head | apply Rem.tail) .nil) (by repeat first | exact .refl | apply Drop.skip))) ?_
  ·
    exact ⟨Nat.zero_le _, by omega⟩
  intro k i
  rintro ⟨hk, hi⟩
  refine w_seq ?_
  refine w_seq ?_
  refine w_region ?_
  refine o_val (v_move rfl) rfl ?_
  refine o_val (v_geq rfl rfl) rfl ?_
  refine o_nil ?_
  refine thn_n ?_
  first | refine w_condD rfl (fun h12 => ?_) (fun h12 => ?_) | refine w_cond rfl (fun h12 => ?_) (fun h12 => ?_)
  ·
    refine w_skip ?_
    refine thn_n ?_
    refine w_seq ?_
    refine w_block ?_
    have hh4 := UsP.dn_in hB a m k (by omega)
    have hv := hB.get (a + (m - 1 - k))
    have hh3 := hh4.2.2 (by omega)
    have hq : U5.g B ((a : Int) + i) = (B.getD (a + (m - 1 - k)) 0) := gE (a + (m - 1 - k)) (by omega)
    refine w_region ?_
    refine o_val (v_move rfl) rfl ?_
    refine o_val (v_shl (r := (UsP.dn B a m k) * 256) rfl rfl (by decide) (UsP.shlI (n := 8) rfl (by decide) rfl (by omega) (by omega))) rfl ?_
    refine o_val (v_move rfl) rfl ?_
    refine o_val (v_move rfl) rfl ?_
    refine o_val (v_move rfl) rfl ?_
    refine o_val (v_add rfl rfl (wrapI (by omega) (by omega))) rfl ?_
    refine o_val (r_index (c := (U5)) W.sl28 rfl rfl (by first | exact own mm0 | exact own mm1 | exact own mm2 | exact own mm3 | exact own mm4 | exact own mm5 | exact own mm6 | exact own mm7 | exact own mm8 | exact own mm9 | exact own mm10 | exact own mm11 | exact rdH hR mm0 | exact rdH hR mm1 | exact rdH hR mm2 | exact rdH hR mm3 | exact rdH hR mm4 | exact rdH hR mm5 | exact rdH hR mm6 | exact rdH hR mm7 | exact rdH hR mm8 | exact rdH hR mm9 | exact rdH hR mm10 | exact rdH hR mm11) (by omega) (by omega)) rfl ?_
    refine o_val (r_load (c := (U5)) W.s5 rfl (by first | exact own mm0 | exact own mm1 | exact own mm2 | exact own mm3 | exact own mm4 | exact own mm5 | exact own mm6 | exact own mm7 | exact own mm8 | exact own mm9 | exact own mm10 | exact own mm11 | exact rdH hR mm0 | exact rdH hR mm1 | exact rdH hR mm2 | exact rdH hR mm3 | exact rdH hR mm4 | exact rdH hR mm5 | exact rdH hR mm6 | exact rdH hR mm7 | exact rdH hR mm8 | exact rdH hR mm9 | exact rdH hR mm10 | exact rdH hR mm11) (by omega) (by omega) rfl rfl) rfl ?_
    rw [hq]
    refine o_val (v_conv W.u5 Tryz.underlying3 rfl (wrapI (by omega) (by omega))) rfl ?_
    refine o_val (v_or (r := (UsP.dn B a m k) * 256 + (B.getD (a + (m - 1 - k)) 0)) rfl rfl (UsP.or64 (u := (UsP.dn B a m k)) (n := 8) rfl hh4.1 (by omega) (by omega))) rfl ?_
    refine o_val (v_assign rfl) rfl ?_
    refine o_nil ?_
    refine blk_n ?_
    refine thn_n ?_
    refine w_region ?_
    refine o_val (v_move rfl) rfl ?_
    refine o_val (v_sub rfl rfl (wrapI (by omega) (by omega))) rfl ?_
    refine o_val (v_assign rfl) rfl ?_
    refine o_nil ?_
    rw [show (UsP.dn B a m k) * 256 + (B.getD (a + (m - 1 - k)) 0) = (UsP.dn B a m (k + 1)) from by rw [UsP.dn]]
    exact j2 (k + 1) (i - 1) ⟨⟨by omega, by omega⟩, by omega⟩ (.cons rfl (.cons rfl (.cons rfl (.cons rfl (.nil _))))) (sub (.cons (by repeat first | exact .head | apply Rem.tail) .nil) (by repeat first | exact .refl | apply Drop.skip))
  ·
    refine w_exit ?_
    refine thn_e ?_
    refine thn_e ?_
    refine blk_x ?_
    refine thn_n ?_
    refine w_seq ?_
    refine w_region ?_
    refine o_val (v_move rfl) rfl ?_
    refine o_val (v_assign rfl) rfl ?_
    refine o_nil ?_
    refine thn_n ?_
    refine w_ret ?_
    obtain rfl : k = m := by omega
    exact ret_ok (G := [R]) (res1 rfl) ⟨rfl, rfl⟩ (sub (.cons (by repeat first | exact .head | apply Rem.tail) .nil) (by repeat first | exact .refl | apply Drop.skip))
theorem d_signed (p : Option Addr) (c : Nat) (B : List Int) (R : HProp) (hR : ∀ w0 h, R w0 h → RdR U5 p B.length B w0 h) (hB : BitP.Byt B) (hl : B.length < 500000000) (hcap : B.length ≤ c) (a : Nat) (ha : a + 4 ≤ B.length) : Ctr Tryz.prog 77 [.slice p B.length c, .int .i64 (a : Int)] [R] (Ret fun v G => v = .int .i64 (UsP.sg (UsP.lo B a 4)) ∧ G = [R]) := by
  refine spec_of [(0, _), (1, _)] Tryz.func77 rfl Tryz.ntmps77 rfl rfl ?_
  intro w0 F
  have hs := UsP.sg_in (UsP.lo B a 4)
  have hlo := UsP.lo_4 hB a
  refine w_seq ?_
  refine w_region ?_
  refine o_val (v_assign rfl) rfl ?_
  refine o_nil ?_
  refine thn_n ?_
  refine w_seq ?_
  refine w_region ?_
  refine o_val (v_move rfl) rfl ?_
  refine o_val (v_move rfl) rfl ?_
  refine o_call (d_low p c B R hR hB hl hcap a 4 (by decide) ha) W.b75  rfl (.cons (by repeat first | exact .head | apply Rem.tail) .nil) rfl ?_
  rintro _ _ ⟨rfl, rfl⟩
  rw [UsP.dn_4]
  refine o_val (v_conv (r := UsP.lo B a 4) W.u3 Tryz.underlying191 rfl (UsP.wrap32 hlo.1 hlo.2)) rfl ?_
  refine o_val (v_conv (r := UsP.sg (UsP.lo B a 4)) W.u191 Tryz.underlying21 rfl (by unfold UsP.sg; rfl)) rfl ?_
  refine o_val (v_conv (r := UsP.sg (UsP.lo B a 4)) W.u21 Tryz.underlying3 rfl (wrapI (by omega) (by omega))) rfl ?_
  refine o_val (v_assign rfl) rfl ?_
  refine o_nil ?_
  refine thn_n ?_
  refine w_ret ?_
  exact ret_ok (G := [R]) (res1 rfl) ⟨rfl, rfl⟩ (sub (.cons (by repeat first | exact .head | apply Rem.tail) .nil) (by repeat first | exact .refl | apply Drop.skip))
set_option maxHeartbeats 1000000 in
theorem a_size (w h : Int) : Ctr Tryz.prog 74 [.int .i64 w, .int .i64 h] [] (Ret fun v G => v = .int .i64 (UsP.sizeE w h) ∧ G = []) := by
  refine spec_of [(0, _), (1, _)] Tryz.func74 rfl Tryz.ntmps74 rfl rfl ?_
  intro w0 F
  refine w_seq ?_
  refine w_region ?_
  refine o_val (v_assign rfl) rfl ?_
  refine o_nil ?_
  refine thn_n ?_
  refine w_seq ?_
  refine w_block ?_
  rcases (UsP.size6 w h) with ⟨a0, hs⟩ | ⟨a0, a1, hs⟩ | ⟨a0, a1, a2, hs⟩ | ⟨a0, a1, a2, a3, hs⟩ | ⟨a0, a1, a2, a3, a4, hs⟩ | ⟨a0, a1, a2, a3, a4, hs⟩
  ·
    refine w_seq ?_
    refine w_region ?_
    refine o_val (v_move rfl) rfl ?_
    refine o_val (v_T (v_lss rfl rfl) (by omega)) rfl ?_
    refine o_val (v_move rfl) rfl ?_
    refine o_pass rfl rfl rfl ?_
    refine o_pass rfl rfl rfl ?_
    refine o_val (v_pickT rfl rfl) rfl ?_
    refine o_val (v_assign rfl) rfl ?_
    refine o_nil ?_
    refine thn_n ?_
    refine w_condT rfl ?_
    refine w_seq ?_
    refine w_region ?_
    refine o_val (v_assign rfl) rfl ?_
    refine o_nil ?_
    refine thn_n ?_
    refine w_ret ?_
    refine (blk_r (thn_r ?_))
    exact ret_ok (G := []) (res1 rfl) ⟨congrArg (Value.int .i64) hs.symm, rfl⟩ (sub .nil (by repeat first | exact .refl | apply Drop.skip))
  ·
    refine w_seq ?_
    refine w_region ?_
    refine o_val (v_move rfl) rfl ?_
    refine o_val (v_F (v_lss rfl rfl) (by omega)) rfl ?_
    refine o_val (v_move rfl) rfl ?_
    refine o_want rfl ?_
    refine o_val (v_move rfl) rfl ?_
    refine o_want rfl ?_
    refine o_val (v_T (v_lss rfl rfl) (by omega)) rfl ?_
    refine o_val (v_pickF rfl rfl) rfl ?_
    refine o_val (v_assign rfl) rfl ?_
    refine o_nil ?_
    refine thn_n ?_
    refine w_condT rfl ?_
    refine w_seq ?_
    refine w_region ?_
    refine o_val (v_assign rfl) rfl ?_
    refine o_nil ?_
    refine thn_n ?_
    refine w_ret ?_
    refine (blk_r (thn_r ?_))
    exact ret_ok (G := []) (res1 rfl) ⟨congrArg (Value.int .i64) hs.symm, rfl⟩ (sub .nil (by repeat first | exact .refl | apply Drop.skip))
  ·
    refine w_seq ?_
    refine w_region ?_
    refine o_val (v_move rfl) rfl ?_
    refine o_val (v_F (v_lss rfl rfl) (by omega)) rfl ?_
    refine o_val (v_move rfl) rfl ?_
    refine o_want rfl ?_
    refine o_val (v_move rfl) rfl ?_
    refine o_want rfl ?_
    refine o_val (v_F (v_lss rfl rfl) (by omega)) rfl ?_
    refine o_val (v_pickF rfl rfl) rfl ?_
    refine o_val (v_assign rfl) rfl ?_
    refine o_nil ?_
    refine thn_n ?_
    refine w_condF rfl ?_
    refine w_seq ?_
    refine w_region ?_
    refine o_val (v_move rfl) rfl ?_
    refine o_val (v_T (v_gtr rfl rfl) (by omega)) rfl ?_
    refine o_val (v_move rfl) rfl ?_
    refine o_pass rfl rfl rfl ?_
    refine o_pass rfl rfl rfl ?_
    refine o_val (v_pickT rfl rfl) rfl ?_
    refine o_val (v_move rfl) rfl ?_
    refine o_pass rfl rfl rfl ?_
    refine o_pass rfl rfl rfl ?_
    refine o_pass rfl rfl rfl ?_
    refine o_pass rfl rfl rfl ?_
    refine o_val (v_pickT rfl rfl) rfl ?_
    refine o_val (v_assign rfl) rfl ?_
    refine o_nil ?_
    refine thn_n ?_
    refine w_condT rfl ?_
    refine w_seq ?_
    refine w_region ?_
    refine o_val (v_assign rfl) rfl ?_
    refine o_nil ?_
    refine thn_n ?_
    refine w_ret ?_
    refine (blk_r (thn_r ?_))
    exact ret_ok (G := []) (res1 rfl) ⟨congrArg (Value.int .i64) hs.symm, rfl⟩ (sub .nil (by repeat first | exact .refl | apply Drop.skip))
  ·
    refine w_seq ?_
    refine w_region ?_
    refine o_val (v_move rfl) rfl ?_
    refine o_val (v_F (v_lss rfl rfl) (by omega)) rfl ?_
    refine o_val (v_move rfl) rfl ?_
    refine o_want rfl ?_
    refine o_val (v_move rfl) rfl ?_
    refine o_want rfl ?_
    refine o_val (v_F (v_lss rfl rfl) (by omega)) rfl ?_
    refine o_val (v_pickF rfl rfl) rfl ?_
    refine o_val (v_assign rfl) rfl ?_
    refine o_nil ?_
    refine thn_n ?_
    refine w_condF rfl ?_
    refine w_seq ?_
    refine w_region ?_
    refine o_val (v_move rfl) rfl ?_
    refine o_val (v_F (v_gtr rfl rfl) (by omega)) rfl ?_
    refine o_val (v_move rfl) rfl ?_
    refine o_want rfl ?_
    refine o_val (v_move rfl) rfl ?_
    refine o_want rfl ?_
    refine o_val (v_T (v_gtr rfl rfl) (by omega)) rfl ?_
    refine o_val (v_pickF rfl rfl) rfl ?_
    refine o_val (v_move rfl) rfl ?_
    refine o_pass rfl rfl rfl ?_
    refine o_pass rfl rfl rfl ?_
    refine o_pass rfl rfl rfl ?_
    refine o_pass rfl rfl rfl ?_
    refine o_val (v_pickT rfl rfl) rfl ?_
    refine o_val (v_assign rfl) rfl ?_
    refine o_nil ?_
    refine thn_n ?_
    refine w_condT rfl ?_
    refine w_seq ?_
    refine w_region ?_
    refine o_val (v_assign rfl) rfl ?_
    refine o_nil ?_
    refine thn_n ?_
    refine w_ret ?_
    refine (blk_r (thn_r ?_))
    exact ret_ok (G := []) (res1 rfl) ⟨congrArg (Value.int .i64) hs.symm, rfl⟩ (sub .nil (by repeat first | exact .refl | apply Drop.skip))
  ·
    refine w_seq ?_
    refine w_region ?_
    refine o_val (v_move rfl) rfl ?_
    refine o_val (v_F (v_lss rfl rfl) (by omega)) rfl ?_
    refine o_val (v_move rfl) rfl ?_
    refine o_want rfl ?_
    refine o_val (v_move rfl) rfl ?_
    refine o_want rfl ?_
    refine o_val (v_F (v_lss rfl rfl) (by omega)) rfl ?_
    refine o_val (v_pickF rfl rfl) rfl ?_
    refine o_val (v_assign rfl) rfl ?_
    refine o_nil ?_
    refine thn_n ?_
    refine w_condF rfl ?_
    refine w_seq ?_
    refine w_region ?_
    refine o_val (v_move rfl) rfl ?_
    refine o_val (v_F (v_gtr rfl rfl) (by omega)) rfl ?_
    refine o_val (v_move rfl) rfl ?_
    refine o_want rfl ?_
    refine o_val (v_move rfl) rfl ?_
    refine o_want rfl ?_
    refine o_val (v_F (v_gtr rfl rfl) (by omega)) rfl ?_
    refine o_val (v_pickF rfl rfl) rfl ?_
    refine o_val (v_move rfl) rfl ?_
    refine o_want rfl ?_
    refine o_val (v_move rfl) rfl ?_
    refine o_want rfl ?_
    refine o_val (v_move rfl) rfl ?_
    refine o_want rfl ?_
    refine o_val (v_quo (r := 16384 / h) rfl rfl (by omega) (UsP.quo_ok (by omega))) rfl ?_
    refine o_want rfl ?_
    refine o_val (v_T (v_gtr rfl rfl) (by omega)) rfl ?_
    refine o_val (v_pickF rfl rfl) rfl ?_
    refine o_val (v_assign rfl) rfl ?_
    refine o_nil ?_
    refine thn_n ?_
    refine w_condT rfl ?_
    refine w_seq ?_
    refine w_region ?_
    refine o_val (v_assign rfl) rfl ?_
    refine o_nil ?_
    refine thn_n ?_
    refine w_ret ?_
    refine (blk_r (thn_r ?_))
    exact ret_ok (G := []) (res1 rfl) ⟨congrArg (Value.int .i64) hs.symm, rfl⟩ (sub .nil (by repeat first | exact .refl | apply Drop.skip))
  ·
    refine w_seq ?_
    refine w_region ?_
    refine o_val (v_move rfl) rfl ?_
    refine o_val (v_F (v_lss rfl rfl) (by omega)) rfl ?_
    refine o_val (v_move rfl) rfl ?_
    refine o_want rfl ?_
    refine o_val (v_move rfl) rfl ?_
    refine o_want rfl ?_
    refine o_val (v_F (v_lss rfl rfl) (by omega)) rfl ?_
    refine o_val (v_pickF rfl rfl) rfl ?_
    refine o_val (v_assign rfl) rfl ?_
    refine o_nil ?_
    refine thn_n ?_
    refine w_condF rfl ?_
    refine w_seq ?_
    refine w_region ?_
    refine o_val (v_move rfl) rfl ?_
    refine o_val (v_F (v_gtr rfl rfl) (by omega)) rfl ?_
    refine o_val (v_move rfl) rfl ?_
    refine o_want rfl ?_
    refine o_val (v_move rfl) rfl ?_
    refine o_want rfl ?_
    refine o_val (v_F (v_gtr rfl rfl) (by omega)) rfl ?_
    refine o_val (v_pickF rfl rfl) rfl ?_
    refine o_val (v_move rfl) rfl ?_
    refine o_want rfl ?_
    refine o_val (v_move rfl) rfl ?_
    refine o_want rfl ?_
    refine o_val (v_move rfl) rfl ?_
    refine o_want rfl ?_
    refine o_val (v_quo (r := 16384 / h) rfl rfl (by omega) (UsP.quo_ok (by omega))) rfl ?_
    refine o_want rfl ?_
    refine o_val (v_F (v_gtr rfl rfl) (by omega)) rfl ?_
    refine o_val (v_pickF rfl rfl) rfl ?_
    refine o_val (v_assign rfl) rfl ?_
    refine o_nil ?_
    refine thn_n ?_
    refine w_condF rfl ?_
    refine w_skip ?_
    refine blk_n ?_
    refine thn_n ?_
    refine w_seq ?_
    refine w_region ?_
    refine o_val (v_assign rfl) rfl ?_
    refine o_nil ?_
    refine thn_n ?_
    refine w_ret ?_
    exact ret_ok (G := []) (res1 rfl) ⟨congrArg (Value.int .i64) hs.symm, rfl⟩ (sub .nil (by repeat first | exact .refl | apply Drop.skip))
set_option maxHeartbeats 1000000 in
theorem d_size (w h : Int) : Ctr Tryz.prog 78 [.int .i64 w, .int .i64 h] [] (Ret fun v G => v = .int .i64 (UsP.sizeE w h) ∧ G = []) := by
  refine spec_of [(0, _), (1, _)] Tryz.func78 rfl Tryz.ntmps78 rfl rfl ?_
  intro w0 F
  refine w_seq ?_
  refine w_region ?_
  refine o_val (v_assign rfl) rfl ?_
  refine o_nil ?_
  refine thn_n ?_
  refine w_seq ?_
  refine w_block ?_
  rcases (UsP.size6 w h) with ⟨a0, hs⟩ | ⟨a0, a1, hs⟩ | ⟨a0, a1, a2, hs⟩ | ⟨a0, a1, a2, a3, hs⟩ | ⟨a0, a1, a2, a3, a4, hs⟩ | ⟨a0, a1, a2, a3, a4, hs⟩
  ·
    refine w_seq ?_
    refine w_region ?_
    refine o_val (v_move rfl) rfl ?_
    refine o_val (v_T (v_lss rfl rfl) (by omega)) rfl ?_
    refine o_val (v_move rfl) rfl ?_
    refine o_pass rfl rfl rfl ?_
    refine o_pass rfl rfl rfl ?_
    refine o_val (v_pickT rfl rfl) rfl ?_
    refine o_val (v_assign rfl) rfl ?_
    refine o_nil ?_
    refine thn_n ?_
    refine w_condT rfl ?_
    refine w_seq ?_
    refine w_region ?_
    refine o_val (v_assign rfl) rfl ?_
    refine o_nil ?_
    refine thn_n ?_
    refine w_ret ?_
    refine (blk_r (thn_r ?_))
    exact ret_ok (G := []) (res1 rfl) ⟨congrArg (Value.int .i64) hs.symm, rfl⟩ (sub .nil (by repeat first | exact .refl | apply Drop.skip))
  ·
    refine w_seq ?_
    refine w_region ?_
    refine o_val (v_move rfl) rfl ?_
    refine o_val (v_F (v_lss rfl rfl) (by omega)) rfl ?_
    refine o_val (v_move rfl) rfl ?_
    refine o_want rfl ?_
    refine o_val (v_move rfl) rfl ?_
    refine o_want rfl ?_
    refine o_val (v_T (v_lss rfl rfl) (by omega)) rfl ?_
    refine o_val (v_pickF rfl rfl) rfl ?_
    refine o_val (v_assign rfl) rfl ?_
    refine o_nil ?_
    refine thn_n ?_
    refine w_condT rfl ?_
    refine w_seq ?_
    refine w_region ?_
    refine o_val (v_assign rfl) rfl ?_
    refine o_nil ?_
    refine thn_n ?_
    refine w_ret ?_
    refine (blk_r (thn_r ?_))
    exact ret_ok (G := []) (res1 rfl) ⟨congrArg (Value.int .i64) hs.symm, rfl⟩ (sub .nil (by repeat first | exact .refl | apply Drop.skip))
  ·
    refine w_seq ?_
    refine w_region ?_
    refine o_val (v_move rfl) rfl ?_
    refine o_val (v_F (v_lss rfl rfl) (by omega)) rfl ?_
    refine o_val (v_move rfl) rfl ?_
    refine o_want rfl ?_
    refine o_val (v_move rfl) rfl ?_
    refine o_want rfl ?_
    refine o_val (v_F (v_lss rfl rfl) (by omega)) rfl ?_
    refine o_val (v_pickF rfl rfl) rfl ?_
    refine o_val (v_assign rfl) rfl ?_
    refine o_nil ?_
    refine thn_n ?_
    refine w_condF rfl ?_
    refine w_seq ?_
    refine w_region ?_
    refine o_val (v_move rfl) rfl ?_
    refine o_val (v_T (v_gtr rfl rfl) (by omega)) rfl ?_
    refine o_val (v_move rfl) rfl ?_
    refine o_pass rfl rfl rfl ?_
    refine o_pass rfl rfl rfl ?_
    refine o_val (v_pickT rfl rfl) rfl ?_
    refine o_val (v_move rfl) rfl ?_
    refine o_pass rfl rfl rfl ?_
    refine o_pass rfl rfl rfl ?_
    refine o_pass rfl rfl rfl ?_
    refine o_pass rfl rfl rfl ?_
    refine o_val (v_pickT rfl rfl) rfl ?_
    refine o_val (v_assign rfl) rfl ?_
    refine o_nil ?_
    refine thn_n ?_
    refine w_condT rfl ?_
    refine w_seq ?_
    refine w_region ?_
    refine o_val (v_assign rfl) rfl ?_
    refine o_nil ?_
    refine thn_n ?_
    refine w_ret ?_
    refine (blk_r (thn_r ?_))
    exact ret_ok (G := []) (res1 rfl) ⟨congrArg (Value.int .i64) hs.symm, rfl⟩ (sub .nil (by repeat first | exact .refl | apply Drop.skip))
  ·
    refine w_seq ?_
    refine w_region ?_
    refine o_val (v_move rfl) rfl ?_
    refine o_val (v_F (v_lss rfl rfl) (by omega)) rfl ?_
    refine o_val (v_move rfl) rfl ?_
    refine o_want rfl ?_
    refine o_val (v_move rfl) rfl ?_
    refine o_want rfl ?_
    refine o_val (v_F (v_lss rfl rfl) (by omega)) rfl ?_
    refine o_val (v_pickF rfl rfl) rfl ?_
    refine o_val (v_assign rfl) rfl ?_
    refine o_nil ?_
    refine thn_n ?_
    refine w_condF rfl ?_
    refine w_seq ?_
    refine w_region ?_
    refine o_val (v_move rfl) rfl ?_
    refine o_val (v_F (v_gtr rfl rfl) (by omega)) rfl ?_
    refine o_val (v_move rfl) rfl ?_
    refine o_want rfl ?_
    refine o_val (v_move rfl) rfl ?_
    refine o_want rfl ?_
    refine o_val (v_T (v_gtr rfl rfl) (by omega)) rfl ?_
    refine o_val (v_pickF rfl rfl) rfl ?_
    refine o_val (v_move rfl) rfl ?_
    refine o_pass rfl rfl rfl ?_
    refine o_pass rfl rfl rfl ?_
    refine o_pass rfl rfl rfl ?_
    refine o_pass rfl rfl rfl ?_
    refine o_val (v_pickT rfl rfl) rfl ?_
    refine o_val (v_assign rfl) rfl ?_
    refine o_nil ?_
    refine thn_n ?_
    refine w_condT rfl ?_
    refine w_seq ?_
    refine w_region ?_
    refine o_val (v_assign rfl) rfl ?_
    refine o_nil ?_
    refine thn_n ?_
    refine w_ret ?_
    refine (blk_r (thn_r ?_))
    exact ret_ok (G := []) (res1 rfl) ⟨congrArg (Value.int .i64) hs.symm, rfl⟩ (sub .nil (by repeat first | exact .refl | apply Drop.skip))
  ·
    refine w_seq ?_
    refine w_region ?_
    refine o_val (v_move rfl) rfl ?_
    refine o_val (v_F (v_lss rfl rfl) (by omega)) rfl ?_
    refine o_val (v_move rfl) rfl ?_
    refine o_want rfl ?_
    refine o_val (v_move rfl) rfl ?_
    refine o_want rfl ?_
    refine o_val (v_F (v_lss rfl rfl) (by omega)) rfl ?_
    refine o_val (v_pickF rfl rfl) rfl ?_
    refine o_val (v_assign rfl) rfl ?_
    refine o_nil ?_
    refine thn_n ?_
    refine w_condF rfl ?_
    refine w_seq ?_
    refine w_region ?_
    refine o_val (v_move rfl) rfl ?_
    refine o_val (v_F (v_gtr rfl rfl) (by omega)) rfl ?_
    refine o_val (v_move rfl) rfl ?_
    refine o_want rfl ?_
    refine o_val (v_move rfl) rfl ?_
    refine o_want rfl ?_
    refine o_val (v_F (v_gtr rfl rfl) (by omega)) rfl ?_
    refine o_val (v_pickF rfl rfl) rfl ?_
    refine o_val (v_move rfl) rfl ?_
    refine o_want rfl ?_
    refine o_val (v_move rfl) rfl ?_
    refine o_want rfl ?_
    refine o_val (v_move rfl) rfl ?_
    refine o_want rfl ?_
    refine o_val (v_quo (r := 16384 / h) rfl rfl (by omega) (UsP.quo_ok (by omega))) rfl ?_
    refine o_want rfl ?_
    refine o_val (v_T (v_gtr rfl rfl) (by omega)) rfl ?_
    refine o_val (v_pickF rfl rfl) rfl ?_
    refine o_val (v_assign rfl) rfl ?_
    refine o_nil ?_
    refine thn_n ?_
    refine w_condT rfl ?_
    refine w_seq ?_
    refine w_region ?_
    refine o_val (v_assign rfl) rfl ?_
    refine o_nil ?_
    refine thn_n ?_
    refine w_ret ?_
    refine (blk_r (thn_r ?_))
    exact ret_ok (G := []) (res1 rfl) ⟨congrArg (Value.int .i64) hs.symm, rfl⟩ (sub .nil (by repeat first | exact .refl | apply Drop.skip))
  ·
    refine w_seq ?_
    refine w_region ?_
    refine o_val (v_move rfl) rfl ?_
    refine o_val (v_F (v_lss rfl rfl) (by omega)) rfl ?_
    refine o_val (v_move rfl) rfl ?_
    refine o_want rfl ?_
    refine o_val (v_move rfl) rfl ?_
    refine o_want rfl ?_
    refine o_val (v_F (v_lss rfl rfl) (by omega)) rfl ?_
    refine o_val (v_pickF rfl rfl) rfl ?_
    refine o_val (v_assign rfl) rfl ?_
    refine o_nil ?_
    refine thn_n ?_
    refine w_condF rfl ?_
    refine w_seq ?_
    refine w_region ?_
    refine o_val (v_move rfl) rfl ?_
    refine o_val (v_F (v_gtr rfl rfl) (by omega)) rfl ?_
    refine o_val (v_move rfl) rfl ?_
    refine o_want rfl ?_
    refine o_val (v_move rfl) rfl ?_
    refine o_want rfl ?_
    refine o_val (v_F (v_gtr rfl rfl) (by omega)) rfl ?_
    refine o_val (v_pickF rfl rfl) rfl ?_
    refine o_val (v_move rfl) rfl ?_
    refine o_want rfl ?_
    refine o_val (v_move rfl) rfl ?_
    refine o_want rfl ?_
    refine o_val (v_move rfl) rfl ?_
    refine o_want rfl ?_
    refine o_val (v_quo (r := 16384 / h) rfl rfl (by omega) (UsP.quo_ok (by omega))) rfl ?_
    refine o_want rfl ?_
    refine o_val (v_F (v_gtr rfl rfl) (by omega)) rfl ?_
    refine o_val (v_pickF rfl rfl) rfl ?_
    refine o_val (v_assign rfl) rfl ?_
    refine o_nil ?_
    refine thn_n ?_
    refine w_condF rfl ?_
    refine w_skip ?_
    refine blk_n ?_
    refine thn_n ?_
    refine w_seq ?_
    refine w_region ?_
    refine o_val (v_assign rfl) rfl ?_
    refine o_nil ?_
    refine thn_n ?_
    refine w_ret ?_
    exact ret_ok (G := []) (res1 rfl) ⟨congrArg (Value.int .i64) hs.symm, rfl⟩ (sub .nil (by repeat first | exact .refl | apply Drop.skip))
end Go.Proofs.YtookicfejdbddaaGreat
