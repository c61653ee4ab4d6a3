/- Walks of functions that the law reaches, and what they lean on; no conditions. -/
import Derived.Test.YtookicfejdbddaaGreatUpCol2
import Derived.Test.YtookicfejdbddaaGreatUfA
import Derived.Test.YtookicfejdbddaaGreatM22
set_option linter.unusedVariables false
set_option linter.unusedSimpArgs false
set_option linter.unnecessarySimpa false
set_option maxRecDepth 100000
namespace Go.Proofs.YtookicfejdbddaaGreat
open Go.Sl Go.Cr
noncomputable def spC (s : Cr.St) (b o c : Nat) (ob : Ob) : R1 := match cut ob.cs o 4 with
  | [.int .u16 _, .int .u16 _, .int .u16 _, .int .u16 _] => wb (Nat.ble 4 c) (.ok (.tup [.int .i64 (.ofNat 1), .bool true]) s)
  | _ => .no
noncomputable def spT (s : Cr.St) (b o : Nat) (ob : Ob) : R1 := match cut ob.cs o 2 with
  | [.int .u8 (.ofNat x), .int .u8 (.ofNat y)] => wb (Nat.blt x 256) (wb (Nat.blt y 256) (newO s 408 3 false [.int .i64 (.ofNat x), .int .i64 (.ofNat 0), .int .i64 (.ofNat 0), .int .i64 (.ofNat y), .int .i64 (.ofNat 0), .int .i64 (.ofNat 0)] fun id => .sli id 0 2 2))
  | _ => .no
noncomputable def spA (vs : List SV) (s : Cr.St) : R1 := match vs with
  | [.agg [.int .i64 (.ofNat 1), .int .i64 (.ofNat 1), .sli b o 4 c], .int .i64 (.ofNat (Nat.succ _))] => wO s b (spC s b o c)
  | _ => .no
noncomputable def spB (vs : List SV) (s : Cr.St) : R1 := match vs with
  | [.sli b o 2 _] => wO s b (spT s b o)
  | _ => .no
noncomputable def sp : Cl := fun g vs s => Bool.rec (Bool.rec .no (spB vs s) (Nat.beq g 339)) (spA vs s) (Nat.beq g 249)
theorem spA_ok {vs : List SV} {s s' : Cr.St} {v : SV} (h : spA vs s = .ok v s') {ρ : Ren} {Vs : List Value} (hf : Fr ρ s.nx) (hv : dens ρ vs = some Vs) :
    Ctr Tryz.prog 249 Vs (denH ρ s.h) (Ret fun V G => ∃ σ, Ext ρ σ ∧ Fr σ s'.nx ∧ den σ v = some V ∧ G = denH σ s'.h) := by
  unfold spA at h
  split at h <;> try (cases h; done)
  rename_i b o c m
  obtain ⟨ob, hg, hid, h⟩ := wO_ok h
  unfold spC at h
  split at h <;> try (cases h; done)
  rename_i x0 x1 x2 x3 hcut
  obtain ⟨hc, h⟩ := wb_ok h
  cases h
  have hc := Nat.le_of_ble_eq_true hc
  obtain ⟨V1, us, rfl, h1, h2⟩ := dens_cons hv
  obtain ⟨V2, us, rfl, h3, h4⟩ := dens_cons h2
  cases h4
  cases h3
  obtain ⟨ws, h5, rfl⟩ := den_agg h1
  obtain ⟨V1, us, rfl, h6, h7⟩ := dens_cons h5
  obtain ⟨V2, us, rfl, h8, h9⟩ := dens_cons h7
  obtain ⟨V3, us, rfl, h10, h11⟩ := dens_cons h9
  cases h11
  cases h6
  cases h8
  obtain ⟨z, hz, rfl⟩ := den_sli h10
  intro w0 F w hi
  obtain ⟨x', ws, e1, e2, e3⟩ := cell_at hg hi
  rw [hid, hz] at e1
  cases e1
  have hd : dens ρ (cut ob.cs o 4) = some ((ws.drop o).take 4) := dens_take 4 (dens_drop o e2)
  rw [hcut] at hd
  have hd : some [Value.int .u16 x0, .int .u16 x1, .int .u16 x2, .int .u16 x3] = some ((ws.drop o).take 4) := hd
  have hd := Option.some.inj hd
  have hat : ∀ j V, ((ws.drop o).take 4)[j]? = some V → w.cell? ⟨z.1, z.2.1 + o + j, none⟩ = some V := fun j V hj => by
    rw [Nat.add_assoc]
    refine e3 (o + j) V ?_
    rw [List.getElem?_take] at hj
    split at hj
    · simpa [List.getElem?_drop] using hj
    · cases hj
  rw [← hd] at hat
  have hC := colours1 0 z.1 (z.2.1 + o) (c + z.2.2) m x0 x1 x2 x3 w (by omega) (hat 0 _ rfl) (hat 1 _ rfl) (hat 2 _ rfl) (hat 3 _ rfl)
  refine (callsIn_wide.1 hC).mono ?_
  rintro e w' ⟨rfl, hB⟩
  exact ⟨denH ρ s.h, Cr.Inv.grow hi hB, _, rfl, ρ, Ext.refl _, hf, rfl, rfl⟩
theorem toks2 (x y : Int) : DefP.toks [x, y] = [⟨x, 0, 0⟩, ⟨y, 0, 0⟩] := rfl
theorem spB_ok {vs : List SV} {s s' : Cr.St} {v : SV} (h : spB vs s = .ok v s') {ρ : Ren} {Vs : List Value} (hf : Fr ρ s.nx) (hv : dens ρ vs = some Vs) :
    Ctr Tryz.prog 339 Vs (denH ρ s.h) (Ret fun V G => ∃ σ, Ext ρ σ ∧ Fr σ s'.nx ∧ den σ v = some V ∧ G = denH σ s'.h) := by
  unfold spB at h
  split at h <;> try (cases h; done)
  rename_i b o c
  obtain ⟨ob, hg, hid, h⟩ := wO_ok h
  unfold spT at h
  split at h <;> try (cases h; done)
  rename_i x y hcut
  obtain ⟨hx, h⟩ := wb_ok h
  obtain ⟨hy, h⟩ := wb_ok h
  obtain ⟨rfl, rfl, hT⟩ := newO_ok h
  have hx := blt_lt hx
  have hy := blt_lt hy
  obtain ⟨V1, us, rfl, h1, h2⟩ := dens_cons hv
  cases h2
  obtain ⟨z, hz, rfl⟩ := den_sli h1
  intro w0 F w hi
  obtain ⟨x', pre, ws, post, e1, e2, e3, e4, e5, _⟩ := inv_open hg hi
  have e1' := e1
  rw [hid, hz] at e1'
  cases e1'
  have hd : dens ρ (cut ob.cs o 2) = some ((ws.drop o).take 2) := dens_take 2 (dens_drop o e2)
  rw [hcut] at hd
  have hd : some [Value.int .u8 (Int.ofNat x), .int .u8 (Int.ofNat y)] = some ((ws.drop o).take 2) := hd
  have hd := Option.some.inj hd
  have hR : ∀ w0 h, HO ρ ob w0 h → RdR U5 (some ⟨z.1, z.2.1 + o, none⟩) 2 [Int.ofNat x, Int.ofNat y] w0 h := fun w0 h hh => by
    refine ⟨rfl, ?_⟩
    have := HO_rd (o := o) (m := 2) (sz := 1) hg.2 e1 e2 (by rw [Nat.mul_one, ← hd]; rfl) hh
    rw [Nat.mul_one, ← hd] at this
    exact this
  have hC := f_tokens (some ⟨z.1, z.2.1 + o, none⟩) (c + z.2.2) [Int.ofNat x, Int.ofNat y] (HO ρ ob) hR (fun i hi => by
    rcases List.mem_cons.1 hi with rfl | hi
    · constructor
      · exact Int.natCast_nonneg x
      · exact Int.ofNat_lt.2 hx
    · rcases List.mem_cons.1 hi with rfl | hi
      · constructor
        · exact Int.natCast_nonneg y
        · exact Int.ofNat_lt.2 hy
      · cases hi) (by simp)
  rw [toks2] at hC
  refine (hC w0 (denH ρ (s.h.set b none) ++ F) w (hi.perm ((H_get (ρ := ρ) hg.1).append_right F))).mono ?_
  rintro e w' ⟨G, h1, V, rfl, q, cq, rfl, rfl⟩
  have hi2 : Inv w0 (Sl q 2 cq 408 3 [.int .i64 (Int.ofNat x), .int .i64 0, .int .i64 0, .int .i64 (Int.ofNat y), .int .i64 0, .int .i64 0] :: (HO ρ ob :: (denH ρ (s.h.set b none) ++ F))) w' := Inv.imp (fun hh hc => hc.2) h1
  have hq : q ≠ none := by
    rcases (sl_facts hi2 (List.mem_cons_self)).2.2 with h0 | ⟨b', o', h0⟩
    · omega
    · rw [h0]; intro e; cases e
  obtain ⟨b', o', pre', post', rfl, k2, k3, k4, k5, hi3⟩ := sl_cel hi2 hq
  have hi4 : Inv w0 (Cel b' 408 (pre' ++ [.int .i64 (Int.ofNat x), .int .i64 0, .int .i64 0, .int .i64 (Int.ofNat y), .int .i64 0, .int .i64 0] ++ post') :: (denH ρ s.h ++ F)) w' := hi3.perm (List.Perm.cons _ ((H_get (ρ := ρ) hg.1).symm.append_right F))
  refine ⟨_, new_sub (x := (b', o', cq - 2)) (pre := pre') (post := post') (ex := false) hT hf (?_ : dens ρ _ = some _) k2 k4 (fun e => by cases e) w0 w' hi4, _, rfl, ρ.put s.nx (b', o', cq - 2), Ren.put_ext _ hf, Ren.put_fr _ hf, ?_, rfl⟩
  · rfl
  · simp only [Cr.den, Ren.put_self, Nat.add_zero]
    rw [show 2 + (cq - 2) = cq by omega]
    rfl
theorem sp_ok : SoundC Tryz.prog sp := by
  intro g vs s s' v h ρ Vs hf hv
  unfold sp at h
  cases h1 : Nat.beq g 249 with
  | true =>
    rw [h1] at h
    obtain rfl := Nat.eq_of_beq_eq_true h1
    exact spA_ok h hf hv
  | false =>
    rw [h1] at h
    cases h2 : Nat.beq g 339 with
    | true =>
      rw [h2] at h
      obtain rfl := Nat.eq_of_beq_eq_true h2
      exact spB_ok h hf hv
    | false => rw [h2] at h; cases h
end Go.Proofs.YtookicfejdbddaaGreat
