/- Walks of functions that the law reaches, and what they lean on; no conditions. -/
import Derived.Test.YtookicfejdbddaaGreatCrE
set_option linter.unusedVariables false
set_option linter.unusedSimpArgs false
set_option linter.unnecessarySimpa false
set_option maxRecDepth 100000
namespace Go.Cr
open Go.Sl
mutual
def eqb : SV → SV → Bool
  | .bool a, .bool b => a == b
  | .int k m, .int j n => eqK k j && eqI m n
  | .str a, .str b => eqLN a b
  | .ptr b o, .ptr b' o' => Nat.beq b b' && Nat.beq o o'
  | .nilp, .nilp => true
  | .sli b o n c, .sli b' o' n' c' => Nat.beq b b' && Nat.beq o o' && (Nat.beq n n' && Nat.beq c c')
  | .nils, .nils => true
  | .fn f l, .fn g m => Nat.beq f g && eqbs l m
  | .nilf, .nilf => true
  | .ifc t v, .ifc u w => Nat.beq t u && eqb v w
  | .nili, .nili => true
  | .agg l, .agg m => eqbs l m
  | .tup l, .tup m => eqbs l m
  | .und, .und => true
  | .bnd f l, .bnd g m => Nat.beq f g && eqbs l m
  | .mp a, .mp b => Nat.beq a b
  | .nilm, .nilm => true
  | .gl g o, .gl g' o' => Nat.beq g g' && Nat.beq o o'
  | _, _ => false
def eqbs : List SV → List SV → Bool
  | [], [] => true
  | a :: l, b :: m => eqb a b && eqbs l m
  | _, _ => false
end
mutual
theorem eqb_ok : ∀ {a b : SV}, eqb a b = true → a = b
  | a, b, h => by
    unfold eqb at h
    split at h <;> try (cases h; done)
    all_goals (try simp only [Bool.and_eq_true] at h)
    · rw [eq_of_beq h]
    · have h2 := h.2; rw [eqI_eq] at h2; rw [eqK_eq h.1, of_decide_eq_true h2]
    · rw [eqLN_eq h]
    · rw [Nat.eq_of_beq_eq_true h.1, Nat.eq_of_beq_eq_true h.2]
    · rfl
    · rw [Nat.eq_of_beq_eq_true h.1.1, Nat.eq_of_beq_eq_true h.1.2, Nat.eq_of_beq_eq_true h.2.1, Nat.eq_of_beq_eq_true h.2.2]
    · rfl
    · rw [Nat.eq_of_beq_eq_true h.1, eqbs_ok h.2]
    · rfl
    · rw [Nat.eq_of_beq_eq_true h.1, eqb_ok h.2]
    · rfl
    · rw [eqbs_ok h]
    · rw [eqbs_ok h]
    · rfl
    · rw [Nat.eq_of_beq_eq_true h.1, eqbs_ok h.2]
    · rw [Nat.eq_of_beq_eq_true h]
    · rfl
    · rw [Nat.eq_of_beq_eq_true h.1, Nat.eq_of_beq_eq_true h.2]
theorem eqbs_ok : ∀ {a b : List SV}, eqbs a b = true → a = b
  | [], [], h => rfl
  | a :: l, b :: m, h => by
    unfold eqbs at h
    rw [Bool.and_eq_true] at h
    rw [eqb_ok h.1, eqbs_ok h.2]
  | [], _ :: _, h => by simp [eqbs] at h
  | _ :: _, [], h => by simp [eqbs] at h
end
section
variable {nb : Bool} {C : Ctx} {ty : TypeId} {E : Env} {ρ : Ren} {s s' s1 : St} {v : SV} {V : Value} {F : List HProp} {e e' : En} {w0 w : World} {P : Program}
noncomputable def we {α : Type} (x : Option α) (k : α → RE) : RE := Option.rec .no k x
theorem we_ok {α : Type} {x : Option α} {k : α → RE} {y : Ex} (h : we x k = .ok y e s') : ∃ u, x = some u ∧ k u = .ok y e s' := by
  cases x with
  | none => cases h
  | some u => exact ⟨u, rfl, h⟩
noncomputable def wbe (b : Bool) (k : RE) : RE := Bool.rec .no k b
theorem wbe_ok {b : Bool} {k : RE} {y : Ex} (h : wbe b k = .ok y e s') : b = true ∧ k = .ok y e s' := by
  cases b with
  | false => cases h
  | true => exact ⟨rfl, h⟩
theorem eqW_same {neg : Bool} {P : Program} {t : Nat} {y : Operand} {a b : SV} (h : eqW neg P t y s a b = .ok v s') : s' = s := by
  unfold eqW at h
  split at h
  · split at h
    · obtain ⟨_, _, h⟩ := wo_ok h
      obtain ⟨_, h⟩ := wb_ok h
      obtain ⟨_, h⟩ := wb_ok h
      obtain ⟨_, h⟩ := wb_ok h
      obtain ⟨_, _, h⟩ := wo_ok h
      obtain ⟨_, _, h⟩ := wo_ok h
      obtain ⟨_, _, h⟩ := wo_ok h
      obtain ⟨_, h⟩ := wb_ok h
      obtain ⟨_, h⟩ := wb_ok h
      cases h; rfl
    · cases h
  · obtain ⟨_, h⟩ := wb_ok h; obtain ⟨_, h⟩ := wb_ok h; cases h; rfl
theorem pure_same {call : Cl} {o : Op} (hp : pureK o = true) (h : op1 o P call e s = .ok v s') (hn : s'.nx = s.nx) : s' = s := by
  have hO : ∀ {T sz : Nat} {ex : Bool} {cs : List SV} {k : Nat → SV}, newO s T sz ex cs k = .ok v s' → s' = s := fun h => by
    obtain ⟨_, rfl, _⟩ := newO_ok h
    have : s.nx + 1 = s.nx := hn
    omega
  have hN : ∀ {k : Nat → SV}, newN s k = .ok v s' → s' = s := fun h => by
    unfold newN at h
    rw [fN_eq] at h
    cases h
    have : s.nx + 1 = s.nx := hn
    omega
  cases o
  case move x => obtain ⟨u, -, h⟩ := w1_ok (show oMove x P call e s = .ok v s' from h); cases h; rfl
  case assign x => obtain ⟨u, -, h⟩ := w1_ok (show oMove x P call e s = .ok v s' from h); cases h; rfl
  case pick c a b =>
    obtain ⟨u, -, h⟩ := w1_ok (show oPick c a b P call e s = .ok v s' from h)
    unfold pickV at h
    split at h <;> try (cases h; done)
    rename_i t
    cases t <;> (obtain ⟨_, _, h⟩ := w1_ok h; cases h; rfl)
  case nilCheck x =>
    obtain ⟨u, -, h⟩ := w1_ok (show oNil x P call e s = .ok v s' from h)
    unfold nilV at h
    split at h <;> first | (cases h; rfl) | cases h
  case load t x =>
    obtain ⟨u, -, h⟩ := w1_ok (show oLoad t x P call e s = .ok v s' from h)
    have key : ∀ {o : Nat} {ob : Ob}, ldC P t o s ob = .ok v s' → s' = s := by
      intro o ob h
      unfold ldC at h
      cases hs : scalarB P t with
      | true => rw [hs] at h; obtain ⟨_, _, h⟩ := wo_ok h; cases h; rfl
      | false => rw [hs] at h; obtain ⟨_, _, h⟩ := wo_ok h; obtain ⟨_, h⟩ := wb_ok h; cases h; rfl
    unfold ldV at h
    split at h <;> try (cases h; done)
    · obtain ⟨ob, _, _, h⟩ := wO_ok h; exact key h
    · obtain ⟨ob, _, _, h⟩ := gO_ok h; exact key h
  case binOp o t x y u =>
    obtain ⟨_, _, h⟩ := w1_ok (show oBin o t x y u P call e s = .ok v s' from h)
    obtain ⟨_, _, h⟩ := w1_ok h
    unfold binV at h
    split at h
    · exact eqW_same h
    · exact eqW_same h
    · obtain ⟨_, _, h⟩ := wo_ok h; rw [force_eq] at h; cases h; rfl
  case unOp o t x =>
    obtain ⟨u, -, h⟩ := w1_ok (show oUn o t x P call e s = .ok v s' from h)
    unfold unV at h
    split at h
    · split at h <;> first | (cases h; rfl) | cases h
    · split at h <;> first | (rw [fI_eq] at h; cases h; rfl) | cases h
    · split at h <;> first | (rw [fI_eq] at h; cases h; rfl) | cases h
    · cases h
  case makeInterface t x =>
    obtain ⟨_, h⟩ := wb_ok (show oIfc t x P call e s = .ok v s' from h)
    obtain ⟨_, _, h⟩ := w1_ok h
    cases h; rfl
  case makeFunc fn fi cap =>
    have h : oMkF fn fi cap P call e s = .ok v s' := h
    unfold oMkF at h
    split at h
    · split at h
      · obtain ⟨_, _, h⟩ := wo_ok h; cases h; rfl
      · split at h
        · obtain ⟨_, _, h⟩ := wo_ok h; cases h; rfl
        · cases h
    · cases h
  case fieldAddr t x f =>
    obtain ⟨_, _, h⟩ := wo_ok (show oFa t x f P call e s = .ok v s' from h)
    obtain ⟨_, _, h⟩ := w1_ok h
    unfold faV at h
    split at h <;> first | (cases h; rfl) | cases h
  case indexAddr t x y =>
    obtain ⟨_, _, h⟩ := w1_ok (show oIa t x y P call e s = .ok v s' from h)
    obtain ⟨_, _, h⟩ := w1_ok h
    obtain ⟨_, _, h⟩ := wo_ok h
    unfold iaV at h
    split at h <;> try (cases h; done)
    · obtain ⟨_, _, h⟩ := wo_ok h; obtain ⟨_, h⟩ := wb_ok h; cases h; rfl
    · obtain ⟨_, _, h⟩ := wo_ok h; obtain ⟨_, h⟩ := wb_ok h; cases h; rfl
    · obtain ⟨_, _, h⟩ := wo_ok h; obtain ⟨_, h⟩ := wb_ok h; cases h; rfl
  case index t x y =>
    obtain ⟨_, _, h⟩ := w1_ok (show oIx t x y P call e s = .ok v s' from h)
    obtain ⟨_, _, h⟩ := w1_ok h
    obtain ⟨_, _, h⟩ := wo_ok h
    unfold ixV at h
    split at h <;> try (cases h; done)
    · obtain ⟨_, _, h⟩ := wo_ok h; obtain ⟨_, h⟩ := wb_ok h; obtain ⟨_, h⟩ := wb_ok h; obtain ⟨_, h⟩ := wb_ok h; obtain ⟨_, _, h⟩ := wo_ok h; cases h; rfl
    · obtain ⟨_, h⟩ := wb_ok h; obtain ⟨_, h⟩ := wb_ok h; obtain ⟨_, _, h⟩ := wo_ok h; rw [fN_eq] at h; cases h; rfl
  case sliceToArrayPointer t x =>
    obtain ⟨_, _, h⟩ := w1_ok (show oS2 t x P call e s = .ok v s' from h)
    unfold s2V at h
    split at h <;> try (cases h; done)
    obtain ⟨_, _, h⟩ := wo_ok h
    obtain ⟨_, h⟩ := wb_ok h
    cases h; rfl
  case field t x f =>
    obtain ⟨_, _, h⟩ := w1_ok (show oFd t x f P call e s = .ok v s' from h)
    unfold fdV at h
    split at h <;> try (cases h; done)
    obtain ⟨_, _, h⟩ := wo_ok h
    obtain ⟨_, _, h⟩ := wo_ok h
    obtain ⟨_, h⟩ := wb_ok h
    obtain ⟨_, _, h⟩ := wo_ok h
    cases h; rfl
  case typeAssert x xT T ok =>
    obtain ⟨_, h⟩ := wb_ok (show oTa x xT T ok P call e s = .ok v s' from h)
    obtain ⟨_, _, h⟩ := w1_ok h
    unfold taV at h
    split at h <;> try (cases h; done)
    · revert h; generalize Nat.beq _ T = bb; intro h; cases bb
      · exact (taN_ok h).2.1
      · cases h; rfl
    · exact (taN_ok h).2.1
  case lookup t x y ok =>
    obtain ⟨_, _, h⟩ := w1_ok (show oLk t x y ok P call e s = .ok v s' from h)
    obtain ⟨_, _, h⟩ := w1_ok h
    obtain ⟨_, _, h⟩ := wo_ok h
    obtain ⟨_, _, h⟩ := wo_ok h
    obtain ⟨_, _, h⟩ := wo_ok h
    unfold lkV at h
    split at h <;> try (cases h; done)
    · obtain ⟨_, _, _, _, h⟩ := wM_ok h
      obtain ⟨r, _, h⟩ := wo_ok h
      cases r <;> (cases h; rfl)
    · cases h; rfl
  case extract x i =>
    obtain ⟨u, -, h⟩ := w1_ok (show oExt x i P call e s = .ok v s' from h)
    unfold exV at h
    split at h <;> try (cases h; done)
    obtain ⟨_, _, h⟩ := wo_ok h; cases h; rfl
  case build t ps =>
    have h : oBuild t ps P call e s = .ok v s' := h
    have key : ∀ {place : Nat → Option (Nat × Nat)} {l : List (Nat × SV)} {z : List SV}, fillS place l z (fun z => .ok (.agg z) s) = .ok v s' → s' = s := by
      intro place l
      induction l with
      | nil => intro z h; cases h; rfl
      | cons x l ih =>
        intro z h
        obtain ⟨p, _, h⟩ := wo_ok (x := place x.1) h
        obtain ⟨_, h⟩ := wb_ok h
        obtain ⟨_, h⟩ := wb_ok h
        rw [setsK_eq] at h
        exact ih h
    unfold oBuild at h
    cases hp : placesB P t with
    | some pl =>
      rw [hp] at h
      obtain ⟨_, _, h⟩ := wo_ok h
      obtain ⟨_, _, h⟩ := wo_ok h
      exact key h
    | none =>
      rw [hp] at h
      obtain ⟨_, _, h⟩ := wo_ok h
      obtain ⟨_, _, h⟩ := wo_ok h
      obtain ⟨_, _, h⟩ := wo_ok h
      exact key h
  case convert src dst x =>
    obtain ⟨u, -, h⟩ := w1_ok (show oConv src dst x P call e s = .ok v s' from h)
    unfold cvV at h
    split at h <;> try (cases h; done)
    · obtain ⟨_, h⟩ := wb_ok h; obtain ⟨_, _, h⟩ := wo_ok h; rw [fI_eq] at h; cases h; rfl
    · obtain ⟨_, h⟩ := wb_ok h; obtain ⟨_, _, h⟩ := wo_ok h; obtain ⟨_, h⟩ := wb_ok h; obtain ⟨_, h⟩ := wb_ok h; exact hO h
    · revert h; generalize Nat.beq src dst = bb; intro h; cases bb
      · obtain ⟨_, h⟩ := wb_ok h; obtain ⟨_, _, h⟩ := wo_ok h; obtain ⟨_, h⟩ := wb_ok h; obtain ⟨_, _, _, h⟩ := wO_ok h; obtain ⟨_, h⟩ := wb_ok h; obtain ⟨_, _, h⟩ := wo_ok h; cases h; rfl
      · obtain ⟨_, _, h⟩ := wo_ok h; obtain ⟨_, h⟩ := wb_ok h; obtain ⟨_, _, _, h⟩ := wO_ok h; cases h; rfl
    · obtain ⟨_, h⟩ := wb_ok h; obtain ⟨_, _, h⟩ := wo_ok h; obtain ⟨_, h⟩ := wb_ok h; cases h; rfl
  case slice t x lo hi mx =>
    cases mx with
    | some m =>
      cases hi with
      | none => cases h
      | some y =>
        obtain ⟨u, -, h⟩ := w1_ok (show w1 x e (slM t lo y m P e s) = .ok v s' from h)
        unfold slM at h
        split at h <;> try (cases h; done)
        obtain ⟨_, _, h⟩ := wo_ok h; obtain ⟨_, _, h⟩ := wo_ok h; obtain ⟨_, _, h⟩ := wo_ok h; obtain ⟨_, _, h⟩ := wo_ok h; obtain ⟨_, h⟩ := wb_ok h; obtain ⟨_, h⟩ := wb_ok h; obtain ⟨_, h⟩ := wb_ok h; obtain ⟨_, h⟩ := wb_ok h; exact hN h
    | none =>
      obtain ⟨u, -, h⟩ := w1_ok (show w1 x e (slV t lo hi P e s) = .ok v s' from h)
      unfold slV at h
      split at h <;> try (cases h; done)
      · obtain ⟨_, _, h⟩ := wo_ok h; obtain ⟨l, _, h⟩ := wo_ok h; obtain ⟨_, _, h⟩ := wo_ok h; obtain ⟨_, h⟩ := wb_ok h; obtain ⟨_, h⟩ := wb_ok h
        simp only [force_eq] at h
        revert h; generalize Nat.beq l _ = b; intro h; cases b
        · cases h; rfl
        · exact hN h
      · obtain ⟨_, _, h⟩ := wo_ok h; obtain ⟨_, _, h⟩ := wo_ok h; obtain ⟨_, _, h⟩ := wo_ok h; obtain ⟨_, h⟩ := wb_ok h; obtain ⟨_, h⟩ := wb_ok h; cases h; rfl
      · split at h <;> try (cases h; done)
        obtain ⟨_, _, h⟩ := wo_ok h; obtain ⟨_, _, _, h⟩ := wO_ok h; obtain ⟨_, h⟩ := wb_ok h; cases h; rfl
      · split at h <;> try (cases h; done)
        obtain ⟨_, h⟩ := wb_ok h; obtain ⟨_, _, h⟩ := wo_ok h; obtain ⟨_, h⟩ := wb_ok h; obtain ⟨_, h⟩ := wb_ok h; cases h; rfl
  case call c =>
    obtain ⟨cal, xs, ts⟩ := c
    cases cal with
    | value f => cases hp
    | invoke r m => cases hp
    | builtin b =>
      have h : callB b ts.toList xs.toList P e s = .ok v s' := h
      unfold callB at h
      split at h
      · unfold cLenY at h
        split at h <;> try (cases h; done)
        split at h <;> try (cases h; done)
        obtain ⟨_, _, h⟩ := w1_ok h
        unfold lenY at h
        split at h
        · obtain ⟨_, _, h⟩ := wo_ok h; obtain ⟨_, _, _, _, h⟩ := wM_ok h; rw [fN_eq] at h; cases h; rfl
        unfold lenV at h
        split at h <;> try (cases h; done)
        all_goals (obtain ⟨_, h⟩ := wb_ok h; first | (cases h; rfl) | (rw [fN_eq] at h; cases h; rfl))
      · unfold cCap at h
        split at h <;> try (cases h; done)
        split at h <;> try (cases h; done)
        obtain ⟨_, _, h⟩ := w1_ok h
        unfold capV at h
        split at h <;> try (cases h; done)
        · obtain ⟨_, h⟩ := wb_ok h; obtain ⟨_, _, _, h⟩ := wO_ok h; obtain ⟨_, h⟩ := wb_ok h; cases h; rfl
        · obtain ⟨_, h⟩ := wb_ok h; cases h; rfl
      · unfold cMin at h
        split at h <;> try (cases h; done)
        obtain ⟨_, _, h⟩ := w1_ok h
        obtain ⟨_, _, h⟩ := w1_ok h
        obtain ⟨_, _, _, _, _, _, r⟩ := minV_ok h
        exact r.symm
      · unfold cMax at h
        split at h <;> try (cases h; done)
        obtain ⟨_, _, h⟩ := w1_ok h
        obtain ⟨_, _, h⟩ := w1_ok h
        obtain ⟨_, _, _, _, _, _, r⟩ := maxV_ok h
        exact r.symm
      · cases hp
      · cases hp
      · cases hp
      · cases h
  all_goals cases hp
inductive RD | no | ok (e : En) (ss : List St)
noncomputable def chkV (v : SV) (n : Nat) (r : R1) : Bool := R1.rec false (fun u s => eqb v u && Nat.beq s.nx n) r
noncomputable def chkW (f : St → R1) (v : SV) (ss : List St) (lo : Nat) (n : Nat) : Bool := Nat.rec (motive := fun _ => Nat → Bool) (fun _ => true) (fun _ ih k => Bool.rec false (ih (Nat.succ k)) (Option.rec false (fun s => chkV v s.nx (f s)) ss[k]?)) n lo
noncomputable def passO (nb : Bool) (P : Program) (call : Cl) (all : List Oper) (M ef : List Nat) (o : Oper) (i : Nat) (ih : En → St → List St → RD) (e : En) (s : St) (past : List St) (eh : En) : RD :=
  R1.rec .no (fun v s1 => Bool.rec
    (Bool.rec .no (RD.rec .no (fun e' ss => .ok e' (s :: ss)) (ih (put o v e) s1 (past ++ [s]))) ((Nat.beq (loN M ef i) past.length || floatO o) && (Nat.beq (hiN M ef i) past.length && Option.rec false (fun j => Nat.beq j i) ef[past.length]?)))
    (RD.rec .no (fun e' ss => Bool.rec .no (.ok e' ss) (chkW (opG P call all o eh) v (past ++ ss) (loN M ef i) (Nat.sub (Nat.succ (hiN M ef i)) (loN M ef i)))) (ih (put o v e) s past)) (pureN nb o.op)) (opG P call all o eh s)
noncomputable def passD (nb : Bool) (P : Program) (call : Cl) (all : List Oper) (M ef : List Nat) (l : List Oper) : Nat → En → St → List St → RD := List.rec (motive := fun _ => Nat → En → St → List St → RD) (fun _ e s _ => .ok e [s])
  (fun o _ ih i e s past => passO nb P call all M ef o i (ih (Nat.succ i)) e s past (restr e (usedT all o))) l
theorem chkW_ok {f : St → R1} {ss : List St} : ∀ {n lo : Nat}, chkW f v ss lo n = true → ∀ k, lo ≤ k → k < lo + n → ∃ sk s', ss[k]? = some sk ∧ f sk = .ok v s' ∧ s'.nx = sk.nx
  | 0, lo, h, k, h1, h2 => by omega
  | n + 1, lo, h, k, h1, h2 => by
    have h : Bool.rec (motive := fun _ => Bool) false (chkW f v ss (lo + 1) n) (Option.rec (motive := fun _ => Bool) false (fun s => chkV v s.nx (f s)) ss[lo]?) = true := h
    cases hs : ss[lo]? with
    | none => rw [hs] at h; cases h
    | some sk =>
      rw [hs] at h
      have h : Bool.rec (motive := fun _ => Bool) false (chkW f v ss (lo + 1) n) (chkV v sk.nx (f sk)) = true := h
      cases hc : chkV v sk.nx (f sk) with
      | false => rw [hc] at h; cases h
      | true =>
        rw [hc] at h
        rcases Nat.eq_or_lt_of_le h1 with rfl | h1
        · unfold chkV at hc
          cases hr : f sk with
          | no => rw [hr] at hc; cases hc
          | ok u s1 =>
            rw [hr] at hc
            have hc : (eqb v u && Nat.beq s1.nx sk.nx) = true := hc
            rw [Bool.and_eq_true] at hc
            rw [eqb_ok hc.1]
            exact ⟨sk, s1, hs, hr, Nat.eq_of_beq_eq_true hc.2⟩
        · exact chkW_ok (n := n) (lo := lo + 1) h k h1 (by omega)
theorem passO_ok {call : Cl} {all : List Oper} {M ef : List Nat} {o : Oper} {i : Nat} {ih : En → St → List St → RD} {past ss : List St} {eh : En} (h : passO nb P call all M ef o i ih e s past eh = .ok e' ss) : ∃ v s1, opG P call all o eh s = .ok v s1 ∧
    ((pureN nb o.op = false ∧ (loN M ef i = past.length ∨ floatO o = true) ∧ hiN M ef i = past.length ∧ ef[past.length]? = some i ∧ ∃ ss', ss = s :: ss' ∧ ih (put o v e) s1 (past ++ [s]) = .ok e' ss') ∨
     (pureN nb o.op = true ∧ ih (put o v e) s past = .ok e' ss ∧ chkW (opG P call all o eh) v (past ++ ss) (loN M ef i) (hiN M ef i + 1 - loN M ef i) = true)) := by
  unfold passO at h
  cases hr : opG P call all o eh s with
  | no => rw [hr] at h; cases h
  | ok v s1 =>
    rw [hr] at h
    refine ⟨v, s1, rfl, ?_⟩
    cases hp : pureN nb o.op with
    | false =>
      rw [hp] at h
      dsimp only at h
      cases hb : ((Nat.beq (loN M ef i) past.length || floatO o) && (Nat.beq (hiN M ef i) past.length && Option.rec (motive := fun _ => Bool) false (fun j => Nat.beq j i) ef[past.length]?)) with
      | false => rw [hb] at h; cases h
      | true =>
        rw [hb] at h
        rw [Bool.and_eq_true, Bool.and_eq_true, Bool.or_eq_true] at hb
        obtain ⟨b1, b2, b3⟩ := hb
        dsimp only at h
        cases hi : ih (put o v e) s1 (past ++ [s]) with
        | no => rw [hi] at h; cases h
        | ok e2 ss2 =>
          rw [hi] at h
          cases h
          refine .inl ⟨rfl, b1.imp Nat.eq_of_beq_eq_true id, Nat.eq_of_beq_eq_true b2, ?_, ss2, rfl, rfl⟩
          cases he : ef[past.length]? with
          | none => rw [he] at b3; cases b3
          | some j => rw [he] at b3; rw [Nat.eq_of_beq_eq_true b3]
    | true =>
      rw [hp] at h
      dsimp only at h
      cases hi : ih (put o v e) s past with
      | no => rw [hi] at h; cases h
      | ok e2 ss2 =>
        rw [hi] at h
        dsimp only at h
        cases hc : chkW (opG P call all o eh) v (past ++ ss2) (loN M ef i) (Nat.sub (Nat.succ (hiN M ef i)) (loN M ef i)) with
        | false => rw [hc] at h; cases h
        | true =>
          rw [hc] at h
          cases h
          exact .inr ⟨rfl, rfl, hc⟩
instance : Inhabited SV := ⟨.und⟩
instance : Inhabited St := ⟨⟨.nil, 0⟩⟩
theorem put_get {o : Oper} {t : Nat} {u : SV} (h : (put o v e).get t = some u) : (o.dst = some t ∧ u = v) ∨ (o.dst ≠ some t ∧ e.get t = some u) := by
  unfold put at h
  cases hd : o.dst with
  | none => rw [hd] at h; exact .inr ⟨(fun e => by cases e), h⟩
  | some d =>
    rw [hd] at h
    have h : (e.set d (some v)).get t = some u := h
    rw [En.get_set] at h
    by_cases ht : t = d
    · subst ht; rw [if_pos rfl] at h; cases h; exact .inl ⟨rfl, rfl⟩
    · rw [if_neg ht] at h; exact .inr ⟨fun e => ht (Option.some.inj e).symm, h⟩
theorem passD_ok {call : Cl} {all : List Oper} {M ef : List Nat} (hn : ef.Nodup) : ∀ {l : List Oper} {i : Nat} {e e' : En} {s : St} {past ss : List St}, passD nb P call all M ef l i e s past = .ok e' ss →
    ss[0]? = some s ∧ ∃ (V : List SV) (Eh : List (En)), V.length = l.length ∧ Eh.length = l.length ∧
      (∀ j o, l[j]? = some o → ∀ k, (pureN nb o.op = true → loN M ef (i + j) ≤ k ∧ k ≤ hiN M ef (i + j)) → (pureN nb o.op = false → ef[k]? = some (i + j)) → opG P call all o (Eh.getD j .nil) ((past ++ ss).getD k default) = .ok (V.getD j default) ((past ++ ss).getD (k + if pureN nb o.op then 0 else 1) default)) ∧
      (∀ j o, l[j]? = some o → pureN nb o.op = false → ef[hiN M ef (i + j)]? = some (i + j) ∧ (loN M ef (i + j) = hiN M ef (i + j) ∨ floatO o = true)) ∧
      (∀ j o, l[j]? = some o → ∀ t v, (Eh.getD j .nil).get t = some v → t ∈ usedT all o ∧ ((∃ q, q < j ∧ dstOf l q = some t ∧ v = V.getD q default) ∨ (e.get t = some v ∧ ∀ q, q < j → dstOf l q ≠ some t))) ∧
      (∀ t v, e'.get t = some v → (∃ q, q < l.length ∧ dstOf l q = some t ∧ v = V.getD q default) ∨ (e.get t = some v ∧ ∀ q, q < l.length → dstOf l q ≠ some t))
  | [], i, e, e', s, past, ss, h => by
    cases h
    exact ⟨rfl, [], [], rfl, rfl, fun j o h => by simp at h, fun j o h => by simp at h, fun j o h => by simp at h, fun t v h => .inr ⟨h, fun q hq => by simp at hq⟩⟩
  | o :: l, i, e, e', s, past, ss, h => by
    obtain ⟨v, s1, h1, h2⟩ := passO_ok (ih := passD nb P call all M ef l (i + 1)) h
    have rest : ∀ (past' ss' : List St) (s2 : St), passD nb P call all M ef l (i + 1) (put o v e) s2 past' = .ok e' ss' → past' ++ ss' = past ++ ss → 
        (pureN nb o.op = false → ef[hiN M ef i]? = some i ∧ (loN M ef i = hiN M ef i ∨ floatO o = true)) → (∀ k, (pureN nb o.op = true → loN M ef i ≤ k ∧ k ≤ hiN M ef i) → (pureN nb o.op = false → ef[k]? = some i) → opG P call all o (restr e (usedT all o)) ((past ++ ss).getD k default) = .ok v ((past ++ ss).getD (k + if pureN nb o.op then 0 else 1) default)) →
        ∃ (V : List SV) (Eh : List (En)), V.length = (o :: l).length ∧ Eh.length = (o :: l).length ∧
      (∀ j o', (o :: l)[j]? = some o' → ∀ k, (pureN nb o'.op = true → loN M ef (i + j) ≤ k ∧ k ≤ hiN M ef (i + j)) → (pureN nb o'.op = false → ef[k]? = some (i + j)) → opG P call all o' (Eh.getD j .nil) ((past ++ ss).getD k default) = .ok (V.getD j default) ((past ++ ss).getD (k + if pureN nb o'.op then 0 else 1) default)) ∧
      (∀ j o', (o :: l)[j]? = some o' → pureN nb o'.op = false → ef[hiN M ef (i + j)]? = some (i + j) ∧ (loN M ef (i + j) = hiN M ef (i + j) ∨ floatO o' = true)) ∧
      (∀ j o', (o :: l)[j]? = some o' → ∀ t v, (Eh.getD j .nil).get t = some v → t ∈ usedT all o' ∧ ((∃ q, q < j ∧ dstOf (o :: l) q = some t ∧ v = V.getD q default) ∨ (e.get t = some v ∧ ∀ q, q < j → dstOf (o :: l) q ≠ some t))) ∧
      (∀ t v, e'.get t = some v → (∃ q, q < (o :: l).length ∧ dstOf (o :: l) q = some t ∧ v = V.getD q default) ∨ (e.get t = some v ∧ ∀ q, q < (o :: l).length → dstOf (o :: l) q ≠ some t)) := by
      intro past' ss' s2 hr hap hpl hstep
      obtain ⟨_, V, Eh, l1, l2, k1, k0, k2, k3⟩ := passD_ok hn hr
      rw [hap] at k1
      have dsucc : ∀ q, dstOf (o :: l) (q + 1) = dstOf l q := fun q => by simp [dstOf]
      have d0 : dstOf (o :: l) 0 = o.dst := by simp [dstOf]
      refine ⟨v :: V, restr e (usedT all o) :: Eh, by simp [l1], by simp [l2], ?_, ?_, ?_, ?_⟩
      · intro j o' ho' k
        cases j with
        | zero => simp at ho'; subst ho'; exact hstep k
        | succ j =>
          have := k1 j o' (by simpa using ho') k
          rw [show i + 1 + j = i + (j + 1) by omega] at this
          simpa using this
      · intro j o' ho'
        cases j with
        | zero => simp at ho'; subst ho'; exact hpl
        | succ j =>
          have := k0 j o' (by simpa using ho')
          rw [show i + 1 + j = i + (j + 1) by omega] at this
          exact this
      · intro j o' ho' t u hu
        cases j with
        | zero =>
          simp at ho'
          subst ho'
          obtain ⟨m1, m2⟩ := restr_get (by simpa using hu)
          exact ⟨m1, .inr ⟨m2, fun q hq => by omega⟩⟩
        | succ j =>
          obtain ⟨m1, m2⟩ := k2 j o' (by simpa using ho') t u (by simpa using hu)
          refine ⟨m1, ?_⟩
          rcases m2 with ⟨q, q1, q2, q3⟩ | ⟨q1, q2⟩
          · exact .inl ⟨q + 1, by omega, by rw [dsucc]; exact q2, by simpa using q3⟩
          · rcases put_get q1 with ⟨r1, r2⟩ | ⟨r1, r2⟩
            · exact .inl ⟨0, by omega, by rw [d0]; exact r1, by simpa using r2⟩
            · refine .inr ⟨r2, fun q hq => ?_⟩
              cases q with
              | zero => rw [d0]; exact r1
              | succ q => rw [dsucc]; exact q2 q (by omega)
      · intro t u hu
        rcases k3 t u hu with ⟨q, q1, q2, q3⟩ | ⟨q1, q2⟩
        · exact .inl ⟨q + 1, by simp; omega, by rw [dsucc]; exact q2, by simpa using q3⟩
        · rcases put_get q1 with ⟨r1, r2⟩ | ⟨r1, r2⟩
          · exact .inl ⟨0, by simp, by rw [d0]; exact r1, by simpa using r2⟩
          · refine .inr ⟨r2, fun q hq => ?_⟩
            cases q with
            | zero => rw [d0]; exact r1
            | succ q => rw [dsucc]; exact q2 q (by simp at hq; omega)
    rcases h2 with ⟨hp, hlo, hhi, hat, ss', rfl, hr⟩ | ⟨hp, hr, hw⟩
    · refine ⟨rfl, rest (past ++ [s]) ss' s1 hr (by simp) (fun _ => ⟨by rw [hhi]; exact hat, hlo.imp (fun h => h.trans hhi.symm) id⟩) ?_⟩
      intro k _ hk
      have hk : k = past.length := (List.getElem?_inj (List.getElem?_eq_some_iff.1 (hk hp)).1 hn).1 ((hk hp).trans hat.symm)
      subst hk
      obtain ⟨hd, _⟩ := passD_ok hn hr
      have e1 : (past ++ s :: ss').getD past.length default = s := by simp [List.getD_eq_getElem?_getD]
      have e2 : (past ++ s :: ss').getD (past.length + 1) default = s1 := by
        rw [List.getD_eq_getElem?_getD, List.getElem?_append_right (by omega), show past.length + 1 - past.length = 1 by omega]
        simp [hd]
      rw [hp, e1]
      simp only [Bool.false_eq_true, if_false]
      rw [e2]
      exact h1
    · obtain ⟨hd, _⟩ := passD_ok hn hr
      refine ⟨hd, rest past ss s hr rfl (fun h => by rw [hp] at h; cases h) ?_⟩
      intro k hk _
      obtain ⟨hk1, hk2⟩ := hk hp
      obtain ⟨sk, s', k1, k2, k3⟩ := chkW_ok hw k hk1 (by omega)
      have e1 : (past ++ ss).getD k default = sk := by rw [List.getD_eq_getElem?_getD, k1]; rfl
      rw [hp, e1]
      simp only [if_true, Nat.add_zero]
      rw [e1, k2]
      rcases opG_ok k2 with ⟨_, _, r⟩ | ⟨_, r⟩
      · rw [r]
      · rw [pure_same (pureN_ok hp) r k3]
noncomputable def drawD (nb : Bool) (ops : List Oper) (r : RD) : RE := RD.rec .no (fun e' ss => we (ss[(effs nb ops).length]?) fun s' => .ok .normal e' s') r
noncomputable def drawB1 (nb : Bool) (P : Program) (call : Cl) (n : Nat) (ops : List Oper) (e : En) (s : St) : RE := wbe (P.follows .mixedOrders) (wbe (drawB ops) (wbe (tidyB ops (masks ops []) (effs nb ops)) (wbe (ops.all (dstB n)) (drawD nb ops (passD nb P call ops (masks ops []) (effs nb ops) ops 0 e s [])))))
theorem drawB1_ok {call : Cl} (hc : SoundC C.P call) {ops : List Oper} {ρ0 : Ren} {id : Nat} {x : Ex} (h : drawB1 nb C.P call C.n ops e s = .ok x e' s') {Q : Exit → Act → World → Prop} {a : Act} {w : World} (hs : SS C ρ0 F e s a w) (hQ : ∀ a' w', x = .normal → SS C ρ0 F e' s' a' w' → Q .normal a' w') : (Code.region id ops.toArray true).wp C.P Q a w := by
  obtain ⟨g1, h⟩ := wbe_ok h
  obtain ⟨g2, h⟩ := wbe_ok h
  obtain ⟨g4, h⟩ := wbe_ok h
  obtain ⟨g3, h⟩ := wbe_ok h
  cases hr : passD nb C.P call ops (masks ops []) (effs nb ops) ops 0 e s [] with
  | no => rw [hr] at h; cases h
  | ok e2 ss =>
    rw [hr] at h
    obtain ⟨sf, h1, h2⟩ := we_ok (show we (ss[(effs nb ops).length]?) (fun s' => .ok .normal e2 s') = .ok x e' s' from h)
    cases h2
    obtain ⟨hd, V, Eh, _, _, k1, k0, k2, k3⟩ := passD_ok (effs_nodup nb ops) hr
    simp only [List.nil_append, Nat.zero_add] at k1 k0
    have e1 : ss.getD 0 default = s := by rw [List.getD_eq_getElem?_getD, hd]; rfl
    have e2 : ss.getD (effs nb ops).length default = s' := by rw [List.getD_eq_getElem?_getD, h1]; rfl
    refine wp_draw (V := fun j => V.getD j default) (S := fun k => ss.getD k default) (Eh := fun j => Eh.getD j .nil) (e0 := e) (e' := e') (ρ0 := ρ0) (F := F) hc g1 ⟨k1, k0, g4, k2, g2, g3, k3⟩ (by rw [e1]; exact hs) ?_
    intro a' w' hs'
    rw [e2] at hs'
    exact hQ a' w' rfl hs'
noncomputable def drawE (P : Program) (call : Cl) (n : Nat) (ops : List Oper) (e : En) (s : St) : RE := RE.rec (drawB1 true P call n ops e s) .ok (drawB1 false P call n ops e s)
theorem drawE_ok {call : Cl} (hc : SoundC C.P call) {ops : List Oper} {ρ0 : Ren} {id : Nat} {x : Ex} (h : drawE C.P call C.n ops e s = .ok x e' s') {Q : Exit → Act → World → Prop} {a : Act} {w : World} (hs : SS C ρ0 F e s a w) (hQ : ∀ a' w', x = .normal → SS C ρ0 F e' s' a' w' → Q .normal a' w') : (Code.region id ops.toArray true).wp C.P Q a w := by
  unfold drawE at h
  cases hr : drawB1 false C.P call C.n ops e s with
  | no => rw [hr] at h; exact drawB1_ok hc h hs hQ
  | ok y e1 s1 => rw [hr] at h; exact drawB1_ok hc (hr.trans h) hs hQ
end
end Go.Cr
namespace Go.Cr
open Go.Sl
section
variable {C : Ctx} {ty : TypeId} {E : Env} {ρ : Ren} {s s' s1 : St} {v : SV} {V : Value} {F : List HProp} {e e' : En} {w0 w : World}
noncomputable def thnE (k : En → St → RE) (x : Ex) (e : En) (s : St) : RE := Ex.rec (k e s) (fun i => .ok (.exit i) e s) (.ok .ret e s) x
noncomputable def bindE (r : RE) (k : En → St → RE) : RE := RE.rec .no (thnE k) r
noncomputable def blkE (id : Nat) (x : Ex) (e : En) (s : St) : RE := Ex.rec (.ok .normal e s) (fun i => Bool.rec (.ok (.exit i) e s) (.ok .normal e s) (Nat.beq i id)) (.ok .ret e s) x
noncomputable def loopR (b : En → St → RE) (n : Nat) : En → St → RE := Nat.rec (motive := fun _ => En → St → RE) (fun _ _ => .no) (fun _ ih e s => bindE (b e s) ih) n
noncomputable def condV (a b : En → St → RE) (e : En) (s : St) (v : SV) : RE := match v with | .bool t => Bool.rec (b e s) (a e s) t | _ => .no
noncomputable def regE (P : Program) (call : Cl) (n : Nat) (ops : List Oper) (dr : Bool) (e : En) (s : St) : RE := wbe (ops.all (dstB n)) (Bool.rec (opsR P call ops ops e s) (drawE P call n ops e s) dr)
def big : Nat := 1000000
noncomputable def evC (P : Program) (call : Cl) (n : Nat) (c : Code) : En → St → RE := Code.rec (motive := fun _ => En → St → RE)
  (fun e s => .ok .normal e s)
  (fun _ ops dr e s => regE P call n ops.toList dr e s)
  (fun _ _ a b e s => bindE (a e s) b)
  (fun x _ _ a b e s => we (ev x e) (condV a b e s))
  (fun id _ b e s => RE.rec .no (blkE id) (b e s))
  (fun _ b e s => loopR b big e s)
  (fun _ _ _ _ _ _ _ _ => .no)
  (fun id e s => .ok (.exit id) e s)
  (fun _ b e s => b e s)
  (fun _ e s => .ok .normal e s)
  (fun _ _ _ => .no)
  (fun e s => .ok .ret e s)
  (fun _ _ _ => .no) c
def toEx : Ex → Exit | .normal => .normal | .exit i => .exit i | .ret => .ret
def SoundE (C : Ctx) (ρ0 : Ren) (F : List HProp) (c : Code) (f : En → St → RE) : Prop := ∀ (e e' : En) (s s' : St) (x : Ex), f e s = .ok x e' s' → ∀ (Q : Exit → Act → World → Prop) (a : Act) (w : World), SS C ρ0 F e s a w →
    (∀ a' w', SS C ρ0 F e' s' a' w' → Q (toEx x) a' w') → c.wp C.P Q a w
theorem SoundE.run {ρ0 : Ren} {c : Code} {f : En → St → RE} (h : SoundE C ρ0 F c f) {e e' : En} {s s' : St} {x : Ex} (h1 : f e s = .ok x e' s') {Q : Exit → Act → World → Prop} {a : Act} {w : World} (hs : SS C ρ0 F e s a w) (hQ : ∀ a' w', SS C ρ0 F e' s' a' w' → Q (toEx x) a' w') : c.wp C.P Q a w := h e e' s s' x h1 Q a w hs hQ
theorem bindE_ok {r : RE} {k : En → St → RE} {x : Ex} (h : bindE r k = .ok x e' s') : (∃ e1 s1, r = .ok .normal e1 s1 ∧ k e1 s1 = .ok x e' s') ∨ (r = .ok x e' s' ∧ x ≠ .normal) := by
  cases r with
  | no => cases h
  | ok y e1 s1 =>
    cases y with
    | normal => exact .inl ⟨e1, s1, rfl, h⟩
    | exit i => cases h; exact .inr ⟨rfl, fun e => by cases e⟩
    | ret => cases h; exact .inr ⟨rfl, fun e => by cases e⟩
theorem loopR_0 {b : En → St → RE} : loopR b 0 e s = .no := rfl
theorem loopR_1 {b : En → St → RE} {n : Nat} : loopR b (n + 1) e s = bindE (b e s) (loopR b n) := rfl
section
attribute [local irreducible] loopR big
theorem evC_loop {P : Program} {call : Cl} {n : Nat} {c : Code} : evC P call n (.loop c) e s = loopR (evC P call n c) big e s := rfl
end
theorem evC_ok {call : Cl} (hc : SoundC C.P call) {ρ0 : Ren} : ∀ (c : Code), SoundE C ρ0 F c (evC C.P call C.n c)
  | .skip => fun e e' s s' x h Q a w hs hQ => by
    cases h; exact wp_skip (hQ a w hs)
  | .label l => fun e e' s s' x h Q a w hs hQ => by
    cases h; exact wp_label (hQ a w hs)
  | .exit id => fun e e' s s' x h Q a w hs hQ => by
    cases h; exact wp_exit (hQ a w hs)
  | .ret => fun e e' s s' x h Q a w hs hQ => by
    cases h; exact wp_ret (hQ a w hs)
  | .goto l => fun e e' s s' x h => by
    cases h
  | .refuse r => fun e e' s s' x h => by
    cases h
  | .rangeFunc _ _ _ _ => fun e e' s s' x h => by
    cases h
  | .region id ⟨ops⟩ dr => fun e e' s s' x h Q a w hs hQ => by
    obtain ⟨h1, h2⟩ := wbe_ok (show wbe (ops.all (dstB C.n)) (Bool.rec (opsR C.P call ops ops e s) (drawE C.P call C.n ops e s) dr) = .ok x e' s' from h)
    cases dr with
    | true => exact drawE_ok hc h2 hs (fun a' w' hx hs' => by subst hx; exact hQ a' w' hs')
    | false =>
      refine wp_region_lit (opsR_ok hc h2 h1 hs ?_)
      intro a' w' hx hs'
      subst hx
      exact hQ a' w' hs'
  | .seq c d => fun e e' s s' x h Q a w hs hQ => by
    rcases bindE_ok (show bindE (evC C.P call C.n c e s) (evC C.P call C.n d) = .ok x e' s' from h) with ⟨e1, s1, h1, h2⟩ | ⟨h1, h2⟩
    · exact Go.wp_seq ((evC_ok hc c).run h1 hs fun a' w' hs' => (evC_ok hc d).run h2 hs' hQ)
    · refine Go.wp_seq ((evC_ok hc c).run h1 hs fun a' w' hs' => ?_)
      have := hQ a' w' hs'
      cases x with
      | normal => exact absurd rfl h2
      | exit i => exact this
      | ret => exact this
  | .cond x c d => fun e e' s s' y h Q a w hs hQ => by
    obtain ⟨v, h1, h2⟩ := we_ok (show we (ev x e) (condV (evC C.P call C.n c) (evC C.P call C.n d) e s) = .ok y e' s' from h)
    obtain ⟨ρ, E, k1, k2, k3, k4, k5⟩ := hs
    obtain ⟨V, hx, hV⟩ := ev_ok k2 h1
    unfold condV at h2
    split at h2 <;> try (cases h2; done)
    rename_i t
    cases hV
    refine Go.wp_cond (k4.eval hx) ?_
    cases t with
    | true => exact (evC_ok hc c).run h2 ⟨ρ, E, k1, k2, k3, k4, k5⟩ hQ
    | false => exact (evC_ok hc d).run h2 ⟨ρ, E, k1, k2, k3, k4, k5⟩ hQ
  | .block id c => fun e e' s s' y h Q a w hs hQ => by
    have h : RE.rec (motive := fun _ => RE) .no (blkE id) (evC C.P call C.n c e s) = .ok y e' s' := h
    cases hr : evC C.P call C.n c e s with
    | no => rw [hr] at h; cases h
    | ok z e1 s1 =>
      rw [hr] at h
      refine Go.wp_block ((evC_ok hc c).run hr hs fun a' w' hs' => ?_)
      cases z with
      | normal => cases h; exact hQ a' w' hs'
      | ret => cases h; exact hQ a' w' hs'
      | exit i =>
        have h : Bool.rec (motive := fun _ => RE) (.ok (.exit i) e1 s1) (.ok .normal e1 s1) (Nat.beq i id) = .ok y e' s' := h
        show (if i = id then Q .normal a' w' else Q (.exit i) a' w')
        cases hb : Nat.beq i id with
        | true =>
          rw [hb] at h
          cases h
          rw [if_pos (Nat.eq_of_beq_eq_true hb)]
          exact hQ a' w' hs'
        | false =>
          rw [hb] at h
          cases h
          rw [if_neg (fun e => by subst e; rw [Nat.beq_refl] at hb; cases hb)]
          exact hQ a' w' hs'
  | .loop c => fun e e' s s' y h Q a w hs hQ => by
    have key : ∀ n {e : En} {s : St} {a : Act} {w : World}, loopR (evC C.P call C.n c) n e s = .ok y e' s' → SS C ρ0 F e s a w → Code.rounds C.P c Q n a w := by
      intro n
      induction n with
      | zero => intro e s a w h; rw [loopR_0] at h; cases h
      | succ n ih =>
        intro e s a w h hs
        rw [rounds_succ]
        rw [loopR_1] at h
        rcases bindE_ok h with ⟨e1, s1, h1, h2⟩ | ⟨h1, h2⟩
        · exact (evC_ok hc c).run h1 hs fun a' w' hs' => ih h2 hs'
        · refine (evC_ok hc c).run h1 hs fun a' w' hs' => ?_
          have := hQ a' w' hs'
          cases y with
          | normal => exact absurd rfl h2
          | exit i => exact this
          | ret => exact this
    rw [evC_loop] at h
    exact wp_loop_rounds big (key big h hs)
  | .scope c => fun e e' s s' y h Q a w hs hQ => by
    refine wp_scope_straight ((evC_ok hc c).run (show evC C.P call C.n c e s = .ok y e' s' from h) hs fun a' w' hs' => ?_)
    have := hQ a' w' hs'
    cases y <;> exact this
end
end Go.Cr
namespace Go.Cr
open Go.Sl
section
variable {C : Ctx} {ty : TypeId} {E : Env} {ρ : Ren} {s s' s1 : St} {v : SV} {V : Value} {F : List HProp} {e e' : En} {w0 w : World} {P : Program}
theorem ld_run {t b o : Nat} (h : ldV t C.P s (.ptr b o) = .ok v s') (hi : Inv C.w0 (denH ρ s.h ++ F) w) {V : Value} (hv : den ρ (.ptr b o) = some V) : ∃ p W, V = .pointer (some p) ∧ (loadVar t p).run C.P w = .ok W w ∧ den ρ v = some W := by
  obtain ⟨z, hz, rfl⟩ := den_ptr hv
  obtain ⟨ob, hg, hid, h⟩ := wO_ok (show wO s b (ldC C.P t o s) = .ok v s' from h)
  obtain ⟨x', vs, e1, e2, e3⟩ := cell_at hg hi
  rw [hid, hz] at e1
  cases e1
  unfold ldC at h
  cases hs : scalarB C.P t with
  | true =>
    rw [hs] at h
    obtain ⟨r, h2, h⟩ := wo_ok h
    cases h
    rw [getL_eq] at h2
    obtain ⟨V, h3, h4⟩ := dens_get e2 h2
    exact ⟨_, V, rfl, run_load1 hs (e3 o V h3), h4⟩
  | false =>
    rw [hs] at h
    obtain ⟨n, hn, h⟩ := wo_ok h
    obtain ⟨hl, h⟩ := wb_ok h
    cases h
    have hl := lenIs_ok hl
    have hd : dens ρ (cut ob.cs o n) = some ((vs.drop o).take n) := dens_take n (dens_drop o e2)
    have hln := dens_len hd
    obtain ⟨g1, g2⟩ := agg_spec hn w
    have hrun := run_loadCells_list (P := C.P) w ⟨z.1, z.2.1 + o, none⟩ ((vs.drop o).take n) (fun j V hj => by
      rw [Addr.add_mk, Nat.add_assoc]
      refine e3 (o + j) V ?_
      rw [List.getElem?_take] at hj
      split at hj
      · simpa [List.getElem?_drop] using hj
      · cases hj)
    rw [hln, hl] at hrun
    exact ⟨_, .agg ((vs.drop o).take n).toArray, rfl, by simp [loadVar, g1, g2, hrun], by simp [den, hd]⟩
noncomputable def r1v (r : R1) : Option SV := R1.rec none (fun v _ => some v) r
noncomputable def cellR (t : Nat) (P : Program) (s : St) (p : SV) : Option SV := match p with | .ptr b o => r1v (ldV t P s (.ptr b o)) | _ => none
noncomputable def res1V (P : Program) (e : En) (s : St) (x : ResultVar) : Option SV := ResultVar.rec (fun t => e.get t) (fun a t => Option.rec none (cellR t P s) (e.get a)) x
noncomputable def resV (P : Program) (e : En) (s : St) (l : List ResultVar) : Option (List SV) := List.rec (motive := fun _ => Option (List SV)) (some []) (fun x _ ih => Option.rec none (fun v => Option.rec none (fun r => some (v :: r)) ih) (res1V P e s x)) l
def resF (tmps : Array Value) : ResultVar → Sem Value
  | .tmp t => pure (tmps.getD t undef)
  | .cell a t => do loadVar t (← asAddr (tmps.getD a undef))
theorem res1V_ok {x : ResultVar} {a : Act} (h : res1V C.P e s x = some v) (hE : Fits ρ e E) (ha : Agr C E a) (hi : Inv C.w0 (denH ρ s.h ++ F) w) : ∃ V, (resF a.tmps x).run C.P w = .ok V w ∧ den ρ v = some V := by
  cases x with
  | tmp t =>
    obtain ⟨V, h1, h2⟩ := hE t v h
    have := ha.get t V h1
    exact ⟨V, by simp [resF, this], h2⟩
  | cell t T =>
    have h : Option.rec (motive := fun _ => Option SV) none (cellR T C.P s) (e.get t) = some v := h
    cases hv : e.get t with
    | none => rw [hv] at h; cases h
    | some p =>
      rw [hv] at h
      have h : cellR T C.P s p = some v := h
      obtain ⟨U, h1, h2⟩ := hE t p hv
      have h3 := ha.get t U h1
      unfold cellR at h
      split at h <;> try (cases h; done)
      rename_i b o _
      cases hl : ldV T C.P s (.ptr b o) with
      | no => rw [hl] at h; cases h
      | ok u s1 =>
        rw [hl] at h
        cases h
        obtain ⟨p', W, rfl, k1, k2⟩ := ld_run hl hi h2
        exact ⟨W, by simp [resF, h3, asAddr, k1], k2⟩
theorem resV_ok {a : Act} (hE : Fits ρ e E) (ha : Agr C E a) (hi : Inv C.w0 (denH ρ s.h ++ F) w) : ∀ {l : List ResultVar} {vs : List SV}, resV C.P e s l = some vs → ∃ Vs, (l.mapM (resF a.tmps)).run C.P w = .ok Vs w ∧ dens ρ vs = some Vs
  | [], vs, h => by cases h; exact ⟨[], by simp, rfl⟩
  | x :: l, vs, h => by
    have h0 : Option.rec (motive := fun _ => Option (List SV)) none (fun v => Option.rec none (fun r => some (v :: r)) (resV C.P e s l)) (res1V C.P e s x) = some vs := h
    cases hx : res1V C.P e s x with
    | none => rw [hx] at h0; cases h0
    | some v =>
      rw [hx] at h0
      cases hl : resV C.P e s l with
      | none => rw [hl] at h0; cases h0
      | some us =>
        rw [hl] at h0
        cases h0
        obtain ⟨V, h1, h2⟩ := res1V_ok hx hE ha hi
        obtain ⟨Us, h3, h4⟩ := resV_ok hE ha hi hl
        exact ⟨V :: Us, by simp only [List.mapM_cons, Sem.run_bind, h1, Result.andThen_ok, h3, Sem.run_pure], dens_mk h2 h4⟩
def resS (l : List SV) : SV := match l with | [v] => v | l => .tup l
theorem results_ok {fn : Func} {a : Act} {vs : List SV} (h : resV C.P e s fn.results.toList = some vs) (hE : Fits ρ e E) (ha : Agr C E a) (hi : Inv C.w0 (denH ρ s.h ++ F) w) : ∃ V, (results fn a.tmps).run C.P w = .ok V w ∧ den ρ (resS vs) = some V := by
  obtain ⟨Vs, h1, h2⟩ := resV_ok hE ha hi h
  have hm : (fn.results.mapM (resF a.tmps)).run C.P w = .ok Vs.toArray w := by
    rw [Array.mapM_eq_mapM_toList]
    simp only [Sem.run_map, h1, Result.andThen_ok]
  have hr : (results fn a.tmps).run C.P w = .ok (if h : Vs.toArray.size = 1 then Vs.toArray[0] else .tuple Vs.toArray) w := by
    have e : results fn a.tmps = (do let vs ← fn.results.mapM (resF a.tmps); pure (if h : vs.size = 1 then vs[0] else .tuple vs)) := by
      unfold results
      have : ∀ (f g : ResultVar → Sem Value), f = g → (do let vs ← fn.results.mapM f; pure (if h : vs.size = 1 then vs[0] else .tuple vs) : Sem Value) = (do let vs ← fn.results.mapM g; pure (if h : vs.size = 1 then vs[0] else .tuple vs)) := fun f g e => by rw [e]
      refine this _ _ ?_
      funext x
      cases x <;> rfl
    rw [e, Sem.run_bind, hm]
    simp
  refine ⟨_, hr, ?_⟩
  unfold resS
  split
  · rename_i v
    obtain ⟨V, us, rfl, k1, k2⟩ := dens_cons h2
    cases k2
    simpa using k1
  · rename_i hne
    have hl := dens_len h2
    have : ¬ Vs.toArray.size = 1 := by
      intro hs
      have h3 : vs.length = 1 := by rw [← hl]; simpa using hs
      match vs, h3 with
      | [v], _ => exact hne v rfl
    rw [dif_neg this]
    simp [den, h2]
noncomputable def retX (P : Program) (rs : List ResultVar) (e : En) (s : St) : R1 := wo (resV P e s rs) fun l => .ok (resS l) s
noncomputable def retR (P : Program) (rs : List ResultVar) (r : RE) : R1 := RE.rec .no (fun x e s => Ex.rec (retX P rs e s) (fun _ => .no) (retX P rs e s) x) r
theorem retR_ok {rs : List ResultVar} {r : RE} (h : retR P rs r = .ok v s') : ∃ x e, r = .ok x e s' ∧ (toEx x = .normal ∨ toEx x = .ret) ∧ ∃ l, resV P e s' rs = some l ∧ v = resS l := by
  cases r with
  | no => cases h
  | ok x e s =>
    cases x with
    | exit i => cases h
    | normal =>
      obtain ⟨l, h1, h2⟩ := wo_ok (show retX P rs e s = .ok v s' from h)
      cases h2
      exact ⟨_, _, rfl, .inl rfl, l, h1, rfl⟩
    | ret =>
      obtain ⟨l, h1, h2⟩ := wo_ok (show retX P rs e s = .ok v s' from h)
      cases h2
      exact ⟨_, _, rfl, .inr rfl, l, h1, rfl⟩
noncomputable def argsT (l : List SV) : Nat → En := List.rec (motive := fun _ => Nat → En) (fun _ => .nil) (fun v _ ih i => (ih (Nat.succ i)).set i (some v)) l
theorem argsT_ok : ∀ {l : List SV} {Vs : List Value} (i : Nat), dens ρ l = some Vs → Fits ρ (argsT l i) (argE i Vs)
  | [], Vs, i, h => fun t v hv => by
    have hv : En.nil.get t = some v := hv
    rw [En.get_nil] at hv
    cases hv
  | v :: l, Vs, i, h => by
    obtain ⟨V, us, rfl, h1, h2⟩ := dens_cons h
    exact (argsT_ok (i + 1) h2).put h1
noncomputable def runF (P : Program) (call : Cl) (vs : List SV) (s : St) (fn : Func) : R1 := wo fn.body fun b => wb (Nat.ble vs.length fn.ntmps) (retR P fn.results.toList (evC P call fn.ntmps b (argsT vs 0) s))
def fnOf (P : Program) (g : Nat) : Option Func := P.funcs.toList[g]?
noncomputable def callD (P : Program) (n : Nat) : Cl := Nat.rec (motive := fun _ => Cl) (fun _ _ _ => .no) (fun _ ih g vs s => wo (fnOf P g) (runF P ih vs s)) n
end
end Go.Cr
