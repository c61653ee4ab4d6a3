/- Walks of functions that the law reaches, and what they lean on; no conditions. -/
import Derived.Test.YtmbljkghkcgejaaGreatSl21
set_option linter.unusedVariables false
set_option linter.unusedSimpArgs false
set_option maxRecDepth 100000
namespace Go.Sl
inductive Fr where
 | sq (c : Code)
 | bk (id : Nat)
 | lp (J : Env → List ae → Prop)
def KF (C : Ctx) (Q : QT) : List Fr → QT
 | [] => Q
 | .sq c :: fr => iJ (fun E L => Wp C c (KF C Q fr) E L) (KF C Q fr)
 | .bk i :: fr => jD i (KF C Q fr)
 | .lp J :: fr => iJ J (KF C Q fr)
inductive Pos where
 | code (c : Code)
 | ops (all : Array Oper) (l : List Oper)
 | norm
 | exit (i : Nat)
 | ret
structure St where
 fr : List Fr
 E : Env
 pos : Pos
@[reducible] def den (C : Ctx) (Q : QT) (L : List ae) : St → Prop
 | ⟨fr, E, .code c⟩ => Wp C c (KF C Q fr) E L
 | ⟨fr, E, .ops all l⟩ => dk C all l (KF C Q fr) E L
 | ⟨fr, E, .norm⟩ => KF C Q fr .normal E L
 | ⟨fr, E, .exit i⟩ => KF C Q fr (.exit i) E L
 | ⟨fr, E, .ret⟩ => KF C Q fr .ret E L
structure mH where
 sl : List Nat
 fd : List (Nat × Nat × Nat)
def Kh (P : Program) (t : Nat) : Bool := match P.underlying t with | some (.slice _) => true | _ => false
def dJ (P : Program) (T : mH) : Bool := T.sl.all (Kh P) && T.fd.all fun x => match bK P x.1 x.2.1 with | some o => Nat.beq o x.2.2 | none => false
def AJ (t : Nat) : List Nat → Bool
 | [] => false
 | a :: l => cond (Nat.beq a t) true (AJ t l)
def findF (s f : Nat) : List (Nat × Nat × Nat) → Option Nat
 | [] => none
 | x :: l => cond (Nat.beq x.1 s && Nat.beq x.2.1 f) (some x.2.2) (findF s f l)
theorem uY {t : Nat} : ∀ {l : List Nat}, AJ t l = true → t ∈ l
 | [], h => by cases h
 | a :: l, h => by
  unfold AJ at h
  cases hb : Nat.beq a t with
  | true => rw [Nat.eq_of_beq_eq_true hb]; exact .head _
  | false => rw [hb] at h; exact .tail _ (uY h)
theorem tx {s f o : Nat} : ∀ {l : List (Nat × Nat × Nat)}, findF s f l = some o → (s, f, o) ∈ l
 | [], h => by cases h
 | x :: l, h => by
  unfold findF at h
  cases hb : (Nat.beq x.1 s && Nat.beq x.2.1 f) with
  | true =>
   rw [hb] at h
   cases h
   simp only [Bool.and_eq_true] at hb
   rw [← Nat.eq_of_beq_eq_true hb.1, ← Nat.eq_of_beq_eq_true hb.2]
   exact .head _
  | false => rw [hb] at h; exact .tail _ (tx h)
def Ov (n : Int) : Prop := -9223372036854775808 ≤ n ∧ n ≤ 9223372036854775807
def evalOp (T : mH) (E : Env) : Op → Option (Option Prop × Value)
 | .move x => (match ay E x with | some v => some (none, v) | none => none)
 | .assign x => (match ay E x with | some v => some (none, v) | none => none)
 | .pick c x y => (match ay E c with
  | some (.bool true) => (match ay E x with | some v => some (none, v) | none => none)
  | some (.bool false) => (match ay E y with | some v => some (none, v) | none => none)
  | _ => none)
 | .nilCheck x => (match ay E x with | some (.pointer (some p)) => some (none, .pointer (some p)) | _ => none)
 | .extract x i => (match ay E x with | some (.tuple vs) => (match vs[i]? with | some v => some (none, v) | none => none) | _ => none)
 | .unOp .not _ x => (match ay E x with | some (.bool true) => some (none, .bool false) | some (.bool false) => some (none, .bool true) | _ => none)
 | .fieldAddr s x f => (match ay E x with | some (.pointer (some ⟨b, p, none⟩)) => (match findF s f T.fd with | some o => some (none, .pointer (some ⟨b, p + o, none⟩)) | none => none) | _ => none)
 | .call ⟨.builtin bi, ⟨[x]⟩, ⟨[t]⟩⟩ => (match ay E x with
  | some (.slice _ n c) => (match AJ t T.sl with
   | true => (match bi with
    | .len => some (none, .int .i64 n)
    | .cap => some (none, .int .i64 c)
    | _ => none)
   | false => none)
  | _ => none)
 | .binOp o _ x y _ => (match ay E x, ay E y with
  | some (.int k m), some (.int k' n) => (match decEq k k' with
   | .isTrue _ => (match o with
    | .lss => some (none, .bool (decide (m < n)))
    | .leq => some (none, .bool (decide (m ≤ n)))
    | .gtr => some (none, .bool (decide (n < m)))
    | .geq => some (none, .bool (decide (n ≤ m)))
    | .eql => some (none, .bool (decide (m = n)))
    | .neq => some (none, .bool (decide (m ≠ n)))
    | .add => (match k with | .i64 => some (some (-9223372036854775808 ≤ m + n ∧ m + n ≤ 9223372036854775807), .int .i64 (m + n)) | _ => none)
    | .sub => (match k with | .i64 => some (some (-9223372036854775808 ≤ m - n ∧ m - n ≤ 9223372036854775807), .int .i64 (m - n)) | _ => none)
    | .mul => (match k with | .i64 => some (some (-9223372036854775808 ≤ m * n ∧ m * n ≤ 9223372036854775807), .int .i64 (m * n)) | _ => none)
    | _ => none)
   | .isFalse _ => none)
  | _, _ => none)
 | _ => none
def tD : Option Prop → Prop
 | none => True
 | some p => p
theorem r6 {C : Ctx} {T : mH} (hT : dJ C.P T = true) {E : Env} {L : List ae} {ty : TypeId} {q : Option Prop} {v : Value} {o : Op} (h : evalOp T E o = some (q, v)) (hq : tD q) : bX C o ty E L v L := by
 unfold dJ at hT
 simp only [Bool.and_eq_true] at hT
 unfold evalOp at h
 split at h
 ·split at h
  ·rename_i hx; cases h; exact aB hx
  ·cases h
 ·split at h
  ·rename_i hx; cases h; exact cE hx
  ·cases h
 ·split at h
  ·rename_i hc
   split at h
   ·rename_i hx; cases h; exact mS hc hx
   ·cases h
  ·rename_i hc
   split at h
   ·rename_i hx; cases h; exact mP hc hx
   ·cases h
  ·cases h
 ·split at h
  ·rename_i hp; cases h; exact Bn hp
  ·cases h
 ·split at h
  ·rename_i hx
   split at h
   ·rename_i hv; cases h; exact jI hx hv
   ·cases h
  ·cases h
 ·split at h
  ·rename_i hb; cases h; exact re hb
  ·rename_i hb; cases h; exact re hb
  ·cases h
 ·split at h
  ·rename_i hx
   split at h
   ·rename_i o ho
    cases h
    refine iD ?_ hx
    have := List.all_eq_true.1 hT.2 _ (tx ho)
    simp only at this
    split at this
    ·rename_i o' ho'; rw [ho', Nat.eq_of_beq_eq_true this]
    ·cases this
   ·cases h
  ·cases h
 ·rename_i bi x t
  split at h
  ·rename_i p n c hx
   split at h
   ·rename_i hm
    have := List.all_eq_true.1 hT.1 _ (uY hm)
    unfold Kh at this
    split at this
    ·rename_i e he
     split at h
     ·cases h; exact eF (ty' := 0) he hx
     ·cases h; exact KU (ty' := 0) he hx
     ·cases h
    ·cases this
   ·cases h
  ·cases h
 ·split at h
  ·rename_i k m k' n hx hy
   split at h
   ·rename_i e _
    subst e
    split at h <;> first | (cases h; done) | skip
    ·cases h; exact bZ hx hy
    ·cases h; exact iM hx hy
    ·cases h; exact cB hx hy
    ·cases h; exact LF hx hy
    ·cases h; exact cg hx hy
    ·cases h; exact cI hx hy
    ·split at h
     ·cases h; exact bU hx hy (gQ hq.1 hq.2)
     ·cases h
    ·split at h
     ·cases h; exact dD hx hy (gQ hq.1 hq.2)
     ·cases h
    ·split at h
     ·cases h; exact vD hx hy (gQ hq.1 hq.2)
     ·cases h
   ·cases h
  ·cases h
 ·cases h
def nt (all : Array Oper) (E : Env) (j : Nat) (want : Bool) : Option Bool :=
 match all[j]? with
 | some o => (match o.dst with
  | some t => (match E.get t with
   | some (.bool true) => some want
   | some (.bool false) => some (!want)
   | some (.tuple vs) => (match vs with | ⟨[]⟩ => some false | _ => none)
   | _ => none)
  | none => none)
 | none => none
def nP (T : mH) (n : Nat) : St → Option (Option Prop × St)
 | ⟨fr, E, .code c⟩ => (match c with
  | .seq x y => some (none, ⟨.sq y :: fr, E, .code x⟩)
  | .block i x => some (none, ⟨.bk i :: fr, E, .code x⟩)
  | .skip => some (none, ⟨fr, E, .norm⟩)
  | .exit i => some (none, ⟨fr, E, .exit i⟩)
  | .ret => some (none, ⟨fr, E, .ret⟩)
  | .region _ a d => (match d with | false => some (none, ⟨fr, E, .ops a a.toList⟩) | true => none)
  | .cond x a b => (match ay E x with | some (.bool true) => some (none, ⟨fr, E, .code a⟩) | some (.bool false) => some (none, ⟨fr, E, .code b⟩) | _ => none)
  | _ => none)
 | ⟨fr, E, .ops all l⟩ => (match l with
  | [] => some (none, ⟨fr, E, .norm⟩)
  | o :: os => (match o.dst with
   | none => none
   | some d => (match Nat.blt d n with
    | false => none
    | true => (match o.guard with
     | none => (match evalOp T E o.op with | some (q, v) => some (q, ⟨fr, (d, v) :: E, .ops all os⟩) | none => none)
     | some (j, want) => (match nt all E j want with
      | some true => (match evalOp T E o.op with | some (q, v) => some (q, ⟨fr, (d, v) :: E, .ops all os⟩) | none => none)
      | some false => some (none, ⟨fr, (d, undef) :: E, .ops all os⟩)
      | none => none)))))
 | ⟨fr, E, .norm⟩ => (match fr with
  | .sq c :: fr => some (none, ⟨fr, E, .code c⟩)
  | .bk _ :: fr => some (none, ⟨fr, E, .norm⟩)
  | _ => none)
 | ⟨fr, E, .exit i⟩ => (match fr with
  | .bk j :: fr => (match Nat.beq i j with | true => some (none, ⟨fr, E, .norm⟩) | false => some (none, ⟨fr, E, .exit i⟩))
  | .sq _ :: fr => some (none, ⟨fr, E, .exit i⟩)
  | .lp _ :: fr => some (none, ⟨fr, E, .exit i⟩)
  | [] => none)
 | ⟨fr, E, .ret⟩ => (match fr with
  | _ :: fr => some (none, ⟨fr, E, .ret⟩)
  | [] => none)
def jH (T : mH) (n : Nat) : Nat → St → Option Prop → Option (Option Prop × St)
 | 0, s, p => some (p, s)
 | k + 1, s, p => match nP T n s with
  | some (none, s') => jH T n k s' p
  | some (some q, s') => (match p with | none => jH T n k s' (some q) | some p => jH T n k s' (some (p ∧ q)))
  | none => none
section
variable {C : Ctx} {Q : QT} {L : List ae} {E : Env} {fr : List Fr}
theorem xU {all : Array Oper} {E : Env} {j : Nat} {want : Bool} (hs : nt all E j want = some true) : jk all E j = some want := by
 unfold nt at hs
 unfold jk
 cases hj : all[j]? with
 | none => rw [hj] at hs; cases hs
 | some oj =>
  rw [hj] at hs
  simp only at hs ⊢
  cases ht : oj.dst with
  | none => rw [ht] at hs; cases hs
  | some t =>
   rw [ht] at hs
   simp only at hs ⊢
   split at hs
   ·rename_i hb; cases hs; rw [hb]
   ·rename_i hb
    have : want = false := by cases want <;> simp_all
    subst this; rw [hb]
   ·split at hs <;> cases hs
   ·cases hs
theorem xZ {all : Array Oper} {E : Env} {j : Nat} {want : Bool} (hs : nt all E j want = some false) : (∃ b, jk all E j = some b ∧ (b == want) = false) ∨ (∃ oj t, all[j]? = some oj ∧ oj.dst = some t ∧ E.get t = some undef) := by
 unfold nt at hs
 unfold jk
 cases hj : all[j]? with
 | none => rw [hj] at hs; cases hs
 | some oj =>
  rw [hj] at hs
  simp only at hs ⊢
  cases ht : oj.dst with
  | none => rw [ht] at hs; cases hs
  | some t =>
   rw [ht] at hs
   simp only at hs ⊢
   split at hs
   ·rename_i hb
    have : want = false := by cases want <;> simp_all
    subst this
    exact .inl ⟨true, by rw [hb], rfl⟩
   ·rename_i hb
    have : want = true := by cases want <;> simp_all
    subst this
    exact .inl ⟨false, by rw [hb], rfl⟩
   ·rename_i vs hb
    split at hs
    ·exact .inr ⟨oj, t, rfl, ht, hb⟩
    ·cases hs
   ·cases hs
theorem K3 {all : Array Oper} {o : Oper} {os : List Oper} {R : QT} {j : Nat} {want : Bool} (hg : o.guard = some (j, want)) (hs : nt all E j want = some true) (h : dk C all ({ o with guard := none } :: os) R E L) : dk C all (o :: os) R E L := by
 obtain ⟨dst, op, ty, pos, aft, g⟩ := o
 simp only at hg
 subst hg
 exact al (xU hs) h
theorem JH {all : Array Oper} {o : Oper} {os : List Oper} {R : QT} {j d : Nat} {want : Bool} (hg : o.guard = some (j, want)) (hd : o.dst = some d) (hn : Nat.blt d C.n = true) (hs : nt all E j want = some false) (h : dk C all os R ((d, undef) :: E) L) : dk C all (o :: os) R E L := by
 obtain ⟨dst, op, ty, pos, aft, g⟩ := o
 simp only at hg hd
 subst hg; subst hd
 rcases xZ hs with ⟨b, h1, h2⟩ | ⟨oj, t, h1, h2, h3⟩
 ·exact xj h1 h2 hn h
 ·exact tO h1 h2 h3 hn h
theorem sj {T : mH} (hT : dJ C.P T = true) {s s' : St} {q : Option Prop} (h : nP T C.n s = some (q, s')) (hq : tD q) (g : den C Q L s') : den C Q L s := by
 obtain ⟨fr, E, pos⟩ := s
 cases pos with
 | code c =>
  cases c with
  | seq x y => cases h; exact ja g
  | block i x => cases h; exact oI g
  | skip => cases h; exact I5 g
  | exit i => cases h; exact Kp g
  | ret => cases h; exact Gt g
  | region i a d =>
   cases d with
   | false =>
    cases h
    obtain ⟨l⟩ := a
    exact aW (l := l) g
   | true => cases h
  | cond x a b =>
   simp only [nP] at h
   split at h
   ·rename_i hx; cases h; exact oq hx g
   ·rename_i hx; cases h; exact lL hx g
   ·cases h
  | loop _ => cases h
  | rangeFunc _ _ _ _ => cases h
  | scope _ => cases h
  | label _ => cases h
  | goto _ => cases h
  | refuse _ => cases h
 | ops all l =>
  cases l with
  | nil => cases h; exact bC g
  | cons o os =>
   simp only [nP] at h
   split at h
   ·cases h
   ·rename_i d hd
    split at h
    ·cases h
    ·rename_i hn
     have plain : ∀ {o : Oper} {v : Value}, o.dst = some d → o.guard = none → evalOp T E o.op = some (q, v) → dk C all os (KF C Q fr) ((d, v) :: E) L → dk C all (o :: os) (KF C Q fr) E L := by
      rintro ⟨dst, op, ty, pos, aft, gd⟩ v h1 h2 h3 h4
      simp only at h1 h2 h3
      subst h1; subst h2
      exact td (r6 hT h3 hq) hn h4
     split at h
     ·rename_i hg
      split at h
      ·rename_i v hv; cases h; exact plain hd hg hv g
      ·cases h
     ·rename_i j want hg
      split at h
      ·rename_i hs
       split at h
       ·rename_i v hv
        cases h
        exact K3 hg hs (plain (o := { o with guard := none }) hd rfl hv g)
       ·cases h
      ·rename_i hs; cases h; exact JH hg hd hn hs g
      ·cases h
 | norm =>
  cases fr with
  | nil => cases h
  | cons f fr =>
   cases f with
   | sq c => cases h; exact bp g
   | bk i => cases h; exact gR g
   | lp J => cases h
 | exit i =>
  cases fr with
  | nil => cases h
  | cons f fr =>
   cases f with
   | sq c => cases h; exact Gc g
   | lp J => cases h; exact Gc g
   | bk j =>
    simp only [nP] at h
    split at h
    ·rename_i hb
     cases h
     have := Nat.eq_of_beq_eq_true hb
     subst this
     exact Ll g
    ·rename_i hb; cases h; exact KX hb g
 | ret =>
  cases fr with
  | nil => cases h
  | cons f fr =>
   cases h
   cases f with
   | sq c => exact FX g
   | bk i => exact LH g
   | lp J => exact FX g
theorem oe {T : mH} (hT : dJ C.P T = true) : ∀ (k : Nat) {s s' : St} {p q : Option Prop}, jH T C.n k s p = some (q, s') → tD q → (tD p → den C Q L s' → den C Q L s) ∧ tD p
 | 0, s, s', p, q, h, hq => by cases h; exact ⟨fun _ g => g, hq⟩
 | k + 1, s, s', p, q, h, hq => by
  simp only [jH] at h
  split at h
  ·rename_i s1 h1
   obtain ⟨h2, h3⟩ := oe hT k h hq
   exact ⟨fun hp g => sj hT h1 trivial (h2 hp g), h3⟩
  ·rename_i r s1 h1
   split at h
   ·obtain ⟨h2, h3⟩ := oe hT k h hq
    exact ⟨fun _ g => sj hT h1 h3 (h2 h3 g), trivial⟩
   ·rename_i p'
    obtain ⟨h2, h3⟩ := oe hT k h hq
    exact ⟨fun _ g => sj hT h1 h3.2 (h2 h3 g), h3.1⟩
  ·cases h
theorem qK {T : mH} (hT : dJ C.P T = true) {k : Nat} {s s' : St} (h : jH T C.n k s none = some (none, s')) (g : den C Q L s') : den C Q L s := (oe hT k h trivial).1 trivial g
theorem qH {T : mH} (hT : dJ C.P T = true) {k : Nat} {s s' : St} {p : Prop} (h : jH T C.n k s none = some (some p, s')) (hp : p) (g : den C Q L s') : den C Q L s := (oe hT k h hp).1 trivial g
variable {T : mH} {c : Code} {all : Array Oper} {l : List Oper} {s' : St} {J : Env → List ae → Prop} {p : Prop}
theorem rC (hT : dJ C.P T = true) (k : Nat) (h : jH T C.n k ⟨fr, E, .code c⟩ none = some (none, s')) (g : den C Q L s') : Wp C c (KF C Q fr) E L := qK hT h g
theorem rO (hT : dJ C.P T = true) (k : Nat) (h : jH T C.n k ⟨fr, E, .ops all l⟩ none = some (none, s')) (g : den C Q L s') : dk C all l (KF C Q fr) E L := qK hT h g
theorem rN (hT : dJ C.P T = true) (k : Nat) (h : jH T C.n k ⟨fr, E, .norm⟩ none = some (none, s')) (g : den C Q L s') : KF C Q fr .normal E L := qK hT h g
theorem rT (hT : dJ C.P T = true) (k : Nat) (h : jH T C.n k ⟨[], E, .code c⟩ none = some (none, s')) (g : den C Q L s') : Wp C c Q E L := qK (Q := Q) hT h g
theorem rL (hT : dJ C.P T = true) (k : Nat) (h : jH T C.n k ⟨.lp J :: fr, E, .code c⟩ none = some (none, s')) (g : den C Q L s') : Wp C c (iJ J (KF C Q fr)) E L := qK (Q := Q) hT h g
theorem cy (hT : dJ C.P T = true) (k : Nat) (h : jH T C.n k ⟨fr, E, .code c⟩ none = some (some p, s')) (hp : p) (g : den C Q L s') : Wp C c (KF C Q fr) E L := qH hT h hp g
theorem bN (hT : dJ C.P T = true) (k : Nat) (h : jH T C.n k ⟨fr, E, .ops all l⟩ none = some (some p, s')) (hp : p) (g : den C Q L s') : dk C all l (KF C Q fr) E L := qH hT h hp g
theorem Oy (hT : dJ C.P T = true) (k : Nat) (h : jH T C.n k ⟨fr, E, .norm⟩ none = some (some p, s')) (hp : p) (g : den C Q L s') : KF C Q fr .normal E L := qH hT h hp g
theorem rZ (hT : dJ C.P T = true) (k : Nat) (h : jH T C.n k ⟨[], E, .code c⟩ none = some (some p, s')) (hp : p) (g : den C Q L s') : Wp C c Q E L := qH (Q := Q) hT h hp g
theorem uN (hT : dJ C.P T = true) (k : Nat) (h : jH T C.n k ⟨.lp J :: fr, E, .code c⟩ none = some (some p, s')) (hp : p) (g : den C Q L s') : Wp C c (iJ J (KF C Q fr)) E L := qH (Q := Q) hT h hp g
end
end Go.Sl
