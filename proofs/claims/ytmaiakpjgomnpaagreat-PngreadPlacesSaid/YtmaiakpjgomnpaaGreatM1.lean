/- Walks of functions that the law reaches, and what they lean on; no conditions. -/
import Derived.Test.YtmaiakpjgomnpaaGreatM0
import Derived.OpenShut
import Derived.ChangeArms
import Derived.Recover
import Derived.Laws.BytesArg
set_option linter.unusedVariables false
set_option linter.unusedSimpArgs false
set_option maxRecDepth 100000
namespace Go.Sl
open Go.RowKit (Below)
theorem aA {A : ab} {L : List ab} : A ∈ A :: L := .head _
theorem dM {A B : ab} {L : List ab} : A ∈ B :: A :: L := .tail _ (.head _)
theorem dL {A B B1 : ab} {L : List ab} : A ∈ B :: B1 :: A :: L := .tail _ dM
theorem ig {A B B1 B2 : ab} {L : List ab} : A ∈ B :: B1 :: B2 :: A :: L := .tail _ dL
theorem jB {A B B1 B2 B3 : ab} {L : List ab} : A ∈ B :: B1 :: B2 :: B3 :: A :: L := .tail _ ig
theorem WH {A B B1 B2 B3 B4 : ab} {L : List ab} : A ∈ B :: B1 :: B2 :: B3 :: B4 :: A :: L := .tail _ jB
theorem JN {A B B1 B2 B3 B4 B5 : ab} {L : List ab} : A ∈ B :: B1 :: B2 :: B3 :: B4 :: B5 :: A :: L := .tail _ WH
theorem JS {A B B1 B2 B3 B4 B5 B6 : ab} {L : List ab} : A ∈ B :: B1 :: B2 :: B3 :: B4 :: B5 :: B6 :: A :: L := .tail _ JN
theorem dg {A : ab} {L : List ab} : fR (A :: L) A L := .head
theorem ay {A B : ab} {L : List ab} : fR (B :: A :: L) A (B :: L) := .tail .head
theorem bj {A B B1 : ab} {L : List ab} : fR (B :: B1 :: A :: L) A (B :: B1 :: L) := .tail ay
theorem dw {A B B1 B2 : ab} {L : List ab} : fR (B :: B1 :: B2 :: A :: L) A (B :: B1 :: B2 :: L) := .tail bj
theorem iG {A B B1 B2 B3 : ab} {L : List ab} : fR (B :: B1 :: B2 :: B3 :: A :: L) A (B :: B1 :: B2 :: B3 :: L) := .tail dw
theorem jJ {A B B1 B2 B3 B4 : ab} {L : List ab} : fR (B :: B1 :: B2 :: B3 :: B4 :: A :: L) A (B :: B1 :: B2 :: B3 :: B4 :: L) := .tail iG
theorem mF {A B B1 B2 B3 B4 B5 : ab} {L : List ab} : fR (B :: B1 :: B2 :: B3 :: B4 :: B5 :: A :: L) A (B :: B1 :: B2 :: B3 :: B4 :: B5 :: L) := .tail jJ
theorem yd {A B B1 B2 B3 B4 B5 B6 : ab} {L : List ab} : fR (B :: B1 :: B2 :: B3 :: B4 :: B5 :: B6 :: A :: L) A (B :: B1 :: B2 :: B3 :: B4 :: B5 :: B6 :: L) := .tail mF
theorem fW {A A' : ab} {L : List ab} : iQ (A :: L) A A' (A' :: L) := .head
theorem tg {A A' B : ab} {L : List ab} : iQ (B :: A :: L) A A' (B :: A' :: L) := .tail .head
theorem zf {A A' B B1 : ab} {L : List ab} : iQ (B :: B1 :: A :: L) A A' (B :: B1 :: A' :: L) := .tail tg
theorem JA {A A' B B1 B2 : ab} {L : List ab} : iQ (B :: B1 :: B2 :: A :: L) A A' (B :: B1 :: B2 :: A' :: L) := .tail zf
theorem Vf {A A' B B1 B2 B3 : ab} {L : List ab} : iQ (B :: B1 :: B2 :: B3 :: A :: L) A A' (B :: B1 :: B2 :: B3 :: A' :: L) := .tail JA
theorem IP {A A' B B1 B2 B3 B4 : ab} {L : List ab} : iQ (B :: B1 :: B2 :: B3 :: B4 :: A :: L) A A' (B :: B1 :: B2 :: B3 :: B4 :: A' :: L) := .tail Vf
theorem WC {A A' B B1 B2 B3 B4 B5 : ab} {L : List ab} : iQ (B :: B1 :: B2 :: B3 :: B4 :: B5 :: A :: L) A A' (B :: B1 :: B2 :: B3 :: B4 :: B5 :: A' :: L) := .tail IP
theorem WS {A A' B B1 B2 B3 B4 B5 B6 : ab} {L : List ab} : iQ (B :: B1 :: B2 :: B3 :: B4 :: B5 :: B6 :: A :: L) A A' (B :: B1 :: B2 :: B3 :: B4 :: B5 :: B6 :: A' :: L) := .tail WC
theorem ao {L : List ab} : Drop L L := .refl
theorem bC {A : ab} {L : List ab} : Drop (A :: L) L := .skip .refl
theorem fS {A B : ab} {L : List ab} : Drop (A :: B :: L) L := .skip bC
theorem my {A B B1 : ab} {L : List ab} : Drop (A :: B :: B1 :: L) L := .skip fS
theorem k6 {A B B1 B2 : ab} {L : List ab} : Drop (A :: B :: B1 :: B2 :: L) L := .skip my
theorem rn {A B B1 B2 B3 : ab} {L : List ab} : Drop (A :: B :: B1 :: B2 :: B3 :: L) L := .skip k6
theorem U2 {A B B1 B2 B3 B4 : ab} {L : List ab} : Drop (A :: B :: B1 :: B2 :: B3 :: B4 :: L) L := .skip rn
theorem DL {A B B1 B2 B3 B4 B5 : ab} {L : List ab} : Drop (A :: B :: B1 :: B2 :: B3 :: B4 :: B5 :: L) L := .skip U2
theorem Nh {A B B1 B2 B3 B4 B5 B6 : ab} {L : List ab} : Drop (A :: B :: B1 :: B2 :: B3 :: B4 :: B5 :: B6 :: L) L := .skip DL
section
variable {C : Ctx} {Q : QT} {E : Env} {L F : List ab}
theorem bb {c : Code} {M : List ab} (h : Sub L M) (k : Wp C c Q E M) : Wp C c Q E L := fun a w ha hi => k a w ha (h _ _ hi)
theorem TG {ops : Array Oper} {rest : List Oper} {M : List ab} (h : Sub L M) (k : cy C ops rest Q E M) : cy C ops rest Q E L := fun a w ha hi => k a w ha (h _ _ hi)
def Jn {ι : Type} (T : ι → Env) (G : ι → List ab) (K : ι → Prop) (E : Env) (L : List ab) : Prop := ∃ i, K i ∧ Le (T i) E ∧ Sub L (G i)
theorem lW {ι : Type} {c : Code} (T : ι → Env) (G : ι → List ab) (K : ι → Prop) (μ : ι → Nat) (h0 : Jn T G K E L)
  (h : ∀ i, K i → Wp C c (ij (fun E' L' => Jn T G (fun j => K j ∧ μ j < μ i) E' L') Q) (T i) (G i)) : Wp C (.loop c) Q E L := by
 obtain ⟨i0, k0, e0, l0⟩ := h0
 refine bb l0 (bD (T i0) e0 ?_)
 refine Rf (fun m E L => ∃ i, K i ∧ μ i = m ∧ E = T i ∧ L = G i) (μ i0) ⟨i0, k0, rfl, rfl, rfl⟩ ?_
 rintro m E L ⟨i, ki, rfl, rfl, rfl⟩
 intro a w ha hi
 refine Code.wp_mono ?_ (h i ki a w ha hi)
 rintro e a' w' ⟨E', L', h1, h2, h3⟩
 cases e with
 | normal =>
  obtain ⟨j, ⟨kj, hlt⟩, hE, hL⟩ := h3
  exact ⟨T j, G j, h1.le hE, hL _ _ h2, μ j, hlt, j, kj, rfl, rfl, rfl⟩
 | exit _ => exact ⟨E', L', h1, h2, h3⟩
 | goto _ => exact ⟨E', L', h1, h2, h3⟩
 | ret => exact ⟨E', L', h1, h2, h3⟩
 | panic _ => exact ⟨E', L', h1, h2, h3⟩
 | outgrown => exact ⟨E', L', h1, h2, h3⟩
theorem AB {ι : Type} {x y : Code} (T : ι → Env) (G : ι → List ab) (K : ι → Prop) (h : Wp C x (ij (fun E' L' => Jn T G K E' L') Q) E L)
  (k : ∀ i, K i → Wp C y Q (T i) (G i)) : Wp C (.seq x y) Q E L := by
 refine iN (h.mono ?_)
 intro e E' L' hq
 cases e with
 | normal =>
  obtain ⟨i, ki, hE, hL⟩ := hq
  exact bb hL (bD _ hE (k i ki))
 | exit _ => exact hq
 | goto _ => exact hq
 | ret => exact hq
 | panic _ => exact hq
 | outgrown => exact hq
def J1 {α0 : Type} (T : α0 → Env) (G : α0 → List ab) (K : α0 → Prop) (E : Env) (L : List ab) : Prop := ∃ (y0 : α0), K y0 ∧ Le (T y0) E ∧ Sub L (G y0)
theorem J1.jn {α0 : Type} {T : α0 → Env} {G : α0 → List ab} {K : α0 → Prop} {E : Env} {L : List ab} (h : J1 T G K E L) : Jn (fun i : α0 => T i) (fun i : α0 => G i) (fun i : α0 => K i) E L :=
 let ⟨y0, h1, h2, h3⟩ := h; ⟨y0, h1, h2, h3⟩
theorem i1 {α0 : Type} {T : α0 → Env} {G : α0 → List ab} {K : α0 → Prop} {E : Env} {L : List ab} (y0 : α0) (h1 : K y0) (h2 : Le (T y0) E) (h3 : Sub L (G y0)) : J1 T G K E L := ⟨y0, h1, h2, h3⟩
theorem j1 {α0 : Type} {T : α0 → Env} {G : α0 → List ab} {K : α0 → Prop} {E : Env} {L : List ab} (y0 : α0) (h1 : K y0) (h2 : Le (T y0) E) (h3 : Sub L (G y0)) : ij (fun E' L' => J1 T G K E' L') Q .normal E L := ⟨y0, h1, h2, h3⟩
theorem cB {α0 : Type} {c : Code} (T : α0 → Env) (G : α0 → List ab) (K : α0 → Prop) (μ : α0 → Nat) (h0 : J1 T G K E L)
  (h : ∀ (x0 : α0), K x0 → Wp C c (ij (fun E' L' => J1 T G (fun y0 => K y0 ∧ μ y0 < μ x0) E' L') Q) (T x0) (G x0)) : Wp C (.loop c) Q E L :=
 lW (fun i : α0 => T i) (fun i : α0 => G i) (fun i : α0 => K i) (fun i : α0 => μ i) h0.jn fun i ki => (h i ki).mono fun e E' L' hq => by
  cases e with
  | normal => exact J1.jn hq
  | exit _ => exact hq
  | goto _ => exact hq
  | ret => exact hq
  | panic _ => exact hq
  | outgrown => exact hq
theorem kP {α0 : Type} {x y : Code} (T : α0 → Env) (G : α0 → List ab) (K : α0 → Prop) (h : Wp C x (ij (fun E' L' => J1 T G K E' L') Q) E L)
  (k : ∀ (x0 : α0), K x0 → Wp C y Q (T x0) (G x0)) : Wp C (.seq x y) Q E L :=
 AB (fun i : α0 => T i) (fun i : α0 => G i) (fun i : α0 => K i) (h.mono fun e E' L' hq => by
  cases e with
  | normal => exact J1.jn hq
  | exit _ => exact hq
  | goto _ => exact hq
  | ret => exact hq
  | panic _ => exact hq
  | outgrown => exact hq) fun i ki => k i ki
def J2 {α0 α1 : Type} (T : α0 → α1 → Env) (G : α0 → α1 → List ab) (K : α0 → α1 → Prop) (E : Env) (L : List ab) : Prop := ∃ (y0 : α0) (y1 : α1), K y0 y1 ∧ Le (T y0 y1) E ∧ Sub L (G y0 y1)
theorem J2.jn {α0 α1 : Type} {T : α0 → α1 → Env} {G : α0 → α1 → List ab} {K : α0 → α1 → Prop} {E : Env} {L : List ab} (h : J2 T G K E L) : Jn (fun i : α0 × α1 => T i.1 i.2) (fun i : α0 × α1 => G i.1 i.2) (fun i : α0 × α1 => K i.1 i.2) E L :=
 let ⟨y0, y1, h1, h2, h3⟩ := h; ⟨⟨y0, y1⟩, h1, h2, h3⟩
theorem i2 {α0 α1 : Type} {T : α0 → α1 → Env} {G : α0 → α1 → List ab} {K : α0 → α1 → Prop} {E : Env} {L : List ab} (y0 : α0) (y1 : α1) (h1 : K y0 y1) (h2 : Le (T y0 y1) E) (h3 : Sub L (G y0 y1)) : J2 T G K E L := ⟨y0, y1, h1, h2, h3⟩
theorem j2 {α0 α1 : Type} {T : α0 → α1 → Env} {G : α0 → α1 → List ab} {K : α0 → α1 → Prop} {E : Env} {L : List ab} (y0 : α0) (y1 : α1) (h1 : K y0 y1) (h2 : Le (T y0 y1) E) (h3 : Sub L (G y0 y1)) : ij (fun E' L' => J2 T G K E' L') Q .normal E L := ⟨y0, y1, h1, h2, h3⟩
theorem gl {α0 α1 : Type} {c : Code} (T : α0 → α1 → Env) (G : α0 → α1 → List ab) (K : α0 → α1 → Prop) (μ : α0 → α1 → Nat) (h0 : J2 T G K E L)
  (h : ∀ (x0 : α0) (x1 : α1), K x0 x1 → Wp C c (ij (fun E' L' => J2 T G (fun y0 y1 => K y0 y1 ∧ μ y0 y1 < μ x0 x1) E' L') Q) (T x0 x1) (G x0 x1)) : Wp C (.loop c) Q E L :=
 lW (fun i : α0 × α1 => T i.1 i.2) (fun i : α0 × α1 => G i.1 i.2) (fun i : α0 × α1 => K i.1 i.2) (fun i : α0 × α1 => μ i.1 i.2) h0.jn fun i ki => (h i.1 i.2 ki).mono fun e E' L' hq => by
  cases e with
  | normal => exact J2.jn hq
  | exit _ => exact hq
  | goto _ => exact hq
  | ret => exact hq
  | panic _ => exact hq
  | outgrown => exact hq
theorem Bp {α0 α1 : Type} {x y : Code} (T : α0 → α1 → Env) (G : α0 → α1 → List ab) (K : α0 → α1 → Prop) (h : Wp C x (ij (fun E' L' => J2 T G K E' L') Q) E L)
  (k : ∀ (x0 : α0) (x1 : α1), K x0 x1 → Wp C y Q (T x0 x1) (G x0 x1)) : Wp C (.seq x y) Q E L :=
 AB (fun i : α0 × α1 => T i.1 i.2) (fun i : α0 × α1 => G i.1 i.2) (fun i : α0 × α1 => K i.1 i.2) (h.mono fun e E' L' hq => by
  cases e with
  | normal => exact J2.jn hq
  | exit _ => exact hq
  | goto _ => exact hq
  | ret => exact hq
  | panic _ => exact hq
  | outgrown => exact hq) fun i ki => k i.1 i.2 ki
def J3 {α0 α1 α2 : Type} (T : α0 → α1 → α2 → Env) (G : α0 → α1 → α2 → List ab) (K : α0 → α1 → α2 → Prop) (E : Env) (L : List ab) : Prop := ∃ (y0 : α0) (y1 : α1) (y2 : α2), K y0 y1 y2 ∧ Le (T y0 y1 y2) E ∧ Sub L (G y0 y1 y2)
theorem J3.jn {α0 α1 α2 : Type} {T : α0 → α1 → α2 → Env} {G : α0 → α1 → α2 → List ab} {K : α0 → α1 → α2 → Prop} {E : Env} {L : List ab} (h : J3 T G K E L) : Jn (fun i : α0 × α1 × α2 => T i.1 i.2.1 i.2.2) (fun i : α0 × α1 × α2 => G i.1 i.2.1 i.2.2) (fun i : α0 × α1 × α2 => K i.1 i.2.1 i.2.2) E L :=
 let ⟨y0, y1, y2, h1, h2, h3⟩ := h; ⟨⟨y0, y1, y2⟩, h1, h2, h3⟩
theorem i3 {α0 α1 α2 : Type} {T : α0 → α1 → α2 → Env} {G : α0 → α1 → α2 → List ab} {K : α0 → α1 → α2 → Prop} {E : Env} {L : List ab} (y0 : α0) (y1 : α1) (y2 : α2) (h1 : K y0 y1 y2) (h2 : Le (T y0 y1 y2) E) (h3 : Sub L (G y0 y1 y2)) : J3 T G K E L := ⟨y0, y1, y2, h1, h2, h3⟩
theorem j3 {α0 α1 α2 : Type} {T : α0 → α1 → α2 → Env} {G : α0 → α1 → α2 → List ab} {K : α0 → α1 → α2 → Prop} {E : Env} {L : List ab} (y0 : α0) (y1 : α1) (y2 : α2) (h1 : K y0 y1 y2) (h2 : Le (T y0 y1 y2) E) (h3 : Sub L (G y0 y1 y2)) : ij (fun E' L' => J3 T G K E' L') Q .normal E L := ⟨y0, y1, y2, h1, h2, h3⟩
theorem gM {α0 α1 α2 : Type} {c : Code} (T : α0 → α1 → α2 → Env) (G : α0 → α1 → α2 → List ab) (K : α0 → α1 → α2 → Prop) (μ : α0 → α1 → α2 → Nat) (h0 : J3 T G K E L)
  (h : ∀ (x0 : α0) (x1 : α1) (x2 : α2), K x0 x1 x2 → Wp C c (ij (fun E' L' => J3 T G (fun y0 y1 y2 => K y0 y1 y2 ∧ μ y0 y1 y2 < μ x0 x1 x2) E' L') Q) (T x0 x1 x2) (G x0 x1 x2)) : Wp C (.loop c) Q E L :=
 lW (fun i : α0 × α1 × α2 => T i.1 i.2.1 i.2.2) (fun i : α0 × α1 × α2 => G i.1 i.2.1 i.2.2) (fun i : α0 × α1 × α2 => K i.1 i.2.1 i.2.2) (fun i : α0 × α1 × α2 => μ i.1 i.2.1 i.2.2) h0.jn fun i ki => (h i.1 i.2.1 i.2.2 ki).mono fun e E' L' hq => by
  cases e with
  | normal => exact J3.jn hq
  | exit _ => exact hq
  | goto _ => exact hq
  | ret => exact hq
  | panic _ => exact hq
  | outgrown => exact hq
def J4 {α0 α1 α2 α3 : Type} (T : α0 → α1 → α2 → α3 → Env) (G : α0 → α1 → α2 → α3 → List ab) (K : α0 → α1 → α2 → α3 → Prop) (E : Env) (L : List ab) : Prop := ∃ (y0 : α0) (y1 : α1) (y2 : α2) (y3 : α3), K y0 y1 y2 y3 ∧ Le (T y0 y1 y2 y3) E ∧ Sub L (G y0 y1 y2 y3)
theorem J4.jn {α0 α1 α2 α3 : Type} {T : α0 → α1 → α2 → α3 → Env} {G : α0 → α1 → α2 → α3 → List ab} {K : α0 → α1 → α2 → α3 → Prop} {E : Env} {L : List ab} (h : J4 T G K E L) : Jn (fun i : α0 × α1 × α2 × α3 => T i.1 i.2.1 i.2.2.1 i.2.2.2) (fun i : α0 × α1 × α2 × α3 => G i.1 i.2.1 i.2.2.1 i.2.2.2) (fun i : α0 × α1 × α2 × α3 => K i.1 i.2.1 i.2.2.1 i.2.2.2) E L :=
 let ⟨y0, y1, y2, y3, h1, h2, h3⟩ := h; ⟨⟨y0, y1, y2, y3⟩, h1, h2, h3⟩
theorem i4 {α0 α1 α2 α3 : Type} {T : α0 → α1 → α2 → α3 → Env} {G : α0 → α1 → α2 → α3 → List ab} {K : α0 → α1 → α2 → α3 → Prop} {E : Env} {L : List ab} (y0 : α0) (y1 : α1) (y2 : α2) (y3 : α3) (h1 : K y0 y1 y2 y3) (h2 : Le (T y0 y1 y2 y3) E) (h3 : Sub L (G y0 y1 y2 y3)) : J4 T G K E L := ⟨y0, y1, y2, y3, h1, h2, h3⟩
theorem j4 {α0 α1 α2 α3 : Type} {T : α0 → α1 → α2 → α3 → Env} {G : α0 → α1 → α2 → α3 → List ab} {K : α0 → α1 → α2 → α3 → Prop} {E : Env} {L : List ab} (y0 : α0) (y1 : α1) (y2 : α2) (y3 : α3) (h1 : K y0 y1 y2 y3) (h2 : Le (T y0 y1 y2 y3) E) (h3 : Sub L (G y0 y1 y2 y3)) : ij (fun E' L' => J4 T G K E' L') Q .normal E L := ⟨y0, y1, y2, y3, h1, h2, h3⟩
theorem zI {α0 α1 α2 α3 : Type} {c : Code} (T : α0 → α1 → α2 → α3 → Env) (G : α0 → α1 → α2 → α3 → List ab) (K : α0 → α1 → α2 → α3 → Prop) (μ : α0 → α1 → α2 → α3 → Nat) (h0 : J4 T G K E L)
  (h : ∀ (x0 : α0) (x1 : α1) (x2 : α2) (x3 : α3), K x0 x1 x2 x3 → Wp C c (ij (fun E' L' => J4 T G (fun y0 y1 y2 y3 => K y0 y1 y2 y3 ∧ μ y0 y1 y2 y3 < μ x0 x1 x2 x3) E' L') Q) (T x0 x1 x2 x3) (G x0 x1 x2 x3)) : Wp C (.loop c) Q E L :=
 lW (fun i : α0 × α1 × α2 × α3 => T i.1 i.2.1 i.2.2.1 i.2.2.2) (fun i : α0 × α1 × α2 × α3 => G i.1 i.2.1 i.2.2.1 i.2.2.2) (fun i : α0 × α1 × α2 × α3 => K i.1 i.2.1 i.2.2.1 i.2.2.2) (fun i : α0 × α1 × α2 × α3 => μ i.1 i.2.1 i.2.2.1 i.2.2.2) h0.jn fun i ki => (h i.1 i.2.1 i.2.2.1 i.2.2.2 ki).mono fun e E' L' hq => by
  cases e with
  | normal => exact J4.jn hq
  | exit _ => exact hq
  | goto _ => exact hq
  | ret => exact hq
  | panic _ => exact hq
  | outgrown => exact hq
def J5 {α0 α1 α2 α3 α4 : Type} (T : α0 → α1 → α2 → α3 → α4 → Env) (G : α0 → α1 → α2 → α3 → α4 → List ab) (K : α0 → α1 → α2 → α3 → α4 → Prop) (E : Env) (L : List ab) : Prop := ∃ (y0 : α0) (y1 : α1) (y2 : α2) (y3 : α3) (y4 : α4), K y0 y1 y2 y3 y4 ∧ Le (T y0 y1 y2 y3 y4) E ∧ Sub L (G y0 y1 y2 y3 y4)
theorem J5.jn {α0 α1 α2 α3 α4 : Type} {T : α0 → α1 → α2 → α3 → α4 → Env} {G : α0 → α1 → α2 → α3 → α4 → List ab} {K : α0 → α1 → α2 → α3 → α4 → Prop} {E : Env} {L : List ab} (h : J5 T G K E L) : Jn (fun i : α0 × α1 × α2 × α3 × α4 => T i.1 i.2.1 i.2.2.1 i.2.2.2.1 i.2.2.2.2) (fun i : α0 × α1 × α2 × α3 × α4 => G i.1 i.2.1 i.2.2.1 i.2.2.2.1 i.2.2.2.2) (fun i : α0 × α1 × α2 × α3 × α4 => K i.1 i.2.1 i.2.2.1 i.2.2.2.1 i.2.2.2.2) E L :=
 let ⟨y0, y1, y2, y3, y4, h1, h2, h3⟩ := h; ⟨⟨y0, y1, y2, y3, y4⟩, h1, h2, h3⟩
theorem i5 {α0 α1 α2 α3 α4 : Type} {T : α0 → α1 → α2 → α3 → α4 → Env} {G : α0 → α1 → α2 → α3 → α4 → List ab} {K : α0 → α1 → α2 → α3 → α4 → Prop} {E : Env} {L : List ab} (y0 : α0) (y1 : α1) (y2 : α2) (y3 : α3) (y4 : α4) (h1 : K y0 y1 y2 y3 y4) (h2 : Le (T y0 y1 y2 y3 y4) E) (h3 : Sub L (G y0 y1 y2 y3 y4)) : J5 T G K E L := ⟨y0, y1, y2, y3, y4, h1, h2, h3⟩
theorem j5 {α0 α1 α2 α3 α4 : Type} {T : α0 → α1 → α2 → α3 → α4 → Env} {G : α0 → α1 → α2 → α3 → α4 → List ab} {K : α0 → α1 → α2 → α3 → α4 → Prop} {E : Env} {L : List ab} (y0 : α0) (y1 : α1) (y2 : α2) (y3 : α3) (y4 : α4) (h1 : K y0 y1 y2 y3 y4) (h2 : Le (T y0 y1 y2 y3 y4) E) (h3 : Sub L (G y0 y1 y2 y3 y4)) : ij (fun E' L' => J5 T G K E' L') Q .normal E L := ⟨y0, y1, y2, y3, y4, h1, h2, h3⟩
theorem Av {α0 α1 α2 α3 α4 : Type} {c : Code} (T : α0 → α1 → α2 → α3 → α4 → Env) (G : α0 → α1 → α2 → α3 → α4 → List ab) (K : α0 → α1 → α2 → α3 → α4 → Prop) (μ : α0 → α1 → α2 → α3 → α4 → Nat) (h0 : J5 T G K E L)
  (h : ∀ (x0 : α0) (x1 : α1) (x2 : α2) (x3 : α3) (x4 : α4), K x0 x1 x2 x3 x4 → Wp C c (ij (fun E' L' => J5 T G (fun y0 y1 y2 y3 y4 => K y0 y1 y2 y3 y4 ∧ μ y0 y1 y2 y3 y4 < μ x0 x1 x2 x3 x4) E' L') Q) (T x0 x1 x2 x3 x4) (G x0 x1 x2 x3 x4)) : Wp C (.loop c) Q E L :=
 lW (fun i : α0 × α1 × α2 × α3 × α4 => T i.1 i.2.1 i.2.2.1 i.2.2.2.1 i.2.2.2.2) (fun i : α0 × α1 × α2 × α3 × α4 => G i.1 i.2.1 i.2.2.1 i.2.2.2.1 i.2.2.2.2) (fun i : α0 × α1 × α2 × α3 × α4 => K i.1 i.2.1 i.2.2.1 i.2.2.2.1 i.2.2.2.2) (fun i : α0 × α1 × α2 × α3 × α4 => μ i.1 i.2.1 i.2.2.1 i.2.2.2.1 i.2.2.2.2) h0.jn fun i ki => (h i.1 i.2.1 i.2.2.1 i.2.2.2.1 i.2.2.2.2 ki).mono fun e E' L' hq => by
  cases e with
  | normal => exact J5.jn hq
  | exit _ => exact hq
  | goto _ => exact hq
  | ret => exact hq
  | panic _ => exact hq
  | outgrown => exact hq
def J6 {α0 α1 α2 α3 α4 α5 : Type} (T : α0 → α1 → α2 → α3 → α4 → α5 → Env) (G : α0 → α1 → α2 → α3 → α4 → α5 → List ab) (K : α0 → α1 → α2 → α3 → α4 → α5 → Prop) (E : Env) (L : List ab) : Prop := ∃ (y0 : α0) (y1 : α1) (y2 : α2) (y3 : α3) (y4 : α4) (y5 : α5), K y0 y1 y2 y3 y4 y5 ∧ Le (T y0 y1 y2 y3 y4 y5) E ∧ Sub L (G y0 y1 y2 y3 y4 y5)
def J7 {α0 α1 α2 α3 α4 α5 α6 : Type} (T : α0 → α1 → α2 → α3 → α4 → α5 → α6 → Env) (G : α0 → α1 → α2 → α3 → α4 → α5 → α6 → List ab) (K : α0 → α1 → α2 → α3 → α4 → α5 → α6 → Prop) (E : Env) (L : List ab) : Prop := ∃ (y0 : α0) (y1 : α1) (y2 : α2) (y3 : α3) (y4 : α4) (y5 : α5) (y6 : α6), K y0 y1 y2 y3 y4 y5 y6 ∧ Le (T y0 y1 y2 y3 y4 y5 y6) E ∧ Sub L (G y0 y1 y2 y3 y4 y5 y6)
theorem J7.jn {α0 α1 α2 α3 α4 α5 α6 : Type} {T : α0 → α1 → α2 → α3 → α4 → α5 → α6 → Env} {G : α0 → α1 → α2 → α3 → α4 → α5 → α6 → List ab} {K : α0 → α1 → α2 → α3 → α4 → α5 → α6 → Prop} {E : Env} {L : List ab} (h : J7 T G K E L) : Jn (fun i : α0 × α1 × α2 × α3 × α4 × α5 × α6 => T i.1 i.2.1 i.2.2.1 i.2.2.2.1 i.2.2.2.2.1 i.2.2.2.2.2.1 i.2.2.2.2.2.2) (fun i : α0 × α1 × α2 × α3 × α4 × α5 × α6 => G i.1 i.2.1 i.2.2.1 i.2.2.2.1 i.2.2.2.2.1 i.2.2.2.2.2.1 i.2.2.2.2.2.2) (fun i : α0 × α1 × α2 × α3 × α4 × α5 × α6 => K i.1 i.2.1 i.2.2.1 i.2.2.2.1 i.2.2.2.2.1 i.2.2.2.2.2.1 i.2.2.2.2.2.2) E L :=
 let ⟨y0, y1, y2, y3, y4, y5, y6, h1, h2, h3⟩ := h; ⟨⟨y0, y1, y2, y3, y4, y5, y6⟩, h1, h2, h3⟩
theorem i7 {α0 α1 α2 α3 α4 α5 α6 : Type} {T : α0 → α1 → α2 → α3 → α4 → α5 → α6 → Env} {G : α0 → α1 → α2 → α3 → α4 → α5 → α6 → List ab} {K : α0 → α1 → α2 → α3 → α4 → α5 → α6 → Prop} {E : Env} {L : List ab} (y0 : α0) (y1 : α1) (y2 : α2) (y3 : α3) (y4 : α4) (y5 : α5) (y6 : α6) (h1 : K y0 y1 y2 y3 y4 y5 y6) (h2 : Le (T y0 y1 y2 y3 y4 y5 y6) E) (h3 : Sub L (G y0 y1 y2 y3 y4 y5 y6)) : J7 T G K E L := ⟨y0, y1, y2, y3, y4, y5, y6, h1, h2, h3⟩
theorem j7 {α0 α1 α2 α3 α4 α5 α6 : Type} {T : α0 → α1 → α2 → α3 → α4 → α5 → α6 → Env} {G : α0 → α1 → α2 → α3 → α4 → α5 → α6 → List ab} {K : α0 → α1 → α2 → α3 → α4 → α5 → α6 → Prop} {E : Env} {L : List ab} (y0 : α0) (y1 : α1) (y2 : α2) (y3 : α3) (y4 : α4) (y5 : α5) (y6 : α6) (h1 : K y0 y1 y2 y3 y4 y5 y6) (h2 : Le (T y0 y1 y2 y3 y4 y5 y6) E) (h3 : Sub L (G y0 y1 y2 y3 y4 y5 y6)) : ij (fun E' L' => J7 T G K E' L') Q .normal E L := ⟨y0, y1, y2, y3, y4, y5, y6, h1, h2, h3⟩
theorem AS {α0 α1 α2 α3 α4 α5 α6 : Type} {c : Code} (T : α0 → α1 → α2 → α3 → α4 → α5 → α6 → Env) (G : α0 → α1 → α2 → α3 → α4 → α5 → α6 → List ab) (K : α0 → α1 → α2 → α3 → α4 → α5 → α6 → Prop) (μ : α0 → α1 → α2 → α3 → α4 → α5 → α6 → Nat) (h0 : J7 T G K E L)
  (h : ∀ (x0 : α0) (x1 : α1) (x2 : α2) (x3 : α3) (x4 : α4) (x5 : α5) (x6 : α6), K x0 x1 x2 x3 x4 x5 x6 → Wp C c (ij (fun E' L' => J7 T G (fun y0 y1 y2 y3 y4 y5 y6 => K y0 y1 y2 y3 y4 y5 y6 ∧ μ y0 y1 y2 y3 y4 y5 y6 < μ x0 x1 x2 x3 x4 x5 x6) E' L') Q) (T x0 x1 x2 x3 x4 x5 x6) (G x0 x1 x2 x3 x4 x5 x6)) : Wp C (.loop c) Q E L :=
 lW (fun i : α0 × α1 × α2 × α3 × α4 × α5 × α6 => T i.1 i.2.1 i.2.2.1 i.2.2.2.1 i.2.2.2.2.1 i.2.2.2.2.2.1 i.2.2.2.2.2.2) (fun i : α0 × α1 × α2 × α3 × α4 × α5 × α6 => G i.1 i.2.1 i.2.2.1 i.2.2.2.1 i.2.2.2.2.1 i.2.2.2.2.2.1 i.2.2.2.2.2.2) (fun i : α0 × α1 × α2 × α3 × α4 × α5 × α6 => K i.1 i.2.1 i.2.2.1 i.2.2.2.1 i.2.2.2.2.1 i.2.2.2.2.2.1 i.2.2.2.2.2.2) (fun i : α0 × α1 × α2 × α3 × α4 × α5 × α6 => μ i.1 i.2.1 i.2.2.1 i.2.2.2.1 i.2.2.2.2.1 i.2.2.2.2.2.1 i.2.2.2.2.2.2) h0.jn fun i ki => (h i.1 i.2.1 i.2.2.1 i.2.2.2.1 i.2.2.2.2.1 i.2.2.2.2.2.1 i.2.2.2.2.2.2 ki).mono fun e E' L' hq => by
  cases e with
  | normal => exact J7.jn hq
  | exit _ => exact hq
  | goto _ => exact hq
  | ret => exact hq
  | panic _ => exact hq
  | outgrown => exact hq
def J8 {α0 α1 α2 α3 α4 α5 α6 α7 : Type} (T : α0 → α1 → α2 → α3 → α4 → α5 → α6 → α7 → Env) (G : α0 → α1 → α2 → α3 → α4 → α5 → α6 → α7 → List ab) (K : α0 → α1 → α2 → α3 → α4 → α5 → α6 → α7 → Prop) (E : Env) (L : List ab) : Prop := ∃ (y0 : α0) (y1 : α1) (y2 : α2) (y3 : α3) (y4 : α4) (y5 : α5) (y6 : α6) (y7 : α7), K y0 y1 y2 y3 y4 y5 y6 y7 ∧ Le (T y0 y1 y2 y3 y4 y5 y6 y7) E ∧ Sub L (G y0 y1 y2 y3 y4 y5 y6 y7)
theorem IW {k : Env → List ab → Prop} {i : Nat} (h : Q (.exit i) E L) : ij k Q (.exit i) E L := h
theorem H6 {k : Env → List ab → Prop} (h : Q .ret E L) : ij k Q .ret E L := h
theorem cS {k : Env → List ab → Prop} {ch : List PanicEntry} (h : Q (.panic ch) E L) : ij k Q (.panic ch) E L := h
theorem jD {i : Nat} (h : Q .normal E L) : kC i Q .normal E L := h
theorem TX {i : Nat} (h : Q .ret E L) : kC i Q .ret E L := h
theorem ev {i : Nat} {ch : List PanicEntry} (h : Q (.panic ch) E L) : kC i Q (.panic ch) E L := h
theorem TM {i : Nat} (h : Q .normal E L) : kC i Q (.exit i) E L := by simp [kC, h]
theorem Ts {i j : Nat} (hn : Nat.beq j i = false) (h : Q (.exit j) E L) : kC i Q (.exit j) E L := by simp only [kC, hn, cond_false]; exact h
section
variable {L' : List ab} {ty : TypeId} {op : Op} {v : Value}
theorem cJ {p : Prop} [Decidable p] (h : bB C op ty E L (.bool (decide p)) L') (hp : p) : bB C op ty E L (.bool true) L' := by
 rw [decide_eq_true hp] at h; exact h
theorem bR {p : Prop} [Decidable p] (h : bB C op ty E L (.bool (decide p)) L') (hp : ¬ p) : bB C op ty E L (.bool false) L' := by
 rw [decide_eq_false hp] at h; exact h
theorem de {u : Value} (h : bB C op ty E L u L') (e : u = v) : bB C op ty E L v L' := e ▸ h
theorem BA {fn : Fn} {fl cl : List Operand} {fs cs : List Value} (hf : gG E fl = some fs) (hc : gG E cl = some cs) : bB C (.makeFunc fn fl.toArray cl.toArray) ty E L (.func fn fs.toArray cs.toArray) L := cF fun d pos aft g a w ha => by
 simp only [execOp, Instr.makeFunc, ha.gG hf, ha.gG hc]
 rfl
theorem iK {x : Operand} {hi mx : Option Operand} {t e sz bE n cap : Nat} {p : Option Addr} (r m : Nat) (ht : sliceB C.P t = some (e, sz, bE)) (hx : an E x = some (.slice p n cap))
  (hr : match hi with | none => r = n ∧ mx = none | some z => ∃ k, an E z = some (.int k (r : Int)))
  (hm : match mx with | none => m = cap | some z => ∃ k, an E z = some (.int k (m : Int)))
  (h2 : r ≤ m) (h3 : m ≤ cap) : bB C (.slice t x none hi mx) ty E L (.slice p r m) L := by
 have := dY (C := C) (E := E) (L := L) (ty := ty) (lo := none) 0 r m ht hx rfl hr hm (Nat.zero_le _) h2 h3
 rwa [mU, Nat.sub_zero, Nat.sub_zero] at this
end
end
end Go.Sl
namespace Go.Sl
open Go.RowKit (Below)
abbrev Yv := Nat → Value
def uE (l : List Oper) (E0 : Env) (p : dI) (V : List (Yv → Value)) (y : Yv) : Env :=
 (p.iC.filterMap fun j => match dK l j with | some t => (match V[j]? with | some f => some (t, f y) | none => none) | none => none) ++ p.kY.filterMap fun s => match E0.get s with | some v => some (s, v) | none => none
def Gr (l : List Oper) (V : List (Yv → Value)) (y : Yv) : Nat → Env → Env
 | 0, E => E
 | i + 1, E => match dK l i with | some t => (match V[i]? with | some f => (t, f y) :: Gr l V y i E | none => Gr l V y i E) | none => Gr l V y i E
structure Kn (V : List (Yv → Value)) (P : List (Yv → Prop)) (At : List (Yv → List ab)) (A : List ab) (j : Nat) (y : Yv) : Prop where
 val : ∃ f q, V[j]? = some f ∧ P[j]? = some q ∧ y j = f y ∧ q y
 add : ∀ a, At[j]? = some a → ∀ B ∈ a y, B ∈ A
def UF : List (Yv → List ab) → Nat → Prop
 | [], _ => True
 | f :: fs, i => (∀ y v, f (dG y i v) = f y) ∧ UF fs i
def Loc (i : Nat) (p : dI) {β : Sort _} (f : Yv → β) : Prop := ∀ y y' : Yv, (∀ j, j = i ∨ j ∈ p.fE → y j = y' j) → f y = f y'
section
variable {C : Ctx} {E0 : Env} {Q : QT} {L : List ab}
def Us (C : Ctx) (l : List Oper) (E0 : Env) (ch : List Nat) (V : List (Yv → Value)) (P : List (Yv → Prop)) (At : List (Yv → List ab)) (Ls : List (Yv → List ab)) : Nat → List Oper → List dI → List (Yv → Value) → List (Yv → Prop) → List (Yv → List ab) → Prop
 | _, [], [], [], [], [] => True
 | i, o :: os, p :: ps, f :: fs, q :: qs, b :: bs => Loc i p f ∧ Loc i p q ∧ Loc i p b ∧ (∀ y k Lf A, p.lo ≤ k → k ≤ p.hi → (∀ j ∈ p.fE, Kn V P At A j y) → Ls[k]? = some Lf → Step C l.toArray o (uE l E0 p V y) (Lf y ++ A) (fun v L' => f (dG y i v) = v ∧ q (dG y i v) ∧ (if mem i ch then ∃ L'', Ls[k + 1]? = some L'' ∧ L'.Perm (L'' (dG y i v) ++ (b (dG y i v) ++ A)) else L'.Perm (Lf (dG y i v) ++ (b (dG y i v) ++ A))))) ∧ Us C l E0 ch V P At Ls (i + 1) os ps fs qs bs
 | _, _, _, _, _, _ => False
structure Acc where
 V : List (Yv → Value)
 P : List (Yv → Prop)
 At : List (Yv → List ab)
def Acc.put (c : Acc) (f : Yv → Value) (q : Yv → Prop) (b : Yv → List ab) : Acc := ⟨f :: c.V, q :: c.P, b :: c.At⟩
def Xd (l : List Oper) (E0 : Env) (p : dI) (i : Nat) (c : Acc) (y : Yv) : Env :=
 (p.iC.filterMap fun j => match dK l j with | some t => (match c.V[i - 1 - j]? with | some f => some (t, f y) | none => none) | none => none) ++ p.kY.filterMap fun s => match E0.get s with | some v => some (s, v) | none => none
def Hi (l : List Oper) (n : Nat) (c : Acc) (y : Yv) : Nat → Env → Env
 | 0, E => E
 | i + 1, E => match dK l i with | some t => (match c.V[n - 1 - i]? with | some f => (t, f y) :: Hi l n c y i E | none => Hi l n c y i E) | none => Hi l n c y i E
structure YO (c : Acc) (i : Nat) (A : List ab) (j : Nat) (y : Yv) : Prop where
 val : ∃ f q, c.V[i - 1 - j]? = some f ∧ c.P[i - 1 - j]? = some q ∧ y j = f y ∧ q y
 add : ∀ a, c.At[i - 1 - j]? = some a → ∀ B ∈ a y, B ∈ A
def Y8 (C : Ctx) (l : List Oper) (E0 : Env) (ch : List Nat) (Ls : List (Yv → List ab)) : Nat → Acc → List Oper → List dI → (Acc → Prop) → Prop
 | _, c, [], [], K => K c
 | i, c, o :: os, p :: ps, K => ∃ (f : Yv → Value) (q : Yv → Prop) (b : Yv → List ab), Loc i p f ∧ Loc i p q ∧ Loc i p b ∧ (∀ y k Lf A, p.lo ≤ k → k ≤ p.hi → (∀ j ∈ p.fE, YO c i A j y) → Ls[k]? = some Lf → Step C l.toArray o (Xd l E0 p i c y) (Lf y ++ A) (fun v L' => f (dG y i v) = v ∧ q (dG y i v) ∧ (if mem i ch then ∃ L'', Ls[k + 1]? = some L'' ∧ L'.Perm (L'' (dG y i v) ++ (b (dG y i v) ++ A)) else L'.Perm (Lf (dG y i v) ++ (b (dG y i v) ++ A))))) ∧ Y8 C l E0 ch Ls (i + 1) (c.put f q b) os ps K
 | _, _, _, _, _ => False
section
variable {l : List Oper} {ch : List Nat} {Ls : List (Yv → List ab)} {i : Nat} {c : Acc} {o : Oper} {os : List Oper} {ps : List dI} {f : Yv → Value} {K : Acc → Prop}
end
def ea : Value → Option Addr | .slice p _ _ => p | _ => none
def fC : Value → Nat | .slice _ _ c => c | _ => 0
theorem KH {ops : Array Oper} {o : Oper} {E : Env} {R R' : Value → List ab → Prop} (h : Step C ops o E L R) (hR : ∀ v L', R v L' → R' v L') : Step C ops o E L R' :=
 fun a w K Q ha hi hK => h a w K Q ha hi fun v L' w' hr hi' => hK v L' w' (hR v L' hr) hi'
theorem rk {ops : Array Oper} {d : Option Nat} {ty : TypeId} {pos : String} {aft : Array Edge} {E : Env} {f : FuncId} {args : List Operand} {tys : Array TypeId} {vs : List Value} {Pre F : List ab} {R : Value → List ab → Prop} {R' : Value → List ab → Prop} (hS : aC C.P f vs Pre (aG R)) (hb : aB C.P f = true) (hE : gG E args = some vs) (hL : eE L Pre F)
  (hR : ∀ v G, R v G → R' v (G ++ F)) : Step C ops ⟨d, .call ⟨.value (.func f), args.toArray, tys⟩, ty, pos, aft, none⟩ E L R' :=
 KH (ui (Fp hS hb hE hL)) fun v L' ⟨G, h1, e⟩ => by subst e; exact hR v G h1
end
end Go.Sl
namespace Go.Sl
open Go.RowKit (Below)
section
variable {C : Ctx} {Q : QT} {E : Env} {L L' F : List ab} {ops : Array Oper} {rest : List Oper} {d : Nat} {ty : TypeId} {pos : String} {aft : Array Edge} {op : Op} {v : Value}
end
theorem aM {L G M F : List ab} {A : ab} (hr : eE L G M) (hd : Drop M F) (hA : ∀ w0 h, bU w0 G h → A w0 h) : Sub L (A :: F) := (sub hr hd).trans (fold hA)
def ints (k : IntKind) (xs : List Int) : List Value := xs.map (Value.int k)
theorem Fz {k : IntKind} {xs : List Int} {i : Nat} (h : i < xs.length) : (ints k xs)[i]? = some (.int k (xs.getD i 0)) := by simp [ints, h]
theorem ints_set {k : IntKind} {xs : List Int} {i : Nat} {n : Int} : (ints k xs).set i (.int k n) = ints k (xs.set i n) := by simp [ints]
def ZH (xs : List Bool) : List Value := xs.map Value.bool
end Go.Sl
namespace Go.Sl
section
variable {C : Ctx} {Q : QT} {E : Env} {L L' F : List ab} {ty : TypeId} {v : Value} {x y : Operand} {t t' : TypeId} {k : FloatKind} {a b r : Nat}
end
end Go.Sl
namespace Go.Sl
open Go.RowKit (Below)
def ia (p : Option Addr) : Nat := match p with | some a => a.block | none => 0
def ox (p : Option Addr) : Nat := match p with | some a => a.off | none => 0
structure Ec (α : Type) where
 T : TypeId
 sz : Nat
 e : α → List Value
 d : α
 len : ∀ x, (e x).length = sz
 one : ∀ x, (e x).all Value.oneCell' = true
def Ec.g {α : Type} (c : Ec α) (l : List α) (i : Int) : α := l.getD i.toNat c.d
theorem Ec.wv {α : Type} (c : Ec α) {l : List α} {k : Nat} (h : k < l.length) : c.g l (k : Int) = l[k] := by simp [Ec.g, h]
abbrev aD (T : TypeId) (k : IntKind) : Ec Int := ⟨T, 1, fun x => [.int k x], 0, fun _ => rfl, fun _ => rfl⟩
abbrev ecB (T : TypeId) : Ec Bool := ⟨T, 1, fun x => [.bool x], false, fun _ => rfl, fun _ => rfl⟩
def Row {α : Type} (c : Ec α) (p : Option Addr) (n cap : Nat) (l : List α) : ab := fun w0 h => l.length = n ∧ Sl p n cap c.T c.sz (l.flatMap c.e) w0 h
def aE {α : Type} (c : Ec α) (p : Option Addr) (n : Nat) (l : List α) : ab := fun w0 h => l.length = n ∧ Rd p n c.sz (l.flatMap c.e) w0 h
theorem Row.rd {α : Type} {c : Ec α} {p : Option Addr} {n cap : Nat} {l : List α} {w0 : World} {h : Hp} (hr : Row c p n cap l w0 h) : aE c p n l w0 h := ⟨hr.1, Sl.rd hr.2⟩
theorem fi {α : Type} (c : Ec α) (l : List α) : (l.flatMap c.e).length = l.length * c.sz := by
 induction l with
 | nil => simp
 | cons x l ih => simp only [List.flatMap_cons, List.length_append, c.len, ih, List.length_cons, Nat.succ_mul]; omega
theorem nX {α : Type} (c : Ec α) : ∀ (l : List α) (i f : Nat) (h : i < l.length), f < c.sz → (l.flatMap c.e)[i * c.sz + f]? = (c.e l[i])[f]?
 | x :: l, 0, f, h, hf => by simp only [List.flatMap_cons, Nat.zero_mul, Nat.zero_add, List.getElem_cons_zero]; rw [List.getElem?_append_left (by rw [c.len]; exact hf)]
 | x :: l, i + 1, f, h, hf => by
  simp only [List.flatMap_cons, List.getElem_cons_succ]
  rw [List.getElem?_append_right (by rw [c.len, Nat.succ_mul]; omega), c.len, show (i + 1) * c.sz + f - c.sz = i * c.sz + f by rw [Nat.succ_mul]; omega]
  exact nX c l i f (by simpa using h) hf
theorem mM {α : Type} (c : Ec α) : ∀ (l : List α) (i : Nat), (l.flatMap c.e).drop (i * c.sz) = (l.drop i).flatMap c.e
 | l, 0 => by simp
 | [], i + 1 => by simp
 | x :: l, i + 1 => by
  simp only [List.flatMap_cons, List.drop_succ_cons]
  rw [show (i + 1) * c.sz = (c.e x).length + i * c.sz by rw [c.len, Nat.succ_mul]; omega, ← List.drop_drop, List.drop_left]
  exact mM c l i
theorem pI {α : Type} (c : Ec α) : ∀ (l : List α) (i : Nat), (l.flatMap c.e).take (i * c.sz) = (l.take i).flatMap c.e
 | l, 0 => by simp
 | [], i + 1 => by simp
 | x :: l, i + 1 => by
  simp only [List.flatMap_cons, List.take_succ_cons]
  rw [show (i + 1) * c.sz = (c.e x).length + i * c.sz by rw [c.len, Nat.succ_mul]; omega, List.take_length_add_append]
  rw [pI c l i]
theorem Li {α : Type} (c : Ec α) (l : List α) (i : Nat) (h : i < l.length) : ((l.flatMap c.e).drop (i * c.sz)).take c.sz = c.e l[i] := by
 rw [mM, List.drop_eq_getElem_cons h, List.flatMap_cons]
 exact List.take_left' (c.len _)
theorem yN {α : Type} (c : Ec α) : ∀ (l : List α) (i f : Nat) (h : i < l.length) (v : Value) (y : α), f < c.sz → (c.e l[i]).set f v = c.e y → (l.flatMap c.e).set (i * c.sz + f) v = (l.set i y).flatMap c.e
 | x :: l, 0, f, h, v, y, hf, e => by
  simp only [List.flatMap_cons, Nat.zero_mul, Nat.zero_add, List.set_cons_zero]
  rw [List.set_append_left _ _ (by rw [c.len]; exact hf)]
  rw [← e]; rfl
 | x :: l, i + 1, f, h, v, y, hf, e => by
  simp only [List.flatMap_cons, List.set_cons_succ]
  rw [List.set_append_right _ _ (by rw [c.len, Nat.succ_mul]; omega), c.len, show (i + 1) * c.sz + f - c.sz = i * c.sz + f by rw [Nat.succ_mul]; omega]
  rw [yN c l i f (by simpa using h) v y hf (by simpa using e)]
theorem DX {α : Type} (c : Ec α) (l : List α) (i : Nat) (h : i < l.length) (y : α) : (l.flatMap c.e).take (i * c.sz) ++ c.e y ++ (l.flatMap c.e).drop (i * c.sz + c.sz) = (l.set i y).flatMap c.e := by
 rw [pI, show i * c.sz + c.sz = (i + 1) * c.sz by rw [Nat.succ_mul], mM]
 rw [List.set_eq_take_append_cons_drop, if_pos h]
 simp
theorem mf {α : Type} (c : Ec α) (l : List α) : (l.flatMap c.e).all Value.oneCell' = true := by
 simp only [List.all_eq_true]
 intro v hv
 obtain ⟨x, _, hx⟩ := List.mem_flatMap.1 hv
 exact List.all_eq_true.1 (c.one x) v hx
def Has {α : Type} (w0 : World) (L : List ab) (c : Ec α) (p : Option Addr) (n : Nat) (l : List α) : Prop := ∃ R, R ∈ L ∧ ∀ h, R w0 h → aE c p n l w0 h
theorem own {α : Type} {w0 : World} {L : List ab} {c : Ec α} {p : Option Addr} {n cap : Nat} {l : List α} (hm : Row c p n cap l ∈ L) : Has w0 L c p n l := ⟨_, hm, fun _ h => Row.rd h⟩
theorem bG {α : Type} {w0 : World} {L : List ab} {R : ab} {c : Ec α} {p : Option Addr} {n : Nat} {l : List α} (hR : ∀ w0 h, R w0 h → aE c p n l w0 h) (hm : R ∈ L) : Has w0 L c p n l := ⟨R, hm, fun h hh => hR w0 h hh⟩
theorem Has.fact {α : Type} {w0 w : World} {L : List ab} {c : Ec α} {p : Option Addr} {n : Nat} {l : List α} (H : Has w0 L c p n l) (hi : Inv w0 L w) :
  l.length = n ∧ (n = 0 ∨ ∃ b o, p = some ⟨b, o, none⟩ ∧ ∀ i v, (l.flatMap c.e)[i]? = some v → w.cell? ⟨b, o + i, none⟩ = some v) := by
 obtain ⟨R, hm, hR⟩ := H
 obtain ⟨F, hb, h, a, h1, h2, d, l1, l2, hp, k⟩ := hi.mem hm
 obtain ⟨e0, e1, e2⟩ := hR h1 hp
 refine ⟨e0, e2.imp id ?_⟩
 rintro ⟨b, o, rfl, hc⟩
 exact ⟨b, o, rfl, fun i v hv => tc hb (fun b o e => a b o (l1 b o e)) (hc i v hv)⟩
theorem Has.len {α : Type} {w0 w : World} {L : List ab} {c : Ec α} {p : Option Addr} {n : Nat} {l : List α} (H : Has w0 L c p n l) (hi : Inv w0 L w) : l.length = n := (H.fact hi).1
section
variable {C : Ctx} {Q : QT} {E : Env} {L L' F : List ab} {ops : Array Oper} {rest : List Oper} {d : Nat} {ty : TypeId} {pos : String} {aft : Array Edge} {op : Op} {v : Value} {α : Type} {c : Ec α}
theorem Ig {cd : Code} {p : Option Addr} {n : Nat} {l : List α} (H : Has C.w0 L c p n l) (k : l.length = n → Wp C cd Q E L) : Wp C cd Q E L := gU (fun w hi => H.len hi) k
theorem wm {cd : Code} {p : Option Addr} {n cap : Nat} {l : List α} (hm : Row c p n cap l ∈ L) (k : n ≤ cap → Wp C cd Q E L) : Wp C cd Q E L := gU (p := n ≤ cap) (fun w hi => by
 obtain ⟨F, hb, h, a, h1, h2, d, l1, l2, hp, _⟩ := hi.mem hm
 rcases hp.2 with ⟨rfl, rfl, rfl, _⟩ | ⟨b, o, pre, post, _, _, _, _, _, e⟩
 ·exact Nat.le_refl _
 ·exact e) k
theorem bB.D4 {p : Prop} (h : ∀ w, Inv C.w0 L w → p) (k : p → bB C op ty E L v L') : bB C op ty E L v L' := fun d pos aft g a w ha hi => k (h w hi) d pos aft g a w ha hi
theorem qY {x ix : Operand} {t bE n cap : Nat} {p : Option Addr} {k : IntKind} {i : Int} {l : List α} (ht : sliceB C.P t = some (c.T, c.sz, bE)) (h : an E x = some (.slice p n cap)) (hi : an E ix = some (.int k i)) (H : Has C.w0 L c p n l) (h0 : 0 ≤ i) (hlt : i < n) :
  bB C (.indexAddr t x ix) ty E L (.pointer (some ⟨ia p, ox p + i.toNat * c.sz, none⟩)) L :=
 bB.D4 (p := ∃ b o, p = some ⟨b, o, none⟩) (fun w hi => by
  obtain ⟨_, e⟩ := H.fact hi
  rcases e with e | ⟨b, o, e, _⟩
  ·omega
  ·exact ⟨b, o, e⟩) (by
  rintro ⟨b, o, rfl⟩
  exact Ki i.toNat (by omega) ht h hi (by omega))
theorem fN {x : Operand} {t n : Nat} {p : Option Addr} {i : Int} {l : List α} (f : Nat) (hs : bP C.P t = true) (hx : an E x = some (.pointer (some ⟨ia p, ox p + i.toNat * c.sz + f, none⟩))) (H : Has C.w0 L c p n l) (h0 : 0 ≤ i) (hlt : i < n) (hf : Nat.blt f c.sz = true) (hv : (c.e (c.g l i))[f]? = some v) : bB C (.load t x) ty E L v L :=
 Aa hs hx fun w hi => by
  obtain ⟨e1, e2⟩ := H.fact hi
  rcases e2 with e2 | ⟨b, o, e3, e4⟩
  ·omega
  ·subst e3
   show w.cell? ⟨b, o + i.toNat * c.sz + f, none⟩ = some v
   rw [Nat.add_assoc]
   refine e4 _ _ ?_
   rw [nX c l i.toNat f (by omega) (fe hf), ← hv]
   simp [Ec.g, show i.toNat < l.length by omega]
theorem yT {x : Operand} {t n : Nat} {p : Option Addr} {i : Int} {l : List α} (hs : bP C.P t = true) (hx : an E x = some (.pointer (some ⟨ia p, ox p + i.toNat * c.sz, none⟩))) (H : Has C.w0 L c p n l) (h0 : 0 ≤ i) (hlt : i < n) (hf : Nat.blt 0 c.sz = true) (hv : (c.e (c.g l i))[0]? = some v) : bB C (.load t x) ty E L v L :=
 fN 0 hs hx H h0 hlt hf hv
theorem nt {x : Operand} {t n : Nat} {p : Option Addr} {i : Int} {l : List α} {us : List Value} (hs : gf C.P t = some c.sz) (hx : an E x = some (.pointer (some ⟨ia p, ox p + i.toNat * c.sz, none⟩))) (H : Has C.w0 L c p n l) (h0 : 0 ≤ i) (hlt : i < n) (hv : c.e (c.g l i) = us) : bB C (.load t x) ty E L (.agg us.toArray) L :=
 bB.D4 (p := ∃ b o, p = some ⟨b, o, none⟩) (fun w hi => by
  obtain ⟨_, e⟩ := H.fact hi
  rcases e with e | ⟨b, o, e, _⟩
  ·omega
  ·exact ⟨b, o, e⟩) (by
  rintro ⟨b, o, rfl⟩
  refine sZ hs hx (by rw [← hv, c.len]) fun w hi j v hj => ?_
  obtain ⟨e1, e2⟩ := H.fact hi
  rcases e2 with e2 | ⟨b', o', e3, e4⟩
  ·omega
  ·cases e3
   show w.cell? ⟨b, o + i.toNat * c.sz + j, none⟩ = some v
   rw [Nat.add_assoc]
   refine e4 _ _ ?_
   have hjl := (List.getElem?_eq_some_iff.1 hj).1
   rw [← hv, c.len] at hjl
   rw [nX c l i.toNat j (by omega) hjl, ← hj, ← hv]
   simp [Ec.g, show i.toNat < l.length by omega])
theorem F7 {x z : Operand} {t n cap : Nat} {p : Option Addr} {i : Int} {l : List α} {u : Value} (f : Nat) (y : α) (hs : bP C.P t = true) (hx : an E x = some (.pointer (some ⟨ia p, ox p + i.toNat * c.sz + f, none⟩))) (hy : an E z = some u) (h1 : u.oneCell' = true)
  (hr : iQ L (Row c p n cap l) (Row c p n cap (l.set i.toNat y)) L') (h0 : 0 ≤ i) (hlt : i < n) (hf : Nat.blt f c.sz = true) (hv : (c.e (c.g l i)).set f u = c.e y) : bB C (.store t x z) ty E L undef L' := by
 intro d pos aft g a w ha hi
 obtain ⟨F, p1, p2⟩ := hr.perm
 have hi1 := hi.perm p1
 obtain ⟨e1, e2⟩ := (own (w0 := C.w0) (L := Row c p n cap l :: F) aA).fact hi1
 obtain ⟨b, o, rfl⟩ : ∃ b o, p = some ⟨b, o, none⟩ := by
  rcases e2 with e2 | ⟨b, o, e2, _⟩
  ·omega
  ·exact ⟨b, o, e2⟩
 have hi2 : Inv C.w0 (Sl (some ⟨b, o, none⟩) n cap c.T c.sz (l.flatMap c.e) :: F) w := hi1.imp (fun h hh => hh.2)
 have hil : i.toNat < l.length := by omega
 have hil2 : i.toNat * c.sz + f < (l.flatMap c.e).length := by
  rw [fi]
  have : (i.toNat + 1) * c.sz ≤ l.length * c.sz := Nat.mul_le_mul_right _ hil
  rw [Nat.succ_mul] at this
  have := fe hf
  omega
 obtain ⟨w', hr', hi', _⟩ := FW (C := C) (E := E) (ty := ty) (L := Sl (some ⟨b, o, none⟩) n cap c.T c.sz (l.flatMap c.e) :: F) (vs' := (l.set i.toNat y).flatMap c.e) (i.toNat * c.sz + f) hs hx hy h1 iQ.head (by show o + i.toNat * c.sz + f = _; omega) hil2 (yN c l i.toNat f hil u y (fe hf) (by rw [← hv]; simp [Ec.g, hil])) d pos aft g a w ha hi2
 exact ⟨w', hr', (hi'.imp (fun h hh => ⟨by simp [e1], hh⟩)).perm p2, fun h => by cases h⟩
theorem nf {x z : Operand} {t n cap : Nat} {p : Option Addr} {i : Int} {l : List α} {u : Value} (y : α) (hs : bP C.P t = true) (hx : an E x = some (.pointer (some ⟨ia p, ox p + i.toNat * c.sz, none⟩))) (hy : an E z = some u) (h1 : u.oneCell' = true)
  (hr : iQ L (Row c p n cap l) (Row c p n cap (l.set i.toNat y)) L') (h0 : 0 ≤ i) (hlt : i < n) (hf : Nat.blt 0 c.sz = true) (hv : (c.e (c.g l i)).set 0 u = c.e y) : bB C (.store t x z) ty E L undef L' :=
 F7 0 y hs hx hy h1 hr h0 hlt hf hv
theorem Ga {x z : Operand} {t n cap : Nat} {p : Option Addr} {i : Int} {l : List α} {us : List Value} (y : α) (hs : gf C.P t = some c.sz) (hx : an E x = some (.pointer (some ⟨ia p, ox p + i.toNat * c.sz, none⟩))) (hy : an E z = some (.agg us.toArray))
  (hr : iQ L (Row c p n cap l) (Row c p n cap (l.set i.toNat y)) L') (h0 : 0 ≤ i) (hlt : i < n) (hv : us = c.e y) : bB C (.store t x z) ty E L undef L' := by
 intro d pos aft g a w ha hi
 subst hv
 obtain ⟨F, p1, p2⟩ := hr.perm
 have hi1 := hi.perm p1
 obtain ⟨e1, e2⟩ := (own (w0 := C.w0) (L := Row c p n cap l :: F) aA).fact hi1
 obtain ⟨b, o, rfl⟩ : ∃ b o, p = some ⟨b, o, none⟩ := by
  rcases e2 with e2 | ⟨b, o, e2, _⟩
  ·omega
  ·exact ⟨b, o, e2⟩
 have hil : i.toNat < l.length := by omega
 have hi2 : Inv C.w0 (Sl (some ⟨b, o, none⟩) n cap c.T c.sz (l.flatMap c.e) :: F) w := hi1.imp (fun h hh => hh.2)
 obtain ⟨zz, hzz, hi3⟩ := hi2.vn (Sl.open_ C.w0)
 cases zz with
 | none => cases hzz.1
 | some zz =>
  obtain ⟨b', o', pre, post⟩ := zz
  obtain ⟨e3, e4, e5, e6, e7⟩ := hzz
  cases e3
  have hle : (i.toNat + 1) * c.sz ≤ l.length * c.sz := Nat.mul_le_mul_right _ hil
  rw [Nat.succ_mul] at hle
  have hfl := fi c l
  obtain ⟨w', hr', hi', _⟩ := bd (C := C) (E := E) (ty := ty) (L := ai b c.T (pre ++ l.flatMap c.e ++ post) :: F) (o := o + i.toNat * c.sz) (cs' := pre ++ (l.set i.toNat y).flatMap c.e ++ post) hs hx hy (c.one y) (c.len y) iQ.head (by simp only [List.length_append]; omega) (by
   rw [← DX c l i.toNat hil y]
   have t1 : (pre ++ l.flatMap c.e ++ post).take (o + i.toNat * c.sz) = pre ++ (l.flatMap c.e).take (i.toNat * c.sz) := by
    rw [List.append_assoc, List.take_append, e4, List.take_of_length_le (by omega), show o + i.toNat * c.sz - o = i.toNat * c.sz by omega, List.take_append_of_le_length (by omega)]
   have t2 : (pre ++ l.flatMap c.e ++ post).drop (o + i.toNat * c.sz + c.sz) = (l.flatMap c.e).drop (i.toNat * c.sz + c.sz) ++ post := by
    rw [List.append_assoc, List.drop_append, e4, List.drop_of_length_le (by omega), List.nil_append, show o + i.toNat * c.sz + c.sz - o = i.toNat * c.sz + c.sz by omega, List.drop_append_of_le_length (by omega)]
   rw [t1, t2]
   simp [List.append_assoc]) d pos aft g a w ha (by simpa using hi3)
  refine ⟨w', hr', Inv.perm ?_ p2, fun h => by cases h⟩
  refine Inv.cls (B := [ai b c.T (pre ++ (l.set i.toNat y).flatMap c.e ++ post)]) (fun h hc => ⟨by simp [e1], Sl.mk hc e4 (by rw [fi, List.length_set]; rw [hfl] at e5; exact e5) e6 e7⟩) hi'
theorem mS {s x : Operand} {t bE n m cap cap2 : Nat} {p p2 : Option Addr} {l l2 : List α} {F : List ab} {zs : List Value}
  (ht : sliceB C.P t = some (c.T, c.sz, bE)) (hz : cm C.P c.T = some zs) (hsz : Nat.ble 1 c.sz = true) (hby : Nat.ble 1 bE = true)
  (hs : an E s = some (.slice p n cap)) (hx : an E x = some (.slice p2 m cap2)) (hL : fR L (Row c p n cap l) F) (H : Has C.w0 L c p2 m l2) (hb : (n + m) * bE ≤ 140737488355328) :
  jM C (.call ⟨.builtin .append, [s, x].toArray, #[t, t]⟩) ty E L (fun v L' => ∃ p' cap', v = .slice p' (n + m) cap' ∧ L' = Row c p' (n + m) cap' (l ++ l2) :: F) := by
 intro d pos aft g a w K Qx ha hi hK
 obtain ⟨R, hm, hR⟩ := H
 have hl2 : l2.length = m := (Has.fact ⟨R, hm, hR⟩ hi).1
 have hl1 : l.length = n := ((own (w0 := C.w0) (L := Row c p n cap l :: F) aA).fact (hi.perm hL.perm)).1
 by_cases hRe : R ∈ F
 ·have hi2 : Inv C.w0 (Sl p n cap c.T c.sz (l.flatMap c.e) :: F) w := (hi.perm hL.perm).imp (fun h hh => hh.2)
  refine wV (C := C) (E := E) (ty := ty) (vs := l.flatMap c.e) (ws := l2.flatMap c.e) (R := R) ht hz hsz hby hs hx fR.head (List.mem_cons_of_mem _ hRe) (fun h hh => (hR h hh).2) (mf c l2) hb d pos aft g a w K Qx ha hi2 ?_
  rintro v L' w' ⟨p', cap', e1, e2⟩ hi'
  subst e2
  exact hK v _ w' ⟨p', cap', e1, rfl⟩ (hi'.imp (fun h hh => ⟨by simp [hl1, hl2], by rw [List.flatMap_append]; exact hh⟩))
 ·have hRr : R = Row c p n cap l := by
   have := hL.perm.mem_iff.1 hm
   rcases List.mem_cons.1 this with e | e
   ·exact e
   ·exact absurd e hRe
  subst hRr
  have hi2 : Inv C.w0 (Sl p n cap c.T c.sz (l.flatMap c.e) :: F) w := (hi.perm hL.perm).imp (fun h hh => hh.2)
  refine wV (C := C) (E := E) (ty := ty) (vs := l.flatMap c.e) (ws := l2.flatMap c.e) (R := Sl p n cap c.T c.sz (l.flatMap c.e)) ht hz hsz hby hs hx fR.head (List.mem_cons_self) (fun h hh => (hR h ⟨hl1, hh⟩).2) (mf c l2) hb d pos aft g a w K Qx ha hi2 ?_
  rintro v L' w' ⟨p', cap', e1, e2⟩ hi'
  subst e2
  exact hK v _ w' ⟨p', cap', e1, rfl⟩ (hi'.imp (fun h hh => ⟨by simp [hl1, hl2], by rw [List.flatMap_append]; exact hh⟩))
theorem ff {s x : Operand} {t bE n m cap cap2 : Nat} {p p2 : Option Addr} {l l2 : List α} {F : List ab} {zs : List Value}
  (ht : sliceB C.P t = some (c.T, c.sz, bE)) (hz : cm C.P c.T = some zs) (hsz : Nat.ble 1 c.sz = true) (hby : Nat.ble 1 bE = true)
  (hs : an E s = some (.slice p n cap)) (hx : an E x = some (.slice p2 m cap2)) (hL : fR L (Row c p n cap l) F) (H : Has C.w0 L c p2 m l2) (hb : (n + m) * bE ≤ 140737488355328) (hd : Nat.blt d C.n = true)
  (k : ∀ p' cap', cy C ops rest Q ((d, .slice p' (n + m) cap') :: E) (Row c p' (n + m) cap' (l ++ l2) :: F)) :
  cy C ops (⟨some d, .call ⟨.builtin .append, [s, x].toArray, #[t, t]⟩, ty, pos, aft, none⟩ :: rest) Q E L :=
 n7 (mS ht hz hsz hby hs hx hL H hb) hd fun v L' ⟨p', cap', e1, e2⟩ => by subst e1; subst e2; exact k p' cap'
theorem Kc {x y : Operand} {t bE : Nat} {k1 k2 : IntKind} {i1 i2 : Int} {zs : List Value} (ht : sliceB C.P t = some (c.T, c.sz, bE)) (hz : cm C.P c.T = some zs) (hze : zs = c.e c.d) (hsz : Nat.ble 1 c.sz = true)
  (hx : an E x = some (.int k1 i1)) (hy : an E y = some (.int k2 i2)) (h0 : 0 ≤ i1) (hnc : i1 ≤ i2) (hb : i2 * bE ≤ 281474976710656) (hby : Nat.ble 1 bE = true) :
  jM C (.makeSlice t x y) ty E L (fun v L' => ∃ b, v = .slice (some ⟨b, 0, none⟩) i1.toNat i2.toNat ∧ L' = Row c (some ⟨b, 0, none⟩) i1.toNat i2.toNat (List.replicate i1.toNat c.d) :: L) := by
 intro d pos aft g a w K Qx ha hi hK
 have hby := Nat.le_of_ble_eq_true hby
 have hb' : i2.toNat * bE ≤ 281474976710656 := by
  have : ((i2.toNat * bE : Nat) : Int) = i2 * bE := by rw [Int.natCast_mul]; congr 1; omega
  omega
 have h63 : i2.toNat ≤ i2.toNat * bE := Nat.le_mul_of_pos_right _ hby
 refine NN (C := C) (E := E) (ty := ty) i1.toNat i2.toNat (by omega) (by omega) ht hz hsz hx hy (by omega) (by omega) hb' d pos aft g a w K Qx ha hi ?_
 rintro v L' w' ⟨b, e1, e2⟩ hi'
 subst e2
 refine hK v _ w' ⟨b, e1, rfl⟩ (hi'.imp (fun h hh => ⟨by simp, ?_⟩))
 have e : (List.replicate i1.toNat c.d).flatMap c.e = (List.replicate i1.toNat zs).flatten := by rw [hze, List.flatMap_replicate]
 rw [e]
 exact hh
theorem Ph {x y : Operand} {t bE : Nat} {k1 k2 : IntKind} {i1 i2 : Int} {zs : List Value} (c : Ec α) (ht : sliceB C.P t = some (c.T, c.sz, bE)) (hz : cm C.P c.T = some zs) (hze : zs = c.e c.d) (hsz : Nat.ble 1 c.sz = true)
  (hx : an E x = some (.int k1 i1)) (hy : an E y = some (.int k2 i2)) (h0 : 0 ≤ i1) (hnc : i1 ≤ i2) (hb : i2 * bE ≤ 281474976710656) (hby : Nat.ble 1 bE = true) (hd : Nat.blt d C.n = true)
  (k : ∀ b, cy C ops rest Q ((d, .slice (some ⟨b, 0, none⟩) i1.toNat i2.toNat) :: E) (Row c (some ⟨b, 0, none⟩) i1.toNat i2.toNat (List.replicate i1.toNat c.d) :: L)) : cy C ops (⟨some d, .makeSlice t x y, ty, pos, aft, none⟩ :: rest) Q E L :=
 n7 (Kc ht hz hze hsz hx hy h0 hnc hb hby) hd fun v L' ⟨b, e1, e2⟩ => by subst e1; subst e2; exact k b
theorem rX {t bE len : Nat} {parts : List (Nat × Operand)} {pv : List (Nat × Value)} {zs : List Value} (c : Ec α) (l : List α) (ht : sliceB C.P t = some (c.T, c.sz, bE)) (hz : cm C.P c.T = some zs) (hsz : Nat.ble 1 c.sz = true) (hsm : Nat.ble (len * c.sz) 16777216 = true)
  (hp : oq E parts = some pv) (hf : Instr.fill (fun i => some (i * c.sz, c.sz)) ((List.replicate len zs).flatten.toArray) pv = some (l.flatMap c.e).toArray) (hl : l.length = len) :
  jM C (.buildSlice t len parts.toArray) ty E L (fun v L' => ∃ b, v = .slice (some ⟨b, 0, none⟩) len len ∧ L' = Row c (some ⟨b, 0, none⟩) len len l :: L) := by
 intro d pos aft g a w K Qx ha hi hK
 refine xH (C := C) (E := E) (ty := ty) ht hz hsz hsm (mw hp) hf (by rw [fi, hl]) d pos aft g a w K Qx ha hi ?_
 rintro v L' w' ⟨b, e1, e2⟩ hi'
 subst e2
 exact hK v _ w' ⟨b, e1, rfl⟩ (hi'.imp (fun h hh => ⟨hl, hh⟩))
theorem cM {t bE len : Nat} {parts : List (Nat × Operand)} {pv : List (Nat × Value)} {zs : List Value} (c : Ec α) (l : List α) (ht : sliceB C.P t = some (c.T, c.sz, bE)) (hz : cm C.P c.T = some zs) (hsz : Nat.ble 1 c.sz = true) (hsm : Nat.ble (len * c.sz) 16777216 = true)
  (hp : oq E parts = some pv) (hf : Instr.fill (fun i => some (i * c.sz, c.sz)) ((List.replicate len zs).flatten.toArray) pv = some (l.flatMap c.e).toArray) (hl : l.length = len) (hd : Nat.blt d C.n = true)
  (k : ∀ b, cy C ops rest Q ((d, .slice (some ⟨b, 0, none⟩) len len) :: E) (Row c (some ⟨b, 0, none⟩) len len l :: L)) : cy C ops (⟨some d, .buildSlice t len parts.toArray, ty, pos, aft, none⟩ :: rest) Q E L :=
 n7 (rX c l ht hz hsz hsm hp hf hl) hd fun v L' ⟨b, e1, e2⟩ => by subst e1; subst e2; exact k b
end
theorem Row.nil {α : Type} (c : Ec α) (w0 : World) (h : Hp) : Row c none 0 0 [] w0 h := ⟨rfl, Sl.nil _ _ _ _⟩
theorem aE.sub {α : Type} {c : Ec α} {p : Option Addr} {n : Nat} {l : List α} {w0 : World} {h : Hp} (hr : aE c p n l w0 h) (a b m : Nat) (h1 : a ≤ b) (h2 : b ≤ n) (h3 : b ≤ m) : aE c (dm p a m c.sz) (b - a) ((l.drop a).take (b - a)) w0 h := by
 obtain ⟨e0, e1, e2⟩ := hr
 refine ⟨by simp; omega, ?_⟩
 rw [← pI, ← mM]
 refine ⟨by rw [List.length_take, List.length_drop, e1]; rw [← Nat.sub_mul]; exact Nat.min_eq_left (Nat.mul_le_mul_right _ (by omega)), ?_⟩
 by_cases hab : b = a
 ·left; omega
 ·right
  rcases e2 with e2 | ⟨b', o, rfl, e2⟩
  ·omega
  ·refine ⟨b', o + a * c.sz, Fw _ _ _ _ _ (by omega), fun i v hv => ?_⟩
   rw [Nat.add_assoc]
   refine e2 _ _ ?_
   rw [List.getElem?_take] at hv
   split at hv
   ·rwa [List.getElem?_drop] at hv
   ·cases hv
end Go.Sl
namespace Go.Sl
open Go.RowKit (Below)
section
variable {C : Ctx} {Q : QT} {E : Env} {L L' F : List ab} {ops : Array Oper} {rest : List Oper} {d : Nat} {ty : TypeId} {pos : String} {aft : Array Edge} {op : Op} {v : Value} {α : Type} {c : Ec α}
theorem kO {x y : Operand} {t bE : Nat} {k1 k2 : IntKind} {i1 i2 : Int} {zs : List Value} (n m : Nat) (c : Ec α) (e1 : i1 = (n : Int)) (e2 : i2 = (m : Int)) (ht : sliceB C.P t = some (c.T, c.sz, bE)) (hz : cm C.P c.T = some zs) (hze : zs = c.e c.d) (hsz : Nat.ble 1 c.sz = true)
    (hx : an E x = some (.int k1 i1)) (hy : an E y = some (.int k2 i2)) (hnc : n ≤ m) (hb : m * bE ≤ 281474976710656) (hby : Nat.ble 1 bE = true) (hd : Nat.blt d C.n = true)
    (k : ∀ b, cy C ops rest Q ((d, .slice (some ⟨b, 0, none⟩) n m) :: E) (Row c (some ⟨b, 0, none⟩) n m (List.replicate n c.d) :: L)) : cy C ops (⟨some d, .makeSlice t x y, ty, pos, aft, none⟩ :: rest) Q E L := by
  subst e1
  subst e2
  refine Ph c ht hz hze hsz hx hy (by omega) (by omega) ?_ hby hd k
  have : ((m * bE : Nat) : Int) = (m : Int) * bE := Int.natCast_mul _ _
  omega
theorem Has.sub {w0 : World} {p : Option Addr} {n : Nat} {l : List α} (H : Has w0 L c p n l) (a b m : Nat) (h1 : a ≤ b) (h2 : b ≤ n) (h3 : b ≤ m) : Has w0 L c (dm p a m c.sz) (b - a) ((l.drop a).take (b - a)) := by
  obtain ⟨R, hm, hR⟩ := H
  exact ⟨R, hm, fun h hh => (hR h hh).sub a b m h1 h2 h3⟩
theorem Has.take {w0 : World} {p : Option Addr} {n : Nat} {l : List α} (H : Has w0 L c p n l) (b : Nat) (h2 : b ≤ n) : Has w0 L c p b (l.take b) := by
  have := H.sub 0 b b (Nat.zero_le _) h2 (Nat.le_refl _)
  rwa [mU, Nat.sub_zero, List.drop_zero] at this
end
end Go.Sl
namespace Go.Sl
open Go.RowKit (Below)
structure cX where
 a : Yv → ab
 bE : Option Nat
 use : Option Nat
 rd : List Nat
def ik (o : Option Nat) (i : Nat) : Bool := match o with | some j => Nat.beq j i | none => false
theorem nP {o : Option Nat} {i : Nat} : ik o i = true ↔ o = some i := by
 unfold ik
 cases o with
 | none => simp
 | some j =>
  constructor
  ·intro h; rw [Nat.eq_of_beq_eq_true h]
  ·intro h; cases h; exact Nat.beq_refl _
def gC (ts : List cX) (i : Nat) : List cX := ts.filter fun t => ik t.use i
def ej (ts : List cX) (i : Nat) : List cX := ts.filter fun t => mem i t.rd
def gb (ts : List cX) (i : Nat) : List cX := ts.filter fun t => ik t.bE i
def uA (ts : List cX) : List cX := ts.filter fun t => t.use.isNone
def oU (ts : List cX) : List cX := ts.filter fun t => t.bE.isNone
def dZ (ts : List cX) (y : Yv) : List ab := ts.map fun t => t.a y
def fZ (listed : Array Bool) (t : cX) : Bool :=
 (match t.bE with | some p => listed.getD p false | none => true) && (match t.use with | some c => !(listed.getD c false) | none => true)
def tJ (ps : List dI) (t : cX) (i : Nat) : Bool := match t.bE with | some p => mem p (ef ps i) | none => true
def uz (ps : List dI) (n : Nat) (t : cX) : Bool :=
 (match t.use with | some c => tJ ps t c && Nat.blt c n | none => true) && (match t.bE with | some p => Nat.blt p n | none => true) &&
 t.rd.all (fun i => tJ ps t i && Nat.blt i n && (match t.use with | some c => mem i (ef ps c) | none => true))
def Ym (C : Ctx) (l : List Oper) (ps : List dI) (i : Nat) : Bool := w6 C l ps [] i
def wO (C : Ctx) (l : List Oper) (ps : List dI) (ts : List cX) : Bool := (List.range l.length).all (w6 C l ps []) && ts.all (uz ps l.length)
structure sR (ps : List dI) (n : Nat) (t : cX) : Prop where
 use : ∀ c, t.use = some c → c < n ∧ ∀ p, t.bE = some p → p ∈ ef ps c
 bE : ∀ p, t.bE = some p → p < n
 rd : ∀ i, i ∈ t.rd → (∀ p, t.bE = some p → p ∈ ef ps i) ∧ i < n ∧ ∀ c, t.use = some c → i ∈ ef ps c
theorem Eb {ps : List dI} {n : Nat} {t : cX} (h : uz ps n t = true) : sR ps n t := by
 unfold uz at h
 simp only [Bool.and_eq_true] at h
 obtain ⟨⟨h1, h2⟩, h3⟩ := h
 have ah : ∀ i, tJ ps t i = true → ∀ p, t.bE = some p → p ∈ ef ps i := by
  intro i hi p hp
  unfold tJ at hi
  rw [hp] at hi
  exact mem_iff.1 hi
 refine ⟨fun c hc => ?_, fun p hp => ?_, fun i hi => ?_⟩
 ·rw [hc] at h1
  simp only [Bool.and_eq_true] at h1
  exact ⟨fe h1.2, ah c h1.1⟩
 ·rw [hp] at h2; exact fe h2
 ·have := List.all_eq_true.1 h3 i hi
  simp only [Bool.and_eq_true] at this
  refine ⟨ah i this.1.1, fe this.1.2, fun c hc => ?_⟩
  have h4 := this.2
  rw [hc] at h4
  exact mem_iff.1 h4
theorem ku {α : Type} (p : α → Bool) (l : List α) : l.Perm (l.filter p ++ l.filter (fun x => !p x)) := (List.filter_append_perm p l).symm
section
variable {C : Ctx} {l : List Oper} {E0 : Env} {ps : List dI} {ts : List cX} {Φ : Nat → Yv → Prop} {A : List ab}
structure Mt (C : Ctx) (l : List Oper) (E0 : Env) (ps : List dI) (ts : List cX) (Φ : Nat → Yv → Prop) (A : List ab) (listed : Array Bool) (a : Act) (w : World) (y : Yv) : Prop where
 size : listed.size = l.length
 xB : ∀ i, done listed i → ∀ j ∈ ef ps i, done listed j
 defers : a.defers = C.D
 tu : a.tmps.size = C.n
 Ck : ∀ i, done listed i → ∀ t, dK l i = some t → a.tmps[t]? = some (y i)
 BG : ∀ s v, E0.get s = some v → (∀ j, done listed j → dK l j ≠ some s) → a.tmps[s]? = some v
 Iq : ∀ i, done listed i → Φ i y
 inv : Inv C.w0 (dZ (ts.filter (fZ listed)) y ++ A) w
def Nx (C : Ctx) (l : List Oper) (E0 : Env) (ps : List dI) (ts : List cX) (A0 : List ab) (Φ : Nat → Yv → Prop) (i : Nat) : Prop :=
 ∀ o p, l[i]? = some o → ps[i]? = some p → ∀ y M, (∀ j ∈ p.fE, Φ j y) →
  Step C l.toArray o (qI l E0 p y) (dZ (gC ts i) y ++ (dZ (ej ts i) y ++ (M ++ A0))) (fun v L' => Φ i (dG y i v) ∧ L'.Perm (dZ (gb ts i) (dG y i v) ++ (dZ (ej ts i) y ++ (M ++ A0))))
theorem FQ (hok : ∀ i, i < l.length → ∃ o p, l[i]? = some o ∧ ps[i]? = some p ∧ wy C l ps [] i o p) (htok : ∀ t ∈ ts, sR ps l.length t) (hlen : ps.length = l.length)
  (hobl : ∀ i, i < l.length → Nx C l E0 ps ts A Φ i) (hloc : ∀ i y y', (∀ j, j = i ∨ j ∈ ef ps i → y j = y' j) → Φ i y → Φ i y')
  (hlocT : ∀ t ∈ ts, ∀ y y' : Yv, (∀ p, t.bE = some p → ∀ j, j = p ∨ j ∈ ef ps p → y j = y' j) → t.a y = t.a y')
  {Q : Exit → Act → World → Prop} (hX : ∀ ch E L a w, ft C E a → Inv C.w0 L w → C.X ch L → Q (.panic ch) a w) (hQ : ∀ a w y, (∀ i, i < l.length → Φ i y) → a.defers = C.D → a.tmps.size = C.n → (∀ i, i < l.length → ∀ t, dK l i = some t → a.tmps[t]? = some (y i)) →
   (∀ s v, E0.get s = some v → (∀ j, dK l j ≠ some s) → a.tmps[s]? = some v) → Inv C.w0 (dZ (uA ts) y ++ A) w → Q .normal a w) :
  ∀ (fuel : Nat) (listed : Array Bool) (a : Act) (w : World) (y : Yv), Mt C l E0 ps ts Φ A listed a w y →
   ((List.range l.length).filter fun i => !listed.getD i true).length ≤ fuel → wpAny C.P .any l.toArray Q fuel listed a w := by
 have fin : ∀ (listed : Array Bool) (a : Act) (w : World) (y : Yv), Mt C l E0 ps ts Φ A listed a w y → Region.ready .any l.toArray listed = [] → Q .normal a w := by
  intro listed a w y hinv hr
  have hall : ∀ i, i < l.length → done listed i := by
   intro i
   induction i using Nat.strongRecOn with
   | _ i ih =>
    intro hi
    obtain ⟨o, p, ho, hp, ok⟩ := hok i hi
    have hlt : i < listed.size := by rw [hinv.size]; exact hi
    cases hd : listed.getD i true with
    | true => unfold done; simp [hlt] at hd ⊢; exact hd
    | false =>
     exfalso
     have : i ∈ Region.ready .any l.toArray listed := mem_ready.2 ⟨hd, o, by simpa using ho, fun e he hb => ?_⟩
     ·rw [hr] at this; cases this
     ·have hj : e.on ∈ ld o := List.mem_filterMap.2 ⟨e, by simpa using he, by simp [hb]⟩
      have hlt2 := ok.Th _ hj
      exact ih e.on hlt2 (by omega)
  have hlive : ts.filter (fZ listed) = uA ts := by
   unfold uA
   apply List.filter_congr
   intro t ht
   have hk := htok t ht
   unfold fZ
   have h1 : (match t.bE with | some p => listed.getD p false | none => true) = true := by
    split
    ·rename_i p hp; exact hall p (hk.bE p hp)
    ·rfl
   rw [h1, Bool.true_and]
   split
   ·rename_i c hc
    rw [show listed.getD c false = true from hall c (hk.use c hc).1, hc]
    rfl
   ·rename_i hc; rw [hc]; rfl
  have hi := hinv.inv
  rw [hlive] at hi
  exact hQ a w y (fun i hi => hinv.Iq i (hall i hi)) hinv.defers hinv.tu (fun i hi => hinv.Ck i (hall i hi)) (fun s v hs hne => hinv.BG s v hs (fun j _ => hne j)) hi
 intro fuel
 induction fuel with
 | zero =>
  intro listed a w y hinv hn
  have hr : Region.ready .any l.toArray listed = [] := by
   apply List.eq_nil_iff_forall_not_mem.2
   intro i hi
   obtain ⟨h1, o, ho, _⟩ := mem_ready.1 hi
   have hlt : i < l.length := by
    have : l[i]? = some o := by simpa using ho
    exact (List.getElem?_eq_some_iff.1 this).1
   have : i ∈ ((List.range l.length).filter fun i => !listed.getD i true) := List.mem_filter.2 ⟨List.mem_range.2 hlt, by simp only [h1]; rfl⟩
   have h0 := List.eq_nil_of_length_eq_zero (Nat.le_zero.1 hn)
   rw [h0] at this
   cases this
  exact ⟨hr, fin listed a w y hinv hr⟩
 | succ fuel ih =>
  intro listed a w y hinv hn
  refine ⟨fin listed a w y hinv, fun i hi => ?_⟩
  have hlt : i < l.length := by
   obtain ⟨h1, o, ho, _⟩ := mem_ready.1 hi
   have : l[i]? = some o := by simpa using ho
   exact (List.getElem?_eq_some_iff.1 this).1
  obtain ⟨o, p, ho, hp, ok⟩ := hok i hlt
  obtain ⟨hun, hb⟩ := zm ho hi
  have hnd : ¬ done listed i := fun h => by unfold done at h; rw [qt hun] at h; cases h
  have hpa : ef ps i = p.fE := by simp [ef, hp]
  have hanc : ∀ j ∈ p.fE, done listed j := by
   intro j hj
   rcases (ok.fE j hj).2 with h | ⟨k, hk, h⟩
   ·exact hb j h
   ·exact hinv.xB k (hb k hk) j h
  have hancn : ∀ j, done listed j → i ∉ ef ps j := fun j hj hm => hnd (hinv.xB j hj i hm)
  have hself : ∀ j, done listed j → j ≠ i := fun j hj e => hnd (e ▸ hj)
  have hagr : ft C (qI l E0 p y) a := by
   refine ⟨hinv.defers, hinv.tu, fun d v hd => ?_⟩
   have hm := Env.get_mem hd
   unfold qI at hm
   rcases List.mem_append.1 hm with h | h
   ·obtain ⟨j, hj, hj2⟩ := List.mem_filterMap.1 h
    split at hj2
    ·rename_i t ht
     cases hj2
     exact hinv.Ck j (hanc j (ok.iC j hj)) d ht
    ·cases hj2
   ·obtain ⟨s, hs, hs2⟩ := List.mem_filterMap.1 h
    split at hs2
    ·rename_i u hu
     cases hs2
     refine hinv.BG d v hu (fun j hj e => ?_)
     rcases ok.kY d hs j e with h | h
     ·exact hself j hj h
     ·exact hnd (hinv.xB j hj i h)
    ·cases hs2
  have hdst : dK l i = o.dst := by simp [dK, ho]
  have hilt : i < listed.size := by rw [hinv.size]; exact hlt
  have hset : ∀ j d, (listed.setIfInBounds i true).getD j d = if j = i then true else listed.getD j d := by
   intro j d
   by_cases hij : i = j
   ·subst hij; simp [hilt]
   ·rw [getD_set_ne d hij, if_neg (fun e => hij e.symm)]
  have hdone' : ∀ j, done (listed.setIfInBounds i true) j ↔ j = i ∨ done listed j := by
   intro j
   unfold done
   rw [hset]
   by_cases e : j = i <;> simp [e]
  have hcnt : ((List.range l.length).filter fun j => !(listed.setIfInBounds i true).getD j true).length ≤ fuel := by
   have hsub : ((List.range l.length).filter fun j => !(listed.setIfInBounds i true).getD j true) = ((List.range l.length).filter fun j => !listed.getD j true).filter (fun j => !(j == i)) := by
    rw [List.filter_filter]
    apply List.filter_congr
    intro j _
    rw [hset]
    by_cases e : j = i
    ·subst e; simp
    ·simp [e]
   have hmem : i ∈ ((List.range l.length).filter fun j => !listed.getD j true) := List.mem_filter.2 ⟨List.mem_range.2 hlt, by simp only [hun]; rfl⟩
   rw [hsub]
   have hlt2 : (((List.range l.length).filter fun j => !listed.getD j true).filter (fun j => !(j == i))).length < ((List.range l.length).filter fun j => !listed.getD j true).length :=
    List.length_filter_lt_length_iff_exists.2 ⟨i, hmem, by simp⟩
   omega
  let Lv := ts.filter (fZ listed)
  let rest := (Lv.filter (fun t => !(ik t.use i))).filter (fun t => !(mem i t.rd))
  have hirr : i ∉ ef ps i := by
   rw [hpa]; intro h; exact absurd (ok.fE i h).1 (Nat.lt_irrefl _)
  have bydone : ∀ t ∈ ts, (∀ q, t.bE = some q → q ∈ ef ps i) → (match t.bE with | some q => listed.getD q false | none => true) = true := by
   intro t ht h
   split
   ·rename_i q hq; exact hanc q (by rw [← hpa]; exact h q hq)
   ·rfl
  have hcl : ∀ t ∈ ts, ik t.use i = true → fZ listed t = true := by
   intro t ht hu
   have hu := nP.1 hu
   have hk := htok t ht
   unfold fZ
   rw [bydone t ht (hk.use i hu).2, hu]
   have : listed.getD i false = false := qt hun
   simp [this]
  have hrl : ∀ t ∈ ts, mem i t.rd = true → fZ listed t = true ∧ ik t.use i = false := by
   intro t ht hr
   have hk := (htok t ht).rd i (mem_iff.1 hr)
   have hnu : ik t.use i = false := by
    cases e : ik t.use i with
    | false => rfl
    | true => exact absurd (hk.2.2 i (nP.1 e)) hirr
   refine ⟨?_, hnu⟩
   unfold fZ
   rw [bydone t ht hk.1, Bool.true_and]
   split
   ·rename_i c hc
    have : listed.getD c false = false := by
     cases e : listed.getD c false with
     | false => rfl
     | true => exact absurd (hk.2.2 c hc) (hancn c e)
    rw [this]; rfl
   ·rfl
  have hf1 : Lv.filter (fun t => ik t.use i) = gC ts i := by
   show (ts.filter _).filter _ = ts.filter _
   rw [List.filter_filter]
   apply List.filter_congr
   intro t ht
   cases e : ik t.use i with
   | false => simp
   | true => simp [hcl t ht e]
  have hf2 : (Lv.filter (fun t => !(ik t.use i))).filter (fun t => mem i t.rd) = ej ts i := by
   show ((ts.filter _).filter _).filter _ = ts.filter _
   rw [List.filter_filter, List.filter_filter]
   apply List.filter_congr
   intro t ht
   cases e : mem i t.rd with
   | false => simp
   | true => obtain ⟨h1, h2⟩ := hrl t ht e; simp [h1, h2]
  have hperm1 : Lv.Perm (gC ts i ++ (ej ts i ++ rest)) := by
   have h1 := ku (fun t => ik t.use i) Lv
   have h2 := ku (fun t => mem i t.rd) (Lv.filter (fun t => !(ik t.use i)))
   rw [hf1] at h1
   rw [hf2] at h2
   exact h1.trans (List.Perm.append_left _ h2)
  have hperm2 : (ts.filter (fZ (listed.setIfInBounds i true))).Perm (gb ts i ++ (ej ts i ++ rest)) := by
   have h1 := ku (fun t => ik t.bE i) (ts.filter (fZ (listed.setIfInBounds i true)))
   have e1 : (ts.filter (fZ (listed.setIfInBounds i true))).filter (fun t => ik t.bE i) = gb ts i := by
    rw [List.filter_filter]
    apply List.filter_congr
    intro t ht
    cases e : ik t.bE i with
    | false => simp
    | true =>
     have hbi := nP.1 e
     have hk := htok t ht
     unfold fZ
     rw [hbi]
     simp only [hset, if_true, Bool.true_and]
     split
     ·rename_i c hc
      have hci : i ∈ ef ps c := (hk.use c hc).2 i hbi
      have hne : c ≠ i := fun e => hirr (e ▸ hci)
      have : listed.getD c false = false := by
       cases e : listed.getD c false with
       | false => rfl
       | true => exact absurd hci (hancn c e)
      simp [hne, this]
     ·rfl
   have e2 : (ts.filter (fZ (listed.setIfInBounds i true))).filter (fun t => !(ik t.bE i)) = Lv.filter (fun t => !(ik t.use i)) := by
    show _ = (ts.filter _).filter _
    rw [List.filter_filter, List.filter_filter]
    apply List.filter_congr
    intro t ht
    unfold fZ
    have hb1 : (!(ik t.bE i) && (match t.bE with | some p => (listed.setIfInBounds i true).getD p false | none => true)) = (match t.bE with | some p => listed.getD p false | none => true) := by
     split
     ·rename_i q hq
      rw [hq, hset]
      by_cases e : q = i
      ·subst e
       have : listed.getD q false = false := qt hun
       simp [ik, this]
      ·have : ik (some q) i = false := by
        cases h : ik (some q) i with
        | false => rfl
        | true => have := nP.1 h; simp at this; exact absurd this e
       simp [e, this]
     ·rename_i hq; rw [hq]; rfl
    have hu1 : (match t.use with | some c => !((listed.setIfInBounds i true).getD c false) | none => true) = (!(ik t.use i) && (match t.use with | some c => !(listed.getD c false) | none => true)) := by
     split
     ·rename_i c hc
      rw [hc, hset]
      by_cases e : c = i
      ·subst e; simp [ik]
      ·have : ik (some c) i = false := by
        cases h : ik (some c) i with
        | false => rfl
        | true => have := nP.1 h; simp at this; exact absurd this e
       simp [e, this]
     ·rename_i hc; rw [hc]; rfl
    rw [hu1, ← hb1]
    simp only [Bool.and_assoc, Bool.and_left_comm]
   rw [e1, e2] at h1
   have h2 := ku (fun t => mem i t.rd) (Lv.filter (fun t => !(ik t.use i)))
   rw [hf2] at h2
   exact h1.trans (List.Perm.append_left _ h2)
  have hsame : ∀ v, ∀ t ∈ ts, fZ listed t = true → t.a (dG y i v) = t.a y := by
   intro v t ht hl
   refine hlocT t ht _ _ (fun q hq j hj => yE ?_)
   have hqd : done listed q := by
    unfold fZ at hl
    rw [hq] at hl
    simp only [Bool.and_eq_true] at hl
    exact hl.1
   rcases hj with rfl | hj
   ·exact hself _ hqd
   ·exact hself _ (hinv.xB q hqd j hj)
  have hrestT : ∀ t ∈ rest, t ∈ ts ∧ fZ listed t = true := by
   intro t ht
   have h1 := (List.mem_filter.1 (List.mem_filter.1 (List.mem_filter.1 ht).1).1)
   exact h1
  have hstep := hobl i hlt o p ho hp y (dZ rest y) (fun j hj => hinv.Iq j (hanc j hj))
  have hinv1 : Inv C.w0 (dZ (gC ts i) y ++ (dZ (ej ts i) y ++ (dZ rest y ++ A))) w := by
   refine hinv.inv.perm ?_
   have := (List.Perm.map (fun t : cX => t.a y) hperm1).append_right A
   simpa [dZ, List.append_assoc] using this
  have hK : ∀ v L' w', (Φ i (dG y i v) ∧ L'.Perm (dZ (gb ts i) (dG y i v) ++ (dZ (ej ts i) y ++ (dZ rest y ++ A)))) → Inv C.w0 L' w' → wpAny C.P .any l.toArray Q fuel (listed.setIfInBounds i true) (a.put o.dst v) w' := by
   rintro v L' w' ⟨h1, h2⟩ hi'
   refine ih _ _ _ (dG y i v) ⟨by simp [hinv.size], ?_, ?_, ?_, ?_, ?_, ?_, ?_⟩ hcnt
   ·intro j hj q hq
    rcases (hdone' j).1 hj with rfl | hj
    ·exact (hdone' q).2 (.inr (hanc q (by rw [← hpa]; exact hq)))
    ·exact (hdone' q).2 (.inr (hinv.xB j hj q hq))
   ·cases o.dst <;> exact hinv.defers
   ·cases o.dst <;> simp [Act.put, hinv.tu]
   ·intro j hj t ht
    rcases (hdone' j).1 hj with rfl | hj
    ·rw [hdst] at ht
     rw [ht, mq]
     have := (ok.dst t ht).1
     simp [Act.put, hinv.tu, this]
    ·rw [yE (hself j hj)]
     have hv := hinv.Ck j hj t ht
     cases hod : o.dst with
     | none => exact hv
     | some u =>
      have hne : u ≠ t := fun e => (ok.dst u hod).2 j (hself j hj) (e ▸ ht)
      simp only [Act.put]
      rw [Array.getElem?_setIfInBounds_ne hne]
      exact hv
   ·intro s v' hs hne
    have hv := hinv.BG s v' hs (fun j hj => hne j ((hdone' j).2 (.inr hj)))
    cases hod : o.dst with
    | none => exact hv
    | some u =>
     have hne2 : u ≠ s := fun e => hne i ((hdone' i).2 (.inl rfl)) (by rw [hdst, hod, e])
     simp only [Act.put]
     rw [Array.getElem?_setIfInBounds_ne hne2]
     exact hv
   ·intro j hj
    rcases (hdone' j).1 hj with rfl | hj
    ·exact h1
    ·refine hloc j y _ (fun q hq => (yE ?_).symm) (hinv.Iq j hj)
     rcases hq with rfl | hq
     ·exact hself _ hj
     ·exact hself _ (hinv.xB j hj q hq)
   ·refine (hi'.perm h2).perm ?_
    have hp2 := (List.Perm.map (fun t : cX => t.a (dG y i v)) hperm2).append_right A
    have er : (ej ts i).map (fun t : cX => t.a (dG y i v)) = dZ (ej ts i) y := List.map_congr_left (fun t ht => by
     have := List.mem_filter.1 ht
     exact hsame v t this.1 (hrl t this.1 this.2).1)
    have er2 : rest.map (fun t : cX => t.a (dG y i v)) = dZ rest y := List.map_congr_left (fun t ht => hsame v t (hrestT t ht).1 (hrestT t ht).2)
    simp only [List.map_append, er, er2] at hp2
    refine List.Perm.trans ?_ hp2.symm
    simp [dZ, List.append_assoc]
  have h5 := hstep a w (wpAny C.P .any l.toArray Q fuel (listed.setIfInBounds i true)) ⟨Q, hX⟩ hagr hinv1 hK
  unfold wpOp
  have ho' : l.toArray[i]? = some o := by simpa using ho
  simp only [ho']
  by_cases hw : Region.wanted o (yielded l.toArray a.tmps) = true
  ·rw [if_pos hw] at h5 ⊢; exact .inl h5
  ·rw [if_neg hw] at h5 ⊢; exact h5
theorem RP {Q : QT} {id : Nat} (ps : List dI) (ts : List cX) (Φ : Nat → Yv → Prop) {L : List ab}
  (hm : C.P.follows .mixedOrders = true) (hB : wO C l ps ts = true) (hlen : ps.length = l.length) (h0 : ∃ y0, L.Perm (dZ (oU ts) y0 ++ A))
  (hloc : ∀ i y y', (∀ j, j = i ∨ j ∈ ef ps i → y j = y' j) → Φ i y → Φ i y')
  (hlocT : ∀ t ∈ ts, ∀ y y' : Yv, (∀ p, t.bE = some p → ∀ j, j = p ∨ j ∈ ef ps p → y j = y' j) → t.a y = t.a y')
  (hobl : ∀ i, i < l.length → Nx C l E0 ps ts A Φ i)
  (k : ∀ y, (∀ i, i < l.length → Φ i y) → Q .normal (r8 l y l.length E0) (dZ (uA ts) y ++ A)) (hX : ∀ ch E L, C.X ch L → Q (.panic ch) E L := by exact fun _ _ _ h => h) : Wp C (.region id l.toArray true) Q E0 L := by
 intro a w ha hi
 obtain ⟨y0, h0⟩ := h0
 unfold wO at hB
 simp only [Bool.and_eq_true] at hB
 have hok : ∀ i, i < l.length → ∃ o p, l[i]? = some o ∧ ps[i]? = some p ∧ wy C l ps [] i o p := fun i hi => vX (List.all_eq_true.1 hB.1 i (List.mem_range.2 hi))
 have htok : ∀ t ∈ ts, sR ps l.length t := fun t ht => Eb (List.all_eq_true.1 hB.2 t ht)
 refine wp_region_any hm ?_
 have hs : l.toArray.size = l.length := by simp
 rw [hs]
 refine FQ (E0 := E0) (Φ := Φ) (A := A) hok htok hlen hobl hloc hlocT (fun ch E L a w h1 h2 h3 => ⟨E, L, h1, h2, hX ch E L h3⟩) ?_ l.length (Array.replicate l.length false) a _ y0 ?_ ?_
 ·intro a w y p2 p3 p4 p5 p6 p7
  refine ⟨_, _, ⟨p3, p4, ?_⟩, p7, k y p2⟩
  have key : ∀ (n : Nat), n ≤ l.length → ∀ d v, (r8 l y n E0).get d = some v → (∃ i, i < n ∧ dK l i = some d ∧ v = y i) ∨ (E0.get d = some v ∧ ∀ i, i < n → dK l i ≠ some d) := by
   intro n
   induction n with
   | zero => intro _ d v h; exact .inr ⟨h, fun i hi => absurd hi (by omega)⟩
   | succ n ih =>
    intro hn d v h
    simp only [r8] at h
    split at h
    ·rename_i t ht
     rw [Env.ic] at h
     by_cases e : t = d
     ·subst e; simp at h; exact .inl ⟨n, by omega, ht, h.symm⟩
     ·simp only [e, if_false] at h
      rcases ih (by omega) d v h with ⟨i, hi, h1, h2⟩ | ⟨h1, h2⟩
      ·exact .inl ⟨i, by omega, h1, h2⟩
      ·refine .inr ⟨h1, fun i hi => ?_⟩
       by_cases e2 : i = n
       ·subst e2; rw [ht]; intro e3; cases e3; exact e rfl
       ·exact h2 i (by omega)
    ·rename_i ht
     rcases ih (by omega) d v h with ⟨i, hi, h1, h2⟩ | ⟨h1, h2⟩
     ·exact .inl ⟨i, by omega, h1, h2⟩
     ·refine .inr ⟨h1, fun i hi => ?_⟩
      by_cases e2 : i = n
      ·subst e2; rw [ht]; simp
      ·exact h2 i (by omega)
  intro d v h
  rcases key l.length (Nat.le_refl _) d v h with ⟨i, hi, h1, rfl⟩ | ⟨h1, h2⟩
  ·exact p5 i hi d h1
  ·exact p6 d v h1 (fun j hj => h2 j (rZ hj) hj)
 ·have hnone : ∀ j, ¬ done (Array.replicate l.length false) j := fun j h => by
   unfold done at h
   rw [iz] at h
   cases h
  have hlive : ts.filter (fZ (Array.replicate l.length false)) = oU ts := by
   unfold oU
   apply List.filter_congr
   intro t ht
   unfold fZ
   cases h1 : t.bE with
   | some q => simp only [iz, Bool.false_and]; rfl
   | none =>
    simp only [Bool.true_and]
    cases h2 : t.use with
    | some c => simp only [iz]; rfl
    | none => rfl
  exact ⟨by simp, fun i h => absurd h (hnone i), ha.defers, ha.size, fun i h => absurd h (hnone i), fun s v hs _ => ha.get s v hs, fun i h => absurd h (hnone i), by
   rw [hlive]
   exact hi.drew.perm h0⟩
 ·exact Nat.le_trans (List.length_filter_le _ _) (by simp)
end
end Go.Sl
namespace Go.Sl
open Go.RowKit (Below)
structure gg where
 V : List (Yv → Value)
 P : List (Yv → Prop)
def gg.put (c : gg) (f : Yv → Value) (q : Yv → Prop) : gg := ⟨f :: c.V, q :: c.P⟩
def j6 (l : List Oper) (E0 : Env) (p : dI) (i : Nat) (c : gg) (y : Yv) : Env :=
 (p.iC.filterMap fun j => match dK l j with | some t => (match c.V[i - 1 - j]? with | some f => some (t, f y) | none => none) | none => none) ++ p.kY.filterMap fun s => match E0.get s with | some v => some (s, v) | none => none
def r6 (l : List Oper) (n : Nat) (c : gg) (y : Yv) : Nat → Env → Env
 | 0, E => E
 | i + 1, E => match dK l i with | some t => (match c.V[n - 1 - i]? with | some f => (t, f y) :: r6 l n c y i E | none => r6 l n c y i E) | none => r6 l n c y i E
structure cI (c : gg) (i : Nat) (j : Nat) (y : Yv) : Prop where
 val : ∃ f q, c.V[i - 1 - j]? = some f ∧ c.P[i - 1 - j]? = some q ∧ y j = f y ∧ q y
theorem cI.fact {c : gg} {i j : Nat} {y : Yv} (h : cI c i j y) {q : Yv → Prop} (hq : c.P[i - 1 - j]? = some q) : q y := by
 obtain ⟨f, q', _, e, _, k⟩ := h.val
 rw [hq] at e
 cases e
 exact k
section
variable {C : Ctx} {E0 : Env} {Q : QT} {L : List ab}
def gu (C : Ctx) (l : List Oper) (E0 : Env) (ts : List cX) (A0 : List ab) : Nat → gg → List Oper → List dI → (gg → Prop) → Prop
 | _, c, [], [], K => K c
 | i, c, o :: os, p :: ps, K => ∃ (f : Yv → Value) (q : Yv → Prop), Loc i p f ∧ Loc i p q ∧
   (∀ y M, (∀ j ∈ p.fE, cI c i j y) → Step C l.toArray o (j6 l E0 p i c y) (dZ (gC ts i) y ++ (dZ (ej ts i) y ++ (M ++ A0))) (fun v L' => f (dG y i v) = v ∧ q (dG y i v) ∧ L'.Perm (dZ (gb ts i) (dG y i v) ++ (dZ (ej ts i) y ++ (M ++ A0))))) ∧ gu C l E0 ts A0 (i + 1) (c.put f q) os ps K
 | _, _, _, _, _ => False
section
variable {l : List Oper} {ts : List cX} {i : Nat} {c : gg} {o : Oper} {os : List Oper} {ps : List dI} {f : Yv → Value} {K : gg → Prop} {A0 : List ab}
theorem cN (h : K c) : gu C l E0 ts A0 i c [] [] K := h
theorem ei {p : dI} (E : Yv → Env) (hE : ∀ y, j6 l E0 p i c y = E y) (hc : gC ts i = []) (hr : ej ts i = []) (hp : gb ts i = []) (h : ∀ y, (∀ j ∈ p.fE, cI c i j y) → ∀ L, Step C l.toArray o (E y) L (fun v' L' => v' = f y ∧ L' = L)) (hf : ∀ y v, f (dG y i v) = f y) (hloc : Loc i p f)
  (r : gu C l E0 ts A0 (i + 1) (c.put f (fun _ => True)) os ps K) : gu C l E0 ts A0 i c (o :: os) (p :: ps) K :=
 ⟨f, (fun _ => True), hloc, fun _ _ _ => rfl, fun y M h3 a w K' Q ha hi hK => by
  rw [hE] at ha
  simp only [hc, hr, hp, dZ, List.map_nil, List.nil_append] at hi hK
  exact h y h3 _ a w K' Q ha hi (fun v' L' w' ⟨e1, e2⟩ hi' => hK v' L' w' ⟨by rw [hf, e1], trivial, by rw [e2]⟩ hi'), r⟩
theorem kM {p : dI} (R : Yv → List ab) (E : Yv → Env) (hE : ∀ y, j6 l E0 p i c y = E y) (hc : gC ts i = []) (hr : ∀ y, dZ (ej ts i) y = R y) (hp : gb ts i = []) (h : ∀ y A, (∀ j ∈ p.fE, cI c i j y) → Step C l.toArray o (E y) (R y ++ A) (fun v' L' => v' = f y ∧ L' = R y ++ A)) (hf : ∀ y v, f (dG y i v) = f y) (hloc : Loc i p f)
  (r : gu C l E0 ts A0 (i + 1) (c.put f (fun _ => True)) os ps K) : gu C l E0 ts A0 i c (o :: os) (p :: ps) K :=
 ⟨f, (fun _ => True), hloc, fun _ _ _ => rfl, fun y M h3 a w K' Q ha hi hK => by
  rw [hE] at ha
  rw [hc, hr] at hi
  rw [hp, hr] at hK
  exact h y (M ++ A0) h3 a w K' Q ha hi (fun v' L' w' ⟨e1, e2⟩ hi' => hK v' L' w' ⟨by rw [hf, e1], trivial, by rw [e2]; exact .refl _⟩ hi'), r⟩
theorem Lr {p : dI} (T R M : Yv → List ab) (E : Yv → Env) (hE : ∀ y, j6 l E0 p i c y = E y) (hc : ∀ y, dZ (gC ts i) y = T y) (hr : ∀ y, dZ (ej ts i) y = R y) (hp : ∀ y, dZ (gb ts i) y = M y)
  (h : ∀ y A, (∀ j ∈ p.fE, cI c i j y) → Step C l.toArray o (E y) (T y ++ (R y ++ A)) (fun v' L' => v' = f y ∧ L'.Perm (M y ++ (R y ++ A)))) (hf : ∀ y v, f (dG y i v) = f y) (hM : ∀ y v, M (dG y i v) = M y) (hloc : Loc i p f)
  (r : gu C l E0 ts A0 (i + 1) (c.put f (fun _ => True)) os ps K) : gu C l E0 ts A0 i c (o :: os) (p :: ps) K :=
 ⟨f, (fun _ => True), hloc, fun _ _ _ => rfl, fun y M h3 a w K' Q ha hi hK => by
  rw [hE] at ha
  rw [hc, hr] at hi
  exact h y (M ++ A0) h3 a w K' Q ha hi (fun v' L' w' ⟨e1, e2⟩ hi' => hK v' L' w' ⟨by rw [hf, e1], trivial, by rw [hp, hM, hr]; exact e2⟩ hi'), r⟩
theorem eK {p : dI} (g : Yv → Value → Value) (Pv : Yv → Value → Prop) (T R : Yv → List ab) (M : Yv → Value → List ab) (E : Yv → Env) (hE : ∀ y, j6 l E0 p i c y = E y) (hc : ∀ y, dZ (gC ts i) y = T y) (hr : ∀ y, dZ (ej ts i) y = R y) (hp : ∀ y, dZ (gb ts i) y = M y (y i))
  (h : ∀ y A, (∀ j ∈ p.fE, cI c i j y) → Step C l.toArray o (E y) (T y ++ (R y ++ A)) (fun v' L' => v' = g y v' ∧ Pv y v' ∧ L'.Perm (M y v' ++ (R y ++ A)))) (hg : ∀ y v u, g (dG y i v) u = g y u) (hP : ∀ y v u, Pv (dG y i v) u = Pv y u) (hM : ∀ y v u, M (dG y i v) u = M y u) (hloc : Loc i p (fun y => g y (y i))) (hlocP : Loc i p (fun y => Pv y (y i)))
  (r : gu C l E0 ts A0 (i + 1) (c.put (fun y => g y (y i)) (fun y => Pv y (y i))) os ps K) : gu C l E0 ts A0 i c (o :: os) (p :: ps) K :=
 ⟨(fun y => g y (y i)), (fun y => Pv y (y i)), hloc, hlocP, fun y M h3 a w K' Q ha hi hK => by
  rw [hE] at ha
  rw [hc, hr] at hi
  exact h y (M ++ A0) h3 a w K' Q ha hi (fun v' L' w' ⟨e1, e2, e3⟩ hi' => hK v' L' w' ⟨by show g (dG y i v') (dG y i v' i) = v'; rw [hg, mq]; exact e1.symm, by show Pv (dG y i v') (dG y i v' i); rw [hP, mq]; exact e2, by rw [hp, hM, mq, hr]; exact e3⟩ hi'), r⟩
end
theorem gu.get {l : List Oper} {ts : List cX} {A0 : List ab} {K : gg → Prop} : ∀ {i : Nat} {c : gg} {os : List Oper} {ps : List dI}, gu C l E0 ts A0 i c os ps K → c.V.length = i → c.P.length = i → (∀ (j : Nat) (p : dI), ps[j]? = some p → ∀ d, d ∈ p.iC ∨ d ∈ p.fE → d < i + j) →
  ∃ (fs : List (Yv → Value)) (qs : List (Yv → Prop)), fs.length = os.length ∧ qs.length = os.length ∧ K ⟨fs.reverse ++ c.V, qs.reverse ++ c.P⟩ ∧
   ∀ j o p f q, os[j]? = some o → ps[j]? = some p → fs[j]? = some f → qs[j]? = some q → Loc (i + j) p f ∧ Loc (i + j) p q ∧
    (∀ y M, (∀ d ∈ p.fE, ∃ f' q', (c.V.reverse ++ fs)[d]? = some f' ∧ (c.P.reverse ++ qs)[d]? = some q' ∧ y d = f' y ∧ q' y) → Step C l.toArray o (uE l E0 p (c.V.reverse ++ fs) y) (dZ (gC ts (i + j)) y ++ (dZ (ej ts (i + j)) y ++ (M ++ A0))) (fun v L' => f (dG y (i + j) v) = v ∧ q (dG y (i + j) v) ∧ L'.Perm (dZ (gb ts (i + j)) (dG y (i + j) v) ++ (dZ (ej ts (i + j)) y ++ (M ++ A0)))))
 | i, c, [], [], h, _, _, _ => ⟨[], [], rfl, rfl, h, fun j o p f q h => by simp at h⟩
 | i, c, o :: os, p :: ps, ⟨f, q, h1, h2, h4, h5⟩, hV, hP, hd => by
  obtain ⟨fs, qs, l1, l2, hK, hrest⟩ := gu.get h5 (by simp [gg.put, hV]) (by simp [gg.put, hP]) (fun j p hp d hdd => by have := hd (j + 1) p (by simpa using hp) d hdd; omega)
  have e1 : (c.put f q).V.reverse ++ fs = c.V.reverse ++ f :: fs := by simp [gg.put]
  have e2 : (c.put f q).P.reverse ++ qs = c.P.reverse ++ q :: qs := by simp [gg.put]
  rw [e1, e2] at hrest
  refine ⟨f :: fs, q :: qs, by simp [l1], by simp [l2], by simpa [gg.put] using hK, fun j o' p' f' q' ho hp hf hq => ?_⟩
  cases j with
  | succ j =>
   rw [show i + (j + 1) = i + 1 + j by omega]
   exact hrest j o' p' f' q' (by simpa using ho) (by simpa using hp) (by simpa using hf) (by simpa using hq)
  | zero =>
   simp at ho hp hf hq
   subst ho; subst hp; subst hf; subst hq
   refine ⟨h1, h2, fun y A hkn => ?_⟩
   have hd0 := hd 0 p (by simp)
   have get0 : ∀ {β : Type} (xs ys : List β) (x : β) (d : Nat), xs.length = i → d < i → (xs.reverse ++ x :: ys)[d]? = xs[i - 1 - d]? := by
    intro β xs ys x d hx hlt
    rw [List.getElem?_append_left (by simp; omega), List.getElem?_reverse (by omega), hx]
   have henv : uE l E0 p (c.V.reverse ++ f :: fs) y = j6 l E0 p i c y := by
    unfold uE j6
    congr 1
    have hdd : ∀ d ∈ p.iC, d < i := fun d hd => by have := hd0 d (.inl hd); omega
    revert hdd
    generalize p.iC = ds
    intro hdd
    induction ds with
    | nil => rfl
    | cons d ds ih =>
     simp only [List.filterMap_cons, get0 c.V fs f d hV (hdd d (by simp))]
     rw [ih (fun d hd => hdd d (by simp [hd]))] <;> (cases dK l d with | none => rfl | some t => cases c.V[i - 1 - d]? <;> rfl)
   rw [henv]
   refine h4 y A (fun j hj => ⟨?_⟩)
   obtain ⟨f', q', e1, e2, e3, e4⟩ := hkn j hj
   have hlt := hd0 j (.inr hj)
   rw [get0 c.V fs f j hV (by omega)] at e1
   rw [get0 c.P qs q j hP (by omega)] at e2
   exact ⟨f', q', e1, e2, e3, e4⟩
 | i, c, [], p :: ps, h, _, _, _ => h.elim
 | i, c, o :: os, [], h, _, _, _ => h.elim
def rY (ps : List dI) (ts : List cX) : Prop := ∀ t ∈ ts, ∀ y y' : Yv, (∀ p, t.bE = some p → ∀ j, j = p ∨ j ∈ ef ps p → y j = y' j) → t.a y = t.a y'
theorem eV {ps : List dI} : rY ps [] := fun t h => by cases h
theorem aP {ps : List dI} {ts : List cX} {u : Option Nat} {r : List Nat} (a : ab) (h : rY ps ts) : rY ps (⟨fun _ => a, none, u, r⟩ :: ts) := fun t ht y y' hy => by
 rcases List.mem_cons.1 ht with rfl | ht
 ·rfl
 ·exact h t ht y y' hy
theorem cK {ps : List dI} {ts : List cX} {u : Option Nat} {r : List Nat} {p : Nat} {a : Yv → ab} (fE : List Nat) (ha : ef ps p = fE) (h1 : ∀ y y' : Yv, (∀ j, j = p ∨ j ∈ fE → y j = y' j) → a y = a y') (h : rY ps ts) : rY ps (⟨a, some p, u, r⟩ :: ts) := fun t ht y y' hy => by
 rcases List.mem_cons.1 ht with rfl | ht
 ·exact h1 y y' (fun j hj => hy p rfl j (by rw [ha]; exact hj))
 ·exact h t ht y y' hy
theorem jf {l : List Oper} {id : Nat} (ps : List dI) (ts : List cX) (A : List ab) (hm : C.P.follows .mixedOrders = true) (hB : wO C l ps ts = true) (hps : ps.length = l.length)
  (h0 : ∀ y, L.Perm (dZ (oU ts) y ++ A)) (hlocT : rY ps ts)
  (how : gu C l E0 ts A 0 ⟨[], []⟩ l ps (fun c => ∀ y, (∀ j, j < l.length → cI c l.length j y) → Q .normal (r6 l l.length c y l.length E0) (dZ (uA ts) y ++ A))) (hX : ∀ ch E L, C.X ch L → Q (.panic ch) E L := by exact fun _ _ _ h => h) : Wp C (.region id l.toArray true) Q E0 L := by
 have hpar : ∀ (j : Nat), j < l.length → ∃ o p, l[j]? = some o ∧ ps[j]? = some p ∧ wy C l ps [] j o p := fun j hj => by
  unfold wO at hB
  simp only [Bool.and_eq_true] at hB
  exact vX (List.all_eq_true.1 hB.1 j (List.mem_range.2 hj))
 have hdeps : ∀ (j : Nat) (p : dI), ps[j]? = some p → ∀ d, d ∈ p.iC ∨ d ∈ p.fE → d < 0 + j := by
  intro j p hp d hd
  have hj : j < l.length := by rw [← hps]; exact (List.getElem?_eq_some_iff.1 hp).1
  obtain ⟨o', p', ho', hp', ok⟩ := hpar j hj
  rw [hp] at hp'
  cases hp'
  have := (ok.fE d (hd.elim (ok.iC d) (fun h => h))).1
  omega
 obtain ⟨V, P, lV, lP, hk, hget⟩ := how.get rfl rfl hdeps
 simp only [List.reverse_nil, List.nil_append, List.append_nil] at hk hget
 have hVP : ∀ i, i < l.length → ∃ p f q, ps[i]? = some p ∧ V[i]? = some f ∧ P[i]? = some q := fun i hi => ⟨ps[i], V[i], P[i], List.getElem?_eq_getElem (by omega), List.getElem?_eq_getElem (by omega), List.getElem?_eq_getElem (by omega)⟩
 refine RP (A := A) (hX := hX) ps ts (fun i y => ∃ f q, V[i]? = some f ∧ P[i]? = some q ∧ y i = f y ∧ q y) hm hB hps ⟨fun _ => undef, h0 _⟩ ?_ hlocT ?_ ?_
 ·rintro i y y' h ⟨f, q, e1, e2, e3, e4⟩
  have hi : i < l.length := by rw [← lV]; exact (List.getElem?_eq_some_iff.1 e1).1
  obtain ⟨p, f', q', hp, hf, hq⟩ := hVP i hi
  obtain ⟨h1, h2, _⟩ := hget i _ p f q (List.getElem?_eq_getElem hi) hp e1 e2
  rw [Nat.zero_add] at h1 h2
  have hanc : ∀ j, j = i ∨ j ∈ p.fE → y j = y' j := fun j hj => h j (hj.imp (fun h => h) (fun h => by simp [ef, hp, h]))
  exact ⟨f, q, e1, e2, by rw [← hanc i (.inl rfl), e3]; exact h1 y y' hanc, by rw [← h2 y y' hanc]; exact e4⟩
 ·intro i hi o p ho hp y A' h3
  obtain ⟨p', f, q, hp', hf, hq⟩ := hVP i hi
  rw [hp] at hp'
  cases hp'
  have hdep : ∀ j ∈ p.iC, j ∈ p.fE := by
   obtain ⟨o', p', ho', hp', ok⟩ := hpar i hi
   rw [hp] at hp'
   cases hp'
   exact ok.iC
  have henv : qI l E0 p y = uE l E0 p V y := by
   unfold qI uE
   congr 1
   revert hdep
   generalize p.iC = ds
   intro hdep
   induction ds with
   | nil => rfl
   | cons j ds ih =>
    obtain ⟨fj, qj, e1, e2, e3, e4⟩ := h3 j (hdep j (by simp))
    simp only [List.filterMap_cons]
    cases hd : dK l j with
    | none => simpa using ih (fun j hj => hdep j (by simp [hj]))
    | some t =>
     simp only [e1, e3]
     rw [ih (fun j hj => hdep j (by simp [hj]))]
  rw [henv]
  obtain ⟨_, _, hst⟩ := hget i o p f q ho hp hf hq
  rw [Nat.zero_add] at hst
  intro a w K Qx ha hinv hK
  refine hst y A' h3 a w K Qx ha hinv ?_
  rintro v' M w' ⟨e1, e2, hM⟩ hi'
  exact hK v' M w' ⟨⟨f, q, hf, hq, by rw [mq, e1], e2⟩, hM⟩ hi'
 ·intro y hy
  have rev : ∀ {β : Type} (xs : List β) (j : Nat), xs.length = l.length → j < l.length → xs.reverse[l.length - 1 - j]? = xs[j]? := by
   intro β xs j hx hj
   rw [List.getElem?_reverse (by omega)]
   congr 1
   omega
  have h := hk y (fun j hj => by
   obtain ⟨f, q, e1, e2, e3, e4⟩ := hy j hj
   exact ⟨f, q, by rw [rev V j lV hj]; exact e1, by rw [rev P j lP hj]; exact e2, e3, e4⟩)
  have hfin : ∀ n, n ≤ l.length → r6 l l.length ⟨V.reverse, P.reverse⟩ y n E0 = r8 l y n E0 := by
   intro n
   induction n with
   | zero => intro _; rfl
   | succ n ih =>
    intro hn
    obtain ⟨f, q, e1, e2, e3, e4⟩ := hy n (by omega)
    simp only [r6, r8]
    rw [ih (by omega), rev V n lV (by omega), e1, e3]
    cases dK l n <;> rfl
  rw [hfin _ (Nat.le_refl _)] at h
  exact h
end
end Go.Sl
namespace Go.Sl
theorem YX {A B0 B1 B2 B3 B4 B5 B6 B7 : ab} {L : List ab} : A ∈ B0 :: B1 :: B2 :: B3 :: B4 :: B5 :: B6 :: B7 :: A :: L := .tail _ JS
theorem Wx {A B0 B1 B2 B3 B4 B5 B6 B7 : ab} {L : List ab} : fR (B0 :: B1 :: B2 :: B3 :: B4 :: B5 :: B6 :: B7 :: A :: L) A (B0 :: B1 :: B2 :: B3 :: B4 :: B5 :: B6 :: B7 :: L) := .tail yd
theorem Y7 {A A' B0 B1 B2 B3 B4 B5 B6 B7 : ab} {L : List ab} : iQ (B0 :: B1 :: B2 :: B3 :: B4 :: B5 :: B6 :: B7 :: A :: L) A A' (B0 :: B1 :: B2 :: B3 :: B4 :: B5 :: B6 :: B7 :: A' :: L) := .tail WS
theorem Y1 {B0 B1 B2 B3 B4 B5 B6 B7 B8 : ab} {L : List ab} : Drop (B0 :: B1 :: B2 :: B3 :: B4 :: B5 :: B6 :: B7 :: B8 :: L) L := .skip Nh
theorem NW {B0 B1 B2 B3 B4 B5 B6 B7 B8 B9 : ab} {L : List ab} : Drop (B0 :: B1 :: B2 :: B3 :: B4 :: B5 :: B6 :: B7 :: B8 :: B9 :: L) L := .skip Y1
theorem XS {B0 B1 B2 B3 B4 B5 B6 B7 B8 B9 B10 : ab} {L : List ab} : Drop (B0 :: B1 :: B2 :: B3 :: B4 :: B5 :: B6 :: B7 :: B8 :: B9 :: B10 :: L) L := .skip NW
theorem Xb {B0 B1 B2 B3 B4 B5 B6 B7 B8 B9 B10 B11 : ab} {L : List ab} : Drop (B0 :: B1 :: B2 :: B3 :: B4 :: B5 :: B6 :: B7 :: B8 :: B9 :: B10 :: B11 :: L) L := .skip XS
section
variable {C : Ctx} {E : Env} {L F G : List ab} {ops : Array Oper} {d : Option Nat} {ty : TypeId} {pos : String} {aft : Array Edge} {op : Op} {o : Oper} {α : Type} {c : Ec α}
theorem qO {n : Nat} {l : List α} (h : jM C op ty E L (fun v L' => ∃ p' c', v = .slice p' n c' ∧ L' = Row c p' n c' l :: F)) (hF : F.Perm G) :
    Step C ops ⟨d, op, ty, pos, aft, none⟩ E L (fun v L' => v = .slice (ea v) n (fC v) ∧ True ∧ L'.Perm ([Row c (ea v) n (fC v) l] ++ G)) :=
  ui fun d pos aft g a w K Q ha hi hK => h d pos aft g a w K Q ha hi fun v L' w' ⟨p, c', e1, e2⟩ hi' => hK v L' w' (by subst e1; subst e2; exact ⟨rfl, trivial, List.Perm.cons _ hF⟩) hi'
def ek : Value → Nat | .pointer (some a) => a.block | _ => 0
theorem Bc {n m : Nat} {l : List α} (h : jM C op ty E L (fun v L' => ∃ b, v = .slice (some ⟨b, 0, none⟩) n m ∧ L' = Row c (some ⟨b, 0, none⟩) n m l :: L)) :
    Step C ops ⟨d, op, ty, pos, aft, none⟩ E L (fun v L' => v = .slice (some ⟨ia (ea v), 0, none⟩) n m ∧ True ∧ L'.Perm ([Row c (some ⟨ia (ea v), 0, none⟩) n m l] ++ L)) :=
  ui fun d pos aft g a w K Q ha hi hK => h d pos aft g a w K Q ha hi fun v L' w' ⟨b, e1, e2⟩ hi' => hK v L' w' (by subst e1; subst e2; exact ⟨rfl, trivial, List.Perm.refl _⟩) hi'
theorem pO {t : TypeId} {cs : List Value} (h : jM C op ty E L (fun v L' => ∃ b, v = .pointer (some ⟨b, 0, none⟩) ∧ L' = ai b t cs :: L)) :
    Step C ops ⟨d, op, ty, pos, aft, none⟩ E L (fun v L' => v = .pointer (some ⟨ek v, 0, none⟩) ∧ True ∧ L'.Perm ([ai (ek v) t cs] ++ L)) :=
  ui fun d pos aft g a w K Q ha hi hK => h d pos aft g a w K Q ha hi fun v L' w' ⟨b, e1, e2⟩ hi' => hK v L' w' (by subst e1; subst e2; exact ⟨rfl, trivial, List.Perm.refl _⟩) hi'
theorem aX {f : FuncId} {args : List Operand} {tys : Array TypeId} {vs : List Value} {Pre Post : List ab} {R : Value → List ab → Prop} {v0 : Value} (hS : aC C.P f vs Pre (aG R)) (hb : aB C.P f = true) (hE : gG E args = some vs) (hL : eE L Pre F) (hR : ∀ v G, R v G → v = v0 ∧ G.Perm Post) :
    Step C ops ⟨d, .call ⟨.value (.func f), args.toArray, tys⟩, ty, pos, aft, none⟩ E L (fun v L' => v = v0 ∧ L'.Perm (Post ++ F)) :=
  rk hS hb hE hL fun v G hr => ⟨(hR v G hr).1, (hR v G hr).2.append_right F⟩
end
end Go.Sl
namespace Go.Sl
def ZZ (P : Program) (f : FuncId) (e : Array Value → Sem Value) : Prop := ∃ fn, P.funcs[f]? = some fn ∧ (fn.name == "runtime.NumGoroutine") = false ∧ fn.body.isNone = true ∧ Extern.findNext fn = none ∧ Extern.find fn = some e
end Go.Sl
namespace Go.Sl
section
variable {C : Ctx} {Q : QT} {E : Env} {L : List ab} {ops : Array Oper} {rest : List Oper} {d : Nat} {ty : TypeId} {pos : String} {aft : Array Edge} {op : Op}
theorem o8 {a : Act} {j : Nat} {want : Bool} {o oj : Oper} {t : Nat} (ha : ft C E a) (h1 : ops[j]? = some oj) (h2 : oj.dst = some t) (h3 : E.get t = some undef) (hg : o.guard = some (j, want)) : Region.wanted o (yielded ops a.tmps) = false := by
  have := ha.get t _ h3
  simp [Region.wanted, hg, yielded, h1, h2, this, undef]
theorem uk {j t : Nat} {want : Bool} {oj : Oper} (h1 : ops[j]? = some oj) (h2 : oj.dst = some t) (h3 : E.get t = some undef) (hd : Nat.blt d C.n = true) (h : cy C ops rest Q ((d, undef) :: E) L) : cy C ops (⟨some d, op, ty, pos, aft, some (j, want)⟩ :: rest) Q E L := by
  intro a w ha hi
  have hw := o8 (o := ⟨some d, op, ty, pos, aft, some (j, want)⟩) ha h1 h2 h3 rfl
  unfold wpList
  rw [if_neg (by rw [hw]; simp)]
  exact h _ _ (ha.put (fe hd) _) hi
end
end Go.Sl
namespace Go.Sl
section
variable {C : Ctx} {Q : QT} {E : Env} {L F : List ab} {ops : Array Oper} {rest : List Oper} {d : Option Nat} {ty : TypeId} {pos : String} {aft : Array Edge}
theorem lj {c : Code} {A : ab} {ι : Sort _} {K : ι → Prop} {B : ι → List ab} (hr : fR L A F) (hA : ∀ h, A C.w0 h → ∃ i, K i ∧ bU C.w0 (B i) h) (k : ∀ i, K i → Wp C c Q E (B i ++ F)) : Wp C c Q E L := Rh hr.perm (BN hA k)
theorem C8 {A : ab} {ι : Sort _} {K : ι → Prop} {B : ι → List ab} (hr : fR L A F) (hA : ∀ h, A C.w0 h → ∃ i, K i ∧ bU C.w0 (B i) h) (k : ∀ i, K i → cy C ops rest Q E (B i ++ F)) : cy C ops rest Q E L := ze hr.perm (Js hA k)
theorem vG {α : Type} {c : Ec α} {n : Nat} {l : List α} {f : FuncId} {args : List Operand} {tys : Array TypeId} {vs : List Value} {Pre Post : List ab} (hS : aC C.P f vs Pre (aG fun v G => ∃ p c', v = .slice p n c' ∧ G = Row c p n c' l :: Post)) (hb : aB C.P f = true) (hE : gG E args = some vs) (hL : eE L Pre F) :
    Step C ops ⟨d, .call ⟨.value (.func f), args.toArray, tys⟩, ty, pos, aft, none⟩ E L (fun v L' => v = .slice (ea v) n (fC v) ∧ True ∧ L'.Perm ((Row c (ea v) n (fC v) l :: Post) ++ F)) :=
  rk hS hb hE hL fun v G ⟨p, c', e1, e2⟩ => by subst e1; subst e2; exact ⟨rfl, trivial, .refl _⟩
end
end Go.Sl
namespace Go.Sl
section
variable {C : Ctx} {E : Env} {L F : List ab} {ops : Array Oper} {d : Option Nat} {ty : TypeId} {pos : String} {aft : Array Edge}
theorem kr {f : FuncId} {t : Nat} {args : List Operand} {tys : Array TypeId} {vs fs cs : List Value} {Pre Post : List ab} {R : Value → List ab → Prop} {v0 : Value} (hS : aC C.P f (fs ++ vs ++ cs) Pre (aG R)) (hb : aB C.P f = true) (ht : E.get t = some (.func (.func f) fs.toArray cs.toArray)) (hE : gG E args = some vs) (hL : eE L Pre F) (hR : ∀ v G, R v G → v = v0 ∧ G.Perm Post) :
    Step C ops ⟨d, .call ⟨.value (.tmp t), args.toArray, tys⟩, ty, pos, aft, none⟩ E L (fun v L' => v = v0 ∧ L'.Perm (Post ++ F)) := by
  intro a w K Qx ha hi hK
  rw [if_pos (by simp [Region.wanted])]
  have hargs := ha.gG hE
  have hev := ha.eval (x := .tmp t) ht
  have hr : (execOp a.eval ⟨d, .call ⟨.value (.tmp t), args.toArray, tys⟩, ty, pos, aft, none⟩).run C.P w = .ok (.enter f (fs ++ vs ++ cs).toArray) w := by
    simp only [execOp, resolve, hargs, hev, Deferred.ofValue, invoke, Sem.run_bind, Sem.run_pure, Result.andThen_ok, fL hb]
    simp
  unfold Oper.wp
  rw [hr]
  refine (hS C.w0 F w (hi.perm hL.perm)).mono ?_
  rintro e w' ⟨G, h1, v, rfl, h2⟩
  obtain ⟨h3, h4⟩ := hR v G h2
  exact hK v (G ++ F) w' ⟨h3, h4.append_right F⟩ h1
end
theorem wF {n : Int} (h1 : 0 ≤ n) (h2 : n < 18446744073709551616) : IntKind.u64.wrap n = n := by
  have e : IntKind.u64.wrap n = n % 18446744073709551616 := by simp [IntKind.wrap, IntKind.bits, IntKind.signed]
  rw [e]; omega
theorem Xx {m : Int} (h : 0 ≤ m) : m.fdiv (2 ^ (min (1 : Int).toNat IntKind.u64.bits)) = m / 2 := by
  rw [show min (1 : Int).toNat IntKind.u64.bits = 1 from rfl, Int.fdiv_eq_ediv_of_nonneg _ (by decide)]
  rfl
def lC (a b : Int) : Int := if a < b then -1 else if b < a then 1 else 0
theorem ju {a b : Int} : lC a b < 0 ↔ a < b := by
  unfold lC; split
  · simp; assumption
  · split <;> simp <;> omega
end Go.Sl
namespace Go.Sl
theorem gP {α : Type} {c : Ec α} {Pd : α → Prop} {l : List α} {e : Int} {k : Nat} (h : e.toNat = k) (hp : Pd (l.getD k c.d)) : Pd (c.g l e) := by subst h; exact hp
theorem gE {α : Type} {c : Ec α} {l : List α} {e : Int} (k : Nat) (h : e.toNat = k) : c.g l e = l.getD k c.d := by subst h; rfl
end Go.Sl
namespace Go.Sl
def CA (pre : List Value) (k : IntKind) (xs : List Int) (post : List Value) : List Value := pre ++ (ints k xs ++ post)
theorem N6 {pre post : List Value} {k : IntKind} {xs : List Int} {j : Nat} (h : j < xs.length) : (CA pre k xs post)[pre.length + j]? = some (.int k (xs.getD j 0)) := by
  unfold CA
  rw [List.getElem?_append_right (by omega), show pre.length + j - pre.length = j by omega, List.getElem?_append_left (by simpa [ints] using h), Fz h]
theorem Kh {pre post : List Value} {k : IntKind} {xs : List Int} {n i : Nat} (h : xs.length = n) : (CA pre k xs post)[pre.length + n + i]? = post[i]? := by
  unfold CA
  rw [List.getElem?_append_right (by omega), List.getElem?_append_right (by simp [ints]; omega)]
  congr 1
  simp [ints]; omega
theorem Sn {pre post : List Value} {k : IntKind} {xs : List Int} {j : Nat} {m : Int} (h : j < xs.length) : (CA pre k xs post).set (pre.length + j) (.int k m) = CA pre k (xs.set j m) post := by
  unfold CA
  rw [List.set_append_right _ _ (by omega), show pre.length + j - pre.length = j by omega, List.set_append_left _ _ (by simpa [ints] using h), ints_set]
theorem KD {pre post : List Value} {k : IntKind} {xs : List Int} {n i : Nat} {v : Value} (h : xs.length = n) : (CA pre k xs post).set (pre.length + n + i) v = CA pre k xs (post.set i v) := by
  unfold CA
  rw [List.set_append_right _ _ (by omega), List.set_append_right _ _ (by simp [ints]; omega)]
  congr 3
  simp [ints]; omega
theorem Dj (pre post : List Value) (k : IntKind) (xs : List Int) : (CA pre k xs post).length = pre.length + xs.length + post.length := by
  unfold CA; simp [ints]; omega
section
variable {C : Ctx} {E : Env} {L L' : List ab} {ty : TypeId} {v : Value} {pre post post' : List Value} {k : IntKind} {xs : List Int}
theorem oS {x : Operand} {t b q T : Nat} (i : Int) (hs : bP C.P t = true) (hx : an E x = some (.pointer (some ⟨b, q, none⟩))) (hm : ai b T (CA pre k xs post) ∈ L) (hq : q = pre.length + i.toNat) (h0 : 0 ≤ i) (hlt : i < xs.length) : bB C (.load t x) ty E L (.int k (xs.getD i.toNat 0)) L :=
  az hs hx hm (by rw [hq, N6 (by omega)])
theorem kJ {x : Operand} {t b q T n : Nat} (i : Nat) (hs : bP C.P t = true) (hx : an E x = some (.pointer (some ⟨b, q, none⟩))) (hm : ai b T (CA pre k xs post) ∈ L) (hn : xs.length = n) (hq : q = pre.length + n + i) (hv : post[i]? = some v) : bB C (.load t x) ty E L v L :=
  az hs hx hm (by rw [hq, Kh hn, hv])
theorem vp {x : Operand} {t b q T n : Nat} (hs : gf C.P t = some n) (hx : an E x = some (.pointer (some ⟨b, q, none⟩))) (hm : ai b T (CA pre k xs post) ∈ L) (hn : xs.length = n) (hq : q = pre.length) : bB C (.load t x) ty E L (.agg (ints k xs).toArray) L :=
  dH hs hx hm (by simp [ints, hn]) (by
    subst hq
    unfold CA
    rw [List.drop_left, List.take_left' (by simp [ints, hn])])
theorem zT {x y : Operand} {t b q T : Nat} {m : Int} (i : Int) (hs : bP C.P t = true) (hx : an E x = some (.pointer (some ⟨b, q, none⟩))) (hy : an E y = some (.int k m)) (hr : iQ L (ai b T (CA pre k xs post)) (ai b T (CA pre k (xs.set i.toNat m) post)) L') (hq : q = pre.length + i.toNat) (h0 : 0 ≤ i) (hlt : i < xs.length) : bB C (.store t x y) ty E L undef L' :=
  dz hs hx hy rfl hr (by rw [Dj]; omega) (by rw [hq, Sn (by omega)])
theorem x7 {x y : Operand} {t b q T n : Nat} {u : Value} (i : Nat) (hs : bP C.P t = true) (hx : an E x = some (.pointer (some ⟨b, q, none⟩))) (hy : an E y = some u) (h1 : u.oneCell' = true) (hr : iQ L (ai b T (CA pre k xs post)) (ai b T (CA pre k xs post')) L') (hn : xs.length = n) (hq : q = pre.length + n + i) (hi : i < post.length) (hv : post.set i u = post') : bB C (.store t x y) ty E L undef L' :=
  dz hs hx hy h1 hr (by rw [Dj]; omega) (by rw [hq, KD hn, hv])
end
theorem yA (k : IntKind) (xs : List Int) : (Value.agg (ints k xs).toArray).cells.toList = CA [] k xs [] := by simp [Value.cells, CA]
end Go.Sl
namespace Go.Sl
theorem aC.star {P : Program} {f : FuncId} {args : List Value} {A : List ab} {K : Value → Prop} (h : aC P f args A (aG fun v G => K v ∧ G = A)) : aC P f args [oZ A] (aG fun v G => K v ∧ G = [oZ A]) := fun w0 F w hi => by
  refine (h w0 F w hi.FB).mono ?_
  rintro e w' ⟨G, h1, v, rfl, hv, rfl⟩
  exact ⟨[oZ _], h1.star, v, rfl, hv, rfl⟩
section
variable {C : Ctx} {Q : QT} {E : Env} {L M F : List ab} {ops : Array Oper} {rest : List Oper}
theorem Ny {c : Code} {A : List ab} (hr : eE L A M) (k : Wp C c Q E (oZ A :: M)) : Wp C c Q E L := fun a w ha hi => k a w ha (hi.perm hr.perm).star
theorem Hm {c : Code} {A : List ab} (hr : fR L (oZ A) M) (k : Wp C c Q E (A ++ M)) : Wp C c Q E L := fun a w ha hi => k a w ha (hi.perm hr.perm).FB
end
end Go.Sl
namespace Go.Sl
open Go.RowKit (Below)
theorem SJ {w : World} {A : ab} (h : A w (fun _ => none)) : Inv w [A] w := (Inv.start w).pV h
theorem O8 {w : World} {A B : ab} (h : A w (fun _ => none)) (h2 : B w (fun _ => none)) : Inv w [A, B] w := (SJ h2).pV h
theorem Nn {w : World} {A B D : ab} (h : A w (fun _ => none)) (h2 : B w (fun _ => none)) (h3 : D w (fun _ => none)) : Inv w [A, B, D] w := (O8 h2 h3).pV h
theorem aC.law {P : Program} {f : FuncId} {args : List Value} {Pre : List ab} {R : Value → List ab → Prop} {w : World} {v : Value} (h : aC P f args Pre (aG R)) (hi : Inv w Pre w) (hv : ∀ v' G, R v' G → v' = v) :
    Calls P f args.toArray w fun e w' => e = .returned v ∧ Below w.heap.size w w' :=
  (h w [] w (by rw [List.append_nil]; exact hi)).mono fun e w' ⟨G, h1, v', h2, h3⟩ => ⟨by rw [h2, hv v' G h3], h1.below⟩
end Go.Sl
namespace Go.Sl
open Go.RowKit (Below)
inductive Td where
 | int (k : IntKind)
 | bool
 | flt (k : FloatKind)
 | str
 | sl (T : TypeId) (e : Td)
 | st (fs : Td)
 | unit
 | seq (a b : Td)
 | arr (n : Nat) (T : TypeId) (e : Td)
def Td.size : Td → Nat
 | .int _ => 1
 | .bool => 1
 | .flt _ => 1
 | .str => 1
 | .sl _ _ => 1
 | .st d => d.size
 | .unit => 0
 | .seq a b => a.size + b.size
 | .arr n _ e => n * e.size
structure CS (α : Type) where
 p : Option Addr
 cap : Nat
 l : List α
@[reducible] def Td.Ty : Td → Type
 | .int _ => Int
 | .bool => Bool
 | .flt _ => Nat
 | .str => ByteArray
 | .sl _ e => CS e.Ty
 | .st d => d.Ty
 | .unit => Unit
 | .seq a b => a.Ty × b.Ty
 | .arr n _ e => { l : List e.Ty // l.length = n }
def Td.xr : (d : Td) → d.Ty
 | .int _ => (0 : Int)
 | .bool => false
 | .flt _ => (0 : Nat)
 | .str => ByteArray.empty
 | .sl _ _ => ⟨none, 0, []⟩
 | .st d => d.xr
 | .unit => ()
 | .seq a b => (a.xr, b.xr)
 | .arr n _ e => ⟨List.replicate n e.xr, by simp⟩
def Td.cells : (d : Td) → d.Ty → List Value
 | .int k, x => [.int k x]
 | .bool, x => [.bool x]
 | .flt k, x => [.float k x]
 | .str, x => [.string x]
 | .sl _ _, x => [.slice x.p x.l.length x.cap]
 | .st d, x => d.cells x
 | .unit, _ => []
 | .seq a b, x => a.cells x.1 ++ b.cells x.2
 | .arr _ _ e, x => x.1.flatMap e.cells
theorem Td.jw : ∀ (d : Td) (x : d.Ty), (d.cells x).length = d.size
 | .int _, _ => rfl
 | .bool, _ => rfl
 | .flt _, _ => rfl
 | .str, _ => rfl
 | .sl _ _, _ => rfl
 | .st d, x => Td.jw d x
 | .unit, _ => rfl
 | .seq a b, x => by simp [Td.cells, Td.size, Td.jw a, Td.jw b]
 | .arr n _ e, ⟨l, hl⟩ => by
  simp only [Td.cells, Td.size]
  subst hl
  induction l with
  | nil => simp
  | cons y l ih => simp only [List.flatMap_cons, List.length_append, List.length_cons, Td.jw e, ih, Nat.succ_mul]; omega
theorem Td.lf : ∀ (d : Td) (x : d.Ty), (d.cells x).all Value.oneCell' = true
 | .int _, _ => rfl
 | .bool, _ => rfl
 | .flt _, _ => rfl
 | .str, _ => rfl
 | .sl _ _, _ => rfl
 | .st d, x => Td.lf d x
 | .unit, _ => rfl
 | .seq a b, x => by simp only [Td.cells, List.all_append, Td.lf a, Td.lf b, Bool.and_self]
 | .arr n _ e, ⟨l, hl⟩ => by
  simp only [Td.cells, List.all_eq_true]
  intro v hv
  obtain ⟨y, _, hy⟩ := List.mem_flatMap.1 hv
  exact List.all_eq_true.1 (Td.lf e y) v hy
@[reducible] def Td.ec (T : TypeId) (d : Td) : Ec d.Ty := ⟨T, d.size, d.cells, d.xr, d.jw, d.lf⟩
def Td.Holds (w : World) : (d : Td) → d.Ty → Prop
 | .int k, x => k.min ≤ x ∧ x ≤ k.max
 | .bool, _ => True
 | .flt k, x => (Lit.float k x).wf = true
 | .str, x => x.size ≤ maxLen
 | .sl T e, x => (x.l.length ≤ x.cap ∧ x.cap ≤ 9223372036854775807) ∧ aE (Td.ec T e) x.p x.l.length x.l w (fun _ => none) ∧ ∀ y ∈ x.l, e.Holds w y
 | .st d, x => d.Holds w x
 | .unit, _ => True
 | .seq a b, x => a.Holds w x.1 ∧ b.Holds w x.2
 | .arr _ _ e, x => ∀ y ∈ x.1, e.Holds w y
def Td.fits (P : Program) : Td → (TypeId ⊕ (List Field × Nat)) → Bool
 | .int k, .inl t => match P.underlying t with | some (.int k') => decide (k' = k) | _ => false
 | .bool, .inl t => match P.underlying t with | some .bool => true | _ => false
 | .flt k, .inl t => match P.underlying t with | some (.float k') => decide (k' = k) | _ => false
 | .str, .inl t => match P.underlying t with | some .string => true | _ => false
 | .sl T e, .inl t => match P.underlying t with | some (.slice T') => Nat.beq T' T && e.fits P (.inl T) && Nat.beq (P.cellsOf T) e.size && Nat.ble 1 e.size | _ => false
 | .st d, .inl t => match P.underlying t with | some (.struct fs) => d.fits P (.inr (fs.toList, 0)) && Nat.beq (P.cellsOf t) d.size | _ => false
 | .arr n T e, .inl t => match P.underlying t with | some (.array n' T') => Nat.beq n' n && Nat.beq T' T && e.fits P (.inl T) && Nat.beq (P.cellsOf T) e.size && Nat.beq (P.cellsOf t) (n * e.size) | _ => false
 | .unit, .inr ([], _) => true
 | .seq a b, .inr (f :: fs, o) => Nat.beq f.offset o && a.fits P (.inl f.type) && Nat.beq (P.cellsOf f.type) a.size && b.fits P (.inr (fs, o + a.size))
 | _, _ => false
section
variable {H : Type} {enc : TypeId × Value → H} {P : Program} {w : World} {base : Nat} {spare : Nat → Bool} {held : Bool}
theorem yx {α β : Type} {f : α → Option β} : ∀ {l : List α} {xs : List β}, l.mapM f = some xs → xs.length = l.length ∧ ∀ (i : Nat) (a : α), l[i]? = some a → f a = xs[i]?
 | [], xs, h => by simp at h; subst h; simp
 | a :: l, xs, h => by
  simp only [List.mapM_cons] at h
  cases ha : f a with
  | none => simp [ha] at h
  | some b =>
   simp only [ha] at h
   cases hl : l.mapM f with
   | none => simp [hl] at h
   | some bs =>
    simp [hl] at h
    subst h
    obtain ⟨h1, h2⟩ := yx hl
    refine ⟨by simp [h1], fun i a' hi => ?_⟩
    cases i with
    | zero => simp at hi; subst hi; simpa using ha
    | succ i => simpa using h2 i a' (by simpa using hi)
theorem DG {a : Addr} {n : Nat} {cs : List Value} (h : w.cells? base a n = some cs) : cs.length = n ∧ ∀ i : Nat, i < n → w.cell? (a.add i) = cs[i]? := by
 unfold World.cells? at h
 split at h
 ·obtain ⟨h1, h2⟩ := yx h
  simp at h1
  exact ⟨h1, fun i hi => h2 i i (by simp [hi])⟩
 ·cases h
theorem mZ {α : Type} {p : Nat → α → Prop} : ∀ (n : Nat), (∀ i, i < n → ∃ y, p i y) → ∃ l : List α, l.length = n ∧ ∀ (i : Nat) (y : α), l[i]? = some y → p i y
 | 0, _ => ⟨[], rfl, by simp⟩
 | n + 1, h => by
  obtain ⟨l, h1, h2⟩ := mZ n (fun i hi => h i (by omega))
  obtain ⟨y, hy⟩ := h n (by omega)
  refine ⟨l ++ [y], by simp [h1], fun i z hz => ?_⟩
  by_cases hi : i < n
  ·rw [List.getElem?_append_left (by omega)] at hz
   exact h2 i z hz
  ·have := (List.getElem?_eq_some_iff.1 hz).1
   simp at this
   obtain rfl : i = n := by omega
   rw [List.getElem?_append_right (by omega)] at hz
   simp [h1] at hz
   subst hz
   exact hy
theorem wY {α : Type} {f : α → List Value} {sz : Nat} (hf : ∀ x, (f x).length = sz) : ∀ (l : List α) (cs : List Value), cs.length = l.length * sz → (∀ (i : Nat) (y : α), l[i]? = some y → (cs.drop (i * sz)).take sz = f y) → cs = l.flatMap f
 | [], cs, h, _ => by simp at h; simp [h]
 | y :: l, cs, h, k => by
  have h0 := k 0 y (by simp)
  simp at h0
  have := wY hf l (cs.drop sz) (by simp [h, Nat.succ_mul]) (fun i z hz => by
   have := k (i + 1) z (by simpa using hz)
   rw [List.drop_drop, ← this]
   congr 2
   rw [Nat.succ_mul]; omega)
  rw [List.flatMap_cons, ← this, ← h0, List.take_append_drop]
theorem Cy {fuel : Nat} {t : TypeId} {cs : List Value} {x : DataW H × List MemPlace} {k : FloatKind} (ht : P.underlying t = some (.float k)) (h : DataW.trod enc P w base spare held fuel t cs = some x) : ∃ n, cs = [.float k n] ∧ (Lit.float k n).wf = true := by
 cases fuel with
 | zero => simp [DataW.trod] at h
 | succ n =>
  unfold DataW.trod at h
  rw [ht] at h
  split at h <;> simp_all
theorem Addr.add_add (a : Addr) (m n : Nat) : (a.add m).add n = a.add (m + n) := by
 unfold Addr.add
 by_cases hm : m = 0
 ·subst hm; simp
 ·by_cases hn : n = 0
  ·subst hn; simp [hm]
  ·have : m + n ≠ 0 := by omega
   simp only [hm, hn, this, if_false]
   simp [Nat.add_assoc]
theorem Td.open_ : ∀ (d : Td), (∀ t, d.fits P (.inl t) = true → ∀ (fuel : Nat) (cs : List Value) (x : DataW H × List MemPlace), DataW.trod enc P w 0 spare held fuel t cs = some x → ∃ y, cs = d.cells y ∧ d.Holds w y) ∧
  (∀ fs o, d.fits P (.inr (fs, o)) = true → ∀ (fuel : Nat) (cs : List Value), cs.length = o + d.size → (∀ (i : Nat) (f : Field), fs[i]? = some f → ∃ x, DataW.trod enc P w 0 spare held fuel f.type ((cs.drop f.offset).take (P.cellsOf f.type)) = some x) → ∃ y, cs.drop o = d.cells y ∧ d.Holds w y)
 | .int k => ⟨fun t hf fuel cs x h => by
   simp only [Td.fits] at hf
   split at hf
   ·rename_i k' hk
    simp at hf
    subst hf
    obtain ⟨n, rfl, _, h2⟩ := DataW.trod_int hk h
    exact ⟨n, rfl, by simpa [Lit.wf, Td.Holds] using h2⟩
   ·exact absurd hf Bool.false_ne_true, fun fs o hf => by simp [Td.fits] at hf⟩
 | .bool => ⟨fun t hf fuel cs x h => by
   simp only [Td.fits] at hf
   split at hf
   ·rename_i hk
    obtain ⟨n, rfl, _⟩ := DataW.trod_bool hk h
    exact ⟨n, rfl, trivial⟩
   ·exact absurd hf Bool.false_ne_true, fun fs o hf => by simp [Td.fits] at hf⟩
 | .flt k => ⟨fun t hf fuel cs x h => by
   simp only [Td.fits] at hf
   split at hf
   ·rename_i k' hk
    simp at hf
    subst hf
    obtain ⟨b, rfl, h2⟩ := Cy hk h
    exact ⟨b, rfl, h2⟩
   ·exact absurd hf Bool.false_ne_true, fun fs o hf => by simp [Td.fits] at hf⟩
 | .str => ⟨fun t hf fuel cs x h => by
   simp only [Td.fits] at hf
   split at hf
   ·rename_i hk
    obtain ⟨b, rfl, _, h2⟩ := DataW.trod_string hk h
    exact ⟨b, rfl, h2⟩
   ·exact absurd hf Bool.false_ne_true, fun fs o hf => by simp [Td.fits] at hf⟩
 | .sl T e => ⟨fun t hf fuel cs x h => by
   simp only [Td.fits] at hf
   split at hf
   ·rename_i T' hk
    simp only [Bool.and_eq_true] at hf
    obtain ⟨⟨⟨h1, h2⟩, h3⟩, h4⟩ := hf
    obtain rfl := Nat.eq_of_beq_eq_true h1
    have h3 := Nat.eq_of_beq_eq_true h3
    have h4 := Nat.le_of_ble_eq_true h4
    rcases DataW.trod_slice hk h with ⟨rfl, _⟩ | ⟨a, len, cap, elems, rest, n, _, rfl, _, _, hlc, hcm, hel, hgo, _⟩
    ·exact ⟨⟨none, 0, []⟩, rfl, ⟨Nat.zero_le _, Nat.zero_le _⟩, ⟨rfl, by simp, .inl rfl⟩, by simp⟩
    ·have key : ∀ i, i < len → ∃ y : e.Ty, e.Holds w y ∧ ∀ j, j < e.size → w.cell? (a.add (i * e.size + j)) = (e.cells y)[j]? := by
      intro i hi
      have h5 := hgo i hi
      have h6 : elems[i]? = some elems[i] := List.getElem?_eq_getElem (by omega)
      rw [h6, Option.bind_eq_some_iff] at h5
      obtain ⟨cs', h7, h8⟩ := h5
      obtain ⟨y, rfl, hy⟩ := (Td.open_ e).1 T' h2 n cs' _ h8
      obtain ⟨_, h9⟩ := DG h7
      refine ⟨y, hy, fun j hj => ?_⟩
      rw [← h9 j (by omega), Addr.add_add, h3]
     obtain ⟨l, hl, hp⟩ := mZ len key
     subst hl
     refine ⟨⟨some a, cap, l⟩, rfl, by unfold maxLen at hcm; show l.length ≤ cap ∧ cap ≤ _; omega, ⟨rfl, by rw [fi (Td.ec T' e)], ?_⟩, fun y hy => by obtain ⟨i, hi⟩ := List.getElem?_of_mem hy; exact (hp i y hi).1⟩
     show l.length = 0 ∨ _
     by_cases h0 : l.length = 0
     ·exact .inl h0
     right
     obtain ⟨b, o, s⟩ := a
     have hfst := (hp 0 l[0] (List.getElem?_eq_getElem (by omega))).2 0 (by omega)
     have hs : s = none := by
      cases s with
      | none => rfl
      | some q =>
       exfalso
       have hlt : 0 < (e.cells l[0]).length := by rw [Td.jw]; omega
       rw [List.getElem?_eq_getElem hlt] at hfst
       simp [Addr.add, World.cell?] at hfst
       split at hfst <;> simp at hfst
     subst hs
     refine ⟨b, o, rfl, fun i v hv => ?_⟩
     have hi := (List.getElem?_eq_some_iff.1 hv).1
     rw [fi (Td.ec T' e)] at hi
     have hi : i < l.length * e.size := hi
     have hdiv : i / e.size < l.length := Nat.div_lt_of_lt_mul (by rw [Nat.mul_comm]; exact hi)
     have hmod : i % e.size < e.size := Nat.mod_lt _ (by omega)
     have hsplit : i = i / e.size * e.size + i % e.size := by rw [Nat.mul_comm]; exact (Nat.div_add_mod _ _).symm
     have hg := nX (Td.ec T' e) l (i / e.size) (i % e.size) hdiv hmod
     have hg : (l.flatMap e.cells)[i / e.size * e.size + i % e.size]? = (e.cells l[i / e.size])[i % e.size]? := hg
     rw [← hsplit] at hg
     have hv : (l.flatMap e.cells)[i]? = some v := hv
     rw [hg] at hv
     have hc := (hp (i / e.size) l[i / e.size] (List.getElem?_eq_getElem hdiv)).2 (i % e.size) hmod
     rw [hv, ← hsplit, Addr.fa] at hc
     simp only [k5]
     rw [if_pos (World.block_lt_of_cell? _ _ hc), hc]
   ·exact absurd hf Bool.false_ne_true, fun fs o hf => by simp [Td.fits] at hf⟩
 | .st d => ⟨fun t hf fuel cs x h => by
   simp only [Td.fits] at hf
   split at hf
   ·rename_i fs hk
    simp only [Bool.and_eq_true] at hf
    obtain ⟨h1, h2⟩ := hf
    have h2 := Nat.eq_of_beq_eq_true h2
    obtain ⟨xs, n, _, _, h3, h4, h5⟩ := DataW.trod_struct hk h
    obtain ⟨y, e1, e2⟩ := (Td.open_ d).2 fs.toList 0 h1 n cs (by omega) (fun i f hi => by
     have hi' : fs[i]? = some f := by simpa using hi
     have := h5 i f hi'
     have hlt := (Array.getElem?_eq_some_iff.1 hi').1
     exact ⟨_, by rw [this]; exact List.getElem?_eq_getElem (by omega)⟩)
    exact ⟨y, by rw [List.drop_zero] at e1; exact e1, e2⟩
   ·exact absurd hf Bool.false_ne_true, fun fs o hf => by simp [Td.fits] at hf⟩
 | .unit => ⟨fun t hf => by simp [Td.fits] at hf, fun fs o hf fuel cs hl h => ⟨(), by simp [Td.cells, Td.size] at hl ⊢; omega, trivial⟩⟩
 | .seq a b => ⟨fun t hf => by simp [Td.fits] at hf, fun fs o hf fuel cs hl h => by
   cases fs with
   | nil => simp [Td.fits] at hf
   | cons f fs =>
    simp only [Td.fits, Bool.and_eq_true] at hf
    obtain ⟨⟨⟨h1, h2⟩, h3⟩, h4⟩ := hf
    have h1 := Nat.eq_of_beq_eq_true h1
    have h3 := Nat.eq_of_beq_eq_true h3
    obtain ⟨x, hx⟩ := h 0 f rfl
    rw [h1, h3] at hx
    obtain ⟨y, e1, e2⟩ := (Td.open_ a).1 _ h2 fuel _ x hx
    simp only [Td.size] at hl
    obtain ⟨z, e3, e4⟩ := (Td.open_ b).2 fs (o + a.size) h4 fuel cs (by omega) (fun i g hi => h (i + 1) g (by simpa using hi))
    refine ⟨(y, z), ?_, e2, e4⟩
    simp only [Td.cells]
    rw [← e1, ← e3, ← List.drop_drop, List.take_append_drop]⟩
 | .arr n T e => ⟨fun t hf fuel cs x h => by
   simp only [Td.fits] at hf
   split at hf
   ·rename_i n' T' hk
    simp only [Bool.and_eq_true] at hf
    obtain ⟨⟨⟨⟨h1, h2⟩, h3⟩, h4⟩, h5⟩ := hf
    obtain rfl := Nat.eq_of_beq_eq_true h1
    obtain rfl := Nat.eq_of_beq_eq_true h2
    have h4 := Nat.eq_of_beq_eq_true h4
    have h5 := Nat.eq_of_beq_eq_true h5
    obtain ⟨xs, m, _, _, h6, h7, h8⟩ := DataW.trod_array hk h
    obtain ⟨l, hl, hp⟩ := mZ (p := fun i (y : e.Ty) => (cs.drop (i * e.size)).take e.size = e.cells y ∧ e.Holds w y) n' (fun i hi => by
     have h9 := h8 i hi
     rw [List.getElem?_eq_getElem (by omega), h4] at h9
     obtain ⟨y, e1, e2⟩ := (Td.open_ e).1 T' h3 m _ _ h9
     exact ⟨y, e1, e2⟩)
    refine ⟨⟨l, hl⟩, wY (Td.jw e) l cs (by rw [hl]; omega) (fun i y hy => (hp i y hy).1), fun y hy => by obtain ⟨i, hi⟩ := List.getElem?_of_mem hy; exact (hp i y hi).2⟩
   ·exact absurd hf Bool.false_ne_true, fun fs o hf => by simp [Td.fits] at hf⟩
theorem Td.arg (d : Td) {t : TypeId} {v : Value} {r : DataW H} {p : List MemPlace} (hf : d.fits P (.inl t) = true) (h : ∃ fuel, DataW.trod enc P w 0 spare held fuel t v.cells.toList = some (r, p)) : ∃ y, v.cells.toList = d.cells y ∧ d.Holds w y := by
 obtain ⟨fuel, h⟩ := h
 exact (Td.open_ d).1 t hf fuel _ _ h
end
theorem pc {cs : Array Value} {l : List Value} (h : (Value.agg cs).cells.toList = l) : Value.agg cs = .agg l.toArray := by
 subst h; simp [Value.cells]
def Td.val : (d : Td) → d.Ty → Value
 | .int k, x => .int k x
 | .bool, x => .bool x
 | .flt k, x => .float k x
 | .str, x => .string x
 | .sl _ _, x => .slice x.p x.l.length x.cap
 | .st d, x => .agg (d.cells x).toArray
 | .unit, _ => .agg #[]
 | .seq a b, x => .agg (Td.cells (.seq a b) x).toArray
 | .arr n T e, x => .agg (Td.cells (.arr n T e) x).toArray
section
variable {H : Type} {enc : TypeId × Value → H} {P : Program} {w : World} {spare : Nat → Bool} {held : Bool}
open Go.WideShapes
theorem Td.HT (d : Td) {t : TypeId} {v : Value} {r : DataW H} {p : List MemPlace} {rr : Reach} {b : Nat} (hf : d.fits P (.inl t) = true) (ho : Value.okWide P w rr b t v) (h : ∃ fuel, DataW.trod enc P w 0 spare held fuel t v.cells.toList = some (r, p)) : ∃ y, v = d.val y ∧ d.Holds w y := by
 obtain ⟨y, e, hy⟩ := Td.arg d hf h
 refine ⟨y, ?_, hy⟩
 cases d with
 | int k =>
  simp only [Td.fits] at hf
  split at hf
  ·rename_i k' hk
   obtain ⟨n, rfl⟩ := okWide_int hk ho
   simpa [Value.cells, Td.cells, Td.val] using e
  ·cases hf
 | bool =>
  simp only [Td.fits] at hf
  split at hf
  ·rename_i hk
   obtain ⟨n, rfl⟩ := okWide_bool hk ho
   simpa [Value.cells, Td.cells, Td.val] using e
  ·cases hf
 | flt k =>
  simp only [Td.fits] at hf
  split at hf
  ·rename_i k' hk
   simp only [Value.okWide, hk, Cell.okWide] at ho
   cases v <;> simp_all [Cell.ok, Value.cells, Td.cells, Td.val]
  ·cases hf
 | str =>
  simp only [Td.fits] at hf
  split at hf
  ·rename_i hk
   obtain ⟨n, rfl⟩ := okWide_string hk ho
   simpa [Value.cells, Td.cells, Td.val] using e
  ·cases hf
 | sl T e' =>
  simp only [Td.fits] at hf
  split at hf
  ·rename_i k' hk
   obtain ⟨a, len, cap, rfl⟩ := okWide_slice hk ho
   simpa [Value.cells, Td.cells, Td.val] using e
  ·cases hf
 | st d =>
  simp only [Td.fits] at hf
  split at hf
  ·rename_i fs hk
   obtain ⟨cs, rfl, _⟩ := okWide_struct hk ho
   exact pc e
  ·cases hf
 | unit => simp [Td.fits] at hf
 | seq a b => simp [Td.fits] at hf
 | arr n T e' =>
  simp only [Td.fits] at hf
  split at hf
  ·rename_i n' T' hk
   simp only [Value.okWide, hk] at ho
   obtain ⟨cs, rfl, _⟩ := ho
   exact pc e
  ·cases hf
end
end Go.Sl
namespace Go.Sl
def Deep (T : TypeId) (e : Td) (p : Option Addr) (n : Nat) (l : List e.Ty) : ab := fun w0 h => aE (Td.ec T e) p n l w0 h ∧ ∀ y ∈ l, e.Holds w0 y
section
variable {C : Ctx} {Q : QT} {E : Env} {L : List ab} {ops : Array Oper} {rest : List Oper}
end
theorem nU {w : World} {T : TypeId} {k : IntKind} {x : CS Int} (hx : (Td.sl T (.int k)).Holds w x) : aE (aD T k) x.p x.l.length x.l w (fun _ => none) := hx.2.1
end Go.Sl
namespace Go.Sl
open Go.RowKit (Below)
def rE (R : List PanicEntry → List ab → Prop) : Ending → List ab → Prop := fun e G => ∃ ch, e = .panicked ch ∧ R ch G
def tW (R : Value → List ab → Prop) (S : List PanicEntry → List ab → Prop) : Ending → List ab → Prop := fun e G => (∃ v, e = .returned v ∧ R v G) ∨ (∃ ch, e = .panicked ch ∧ S ch G)
abbrev jC (t : TypeId) (v : Value) : List PanicEntry := [{ v := .iface t v, recovered := false }]
section
variable {C : Ctx} {Q : QT} {E : Env} {L L' F : List ab} {ops : Array Oper} {rest : List Oper} {d : Nat} {ty : TypeId} {pos : String} {aft : Array Edge} {op : Op} {v : Value}
theorem wJ {rs : Array ResultVar} {F G : List ab} {R : List PanicEntry → List ab → Prop} {ch : List PanicEntry} (hR : R ch G) (hs : Sub L (G ++ F)) : oi C rs F (rE R) (.panic ch) E L := ⟨G, ⟨ch, rfl, hR⟩, hs⟩
theorem E9 {rs : Array ResultVar} {F G : List ab} {R : Value → List ab → Prop} {S : List PanicEntry → List ab → Prop} {ch : List PanicEntry} (hR : S ch G) (hs : Sub L (G ++ F)) : oi C rs F (tW R S) (.panic ch) E L := ⟨G, .inr ⟨ch, rfl, hR⟩, hs⟩
theorem Ni {rs : Array ResultVar} {F G : List ab} {R : Value → List ab → Prop} {S : List PanicEntry → List ab → Prop} (hr : ks C rs E L v) (hR : R v G) (hs : Sub L (G ++ F)) : oi C rs F (tW R S) .ret E L := ⟨v, G, hr, .inl ⟨v, rfl, hR⟩, hs⟩
theorem c9 {dst : Option Nat} {f : FuncId} {args : List Operand} {tys : Array TypeId} {vs : List Value} {Pre : List ab} {R : List PanicEntry → List ab → Prop} (hS : aC C.P f vs Pre (rE R)) (hb : aB C.P f = true) (hE : gG E args = some vs) (hL : eE L Pre F)
  (k : ∀ ch G, R ch G → Q (.panic ch) E (G ++ F)) : cy C ops (⟨dst, .call ⟨.value (.func f), args.toArray, tys⟩, ty, pos, aft, none⟩ :: rest) Q E L := by
 intro a w ha hi
 refine wpList_plain rfl (fun K hK => ?_)
 have hargs := ha.gG hE
 have hr : (execOp a.eval ⟨dst, .call ⟨.value (.func f), args.toArray, tys⟩, ty, pos, aft, none⟩).run C.P w = .ok (.enter f vs.toArray) w := by
  simp only [execOp, resolve, hargs, Deferred.ofValue, Act.eval, invoke, Sem.run_bind, Sem.run_pure, Result.andThen_ok, Array.append_empty, Array.empty_append, fL hb]
 unfold Oper.wp
 rw [hr]
 refine (hS C.w0 F w (hi.perm hL.perm)).mono ?_
 rintro e w' ⟨G, h1, ch, rfl, h2⟩
 exact ⟨E, _, ha, h1, k ch G h2⟩
theorem Hh {dst : Option Nat} {f : FuncId} {t : Nat} {args : List Operand} {tys : Array TypeId} {vs fs cs : List Value} {Pre : List ab} {R : List PanicEntry → List ab → Prop} (hS : aC C.P f (fs ++ vs ++ cs) Pre (rE R)) (hb : aB C.P f = true) (ht : E.get t = some (.func (.func f) fs.toArray cs.toArray)) (hE : gG E args = some vs) (hL : eE L Pre F)
  (k : ∀ ch G, R ch G → Q (.panic ch) E (G ++ F)) : cy C ops (⟨dst, .call ⟨.value (.tmp t), args.toArray, tys⟩, ty, pos, aft, none⟩ :: rest) Q E L := by
 intro a w ha hi
 refine wpList_plain rfl (fun K hK => ?_)
 have hargs := ha.gG hE
 have hev := ha.eval (x := .tmp t) ht
 have hr : (execOp a.eval ⟨dst, .call ⟨.value (.tmp t), args.toArray, tys⟩, ty, pos, aft, none⟩).run C.P w = .ok (.enter f (fs ++ vs ++ cs).toArray) w := by
  simp only [execOp, resolve, hargs, hev, Deferred.ofValue, invoke, Sem.run_bind, Sem.run_pure, Result.andThen_ok, fL hb]
  simp
 unfold Oper.wp
 rw [hr]
 refine (hS C.w0 F w (hi.perm hL.perm)).mono ?_
 rintro e w' ⟨G, h1, ch, rfl, h2⟩
 exact ⟨E, _, ha, h1, k ch G h2⟩
theorem uM {dst : Option Nat} {x : Operand} {t : TypeId} {u : Value} (hx : an E x = some (.iface t u)) (k : Q (.panic (jC t u)) E L) : cy C ops (⟨dst, .panic x, ty, pos, aft, none⟩ :: rest) Q E L := by
 intro a w ha hi
 refine wpList_plain rfl (fun K hK => ?_)
 have hr : (execOp a.eval ⟨dst, .panic x, ty, pos, aft, none⟩).run C.P w = .halt (.panic (.iface t u)) w := by
  simp [execOp, ha.eval hx, Instr.panic, goPanic]
 unfold Oper.wp
 rw [hr]
 exact ⟨E, _, ha, hi, k⟩
def lM (P : Program) (t : TypeId) : Bool := match P.underlying t with | some (.interface _) => false | some _ => true | none => false
theorem uK {x : Operand} {t : TypeId} (ht : lM C.P t = true) (hx : an E x = some v) : bB C (.makeInterface t x) ty E L (.iface t v) L := cF fun d pos aft g a w ha => by
 unfold lM at ht
 split at ht <;> try simp at ht
 rename_i ds hne hds
 simp only [execOp, ha.eval hx, Instr.makeInterface, Sem.run_bind, run_underlying hds, Result.andThen_ok]
 cases ds <;> first | (exact absurd rfl (hne _)) | simp [Sem.run_pure]
theorem xR {t e : TypeId} {p : Option Addr} {n c : Nat} (ht : C.P.underlying t = some (.slice e)) (d : Nat) (w : World) : (Op.equalIn (d + 1) t (.slice p n c) (.slice none 0 0)).run C.P w = .ok p.isNone w := by
 cases p <;> simp [Op.equalIn, run_underlying ht]
theorem Gj {x y : Operand} {t t' e : TypeId} {p : Option Addr} {n c : Nat} (ht : C.P.underlying t = some (.slice e)) (hx : an E x = some (.slice p n c)) (hy : an E y = some (.slice none 0 0)) : bB C (.binOp .eql t x y t') ty E L (.bool p.isNone) L :=
 cF fun d pos aft g a w ha => by
  rw [iF d pos aft g (ha.eval hx) (ha.eval hy) (by simp [eqGuard])]
  have h := xR ht (p := p) (n := n) (c := c) 9999 w
  simp only [binOp, Op.equal, Op.maxDepth, Sem.run_bind, h, Result.andThen_ok, Sem.run_pure]
def ZE (P : Program) (t : TypeId) : Bool := match P.underlying t with | some (.func _ _ _) => true | _ => false
end
theorem cZ {A : ab} {L : List ab} (hA : ∀ w0, A w0 (fun _ => none)) : Sub L (A :: L) := fun w0 w hi => hi.pV (hA w0)
abbrev QR := Exit → Act → World → Prop
def z7 (C : Ctx) (c : Code) (Q : QR) (E : Env) (L : List ab) : Prop := ∀ a w, ft C E a → Inv C.w0 L w → c.wp C.P Q a w
def qr (C : Ctx) (Q : QR) : QT := fun e E L => ∀ a w, ft C E a → Inv C.w0 L w → Q e a w
section
variable {C : Ctx} {Q : QR} {E : Env} {L : List ab}
theorem IH {c : Code} (h : Wp C c (qr C Q) E L) : z7 C c Q E L := fun a w ha hi =>
 Code.wp_mono (fun e a w ⟨E, L, ha, hi, q⟩ => q a w ha hi) (h a w ha hi)
theorem o1 {x y : Code} (h : Wp C x (ij (fun E L => z7 C y Q E L) (qr C Q)) E L) : z7 C (.seq x y) Q E L := fun a w ha hi =>
 Go.wp_seq (Code.wp_mono (fun e a w ⟨E, L, ha, hi, q⟩ => by
  cases e with
  | normal => exact q a w ha hi
  | exit _ => exact q a w ha hi
  | goto _ => exact q a w ha hi
  | ret => exact q a w ha hi
  | panic _ => exact q a w ha hi
  | outgrown => exact q a w ha hi) (h a w ha hi))
theorem xQ {y : Code} {id d : Nat} {fn : FuncId} {caps : List Operand} {cs : List Value} {ty1 ty2 : TypeId} {pos1 pos2 : String} {aft1 aft2 : Array Edge} {tys : Array TypeId} (hc : gG E caps = some cs) (hd : Nat.blt d C.n = true)
  (h : z7 { C with D := { target := .fn (.func fn) cs.toArray, args := #[] } :: C.D } y Q ((d, .func (.func fn) #[] cs.toArray) :: E) L) :
  z7 C (.seq (.region id [⟨some d, .makeFunc (.func fn) #[] caps.toArray, ty1, pos1, aft1, none⟩, ⟨none, .defer ⟨.value (.tmp d), #[], tys⟩, ty2, pos2, aft2, none⟩].toArray false) y) Q E L := fun a w ha hi => by
 refine Go.wp_seq (wp_region_lit ?_)
 refine wpList_plain rfl (fun K hK => ?_)
 have h1 : (execOp a.eval ⟨some d, .makeFunc (.func fn) #[] caps.toArray, ty1, pos1, aft1, none⟩).run C.P w = .ok (.value (.func (.func fn) #[] cs.toArray)) w := by
  simp only [execOp, Instr.makeFunc, ha.gG hc, Sem.run_bind, Sem.run_pure, Result.andThen_ok, Array.map_empty]
 unfold Oper.wp
 rw [h1]
 refine hK _ _ ?_
 have ha2 := ha.put (fe hd) (.func (.func fn) #[] cs.toArray)
 refine wpList_plain rfl (fun K hK => ?_)
 have hev := ha2.eval (x := .tmp d) (v := .func (.func fn) #[] cs.toArray) (by simp [an, Env.ic])
 have h2 : (execOp (a.put (some d) (.func (.func fn) #[] cs.toArray)).eval ⟨none, .defer ⟨.value (.tmp d), #[], tys⟩, ty2, pos2, aft2, none⟩).run C.P w = .ok (.defer { target := .fn (.func fn) cs.toArray, args := #[] }) w := by
  simp [execOp, resolve, hev, Deferred.ofValue]
 unfold Oper.wp
 rw [h2]
 refine hK _ _ (wpList_nil ?_)
 have ha3 : ft { C with D := { target := .fn (.func fn) cs.toArray, args := #[] } :: C.D } ((d, .func (.func fn) #[] cs.toArray) :: E) { a.put (some d) (.func (.func fn) #[] cs.toArray) with defers := { target := .fn (.func fn) cs.toArray, args := #[] } :: (a.put (some d) (.func (.func fn) #[] cs.toArray)).defers } :=
  ⟨by simp [ha2.defers], ha2.size, ha2.get⟩
 exact h _ _ ha3 hi
end
theorem ym {P : Program} {f : FuncId} {fn : Func} {c : Code} {args : List Value} {Pre : List ab} {Post : Ending → List ab → Prop} {n : Nat} (E : Env) (hf : P.funcs[f]? = some fn) (hb : fn.body = some c) (hn : fn.ntmps = n) (hE : zi 0 args = E) (hl : Nat.ble args.length n = true)
  (h : ∀ w0 F, z7 ⟨P, w0, n, [], fun _ _ => False⟩ c (bodyPostD P fn fun e w' => ∃ G, Inv w0 (G ++ F) w' ∧ Post e G) E (Pre ++ F)) : aC P f args Pre Post := by
 intro w0 F w hi
 have hl := Nat.le_of_ble_eq_true hl
 refine calls_of_wp_defers hf hb (h w0 F _ w ?_ hi)
 refine ⟨rfl, ?_, ?_⟩
 ·simp [hn]; omega
 ·intro d v hd
  rw [← hE] at hd
  obtain ⟨_, h2⟩ := sB 0 args d v hd
  have hlt := (List.getElem?_eq_some_iff.1 h2).1
  simp at h2 hlt ⊢
  rw [Array.getElem?_append_left (by simpa using hlt)]
  simpa using h2
theorem lR {x : Int} (h : IntKind.u8.min ≤ x ∧ x ≤ IntKind.u8.max) : 0 ≤ x ∧ x < 256 := by
 have h1 : IntKind.u8.min = 0 := by decide
 have h2 : IntKind.u8.max = 255 := by decide
 omega
theorem OG {α : Type} {c : Ec α} {w0 w : World} {L : List ab} {R : ab} {p : Option Addr} {n : Nat} {l : List α} (hm : R ∈ L) (hR : ∀ w0 h, R w0 h → aE c p n l w0 h) (hi : Inv w0 L w) : p = none → l = [] := by
 intro e
 obtain ⟨F, hb, h, a, h1, h2, d, l1, l2, hp, _⟩ := hi.mem hm
 obtain ⟨e1, e2, e3⟩ := hR _ _ hp
 rcases e3 with h0 | ⟨b, o, h1, _⟩
 ·exact List.length_eq_zero_iff.1 (by omega)
 ·rw [e] at h1; cases h1
section
variable {C : Ctx} {Q : QT} {E E0 : Env} {L F : List ab} {ops : Array Oper} {ty : TypeId} {pos : String} {aft : Array Edge}
theorem fh {dst : Option Nat} {f : FuncId} {args : List Operand} {tys : Array TypeId} {vs : List Value} {Pre : List ab} {S : List PanicEntry → List ab → Prop} {R : Value → List ab → Prop} (hS : aC C.P f vs Pre (rE S)) (hb : aB C.P f = true) (hE : gG E args = some vs) (hL : eE L Pre F) (hP : ∀ ch G, S ch G → C.X ch (G ++ F)) :
  Step C ops ⟨dst, .call ⟨.value (.func f), args.toArray, tys⟩, ty, pos, aft, none⟩ E L R := by
 intro a w K Qx ha hi hK
 rw [if_pos (by simp [Region.wanted])]
 have hargs := ha.gG hE
 have hr : (execOp a.eval ⟨dst, .call ⟨.value (.func f), args.toArray, tys⟩, ty, pos, aft, none⟩).run C.P w = .ok (.enter f vs.toArray) w := by
  simp only [execOp, resolve, hargs, Deferred.ofValue, Act.eval, invoke, Sem.run_bind, Sem.run_pure, Result.andThen_ok, Array.append_empty, Array.empty_append, fL hb]
 unfold Oper.wp
 rw [hr]
 refine (hS C.w0 F w (hi.perm hL.perm)).mono ?_
 rintro e w' ⟨G, h1, ch, rfl, h2⟩
 exact Qx.2 ch E _ a w' ha h1 (hP ch G h2)
variable {l : List Oper} {ts : List cX} {i : Nat} {c : gg} {o : Oper} {os : List Oper} {ps : List dI} {K : gg → Prop} {A0 : List ab}
theorem aV {p : dI} (v0 : Value) (R : Yv → List ab) (E : Yv → Env) (hE : ∀ y, j6 l E0 p i c y = E y) (hc : gC ts i = []) (hr : ∀ y, dZ (ej ts i) y = R y)
  (h : ∀ y M, (∀ j ∈ p.fE, cI c i j y) → Step C l.toArray o (E y) (R y ++ (M ++ A0)) (fun _ _ => False))
  (r : gu C l E0 ts A0 (i + 1) (c.put (fun _ => v0) (fun _ => False)) os ps K) : gu C l E0 ts A0 i c (o :: os) (p :: ps) K :=
 ⟨(fun _ => v0), (fun _ => False), fun _ _ _ => rfl, fun _ _ _ => rfl, fun y M h3 a w K' Q ha hi hK => by
  rw [hE] at ha
  rw [hc, hr] at hi
  exact h y M h3 a w K' Q ha hi (fun _ _ _ h => h.elim), r⟩
end
end Go.Sl
namespace Go.Sl
def ZO (P : Program) (t : TypeId) (name : String) : Option FuncId := match (P.info? t).bind fun i => i.methods.find? (·.name == name) with
 | some m => if m.path.isEmpty then (match m.func, P.underlying t with
  | some (_, false), some (.pointer _) => none
  | some (f, false), some _ => some f
  | some (f, true), some (.pointer _) => some f
  | _, _ => none) else none
 | none => none
section
variable {C : Ctx} {Q : QT} {E : Env} {L L' F : List ab} {ops : Array Oper} {rest : List Oper} {d : Nat} {ty : TypeId} {pos : String} {aft : Array Edge} {op : Op} {v : Value}
theorem Oi {x : Operand} {t : TypeId} {s : ByteArray} {n : Nat} (ht : C.P.underlying t = some .string) (h : an E x = some (.string s)) (hn : s.size = n) : bB C (.call ⟨.builtin .len, [x].toArray, #[t]⟩) ty E L (.int .i64 n) L :=
 cF fun d pos aft g a w ha => by subst hn; simp [execOp, resolve, invoke, builtin, Builtin.len_, ha.eval h, run_underlying ht, goInt]
theorem zB (l : List Int) : l.flatMap (fun x => [Value.int .u8 x]) = l.map (Value.int .u8) := by
 induction l with
 | nil => rfl
 | cons a l ih => simp [List.flatMap_cons, ih]
theorem dO {t u T n b T' : Nat} {cs : List Value} {v2 : Value} (hs : gf C.P T = some n) (h1 : E.get t = some (.pointer (some ⟨b, 0, none⟩))) (hm : ai b T' cs ∈ L) (hn : cs.length = n) (h2 : E.get u = some v2) : ks C #[.cell t T, .tmp u] E L (.tuple #[.agg cs.toArray, v2]) := fun fn a w hr ha hi => by
 obtain ⟨g1, g2⟩ := kI hs w
 obtain ⟨F, hF⟩ := hi.mem hm
 have := run_loadCells_list (P := C.P) w ⟨b, 0, none⟩ cs (fun j v hj => by rw [Addr.fa, hF.ie, ← hj]; simp)
 rw [hn] at this
 simp [results, hr, ha.get _ _ h1, ha.get _ _ h2, asAddr, loadVar, g1, g2, this]
def Blk (b : Nat) (o : Obj) : ab := fun _ h => h b = some o
end
end Go.Sl
namespace Go.Sl
inductive Fr where
 | sq (c : Code)
 | bk (id : Nat)
 | lp (J : Env → List ab → Prop)
def KF (C : Ctx) (Q : QT) : List Fr → QT
 | [] => Q
 | .sq c :: fr => ij (fun E L => Wp C c (KF C Q fr) E L) (KF C Q fr)
 | .bk i :: fr => kC i (KF C Q fr)
 | .lp J :: fr => ij J (KF C Q fr)
inductive Pos where
 | code (c : Code)
 | ops (all : Array Oper) (l : List Oper)
 | norm
 | exit (i : Nat)
 | ret
structure St where
 fr : List Fr
 E : Env
 pos : Pos
@[reducible] def den (C : Ctx) (Q : QT) (L : List ab) : St → Prop
 | ⟨fr, E, .code c⟩ => Wp C c (KF C Q fr) E L
 | ⟨fr, E, .ops all l⟩ => cy C all l (KF C Q fr) E L
 | ⟨fr, E, .norm⟩ => KF C Q fr .normal E L
 | ⟨fr, E, .exit i⟩ => KF C Q fr (.exit i) E L
 | ⟨fr, E, .ret⟩ => KF C Q fr .ret E L
structure lE where
 sl : List Nat
 fd : List (Nat × Nat × Nat)
def Ms (P : Program) (t : Nat) : Bool := match P.underlying t with | some (.slice _) => true | _ => false
def jK (P : Program) (T : lE) : Bool := T.sl.all (Ms P) && T.fd.all fun x => match a7 P x.1 x.2.1 with | some o => Nat.beq o x.2.2 | none => false
def CB (t : Nat) : List Nat → Bool
 | [] => false
 | a :: l => cond (Nat.beq a t) true (CB t l)
def findF (s f : Nat) : List (Nat × Nat × Nat) → Option Nat
 | [] => none
 | x :: l => cond (Nat.beq x.1 s && Nat.beq x.2.1 f) (some x.2.2) (findF s f l)
theorem vy {t : Nat} : ∀ {l : List Nat}, CB t l = true → t ∈ l
 | [], h => by cases h
 | a :: l, h => by
  unfold CB at h
  cases hb : Nat.beq a t with
  | true => rw [Nat.eq_of_beq_eq_true hb]; exact .head _
  | false => rw [hb] at h; exact .tail _ (vy h)
theorem sO {s f o : Nat} : ∀ {l : List (Nat × Nat × Nat)}, findF s f l = some o → (s, f, o) ∈ l
 | [], h => by cases h
 | x :: l, h => by
  unfold findF at h
  cases hb : (Nat.beq x.1 s && Nat.beq x.2.1 f) with
  | true =>
   rw [hb] at h
   cases h
   simp only [Bool.and_eq_true] at hb
   rw [← Nat.eq_of_beq_eq_true hb.1, ← Nat.eq_of_beq_eq_true hb.2]
   exact .head _
  | false => rw [hb] at h; exact .tail _ (sO h)
def inI (n : Int) : Prop := -9223372036854775808 ≤ n ∧ n ≤ 9223372036854775807
def evalOp (T : lE) (E : Env) : Op → Option (Option Prop × Value)
 | .move x => (match an E x with | some v => some (none, v) | none => none)
 | .assign x => (match an E x with | some v => some (none, v) | none => none)
 | .pick c x y => (match an E c with
  | some (.bool true) => (match an E x with | some v => some (none, v) | none => none)
  | some (.bool false) => (match an E y with | some v => some (none, v) | none => none)
  | _ => none)
 | .nilCheck x => (match an E x with | some (.pointer (some p)) => some (none, .pointer (some p)) | _ => none)
 | .extract x i => (match an E x with | some (.tuple vs) => (match vs[i]? with | some v => some (none, v) | none => none) | _ => none)
 | .unOp .not _ x => (match an E x with | some (.bool true) => some (none, .bool false) | some (.bool false) => some (none, .bool true) | _ => none)
 | .fieldAddr s x f => (match an E x with | some (.pointer (some ⟨b, p, none⟩)) => (match findF s f T.fd with | some o => some (none, .pointer (some ⟨b, p + o, none⟩)) | none => none) | _ => none)
 | .call ⟨.builtin bi, ⟨[x]⟩, ⟨[t]⟩⟩ => (match an E x with
  | some (.slice _ n c) => (match CB t T.sl with
   | true => (match bi with
    | .len => some (none, .int .i64 n)
    | .cap => some (none, .int .i64 c)
    | _ => none)
   | false => none)
  | _ => none)
 | .binOp o _ x y _ => (match an E x, an E y with
  | some (.int k m), some (.int k' n) => (match decEq k k' with
   | .isTrue _ => (match o with
    | .lss => some (none, .bool (decide (m < n)))
    | .leq => some (none, .bool (decide (m ≤ n)))
    | .gtr => some (none, .bool (decide (n < m)))
    | .geq => some (none, .bool (decide (n ≤ m)))
    | .eql => some (none, .bool (decide (m = n)))
    | .neq => some (none, .bool (decide (m ≠ n)))
    | .add => (match k with | .i64 => some (some (-9223372036854775808 ≤ m + n ∧ m + n ≤ 9223372036854775807), .int .i64 (m + n)) | _ => none)
    | .sub => (match k with | .i64 => some (some (-9223372036854775808 ≤ m - n ∧ m - n ≤ 9223372036854775807), .int .i64 (m - n)) | _ => none)
    | .mul => (match k with | .i64 => some (some (-9223372036854775808 ≤ m * n ∧ m * n ≤ 9223372036854775807), .int .i64 (m * n)) | _ => none)
    | _ => none)
   | .isFalse _ => none)
  | _, _ => none)
 | _ => none
def ta : Option Prop → Prop
 | none => True
 | some p => p
theorem ru {C : Ctx} {T : lE} (hT : jK C.P T = true) {E : Env} {L : List ab} {ty : TypeId} {q : Option Prop} {v : Value} {o : Op} (h : evalOp T E o = some (q, v)) (hq : ta q) : bB C o ty E L v L := by
 unfold jK at hT
 simp only [Bool.and_eq_true] at hT
 unfold evalOp at h
 split at h
 ·split at h
  ·rename_i hx; cases h; exact jm hx
  ·cases h
 ·split at h
  ·rename_i hx; cases h; exact iO hx
  ·cases h
 ·split at h
  ·rename_i hc
   split at h
   ·rename_i hx; cases h; exact ni hc hx
   ·cases h
  ·rename_i hc
   split at h
   ·rename_i hx; cases h; exact um hc hx
   ·cases h
  ·cases h
 ·split at h
  ·rename_i hp; cases h; exact BV hp
  ·cases h
 ·split at h
  ·rename_i hx
   split at h
   ·rename_i hv; cases h; exact dQ hx hv
   ·cases h
  ·cases h
 ·split at h
  ·rename_i hb; cases h; exact lG hb
  ·rename_i hb; cases h; exact lG hb
  ·cases h
 ·split at h
  ·rename_i hx
   split at h
   ·rename_i o ho
    cases h
    refine bp ?_ hx
    have := List.all_eq_true.1 hT.2 _ (sO ho)
    simp only at this
    split at this
    ·rename_i o' ho'; rw [ho', Nat.eq_of_beq_eq_true this]
    ·cases this
   ·cases h
  ·cases h
 ·rename_i bi x t
  split at h
  ·rename_i p n c hx
   split at h
   ·rename_i hm
    have := List.all_eq_true.1 hT.1 _ (vy hm)
    unfold Ms at this
    split at this
    ·rename_i e he
     split at h
     ·cases h; exact jY (ty' := 0) he hx
     ·cases h; exact Ic (ty' := 0) he hx
     ·cases h
    ·cases this
   ·cases h
  ·cases h
 ·split at h
  ·rename_i k m k' n hx hy
   split at h
   ·rename_i e _
    subst e
    split at h <;> first | (cases h; done) | skip
    ·cases h; exact dW hx hy
    ·cases h; exact eO hx hy
    ·cases h; exact ed hx hy
    ·cases h; exact Cz hx hy
    ·cases h; exact da hx hy
    ·cases h; exact cE hx hy
    ·split at h
     ·cases h; exact eb hx hy (eX hq.1 hq.2)
     ·cases h
    ·split at h
     ·cases h; exact jX hx hy (eX hq.1 hq.2)
     ·cases h
    ·split at h
     ·cases h; exact fP hx hy (eX hq.1 hq.2)
     ·cases h
   ·cases h
  ·cases h
 ·cases h
def me (all : Array Oper) (E : Env) (j : Nat) (want : Bool) : Option Bool :=
 match all[j]? with
 | some o => (match o.dst with
  | some t => (match E.get t with
   | some (.bool true) => some want
   | some (.bool false) => some (!want)
   | some (.tuple vs) => (match vs with | ⟨[]⟩ => some false | _ => none)
   | _ => none)
  | none => none)
 | none => none
def mN (T : lE) (n : Nat) : St → Option (Option Prop × St)
 | ⟨fr, E, .code c⟩ => (match c with
  | .seq x y => some (none, ⟨.sq y :: fr, E, .code x⟩)
  | .block i x => some (none, ⟨.bk i :: fr, E, .code x⟩)
  | .skip => some (none, ⟨fr, E, .norm⟩)
  | .exit i => some (none, ⟨fr, E, .exit i⟩)
  | .ret => some (none, ⟨fr, E, .ret⟩)
  | .region _ a d => (match d with | false => some (none, ⟨fr, E, .ops a a.toList⟩) | true => none)
  | .cond x a b => (match an E x with | some (.bool true) => some (none, ⟨fr, E, .code a⟩) | some (.bool false) => some (none, ⟨fr, E, .code b⟩) | _ => none)
  | _ => none)
 | ⟨fr, E, .ops all l⟩ => (match l with
  | [] => some (none, ⟨fr, E, .norm⟩)
  | o :: os => (match o.dst with
   | none => none
   | some d => (match Nat.blt d n with
    | false => none
    | true => (match o.guard with
     | none => (match evalOp T E o.op with | some (q, v) => some (q, ⟨fr, (d, v) :: E, .ops all os⟩) | none => none)
     | some (j, want) => (match me all E j want with
      | some true => (match evalOp T E o.op with | some (q, v) => some (q, ⟨fr, (d, v) :: E, .ops all os⟩) | none => none)
      | some false => some (none, ⟨fr, (d, undef) :: E, .ops all os⟩)
      | none => none)))))
 | ⟨fr, E, .norm⟩ => (match fr with
  | .sq c :: fr => some (none, ⟨fr, E, .code c⟩)
  | .bk _ :: fr => some (none, ⟨fr, E, .norm⟩)
  | _ => none)
 | ⟨fr, E, .exit i⟩ => (match fr with
  | .bk j :: fr => (match Nat.beq i j with | true => some (none, ⟨fr, E, .norm⟩) | false => some (none, ⟨fr, E, .exit i⟩))
  | .sq _ :: fr => some (none, ⟨fr, E, .exit i⟩)
  | .lp _ :: fr => some (none, ⟨fr, E, .exit i⟩)
  | [] => none)
 | ⟨fr, E, .ret⟩ => (match fr with
  | _ :: fr => some (none, ⟨fr, E, .ret⟩)
  | [] => none)
def jr (T : lE) (n : Nat) : Nat → St → Option Prop → Option (Option Prop × St)
 | 0, s, p => some (p, s)
 | k + 1, s, p => match mN T n s with
  | some (none, s') => jr T n k s' p
  | some (some q, s') => (match p with | none => jr T n k s' (some q) | some p => jr T n k s' (some (p ∧ q)))
  | none => none
section
variable {C : Ctx} {Q : QT} {L : List ab} {E : Env} {fr : List Fr}
theorem yX {all : Array Oper} {E : Env} {j : Nat} {want : Bool} (hs : me all E j want = some true) : iT all E j = some want := by
 unfold me at hs
 unfold iT
 cases hj : all[j]? with
 | none => rw [hj] at hs; cases hs
 | some oj =>
  rw [hj] at hs
  simp only at hs ⊢
  cases ht : oj.dst with
  | none => rw [ht] at hs; cases hs
  | some t =>
   rw [ht] at hs
   simp only at hs ⊢
   split at hs
   ·rename_i hb; cases hs; rw [hb]
   ·rename_i hb
    have : want = false := by cases want <;> simp_all
    subst this; rw [hb]
   ·split at hs <;> cases hs
   ·cases hs
theorem x8 {all : Array Oper} {E : Env} {j : Nat} {want : Bool} (hs : me all E j want = some false) : (∃ b, iT all E j = some b ∧ (b == want) = false) ∨ (∃ oj t, all[j]? = some oj ∧ oj.dst = some t ∧ E.get t = some undef) := by
 unfold me at hs
 unfold iT
 cases hj : all[j]? with
 | none => rw [hj] at hs; cases hs
 | some oj =>
  rw [hj] at hs
  simp only at hs ⊢
  cases ht : oj.dst with
  | none => rw [ht] at hs; cases hs
  | some t =>
   rw [ht] at hs
   simp only at hs ⊢
   split at hs
   ·rename_i hb
    have : want = false := by cases want <;> simp_all
    subst this
    exact .inl ⟨true, by rw [hb], rfl⟩
   ·rename_i hb
    have : want = true := by cases want <;> simp_all
    subst this
    exact .inl ⟨false, by rw [hb], rfl⟩
   ·rename_i vs hb
    split at hs
    ·exact .inr ⟨oj, t, rfl, ht, hb⟩
    ·cases hs
   ·cases hs
theorem Tc {all : Array Oper} {o : Oper} {os : List Oper} {R : QT} {j : Nat} {want : Bool} (hg : o.guard = some (j, want)) (hs : me all E j want = some true) (h : cy C all ({ o with guard := none } :: os) R E L) : cy C all (o :: os) R E L := by
 obtain ⟨dst, op, ty, pos, aft, g⟩ := o
 simp only at hg
 subst hg
 exact cL (yX hs) h
theorem MV {all : Array Oper} {o : Oper} {os : List Oper} {R : QT} {j d : Nat} {want : Bool} (hg : o.guard = some (j, want)) (hd : o.dst = some d) (hn : Nat.blt d C.n = true) (hs : me all E j want = some false) (h : cy C all os R ((d, undef) :: E) L) : cy C all (o :: os) R E L := by
 obtain ⟨dst, op, ty, pos, aft, g⟩ := o
 simp only at hg hd
 subst hg; subst hd
 rcases x8 hs with ⟨b, h1, h2⟩ | ⟨oj, t, h1, h2, h3⟩
 ·exact wP h1 h2 hn h
 ·exact uk h1 h2 h3 hn h
theorem su {T : lE} (hT : jK C.P T = true) {s s' : St} {q : Option Prop} (h : mN T C.n s = some (q, s')) (hq : ta q) (g : den C Q L s') : den C Q L s := by
 obtain ⟨fr, E, pos⟩ := s
 cases pos with
 | code c =>
  cases c with
  | seq x y => cases h; exact iN g
  | block i x => cases h; exact nF g
  | skip => cases h; exact PU g
  | exit i => cases h; exact Sj g
  | ret => cases h; exact I7 g
  | region i a d =>
   cases d with
   | false =>
    cases h
    obtain ⟨l⟩ := a
    exact dR (l := l) g
   | true => cases h
  | cond x a b =>
   simp only [mN] at h
   split at h
   ·rename_i hx; cases h; exact nu hx g
   ·rename_i hx; cases h; exact zE hx g
   ·cases h
  | loop _ => cases h
  | rangeFunc _ _ _ _ => cases h
  | scope _ => cases h
  | label _ => cases h
  | goto _ => cases h
  | refuse _ => cases h
 | ops all l =>
  cases l with
  | nil => cases h; exact df g
  | cons o os =>
   simp only [mN] at h
   split at h
   ·cases h
   ·rename_i d hd
    split at h
    ·cases h
    ·rename_i hn
     have plain : ∀ {o : Oper} {v : Value}, o.dst = some d → o.guard = none → evalOp T E o.op = some (q, v) → cy C all os (KF C Q fr) ((d, v) :: E) L → cy C all (o :: os) (KF C Q fr) E L := by
      rintro ⟨dst, op, ty, pos, aft, gd⟩ v h1 h2 h3 h4
      simp only at h1 h2 h3
      subst h1; subst h2
      exact tQ (ru hT h3 hq) hn h4
     split at h
     ·rename_i hg
      split at h
      ·rename_i v hv; cases h; exact plain hd hg hv g
      ·cases h
     ·rename_i j want hg
      split at h
      ·rename_i hs
       split at h
       ·rename_i v hv
        cases h
        exact Tc hg hs (plain (o := { o with guard := none }) hd rfl hv g)
       ·cases h
      ·rename_i hs; cases h; exact MV hg hd hn hs g
      ·cases h
 | norm =>
  cases fr with
  | nil => cases h
  | cons f fr =>
   cases f with
   | sq c => cases h; exact bg g
   | bk i => cases h; exact jD g
   | lp J => cases h
 | exit i =>
  cases fr with
  | nil => cases h
  | cons f fr =>
   cases f with
   | sq c => cases h; exact IW g
   | lp J => cases h; exact IW g
   | bk j =>
    simp only [mN] at h
    split at h
    ·rename_i hb
     cases h
     have := Nat.eq_of_beq_eq_true hb
     subst this
     exact TM g
    ·rename_i hb; cases h; exact Ts hb g
 | ret =>
  cases fr with
  | nil => cases h
  | cons f fr =>
   cases h
   cases f with
   | sq c => exact H6 g
   | bk i => exact TX g
   | lp J => exact H6 g
theorem nm {T : lE} (hT : jK C.P T = true) : ∀ (k : Nat) {s s' : St} {p q : Option Prop}, jr T C.n k s p = some (q, s') → ta q → (ta p → den C Q L s' → den C Q L s) ∧ ta p
 | 0, s, s', p, q, h, hq => by cases h; exact ⟨fun _ g => g, hq⟩
 | k + 1, s, s', p, q, h, hq => by
  simp only [jr] at h
  split at h
  ·rename_i s1 h1
   obtain ⟨h2, h3⟩ := nm hT k h hq
   exact ⟨fun hp g => su hT h1 trivial (h2 hp g), h3⟩
  ·rename_i r s1 h1
   split at h
   ·obtain ⟨h2, h3⟩ := nm hT k h hq
    exact ⟨fun _ g => su hT h1 h3 (h2 h3 g), trivial⟩
   ·rename_i p'
    obtain ⟨h2, h3⟩ := nm hT k h hq
    exact ⟨fun _ g => su hT h1 h3.2 (h2 h3 g), h3.1⟩
  ·cases h
theorem o4 {T : lE} (hT : jK C.P T = true) {k : Nat} {s s' : St} (h : jr T C.n k s none = some (none, s')) (g : den C Q L s') : den C Q L s := (nm hT k h trivial).1 trivial g
theorem pN {T : lE} (hT : jK C.P T = true) {k : Nat} {s s' : St} {p : Prop} (h : jr T C.n k s none = some (some p, s')) (hp : p) (g : den C Q L s') : den C Q L s := (nm hT k h hp).1 trivial g
variable {T : lE} {c : Code} {all : Array Oper} {l : List Oper} {s' : St} {J : Env → List ab → Prop} {p : Prop}
theorem rC (hT : jK C.P T = true) (k : Nat) (h : jr T C.n k ⟨fr, E, .code c⟩ none = some (none, s')) (g : den C Q L s') : Wp C c (KF C Q fr) E L := o4 hT h g
theorem rO (hT : jK C.P T = true) (k : Nat) (h : jr T C.n k ⟨fr, E, .ops all l⟩ none = some (none, s')) (g : den C Q L s') : cy C all l (KF C Q fr) E L := o4 hT h g
theorem rN (hT : jK C.P T = true) (k : Nat) (h : jr T C.n k ⟨fr, E, .norm⟩ none = some (none, s')) (g : den C Q L s') : KF C Q fr .normal E L := o4 hT h g
theorem rT (hT : jK C.P T = true) (k : Nat) (h : jr T C.n k ⟨[], E, .code c⟩ none = some (none, s')) (g : den C Q L s') : Wp C c Q E L := o4 (Q := Q) hT h g
theorem rL (hT : jK C.P T = true) (k : Nat) (h : jr T C.n k ⟨.lp J :: fr, E, .code c⟩ none = some (none, s')) (g : den C Q L s') : Wp C c (ij J (KF C Q fr)) E L := o4 (Q := Q) hT h g
theorem jz (hT : jK C.P T = true) (k : Nat) (h : jr T C.n k ⟨fr, E, .code c⟩ none = some (some p, s')) (hp : p) (g : den C Q L s') : Wp C c (KF C Q fr) E L := pN hT h hp g
theorem iP (hT : jK C.P T = true) (k : Nat) (h : jr T C.n k ⟨fr, E, .ops all l⟩ none = some (some p, s')) (hp : p) (g : den C Q L s') : cy C all l (KF C Q fr) E L := pN hT h hp g
theorem OW (hT : jK C.P T = true) (k : Nat) (h : jr T C.n k ⟨fr, E, .norm⟩ none = some (some p, s')) (hp : p) (g : den C Q L s') : KF C Q fr .normal E L := pN hT h hp g
theorem ED (hT : jK C.P T = true) (k : Nat) (h : jr T C.n k ⟨[], E, .code c⟩ none = some (some p, s')) (hp : p) (g : den C Q L s') : Wp C c Q E L := pN (Q := Q) hT h hp g
theorem Wn (hT : jK C.P T = true) (k : Nat) (h : jr T C.n k ⟨.lp J :: fr, E, .code c⟩ none = some (some p, s')) (hp : p) (g : den C Q L s') : Wp C c (ij J (KF C Q fr)) E L := pN (Q := Q) hT h hp g
end
end Go.Sl
