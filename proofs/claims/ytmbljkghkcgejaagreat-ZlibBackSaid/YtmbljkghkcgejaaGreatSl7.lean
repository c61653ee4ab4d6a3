/- Walks of functions that the law reaches, and what they lean on; no conditions. -/
import Derived.Test.YtmbljkghkcgejaaGreatSl6
set_option linter.unusedVariables false
set_option linter.unusedSimpArgs false
set_option maxRecDepth 100000
namespace Go.Sl
open Go.RowKit (Below)
theorem ak {A : ae} {L : List ae} : A ∈ A :: L := .head _
theorem bB {A B : ae} {L : List ae} : A ∈ B :: A :: L := .tail _ (.head _)
theorem dE {A B B1 : ae} {L : List ae} : A ∈ B :: B1 :: A :: L := .tail _ bB
theorem fZ {A B B1 B2 : ae} {L : List ae} : A ∈ B :: B1 :: B2 :: A :: L := .tail _ dE
theorem iz {A B B1 B2 B3 : ae} {L : List ae} : A ∈ B :: B1 :: B2 :: B3 :: A :: L := .tail _ fZ
theorem Mh {A B B1 B2 B3 B4 : ae} {L : List ae} : A ∈ B :: B1 :: B2 :: B3 :: B4 :: A :: L := .tail _ iz
theorem dg {A : ae} {L : List ae} : iK (A :: L) A L := .head
theorem ar {A B : ae} {L : List ae} : iK (B :: A :: L) A (B :: L) := .tail .head
theorem aS {A B B1 : ae} {L : List ae} : iK (B :: B1 :: A :: L) A (B :: B1 :: L) := .tail ar
theorem dC {A B B1 B2 : ae} {L : List ae} : iK (B :: B1 :: B2 :: A :: L) A (B :: B1 :: B2 :: L) := .tail aS
theorem lh {A B B1 B2 B3 : ae} {L : List ae} : iK (B :: B1 :: B2 :: B3 :: A :: L) A (B :: B1 :: B2 :: B3 :: L) := .tail dC
theorem qy {A B B1 B2 B3 B4 : ae} {L : List ae} : iK (B :: B1 :: B2 :: B3 :: B4 :: A :: L) A (B :: B1 :: B2 :: B3 :: B4 :: L) := .tail lh
theorem L9 {A B B1 B2 B3 B4 B5 : ae} {L : List ae} : iK (B :: B1 :: B2 :: B3 :: B4 :: B5 :: A :: L) A (B :: B1 :: B2 :: B3 :: B4 :: B5 :: L) := .tail qy
theorem Mk {A B B1 B2 B3 B4 B5 B6 : ae} {L : List ae} : iK (B :: B1 :: B2 :: B3 :: B4 :: B5 :: B6 :: A :: L) A (B :: B1 :: B2 :: B3 :: B4 :: B5 :: B6 :: L) := .tail L9
theorem dO {A A' : ae} {L : List ae} : ks (A :: L) A A' (A' :: L) := .head
theorem uT {A A' B : ae} {L : List ae} : ks (B :: A :: L) A A' (B :: A' :: L) := .tail .head
theorem nc {A A' B B1 : ae} {L : List ae} : ks (B :: B1 :: A :: L) A A' (B :: B1 :: A' :: L) := .tail uT
theorem LQ {A A' B B1 B2 : ae} {L : List ae} : ks (B :: B1 :: B2 :: A :: L) A A' (B :: B1 :: B2 :: A' :: L) := .tail nc
theorem NM {A A' B B1 B2 B3 : ae} {L : List ae} : ks (B :: B1 :: B2 :: B3 :: A :: L) A A' (B :: B1 :: B2 :: B3 :: A' :: L) := .tail LQ
theorem GJ {A A' B B1 B2 B3 B4 : ae} {L : List ae} : ks (B :: B1 :: B2 :: B3 :: B4 :: A :: L) A A' (B :: B1 :: B2 :: B3 :: B4 :: A' :: L) := .tail NM
theorem ao {L : List ae} : Drop L L := .refl
theorem cw {A : ae} {L : List ae} : Drop (A :: L) L := .skip .refl
theorem fg {A B : ae} {L : List ae} : Drop (A :: B :: L) L := .skip cw
theorem jj {A B B1 : ae} {L : List ae} : Drop (A :: B :: B1 :: L) L := .skip fg
theorem kT {A B B1 B2 : ae} {L : List ae} : Drop (A :: B :: B1 :: B2 :: L) L := .skip jj
theorem F3 {A B B1 B2 B3 : ae} {L : List ae} : Drop (A :: B :: B1 :: B2 :: B3 :: L) L := .skip kT
theorem NO {A B B1 B2 B3 B4 : ae} {L : List ae} : Drop (A :: B :: B1 :: B2 :: B3 :: B4 :: L) L := .skip F3
section
variable {C : Ctx} {Q : QT} {E : Env} {L F : List ae}
theorem bR {c : Code} {M : List ae} (h : Sub L M) (k : Wp C c Q E M) : Wp C c Q E L := fun a w ha hi => k a w ha (h _ _ hi)
def Jn {ι : Type} (T : ι → Env) (G : ι → List ae) (K : ι → Prop) (E : Env) (L : List ae) : Prop := ∃ i, K i ∧ Le (T i) E ∧ Sub L (G i)
theorem mT {ι : Type} {c : Code} (T : ι → Env) (G : ι → List ae) (K : ι → Prop) (μ : ι → Nat) (h0 : Jn T G K E L)
  (h : ∀ i, K i → Wp C c (iJ (fun E' L' => Jn T G (fun j => K j ∧ μ j < μ i) E' L') Q) (T i) (G i)) : Wp C (.loop c) Q E L := by
 obtain ⟨i0, k0, e0, l0⟩ := h0
 refine bR l0 (bW (T i0) e0 ?_)
 refine Kw (fun m E L => ∃ i, K i ∧ μ i = m ∧ E = T i ∧ L = G i) (μ i0) ⟨i0, k0, rfl, rfl, rfl⟩ ?_
 rintro m E L ⟨i, ki, rfl, rfl, rfl⟩
 intro a w ha hi
 refine Code.wp_mono ?_ (h i ki a w ha hi)
 rintro e a' w' ⟨E', L', h1, h2, h3⟩
 cases e with
 | normal =>
  obtain ⟨j, ⟨kj, hlt⟩, hE, hL⟩ := h3
  exact ⟨T j, G j, h1.le hE, hL _ _ h2, μ j, hlt, j, kj, rfl, rfl, rfl⟩
 | exit _ => exact ⟨E', L', h1, h2, h3⟩
 | goto _ => exact ⟨E', L', h1, h2, h3⟩
 | ret => exact ⟨E', L', h1, h2, h3⟩
 | panic _ => exact ⟨E', L', h1, h2, h3⟩
 | outgrown => exact ⟨E', L', h1, h2, h3⟩
theorem uz {ι : Type} {x y : Code} (T : ι → Env) (G : ι → List ae) (K : ι → Prop) (h : Wp C x (iJ (fun E' L' => Jn T G K E' L') Q) E L)
  (k : ∀ i, K i → Wp C y Q (T i) (G i)) : Wp C (.seq x y) Q E L := by
 refine ja (h.mono ?_)
 intro e E' L' hq
 cases e with
 | normal =>
  obtain ⟨i, ki, hE, hL⟩ := hq
  exact bR hL (bW _ hE (k i ki))
 | exit _ => exact hq
 | goto _ => exact hq
 | ret => exact hq
 | panic _ => exact hq
 | outgrown => exact hq
def J1 {α0 : Type} (T : α0 → Env) (G : α0 → List ae) (K : α0 → Prop) (E : Env) (L : List ae) : Prop := ∃ (y0 : α0), K y0 ∧ Le (T y0) E ∧ Sub L (G y0)
theorem J1.jn {α0 : Type} {T : α0 → Env} {G : α0 → List ae} {K : α0 → Prop} {E : Env} {L : List ae} (h : J1 T G K E L) : Jn (fun i : α0 => T i) (fun i : α0 => G i) (fun i : α0 => K i) E L :=
 let ⟨y0, h1, h2, h3⟩ := h; ⟨y0, h1, h2, h3⟩
theorem i1 {α0 : Type} {T : α0 → Env} {G : α0 → List ae} {K : α0 → Prop} {E : Env} {L : List ae} (y0 : α0) (h1 : K y0) (h2 : Le (T y0) E) (h3 : Sub L (G y0)) : J1 T G K E L := ⟨y0, h1, h2, h3⟩
theorem j1 {α0 : Type} {T : α0 → Env} {G : α0 → List ae} {K : α0 → Prop} {E : Env} {L : List ae} (y0 : α0) (h1 : K y0) (h2 : Le (T y0) E) (h3 : Sub L (G y0)) : iJ (fun E' L' => J1 T G K E' L') Q .normal E L := ⟨y0, h1, h2, h3⟩
theorem cx {α0 : Type} {c : Code} (T : α0 → Env) (G : α0 → List ae) (K : α0 → Prop) (μ : α0 → Nat) (h0 : J1 T G K E L)
  (h : ∀ (x0 : α0), K x0 → Wp C c (iJ (fun E' L' => J1 T G (fun y0 => K y0 ∧ μ y0 < μ x0) E' L') Q) (T x0) (G x0)) : Wp C (.loop c) Q E L :=
 mT (fun i : α0 => T i) (fun i : α0 => G i) (fun i : α0 => K i) (fun i : α0 => μ i) h0.jn fun i ki => (h i ki).mono fun e E' L' hq => by
  cases e with
  | normal => exact J1.jn hq
  | exit _ => exact hq
  | goto _ => exact hq
  | ret => exact hq
  | panic _ => exact hq
  | outgrown => exact hq
theorem ot {α0 : Type} {x y : Code} (T : α0 → Env) (G : α0 → List ae) (K : α0 → Prop) (h : Wp C x (iJ (fun E' L' => J1 T G K E' L') Q) E L)
  (k : ∀ (x0 : α0), K x0 → Wp C y Q (T x0) (G x0)) : Wp C (.seq x y) Q E L :=
 uz (fun i : α0 => T i) (fun i : α0 => G i) (fun i : α0 => K i) (h.mono fun e E' L' hq => by
  cases e with
  | normal => exact J1.jn hq
  | exit _ => exact hq
  | goto _ => exact hq
  | ret => exact hq
  | panic _ => exact hq
  | outgrown => exact hq) fun i ki => k i ki
def J2 {α0 α1 : Type} (T : α0 → α1 → Env) (G : α0 → α1 → List ae) (K : α0 → α1 → Prop) (E : Env) (L : List ae) : Prop := ∃ (y0 : α0) (y1 : α1), K y0 y1 ∧ Le (T y0 y1) E ∧ Sub L (G y0 y1)
theorem J2.jn {α0 α1 : Type} {T : α0 → α1 → Env} {G : α0 → α1 → List ae} {K : α0 → α1 → Prop} {E : Env} {L : List ae} (h : J2 T G K E L) : Jn (fun i : α0 × α1 => T i.1 i.2) (fun i : α0 × α1 => G i.1 i.2) (fun i : α0 × α1 => K i.1 i.2) E L :=
 let ⟨y0, y1, h1, h2, h3⟩ := h; ⟨⟨y0, y1⟩, h1, h2, h3⟩
theorem i2 {α0 α1 : Type} {T : α0 → α1 → Env} {G : α0 → α1 → List ae} {K : α0 → α1 → Prop} {E : Env} {L : List ae} (y0 : α0) (y1 : α1) (h1 : K y0 y1) (h2 : Le (T y0 y1) E) (h3 : Sub L (G y0 y1)) : J2 T G K E L := ⟨y0, y1, h1, h2, h3⟩
theorem j2 {α0 α1 : Type} {T : α0 → α1 → Env} {G : α0 → α1 → List ae} {K : α0 → α1 → Prop} {E : Env} {L : List ae} (y0 : α0) (y1 : α1) (h1 : K y0 y1) (h2 : Le (T y0 y1) E) (h3 : Sub L (G y0 y1)) : iJ (fun E' L' => J2 T G K E' L') Q .normal E L := ⟨y0, y1, h1, h2, h3⟩
theorem eR {α0 α1 : Type} {c : Code} (T : α0 → α1 → Env) (G : α0 → α1 → List ae) (K : α0 → α1 → Prop) (μ : α0 → α1 → Nat) (h0 : J2 T G K E L)
  (h : ∀ (x0 : α0) (x1 : α1), K x0 x1 → Wp C c (iJ (fun E' L' => J2 T G (fun y0 y1 => K y0 y1 ∧ μ y0 y1 < μ x0 x1) E' L') Q) (T x0 x1) (G x0 x1)) : Wp C (.loop c) Q E L :=
 mT (fun i : α0 × α1 => T i.1 i.2) (fun i : α0 × α1 => G i.1 i.2) (fun i : α0 × α1 => K i.1 i.2) (fun i : α0 × α1 => μ i.1 i.2) h0.jn fun i ki => (h i.1 i.2 ki).mono fun e E' L' hq => by
  cases e with
  | normal => exact J2.jn hq
  | exit _ => exact hq
  | goto _ => exact hq
  | ret => exact hq
  | panic _ => exact hq
  | outgrown => exact hq
theorem zp {α0 α1 : Type} {x y : Code} (T : α0 → α1 → Env) (G : α0 → α1 → List ae) (K : α0 → α1 → Prop) (h : Wp C x (iJ (fun E' L' => J2 T G K E' L') Q) E L)
  (k : ∀ (x0 : α0) (x1 : α1), K x0 x1 → Wp C y Q (T x0 x1) (G x0 x1)) : Wp C (.seq x y) Q E L :=
 uz (fun i : α0 × α1 => T i.1 i.2) (fun i : α0 × α1 => G i.1 i.2) (fun i : α0 × α1 => K i.1 i.2) (h.mono fun e E' L' hq => by
  cases e with
  | normal => exact J2.jn hq
  | exit _ => exact hq
  | goto _ => exact hq
  | ret => exact hq
  | panic _ => exact hq
  | outgrown => exact hq) fun i ki => k i.1 i.2 ki
def J3 {α0 α1 α2 : Type} (T : α0 → α1 → α2 → Env) (G : α0 → α1 → α2 → List ae) (K : α0 → α1 → α2 → Prop) (E : Env) (L : List ae) : Prop := ∃ (y0 : α0) (y1 : α1) (y2 : α2), K y0 y1 y2 ∧ Le (T y0 y1 y2) E ∧ Sub L (G y0 y1 y2)
theorem J3.jn {α0 α1 α2 : Type} {T : α0 → α1 → α2 → Env} {G : α0 → α1 → α2 → List ae} {K : α0 → α1 → α2 → Prop} {E : Env} {L : List ae} (h : J3 T G K E L) : Jn (fun i : α0 × α1 × α2 => T i.1 i.2.1 i.2.2) (fun i : α0 × α1 × α2 => G i.1 i.2.1 i.2.2) (fun i : α0 × α1 × α2 => K i.1 i.2.1 i.2.2) E L :=
 let ⟨y0, y1, y2, h1, h2, h3⟩ := h; ⟨⟨y0, y1, y2⟩, h1, h2, h3⟩
theorem i3 {α0 α1 α2 : Type} {T : α0 → α1 → α2 → Env} {G : α0 → α1 → α2 → List ae} {K : α0 → α1 → α2 → Prop} {E : Env} {L : List ae} (y0 : α0) (y1 : α1) (y2 : α2) (h1 : K y0 y1 y2) (h2 : Le (T y0 y1 y2) E) (h3 : Sub L (G y0 y1 y2)) : J3 T G K E L := ⟨y0, y1, y2, h1, h2, h3⟩
theorem j3 {α0 α1 α2 : Type} {T : α0 → α1 → α2 → Env} {G : α0 → α1 → α2 → List ae} {K : α0 → α1 → α2 → Prop} {E : Env} {L : List ae} (y0 : α0) (y1 : α1) (y2 : α2) (h1 : K y0 y1 y2) (h2 : Le (T y0 y1 y2) E) (h3 : Sub L (G y0 y1 y2)) : iJ (fun E' L' => J3 T G K E' L') Q .normal E L := ⟨y0, y1, y2, h1, h2, h3⟩
theorem eJ {α0 α1 α2 : Type} {c : Code} (T : α0 → α1 → α2 → Env) (G : α0 → α1 → α2 → List ae) (K : α0 → α1 → α2 → Prop) (μ : α0 → α1 → α2 → Nat) (h0 : J3 T G K E L)
  (h : ∀ (x0 : α0) (x1 : α1) (x2 : α2), K x0 x1 x2 → Wp C c (iJ (fun E' L' => J3 T G (fun y0 y1 y2 => K y0 y1 y2 ∧ μ y0 y1 y2 < μ x0 x1 x2) E' L') Q) (T x0 x1 x2) (G x0 x1 x2)) : Wp C (.loop c) Q E L :=
 mT (fun i : α0 × α1 × α2 => T i.1 i.2.1 i.2.2) (fun i : α0 × α1 × α2 => G i.1 i.2.1 i.2.2) (fun i : α0 × α1 × α2 => K i.1 i.2.1 i.2.2) (fun i : α0 × α1 × α2 => μ i.1 i.2.1 i.2.2) h0.jn fun i ki => (h i.1 i.2.1 i.2.2 ki).mono fun e E' L' hq => by
  cases e with
  | normal => exact J3.jn hq
  | exit _ => exact hq
  | goto _ => exact hq
  | ret => exact hq
  | panic _ => exact hq
  | outgrown => exact hq
def J4 {α0 α1 α2 α3 : Type} (T : α0 → α1 → α2 → α3 → Env) (G : α0 → α1 → α2 → α3 → List ae) (K : α0 → α1 → α2 → α3 → Prop) (E : Env) (L : List ae) : Prop := ∃ (y0 : α0) (y1 : α1) (y2 : α2) (y3 : α3), K y0 y1 y2 y3 ∧ Le (T y0 y1 y2 y3) E ∧ Sub L (G y0 y1 y2 y3)
theorem J4.jn {α0 α1 α2 α3 : Type} {T : α0 → α1 → α2 → α3 → Env} {G : α0 → α1 → α2 → α3 → List ae} {K : α0 → α1 → α2 → α3 → Prop} {E : Env} {L : List ae} (h : J4 T G K E L) : Jn (fun i : α0 × α1 × α2 × α3 => T i.1 i.2.1 i.2.2.1 i.2.2.2) (fun i : α0 × α1 × α2 × α3 => G i.1 i.2.1 i.2.2.1 i.2.2.2) (fun i : α0 × α1 × α2 × α3 => K i.1 i.2.1 i.2.2.1 i.2.2.2) E L :=
 let ⟨y0, y1, y2, y3, h1, h2, h3⟩ := h; ⟨⟨y0, y1, y2, y3⟩, h1, h2, h3⟩
theorem i4 {α0 α1 α2 α3 : Type} {T : α0 → α1 → α2 → α3 → Env} {G : α0 → α1 → α2 → α3 → List ae} {K : α0 → α1 → α2 → α3 → Prop} {E : Env} {L : List ae} (y0 : α0) (y1 : α1) (y2 : α2) (y3 : α3) (h1 : K y0 y1 y2 y3) (h2 : Le (T y0 y1 y2 y3) E) (h3 : Sub L (G y0 y1 y2 y3)) : J4 T G K E L := ⟨y0, y1, y2, y3, h1, h2, h3⟩
theorem j4 {α0 α1 α2 α3 : Type} {T : α0 → α1 → α2 → α3 → Env} {G : α0 → α1 → α2 → α3 → List ae} {K : α0 → α1 → α2 → α3 → Prop} {E : Env} {L : List ae} (y0 : α0) (y1 : α1) (y2 : α2) (y3 : α3) (h1 : K y0 y1 y2 y3) (h2 : Le (T y0 y1 y2 y3) E) (h3 : Sub L (G y0 y1 y2 y3)) : iJ (fun E' L' => J4 T G K E' L') Q .normal E L := ⟨y0, y1, y2, y3, h1, h2, h3⟩
theorem kW {α0 α1 α2 α3 : Type} {c : Code} (T : α0 → α1 → α2 → α3 → Env) (G : α0 → α1 → α2 → α3 → List ae) (K : α0 → α1 → α2 → α3 → Prop) (μ : α0 → α1 → α2 → α3 → Nat) (h0 : J4 T G K E L)
  (h : ∀ (x0 : α0) (x1 : α1) (x2 : α2) (x3 : α3), K x0 x1 x2 x3 → Wp C c (iJ (fun E' L' => J4 T G (fun y0 y1 y2 y3 => K y0 y1 y2 y3 ∧ μ y0 y1 y2 y3 < μ x0 x1 x2 x3) E' L') Q) (T x0 x1 x2 x3) (G x0 x1 x2 x3)) : Wp C (.loop c) Q E L :=
 mT (fun i : α0 × α1 × α2 × α3 => T i.1 i.2.1 i.2.2.1 i.2.2.2) (fun i : α0 × α1 × α2 × α3 => G i.1 i.2.1 i.2.2.1 i.2.2.2) (fun i : α0 × α1 × α2 × α3 => K i.1 i.2.1 i.2.2.1 i.2.2.2) (fun i : α0 × α1 × α2 × α3 => μ i.1 i.2.1 i.2.2.1 i.2.2.2) h0.jn fun i ki => (h i.1 i.2.1 i.2.2.1 i.2.2.2 ki).mono fun e E' L' hq => by
  cases e with
  | normal => exact J4.jn hq
  | exit _ => exact hq
  | goto _ => exact hq
  | ret => exact hq
  | panic _ => exact hq
  | outgrown => exact hq
theorem Hb {α0 α1 α2 α3 : Type} {x y : Code} (T : α0 → α1 → α2 → α3 → Env) (G : α0 → α1 → α2 → α3 → List ae) (K : α0 → α1 → α2 → α3 → Prop) (h : Wp C x (iJ (fun E' L' => J4 T G K E' L') Q) E L)
  (k : ∀ (x0 : α0) (x1 : α1) (x2 : α2) (x3 : α3), K x0 x1 x2 x3 → Wp C y Q (T x0 x1 x2 x3) (G x0 x1 x2 x3)) : Wp C (.seq x y) Q E L :=
 uz (fun i : α0 × α1 × α2 × α3 => T i.1 i.2.1 i.2.2.1 i.2.2.2) (fun i : α0 × α1 × α2 × α3 => G i.1 i.2.1 i.2.2.1 i.2.2.2) (fun i : α0 × α1 × α2 × α3 => K i.1 i.2.1 i.2.2.1 i.2.2.2) (h.mono fun e E' L' hq => by
  cases e with
  | normal => exact J4.jn hq
  | exit _ => exact hq
  | goto _ => exact hq
  | ret => exact hq
  | panic _ => exact hq
  | outgrown => exact hq) fun i ki => k i.1 i.2.1 i.2.2.1 i.2.2.2 ki
def J5 {α0 α1 α2 α3 α4 : Type} (T : α0 → α1 → α2 → α3 → α4 → Env) (G : α0 → α1 → α2 → α3 → α4 → List ae) (K : α0 → α1 → α2 → α3 → α4 → Prop) (E : Env) (L : List ae) : Prop := ∃ (y0 : α0) (y1 : α1) (y2 : α2) (y3 : α3) (y4 : α4), K y0 y1 y2 y3 y4 ∧ Le (T y0 y1 y2 y3 y4) E ∧ Sub L (G y0 y1 y2 y3 y4)
theorem J5.jn {α0 α1 α2 α3 α4 : Type} {T : α0 → α1 → α2 → α3 → α4 → Env} {G : α0 → α1 → α2 → α3 → α4 → List ae} {K : α0 → α1 → α2 → α3 → α4 → Prop} {E : Env} {L : List ae} (h : J5 T G K E L) : Jn (fun i : α0 × α1 × α2 × α3 × α4 => T i.1 i.2.1 i.2.2.1 i.2.2.2.1 i.2.2.2.2) (fun i : α0 × α1 × α2 × α3 × α4 => G i.1 i.2.1 i.2.2.1 i.2.2.2.1 i.2.2.2.2) (fun i : α0 × α1 × α2 × α3 × α4 => K i.1 i.2.1 i.2.2.1 i.2.2.2.1 i.2.2.2.2) E L :=
 let ⟨y0, y1, y2, y3, y4, h1, h2, h3⟩ := h; ⟨⟨y0, y1, y2, y3, y4⟩, h1, h2, h3⟩
theorem i5 {α0 α1 α2 α3 α4 : Type} {T : α0 → α1 → α2 → α3 → α4 → Env} {G : α0 → α1 → α2 → α3 → α4 → List ae} {K : α0 → α1 → α2 → α3 → α4 → Prop} {E : Env} {L : List ae} (y0 : α0) (y1 : α1) (y2 : α2) (y3 : α3) (y4 : α4) (h1 : K y0 y1 y2 y3 y4) (h2 : Le (T y0 y1 y2 y3 y4) E) (h3 : Sub L (G y0 y1 y2 y3 y4)) : J5 T G K E L := ⟨y0, y1, y2, y3, y4, h1, h2, h3⟩
theorem j5 {α0 α1 α2 α3 α4 : Type} {T : α0 → α1 → α2 → α3 → α4 → Env} {G : α0 → α1 → α2 → α3 → α4 → List ae} {K : α0 → α1 → α2 → α3 → α4 → Prop} {E : Env} {L : List ae} (y0 : α0) (y1 : α1) (y2 : α2) (y3 : α3) (y4 : α4) (h1 : K y0 y1 y2 y3 y4) (h2 : Le (T y0 y1 y2 y3 y4) E) (h3 : Sub L (G y0 y1 y2 y3 y4)) : iJ (fun E' L' => J5 T G K E' L') Q .normal E L := ⟨y0, y1, y2, y3, y4, h1, h2, h3⟩
theorem mR {α0 α1 α2 α3 α4 : Type} {c : Code} (T : α0 → α1 → α2 → α3 → α4 → Env) (G : α0 → α1 → α2 → α3 → α4 → List ae) (K : α0 → α1 → α2 → α3 → α4 → Prop) (μ : α0 → α1 → α2 → α3 → α4 → Nat) (h0 : J5 T G K E L)
  (h : ∀ (x0 : α0) (x1 : α1) (x2 : α2) (x3 : α3) (x4 : α4), K x0 x1 x2 x3 x4 → Wp C c (iJ (fun E' L' => J5 T G (fun y0 y1 y2 y3 y4 => K y0 y1 y2 y3 y4 ∧ μ y0 y1 y2 y3 y4 < μ x0 x1 x2 x3 x4) E' L') Q) (T x0 x1 x2 x3 x4) (G x0 x1 x2 x3 x4)) : Wp C (.loop c) Q E L :=
 mT (fun i : α0 × α1 × α2 × α3 × α4 => T i.1 i.2.1 i.2.2.1 i.2.2.2.1 i.2.2.2.2) (fun i : α0 × α1 × α2 × α3 × α4 => G i.1 i.2.1 i.2.2.1 i.2.2.2.1 i.2.2.2.2) (fun i : α0 × α1 × α2 × α3 × α4 => K i.1 i.2.1 i.2.2.1 i.2.2.2.1 i.2.2.2.2) (fun i : α0 × α1 × α2 × α3 × α4 => μ i.1 i.2.1 i.2.2.1 i.2.2.2.1 i.2.2.2.2) h0.jn fun i ki => (h i.1 i.2.1 i.2.2.1 i.2.2.2.1 i.2.2.2.2 ki).mono fun e E' L' hq => by
  cases e with
  | normal => exact J5.jn hq
  | exit _ => exact hq
  | goto _ => exact hq
  | ret => exact hq
  | panic _ => exact hq
  | outgrown => exact hq
def J6 {α0 α1 α2 α3 α4 α5 : Type} (T : α0 → α1 → α2 → α3 → α4 → α5 → Env) (G : α0 → α1 → α2 → α3 → α4 → α5 → List ae) (K : α0 → α1 → α2 → α3 → α4 → α5 → Prop) (E : Env) (L : List ae) : Prop := ∃ (y0 : α0) (y1 : α1) (y2 : α2) (y3 : α3) (y4 : α4) (y5 : α5), K y0 y1 y2 y3 y4 y5 ∧ Le (T y0 y1 y2 y3 y4 y5) E ∧ Sub L (G y0 y1 y2 y3 y4 y5)
def J7 {α0 α1 α2 α3 α4 α5 α6 : Type} (T : α0 → α1 → α2 → α3 → α4 → α5 → α6 → Env) (G : α0 → α1 → α2 → α3 → α4 → α5 → α6 → List ae) (K : α0 → α1 → α2 → α3 → α4 → α5 → α6 → Prop) (E : Env) (L : List ae) : Prop := ∃ (y0 : α0) (y1 : α1) (y2 : α2) (y3 : α3) (y4 : α4) (y5 : α5) (y6 : α6), K y0 y1 y2 y3 y4 y5 y6 ∧ Le (T y0 y1 y2 y3 y4 y5 y6) E ∧ Sub L (G y0 y1 y2 y3 y4 y5 y6)
theorem J7.jn {α0 α1 α2 α3 α4 α5 α6 : Type} {T : α0 → α1 → α2 → α3 → α4 → α5 → α6 → Env} {G : α0 → α1 → α2 → α3 → α4 → α5 → α6 → List ae} {K : α0 → α1 → α2 → α3 → α4 → α5 → α6 → Prop} {E : Env} {L : List ae} (h : J7 T G K E L) : Jn (fun i : α0 × α1 × α2 × α3 × α4 × α5 × α6 => T i.1 i.2.1 i.2.2.1 i.2.2.2.1 i.2.2.2.2.1 i.2.2.2.2.2.1 i.2.2.2.2.2.2) (fun i : α0 × α1 × α2 × α3 × α4 × α5 × α6 => G i.1 i.2.1 i.2.2.1 i.2.2.2.1 i.2.2.2.2.1 i.2.2.2.2.2.1 i.2.2.2.2.2.2) (fun i : α0 × α1 × α2 × α3 × α4 × α5 × α6 => K i.1 i.2.1 i.2.2.1 i.2.2.2.1 i.2.2.2.2.1 i.2.2.2.2.2.1 i.2.2.2.2.2.2) E L :=
 let ⟨y0, y1, y2, y3, y4, y5, y6, h1, h2, h3⟩ := h; ⟨⟨y0, y1, y2, y3, y4, y5, y6⟩, h1, h2, h3⟩
theorem i7 {α0 α1 α2 α3 α4 α5 α6 : Type} {T : α0 → α1 → α2 → α3 → α4 → α5 → α6 → Env} {G : α0 → α1 → α2 → α3 → α4 → α5 → α6 → List ae} {K : α0 → α1 → α2 → α3 → α4 → α5 → α6 → Prop} {E : Env} {L : List ae} (y0 : α0) (y1 : α1) (y2 : α2) (y3 : α3) (y4 : α4) (y5 : α5) (y6 : α6) (h1 : K y0 y1 y2 y3 y4 y5 y6) (h2 : Le (T y0 y1 y2 y3 y4 y5 y6) E) (h3 : Sub L (G y0 y1 y2 y3 y4 y5 y6)) : J7 T G K E L := ⟨y0, y1, y2, y3, y4, y5, y6, h1, h2, h3⟩
theorem j7 {α0 α1 α2 α3 α4 α5 α6 : Type} {T : α0 → α1 → α2 → α3 → α4 → α5 → α6 → Env} {G : α0 → α1 → α2 → α3 → α4 → α5 → α6 → List ae} {K : α0 → α1 → α2 → α3 → α4 → α5 → α6 → Prop} {E : Env} {L : List ae} (y0 : α0) (y1 : α1) (y2 : α2) (y3 : α3) (y4 : α4) (y5 : α5) (y6 : α6) (h1 : K y0 y1 y2 y3 y4 y5 y6) (h2 : Le (T y0 y1 y2 y3 y4 y5 y6) E) (h3 : Sub L (G y0 y1 y2 y3 y4 y5 y6)) : iJ (fun E' L' => J7 T G K E' L') Q .normal E L := ⟨y0, y1, y2, y3, y4, y5, y6, h1, h2, h3⟩
theorem HG {α0 α1 α2 α3 α4 α5 α6 : Type} {c : Code} (T : α0 → α1 → α2 → α3 → α4 → α5 → α6 → Env) (G : α0 → α1 → α2 → α3 → α4 → α5 → α6 → List ae) (K : α0 → α1 → α2 → α3 → α4 → α5 → α6 → Prop) (μ : α0 → α1 → α2 → α3 → α4 → α5 → α6 → Nat) (h0 : J7 T G K E L)
  (h : ∀ (x0 : α0) (x1 : α1) (x2 : α2) (x3 : α3) (x4 : α4) (x5 : α5) (x6 : α6), K x0 x1 x2 x3 x4 x5 x6 → Wp C c (iJ (fun E' L' => J7 T G (fun y0 y1 y2 y3 y4 y5 y6 => K y0 y1 y2 y3 y4 y5 y6 ∧ μ y0 y1 y2 y3 y4 y5 y6 < μ x0 x1 x2 x3 x4 x5 x6) E' L') Q) (T x0 x1 x2 x3 x4 x5 x6) (G x0 x1 x2 x3 x4 x5 x6)) : Wp C (.loop c) Q E L :=
 mT (fun i : α0 × α1 × α2 × α3 × α4 × α5 × α6 => T i.1 i.2.1 i.2.2.1 i.2.2.2.1 i.2.2.2.2.1 i.2.2.2.2.2.1 i.2.2.2.2.2.2) (fun i : α0 × α1 × α2 × α3 × α4 × α5 × α6 => G i.1 i.2.1 i.2.2.1 i.2.2.2.1 i.2.2.2.2.1 i.2.2.2.2.2.1 i.2.2.2.2.2.2) (fun i : α0 × α1 × α2 × α3 × α4 × α5 × α6 => K i.1 i.2.1 i.2.2.1 i.2.2.2.1 i.2.2.2.2.1 i.2.2.2.2.2.1 i.2.2.2.2.2.2) (fun i : α0 × α1 × α2 × α3 × α4 × α5 × α6 => μ i.1 i.2.1 i.2.2.1 i.2.2.2.1 i.2.2.2.2.1 i.2.2.2.2.2.1 i.2.2.2.2.2.2) h0.jn fun i ki => (h i.1 i.2.1 i.2.2.1 i.2.2.2.1 i.2.2.2.2.1 i.2.2.2.2.2.1 i.2.2.2.2.2.2 ki).mono fun e E' L' hq => by
  cases e with
  | normal => exact J7.jn hq
  | exit _ => exact hq
  | goto _ => exact hq
  | ret => exact hq
  | panic _ => exact hq
  | outgrown => exact hq
def J8 {α0 α1 α2 α3 α4 α5 α6 α7 : Type} (T : α0 → α1 → α2 → α3 → α4 → α5 → α6 → α7 → Env) (G : α0 → α1 → α2 → α3 → α4 → α5 → α6 → α7 → List ae) (K : α0 → α1 → α2 → α3 → α4 → α5 → α6 → α7 → Prop) (E : Env) (L : List ae) : Prop := ∃ (y0 : α0) (y1 : α1) (y2 : α2) (y3 : α3) (y4 : α4) (y5 : α5) (y6 : α6) (y7 : α7), K y0 y1 y2 y3 y4 y5 y6 y7 ∧ Le (T y0 y1 y2 y3 y4 y5 y6 y7) E ∧ Sub L (G y0 y1 y2 y3 y4 y5 y6 y7)
theorem Gc {k : Env → List ae → Prop} {i : Nat} (h : Q (.exit i) E L) : iJ k Q (.exit i) E L := h
theorem FX {k : Env → List ae → Prop} (h : Q .ret E L) : iJ k Q .ret E L := h
theorem dz {k : Env → List ae → Prop} {ch : List PanicEntry} (h : Q (.panic ch) E L) : iJ k Q (.panic ch) E L := h
theorem gR {i : Nat} (h : Q .normal E L) : jD i Q .normal E L := h
theorem LH {i : Nat} (h : Q .ret E L) : jD i Q .ret E L := h
theorem fo {i : Nat} {ch : List PanicEntry} (h : Q (.panic ch) E L) : jD i Q (.panic ch) E L := h
theorem Ll {i : Nat} (h : Q .normal E L) : jD i Q (.exit i) E L := by simp [jD, h]
theorem KX {i j : Nat} (hn : Nat.beq j i = false) (h : Q (.exit j) E L) : jD i Q (.exit j) E L := by simp only [jD, hn, cond_false]; exact h
section
variable {L' : List ae} {ty : TypeId} {op : Op} {v : Value}
theorem ck {p : Prop} [Decidable p] (h : bX C op ty E L (.bool (decide p)) L') (hp : p) : bX C op ty E L (.bool true) L' := by
 rw [decide_eq_true hp] at h; exact h
theorem bA {p : Prop} [Decidable p] (h : bX C op ty E L (.bool (decide p)) L') (hp : ¬ p) : bX C op ty E L (.bool false) L' := by
 rw [decide_eq_false hp] at h; exact h
theorem de {u : Value} (h : bX C op ty E L u L') (e : u = v) : bX C op ty E L v L' := e ▸ h
theorem Ej {fn : Fn} {fl cl : List Operand} {fs cs : List Value} (hf : iB E fl = some fs) (hc : iB E cl = some cs) : bX C (.makeFunc fn fl.toArray cl.toArray) ty E L (.func fn fs.toArray cs.toArray) L := dR fun d pos aft g a w ha => by
 simp only [execOp, Instr.makeFunc, ha.iB hf, ha.iB hc]
 rfl
theorem gh {x : Operand} {hi mx : Option Operand} {t e sz by_ n cap : Nat} {p : Option Addr} (r m : Nat) (ht : sliceB C.P t = some (e, sz, by_)) (hx : ay E x = some (.slice p n cap))
  (hr : match hi with | none => r = n ∧ mx = none | some z => ∃ k, ay E z = some (.int k (r : Int)))
  (hm : match mx with | none => m = cap | some z => ∃ k, ay E z = some (.int k (m : Int)))
  (h2 : r ≤ m) (h3 : m ≤ cap) : bX C (.slice t x none hi mx) ty E L (.slice p r m) L := by
 have := fz (C := C) (E := E) (L := L) (ty := ty) (lo := none) 0 r m ht hx rfl hr hm (Nat.zero_le _) h2 h3
 rwa [nL, Nat.sub_zero, Nat.sub_zero] at this
end
end
end Go.Sl
