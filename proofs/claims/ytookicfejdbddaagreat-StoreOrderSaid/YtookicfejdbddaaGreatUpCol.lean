/- Walks of functions that the law reaches, and what they lean on; no conditions. -/
import Derived.RangeFuncWrites
import Derived.RangeFuncLeaves
import Derived.WalkKit
import Derived.TacticsInMore
import Derived.LoopNIn
import Derived.LoopIn
import Derived.RegionIn
import Derived.Below
import Derived.Test.YtookicfejdbddaaGreatProg
set_option linter.unusedVariables false
set_option linter.unusedSimpArgs false
set_option linter.unnecessarySimpa false
set_option maxRecDepth 100000
namespace Go.Proofs.YtookicfejdbddaaGreat
open Go.RowKit
attribute [local go_sem] Oper.semAt_some
set_option maxHeartbeats 4000000 in
theorem chunk1 (n l b off cap Bs Bn : Nat) (W : World) (Q Qx : World → Prop) (hcap : 4 ≤ cap)
    (hY : YieldAt Fence.wide n Tryz.prog l #[.slice (some ⟨b, off, none⟩) 4 4] W.drew fun e W' => (e = .returned (.bool true) ∧ Q W' ∧ W'.heap[Bs]? = W.heap[Bs]? ∧ W'.heap[Bn]? = W.heap[Bn]?) ∨ (e = .returned (.bool false) ∧ Qx W'))
    (hs : W.cell? ⟨Bs, 0, none⟩ = some (.slice (some ⟨b, off, none⟩) 4 cap)) (hn : W.cell? ⟨Bn, 0, none⟩ = some (.int .i64 4)) :
    CallsIn Fence.wide (n + 1) Tryz.prog 299 #[.func (.yield l) #[] #[], .pointer (some ⟨Bs, 0, none⟩), .pointer (some ⟨Bn, 0, none⟩)] W fun e W' => (∃ v, e = .returned v) ∧ (Q W' ∨ Qx W') := by
  refine callsIn_of_wp Tryz.func299 rfl trivial ?_ rfl
  simp only [Tryz.ntmps299, List.size_toArray, List.length_cons, List.length_nil, Nat.reduceAdd, Nat.reduceSub, Array.replicate_succ, Array.replicate_zero, List.push_toArray, List.append_toArray, List.nil_append, List.cons_append]
  gi_wp2
  gi_loopw [4] (fun i wr => (i = .int .i64 0 ∧ wr = W) ∨ (i = .int .i64 4 ∧ Q wr ∧ wr.heap[Bs]? = W.heap[Bs]? ∧ wr.heap[Bn]? = W.heap[Bn]?)) (fun i _ => 4 - (intOf i).toNat)
  case atStart => exact .inl ⟨rfl, rfl⟩
  case round =>
    rcases hrel with ⟨rfl, rfl⟩ | ⟨rfl, hb, hb1, hb2⟩
    · obtain ⟨fn, tmps, assign, body, hy, hR⟩ := hY
      gi_wp2
      gi_region
      all_goals
        gi_wp2
        refine hR.mono ?_
        rintro e W3 (⟨rfl, hq, hb1, hb2⟩ | ⟨rfl, hqx⟩)
        · have hq1 := (World.cell?_of_block (a := ⟨Bs, 0, none⟩) hb1).trans hs
          have hq2 := (World.cell?_of_block (a := ⟨Bn, 0, none⟩) hb2).trans hn
          gi_wp2
          go_roundw
          case rel => exact .inr ⟨rfl, hq, hb1, hb2⟩
          case measure => simp [intOf]
        · gi_wp2
          refine bodyPost_ret (results_none rfl _ _ _) rfl ?_
          exact ⟨⟨_, rfl⟩, .inr hqx⟩
    · have hq1 := (World.cell?_of_block (a := ⟨Bs, 0, none⟩) hb1).trans hs
      have hq2 := (World.cell?_of_block (a := ⟨Bn, 0, none⟩) hb2).trans hn
      gi_wp2
      go_end0
      exact ⟨⟨_, rfl⟩, .inl hb⟩
end Go.Proofs.YtookicfejdbddaaGreat
