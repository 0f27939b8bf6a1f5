/- The plain statement of QuantShares: both shares are the same, whatever the numbers. -/
import Derived.Test.YtbibnendaddbhaaStatQuantShares
import Derived.Test.YtbibnendaddbhaaQ8
namespace Go.Proofs.Ytbibnendaddbhaa.Pure
open Go.RowKit Go.Proofs.YtbibnendaddbhaaO Go.Proofs.YtbibnendaddbhaaW.PrintWords Go.Proofs.YtbibnendaddbhaaW.PrintLast Go.Proofs.YtbibnendaddbhaaW.PrintMore Go.Proofs.YtbibnendaddbhaaP Go.Proofs.Ytbibnendaddbhaa.All Go.Proofs.Ytbibnendaddbhaa.Q Go.Proofs.Ytbibnendaddbhaa.StatQuantShares
namespace Shares
theorem i64_le {n : Int} (h : InK .i64 n) : n ≤ 9223372036854775807 := by
  have : (Lit.int .i64 n).wf = true := h
  simp [Lit.wf, IntKind.min, IntKind.max, IntKind.signed, IntKind.bits] at this
  omega
theorem fixed : Ev (fun k => berthlaw02_fixedShare.f k) true := by
  unfold berthlaw02_fixedShare.f
  refine Ev.bind (share_ev (p := 1) (w := 3) (s := 100) (by decide) (by decide) (by decide)) ?_
  have : shareV 1 3 100 = (33, 0) := by decide
  rw [this]
  exact ev_pos rfl (ev_some' rfl)
section
variable {l : List S35} (B : ∀ x ∈ l, B35 x) (hl : l.length * 24 ≤ 140737488351232)
include B hl
theorem loop : ∀ m n : Nat, n + m = l.length → Ev (fun k => berthlaw02_QuantShares.l0 k l (l.length : Int) (n : Int)) true := by
  intro m
  induction m with
  | zero =>
    intro n h
    exact Ev.step (fun k => berthlaw02_QuantShares.l0.eq_2 _ _ _ k) (ev_neg (by omega) (ev_some _))
  | succ m ih =>
    intro n h
    have hn : n < l.length := by omega
    have e : rd_T35 l (n : Int) = l[n] := by unfold rd_T35; simp [hn]
    have b := B _ (List.getElem_mem hn)
    refine Ev.step (fun k => berthlaw02_QuantShares.l0.eq_2 _ _ _ k) (ev_pos (by omega) (ev_pos (by omega) (ev_pos (by omega) ?_)))
    rw [e]
    refine Ev.bind (share_ev (i64_le b.1) (i64_le b.2.2) (i64_le b.2.1)) (Ev.bind (refshare_ev (i64_le b.1) (i64_le b.2.2) (i64_le b.2.1)) (ev_pos rfl (ev_pos rfl ?_)))
    rw [w64_succ (by omega)]
    exact ih (n + 1) (by omega)
end
end Shares
theorem QuantShares : StatQuantShares.Pure := by
  intro l ⟨hl, B⟩
  apply Ev.rounds
  unfold berthlaw02_QuantShares.f
  exact Ev.bind Shares.fixed (ev_pos rfl (Shares.loop B hl l.length 0 (by omega)))
end Go.Proofs.Ytbibnendaddbhaa.Pure
