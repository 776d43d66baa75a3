/- A guarded operation whose guard was not done: it is not done. No condition. -/
import Derived.Test.YtchdmemgkegefaaRegV
namespace Go.Proofs.Ytchdmemgkegefaa
open Go.RowKit

theorem VStep.mkU {P : Program} {ops : Array Oper} {Q : Exit → Act → World → Prop} {a0 : Act} {w0 : World} {E : World → World → Prop} (hr : ∀ A, E A A) {Fs : List (Value → World → Prop)} {i : Nat} {o : Oper} {g dg : Nat} {b : Bool} (ho : ops[i]? = some o) (hg : o.guard = some (g, b)) (hgd : depB ops i g dg = true)
    (hF : ∀ v W, fAt Fs g v W → v = undef) (hu : ∀ W, fAt Fs i undef W) : VStep P ops Q a0 w0 E Fs i := by
  intro o' ho' a w hd hout hG hdep K hK
  rw [ho] at ho'
  injection ho' with ho'
  subst ho'
  have hy : yielded ops a.tmps g = none := by
    unfold depB at hgd
    rw [Bool.and_eq_true] at hgd
    obtain ⟨og, hog, hdg⟩ := dstB_spec hgd.2
    obtain ⟨v, hv, hf⟩ := hdep g (by simpa using hgd.1) og hog
    rw [hF v w hf] at hv
    unfold yielded
    rw [hog, Option.bind_some, hdg, Option.bind_some, hv dg hdg]
    rfl
  rw [if_neg (by unfold Region.wanted; rw [hg]; dsimp only; rw [hy]; simp)]
  exact hK undef w hG (hr w) (hu w)
end Go.Proofs.Ytchdmemgkegefaa
