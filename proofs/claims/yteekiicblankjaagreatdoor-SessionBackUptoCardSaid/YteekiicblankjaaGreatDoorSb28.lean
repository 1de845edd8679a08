import Derived.Test.YteekiicblankjaaGreatDoorSb27
import Derived.JoinedCond
import Derived.Leaving
import Derived.ClaimOpenTies
set_option linter.unusedVariables false
set_option linter.unusedSectionVars false
set_option linter.unusedSimpArgs false
namespace Go
def OpenClaim.stays (c : OpenClaim) : OpenClaim := { c with leaving := false }
theorem a43 {P : Program} {m : Machine} {w : World} {t : Trace} (h : aloneAtReturn P m w t) : leavingAtReturn P m w t :=
 ⟨h.2.1, onlyLeaving_of_quiet h.1, h.2.2⟩
theorem OpenClaim.holds_of_stays {p : Pinned} {s : OpenSpec} {c : OpenClaim} (hstart : c.start = .entering) (hst : c.stops = []) (hwf : c.wf s = true) (h : c.stays.holds p s) : c.holds p s := by
 obtain ⟨_, q2, q3, q4, q5, q6, q7, q8, f, fn, r1, r2, r3, r4, r5, r6, r7, r8, r9, r10, r11, r12, r13, r14, r15, r16, r17, r18, r19, r20, r21, L, hL, main⟩ := h
 refine ⟨hwf, q2, q3, q4, q5, q6, q7, q8, f, fn, r1, r2, r3, r4, r5, r6, r7, r8, r9, r10, r11, r12, r13, r14, r15, r16, r17, r18, r19, r20, r21, L, hL, fun os hw hq H enc inj => ?_⟩
 have hm := main os hw hq H enc inj
 unfold OpenClaim.form at hm ⊢
 have e1 : c.stays.start = .entering := hstart
 have e2 : c.stays.stops = [] := hst
 rw [e1, e2] at hm
 rw [hstart, hst]
 intro F
 refine ReturnsInOpen.mono (fun m w t hx => ?_) (fun _ x => x) (hm F)
 have hy : aloneAtReturn p.checked.prog m w t := hx
 unfold OpenClaim.atReturn
 cases c.leaving with
 | false => exact hy
 | true => exact a43 hy
theorem a3k {P : Program} {f : FuncId} {fn : Func} {s : ChangeSpec} {c : OpenClaim} (h : joinedFacts P f fn s c = true) (hw : c.stays.wf (OpenSpec.ofChange s) = true) : joinedFacts P f fn s c.stays = true := by
 unfold joinedFacts at h ⊢
 cases hc : c.wf (OpenSpec.ofChange s) with
 | false => rw [hc] at h; simp only [Bool.false_and] at h; cases h
 | true => rw [hc] at h; rw [hw]; exact h
end Go
