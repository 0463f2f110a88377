/- Functions that hold a label. No program is named. -/
import Derived.Test.YtomplpdeeomehaaHStr
import Derived.WalkMore
import Derived.AtR
namespace Go.Proofs.Ytomplpdeeomehaa
set_option linter.unusedVariables false
set_option linter.unusedSimpArgs false
open Go.RowKit
section
variable {P : Program} {b : Frame} {a : Act} {k : List Item} {cs : List Frame} {w : World} {Q : Exit → Act → World → Prop} {F : Fence} {n : Nat}
theorem stepR_scope {c : Code} : step P (lone (b.atR a (.code (.scope c) :: k)) cs w) = .next (lone (b.atR a (.code c :: .inScope c :: k)) cs w) :=
  step_lone_go (by simp [stepG, stepG.exec, Frame.atR])
theorem stepR_inScope {c : Code} : step P (lone (b.atR a (.inScope c :: k)) cs w) = .next (lone (b.atR a k) cs w) :=
  step_lone_go (by simp [stepG, stepG.exec, Frame.atR])
theorem wpIn_scope {c : Code} (h : c.wpIn F n P (Exit.noGoto Q) a w) : (Code.scope c).wpIn F n P Q a w := by
  intro b k cs hro hb hr
  have h0 : (lone (b.atR a (.code (.scope c) :: k)) cs w).fenced P F := fenced_calm hb hr rfl
  obtain ⟨e, a₁, w₁, hq, harr⟩ := h b (.inScope c :: k) cs hro hb hr
  cases e with
  | normal => exact ⟨.normal, a₁, w₁, hq, .head h0 stepR_scope (StepsIn.trans harr (.one (fenced_calm hb hr rfl) stepR_inScope))⟩
  | exit id =>
    have hx : exitTo id (.inScope c :: k) = exitTo id k := by simp [exitTo]
    exact ⟨.exit id, a₁, w₁, hq, fun k' hk => .head h0 stepR_scope (harr.1 k' (by rw [hx]; exact hk)),
      fun hr' hk => let ⟨k₁, h1, h2⟩ := harr.2 hr' (by rw [hx]; exact hk); ⟨k₁, h1, .head h0 stepR_scope h2⟩⟩
  | goto l => exact hq.elim
  | ret => exact ⟨_, a₁, w₁, hq, .of_steps (.one h0 stepR_scope) harr⟩
  | panic ch => exact ⟨_, a₁, w₁, hq, .of_steps (.one h0 stepR_scope) harr⟩
  | outgrown => exact ⟨_, a₁, w₁, hq, .of_steps (.one h0 stepR_scope) harr⟩
end
section
variable {κ : Ctx} {P : Program} {N : Nat} {c : Code} {F : FE} {L : List SA} {Q : Exit → Act → World → Prop}
theorem TC.scope (h : TC κ P N c F L (Exit.noGoto Q)) : TC κ P N (.scope c) F L Q := fun ds a w ha hd hw => wpIn_scope (h ds a w ha hd hw)
theorem TC.label {l : Nat} (h : TQ κ N .normal F L Q) : TC κ P N (.label l) F L Q := fun ds a w ha hd hw => wpIn_label (h ds a w ha hd hw)
theorem TQ.scope_normal (h : TQ κ N .normal F L Q) : TQ κ N .normal F L (Exit.noGoto Q) := h
theorem TQ.scope_ret (h : TQ κ N .ret F L Q) : TQ κ N .ret F L (Exit.noGoto Q) := h
theorem TQ.scope_exit {id : Nat} (h : TQ κ N (.exit id) F L Q) : TQ κ N (.exit id) F L (Exit.noGoto Q) := h
end
end Go.Proofs.Ytomplpdeeomehaa
