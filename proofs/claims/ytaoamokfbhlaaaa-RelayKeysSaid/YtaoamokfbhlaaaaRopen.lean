/- Walks, printed by a program of this session. -/
import Derived.Test.YtaoamokfbhlaaaaK
import Derived.Test.Ytaoamokfbhlaaaapure21
import Derived.Test.YtaoamokfbhlaaaaE9
set_option linter.unusedVariables false
set_option linter.unusedSimpArgs false
set_option maxRecDepth 100000
namespace Go.Proofs.Ytaoamokfbhlaaaa.E
open Go Go.RowKit
open Go.Proofs
theorem opens68 : Opens Try.prog 68 tSmall := by
  intro H enc w sp held fuel cs x h hw
  obtain ⟨hl, hf⟩ := opens_field (fs := #[⟨"Kind", 5, 0, false, "", "", 0⟩, ⟨"Channel", 5, 1, false, "", "", 1⟩, ⟨"Seq", 5, 2, false, "", "", 2⟩, ⟨"Late", 4, 3, false, "", "", 3⟩, ⟨"OK", 4, 4, false, "", "", 4⟩]) (by kernel_rfl) h hw
  obtain ⟨a0, e0⟩ := hf 0 _ rfl (opens_u8 U5) 0 1 rfl (by kernel_rfl)
  obtain ⟨a1, e1⟩ := hf 1 _ rfl (opens_u8 U5) 1 1 rfl (by kernel_rfl)
  obtain ⟨a2, e2⟩ := hf 2 _ rfl (opens_u8 U5) 2 1 rfl (by kernel_rfl)
  obtain ⟨a3, e3⟩ := hf 3 _ rfl (opens_bool U4) 3 1 rfl (by kernel_rfl)
  obtain ⟨a4, e4⟩ := hf 4 _ rfl (opens_bool U4) 4 1 rfl (by kernel_rfl)
  have hl : cs.length = 5 := hl.trans (by kernel_rfl)
  obtain ⟨c0, c1, c2, c3, c4, rfl⟩ : ∃ c0 c1 c2 c3 c4, cs = [c0, c1, c2, c3, c4] := by
    match cs, hl with
    | [c0, c1, c2, c3, c4], _ => exact ⟨_, _, _, _, _, rfl⟩
  refine ⟨⟨a0, a1, a2, a3, a4⟩, ?_⟩
  show [c0, c1, c2, c3, c4] = encSmall _
  have e0 : [c0] = [(bv a0)] := e0
  have e1 : [c1] = [(bv a1)] := e1
  have e2 : [c2] = [(bv a2)] := e2
  have e3 : [c3] = [(Value.bool a3)] := e3
  have e4 : [c4] = [(Value.bool a4)] := e4
  simp only [List.cons.injEq, and_true] at e0 e1 e2 e3 e4
  simp_all [encSmall]
end Go.Proofs.Ytaoamokfbhlaaaa.E
