/-
  What the statements ask of the memory afterwards.
-/
import Derived.Test.YtpcdldakilkldaaK15
import Derived.ProofKit
namespace Go.Wk
open Go
theorem ExtW.kept {w w' : World} (h : ExtW [] w w') (may : MemPlace → Prop) : w.keptBut w' may :=
  ⟨h.os, h.output, fun i hi => by
    rw [h.block i hi List.not_mem_nil]
    cases w.heap[i]? with
    | none => rfl
    | some o => cases o with
      | cells c t f => exact ⟨rfl, rfl, rfl, fun _ _ => rfl⟩
      | map es k => exact .inr ⟨rfl, rfl⟩
      | _ => rfl⟩
end Go.Wk
