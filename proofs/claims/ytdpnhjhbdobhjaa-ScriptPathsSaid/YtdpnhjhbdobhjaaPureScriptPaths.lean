/- Any byte's path is the document's, and may be. No conditions. -/
import Derived.Test.YtdpnhjhbdobhjaaG8
namespace Go.Proofs.Ytdpnhjhbdobhjaa.Pure
open Go.RowKit Go.Proofs.Ytdpnhjhbdobhjaa.G Go.Proofs.YtdpnhjhbdobhjaaW.PrintWords Go.Proofs.YtdpnhjhbdobhjaaW.PrintLast
set_option maxRecDepth 100000
theorem each_path : ∀ i : Fin 256, flintlaw25_ScriptPaths.f 300 (i.val : Int) = some true := by decide +kernel
theorem ScriptPaths : flintlaw25_ScriptPaths.Pure := by
  intro a ha
  have h : 0 ≤ a ∧ a ≤ 255 := by simpa [Lit.wf, IntKind.min, IntKind.max, IntKind.signed, IntKind.bits] using ha
  obtain ⟨n, rfl⟩ := Int.eq_ofNat_of_zero_le h.1
  exact ⟨300, each_path ⟨n, by omega⟩⟩
end Go.Proofs.Ytdpnhjhbdobhjaa.Pure
