import Derived.Test.YtniclakgfgmhhaaGreatVmIrT
import Derived.Test.YtniclakgfgmhhaaGreatEngW
set_option maxRecDepth 100000
namespace Go.Proofs.YtniclakgfgmhhaaGreat
open Go.Eng
noncomputable def saneK : KV := fun v _ _ => match v with | .bool b => b | _ => false
theorem saneRun : fX 100 irF 100000 16 [] .nil 0 saneK = true := by kernel_rfl
theorem mixedS : Tryz.prog.follows .mixedOrders = true := by kernel_rfl
/-- The check that each law begins with holds, from nothing. -/
theorem sane0 : AC Tryz.prog 16 [] (hpOf .nil) 0 (fun v _ _ => v = .bool true) := by
  refine (AC.runS mixedS irF_ok saneRun).mono ?_
  rintro v H c ⟨H', -, h⟩
  unfold saneK at h
  split at h
  · rw [h]
  · cases h
theorem sane (H : Hp) (c : Nat) : AC Tryz.prog 16 [] H c (fun v H' c' => v = .bool true ∧ H' = H ∧ c' = c) := sane0.lone H c
end Go.Proofs.YtniclakgfgmhhaaGreat
