/-
  THE ENGINE, part O: the table of a program's functions as a trie.
-/
import Derived.Test.YtniclakgfgmhhaaGreatEngN
set_option linter.unusedVariables false
namespace Go.Eng

def Tr.ofL {α : Type} : List (Nat × α) → Tr α
  | [] => .nil
  | (n, x) :: r => (Tr.ofL r).set n (some x)

theorem Tr.ofL_mem {α : Type} : ∀ (l : List (Nat × α)) (n : Nat) (x : α), (Tr.ofL l).get n = some x → (n, x) ∈ l
  | [], n, x, h => by cases h
  | (m, y) :: r, n, x, h => by
    rw [Tr.ofL, Tr.get_set] at h
    split at h
    · rename_i e; subst e; cases h; exact List.mem_cons_self
    · exact List.mem_cons_of_mem _ (Tr.ofL_mem r n x h)

theorem table_ok {P : Program} {F : Tr IFn} {L : List (Nat × IFn)} (hF : F = Tr.ofL L) (hL : ∀ p ∈ L, (P.funcs[p.1]?).bind (trFn P) = some p.2) :
    ∀ f i, F.get f = some i → IsFn P f i := by
  intro f i h
  rw [hF] at h
  exact hL _ (Tr.ofL_mem L f i h)
end Go.Eng
