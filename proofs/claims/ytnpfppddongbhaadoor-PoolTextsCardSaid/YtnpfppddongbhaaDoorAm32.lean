/-
  The abstract machine, part 32: one function of a program: sound, and entered where it is called.
-/
import Derived.Test.YtnpfppddongbhaaDoorAm31
namespace Go.AM
open Go
set_option autoImplicit false

/-- Sound, and entered where it is called. -/
def Snd (P : Program) (f : FuncId) (g : Fun) : Prop := FSound P f g ∧ Enters P f

theorem denF_fsound {P : Program} (hm : P.follows .mixedOrders = true) {γ : FuncId → Option Fun} (hγ : GSound P γ) {f : FuncId} {fn : Func} (x : Hint) (hf : P.funcs[f]? = some fn) : FSound P f (denF P γ fn x) := by
  cases hb : fn.body with
  | some c => exact denF_sound hm hγ x hf hb
  | none =>
    intro N0 hN ρ h w args Args v h' e
    unfold denF at e
    rw [hb] at e
    cases e

theorem snd_of {P : Program} (hm : P.follows .mixedOrders = true) {γ : FuncId → Option Fun} (hγ : GSound P γ) {f : FuncId} {fn : Func} {x : Hint} {g : Fun} (hf : P.funcs[f]? = some fn)
    (hn : (fn.name == "runtime.NumGoroutine") = false) (hb : fn.body.isSome = true) (e : g = denF P γ fn x) : Snd P f g := by
  obtain ⟨c, hc⟩ := Option.isSome_iff_exists.1 hb
  exact ⟨e ▸ denF_fsound hm hγ x hf, enters_of hf hn hc⟩

theorem snd_fail {P : Program} {f : FuncId} {fn : Func} (hf : P.funcs[f]? = some fn) (hn : (fn.name == "runtime.NumGoroutine") = false) (hb : fn.body.isSome = true) : Snd P f (fun _ _ => .fail) := by
  obtain ⟨c, hc⟩ := Option.isSome_iff_exists.1 hb
  exact ⟨fun N0 hN ρ h w args Args v h' e => (by cases e), enters_of hf hn hc⟩

theorem gcons {P : Program} {f : FuncId} {g : Fun} {l : List (Nat × Fun)} (h1 : Snd P f g) (h3 : GSound P (gam l)) : GSound P (gam ((f, g) :: l)) := gam_cons h1.1 h1.2 h3
/-- A function that answers where it is called. -/
theorem gconsE {P : Program} {f : FuncId} {g : Fun} {l : List (Nat × Fun)} (h1 : ESound P f g) (h3 : GSound P (gam l)) : GSound P (gam ((f, g) :: l)) := gam_consO (.inr h1) h3
theorem gnil {P : Program} : GSound P (gam []) := gam_nil
end Go.AM
