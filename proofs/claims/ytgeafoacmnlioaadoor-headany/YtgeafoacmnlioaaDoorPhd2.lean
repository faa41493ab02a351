/- Names rising, plainly: any sorting of them is one list. No condition. -/
import Derived.Test.YtgeafoacmnlioaaDoorPpg3
namespace Go.Vm
set_option linter.unusedVariables false
set_option linter.unusedSimpArgs false
set_option linter.unusedSectionVars false
section
variable {K : Type} [DecidableEq K] {lt : K → K → Bool}
theorem fil_rep (k : K) (a : List K) : filS (fun x => x) k a = List.replicate (filS (fun x => x) k a).length k :=
  List.eq_replicate_iff.2 ⟨rfl, fun x hx => (filS_mem.1 hx).2⟩
theorem srt_one (ho : OrdK lt) {a b : List K} (ha : leS (fun x : K => x) lt a) (hb : leS (fun x : K => x) lt b) (hp : a.Perm b) : a = b := by
  refine sorted_one ho a b ha hb (fun k => ?_)
  rw [fil_rep k a, fil_rep k b]
  have := (hp.filter fun e => decide (e = k)).length_eq
  unfold filS
  rw [this]
theorem putS_perm (x : K) : ∀ l : List K, (putS (fun x : K => x) lt x l).Perm (x :: l)
  | [] => List.Perm.refl _
  | y :: l => by
    unfold putS
    split
    · exact ((putS_perm x l).cons y).trans (List.Perm.swap x y l)
    · exact List.Perm.refl _
theorem putS_ins (x : K) : ∀ l : List K, putS (fun x : K => x) lt x l = insS (fun x : K => x) lt x l
  | [] => rfl
  | y :: l => by
    unfold putS insS
    rw [putS_ins x l]
def putAll (lt : K → K → Bool) : List K → List K → List K
  | out, [] => out
  | out, x :: l => putAll lt (putS (fun x : K => x) lt x out) l
theorem putAll_le (ho : OrdK lt) : ∀ (l out : List K), leS (fun x : K => x) lt out → leS (fun x : K => x) lt (putAll lt out l) ∧ (putAll lt out l).Perm (out ++ l)
  | [], out, h => ⟨h, by
      show out.Perm (out ++ [])
      rw [List.append_nil]⟩
  | x :: l, out, h => by
    obtain ⟨h1, h2⟩ := putAll_le ho l (putS (fun x : K => x) lt x out) (by rw [putS_ins]; exact insS_le ho x out h)
    refine ⟨h1, h2.trans ?_⟩
    exact ((putS_perm x out).append_right l).trans (List.perm_middle.symm)
theorem sort_put (ho : OrdK lt) (l r : List K) (hr : leS (fun x : K => x) lt r) (hp : r.Perm l) : r = putAll lt [] l := by
  obtain ⟨h1, h2⟩ := putAll_le ho l [] trivial
  exact srt_one ho hr h1 (hp.trans h2.symm)
end
end Go.Vm
