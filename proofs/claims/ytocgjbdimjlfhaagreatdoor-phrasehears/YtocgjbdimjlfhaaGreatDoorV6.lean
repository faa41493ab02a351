/- Part 6 of an abstract value machine: a framework of this session's own, in which functions of the program are run once and for all inputs. No condition. -/
import Derived.Test.YtocgjbdimjlfhaaGreatDoorV5
import Derived.Test.YtocgjbdimjlfhaaGreatDoorV3
import Derived.Test.YtocgjbdimjlfhaaGreatDoorV4
import Derived.Laws.World
import Derived.Laws.NewBlocks
import Derived.Shelf.Strings.Split
import Derived.Lib.IndexBytes
/- The abstract value machine: functions of Go's library strings, by the shelf's contracts. -/
namespace Go.Vm
open Go.Proofs Go.Shelf Go.RowKit
set_option linter.unusedVariables false
variable {P : Program} {ρ : Ren}
section
variable {kt : KT}
theorem own_two {w : World} {Y : Nat → Prop} {a b : DV El} {vs : Array Value} {bl : List Nat} (h : OwnL (Own (tabOf kt) w Y) [a, b] vs.toList bl) :
    ∃ u v b1 b2, vs = #[u, v] ∧ Own (tabOf kt) w Y a u b1 ∧ Own (tabOf kt) w Y b v b2 ∧ bl = b1 ++ b2 := by
  obtain ⟨xs⟩ := vs
  cases h with
  | cons h t =>
    cases t with
    | cons h' t' =>
      cases t'
      exact ⟨_, _, _, _, rfl, h, h', by simp⟩
theorem own_str {w : World} {Y : Nat → Prop} {l : List UInt8} {v : Value} {bl : List Nat} (h : Own (tabOf kt) w Y (.str l) v bl) : v = .string ⟨l.toArray⟩ ∧ bl = [] := by
  cases h with
  | c h =>
    cases h with
    | sh hr hs =>
      cases hr
      exact ⟨rfl, rfl⟩
theorem own_int {w : World} {Y : Nat → Prop} {k : IntKind} {i : Int} {v : Value} {bl : List Nat} (h : Own (tabOf kt) w Y (.int k i) v bl) : v = .int k i ∧ bl = [] := by
  cases h with
  | c h =>
    cases h with
    | sh hr hs =>
      cases hr
      exact ⟨rfl, rfl⟩
def sIdxB : Spec Kd := { params := [.a .str, .a (.int .u8)], ret := .one (.a (.int .i64)), pins := [], pl := { nt := 0 }, ts := [] }
def MIdxB (x : List UInt8 × Int) : Option Int := some (Lib.indexByte x.1 x.2.toNat.toUInt8)
theorem ctr_idxB (L : Lays.n217 P ρ) {f : FuncId} {fn : Func} (hf : P.funcs[f]? = some fn) (hb : fn.body.isSome = true) (hname : (fn.name == "runtime.NumGoroutine") = false) (ef : ρ.f 217 = f) :
    Ctr (tabOf kt) P f (conOf (tabOf kt) sIdxB MIdxB) := by
  refine ctr_hand fun x r hx w vs Y bl hown hnd hY _ _ => ?_
  obtain ⟨s, c⟩ := x
  cases hx
  obtain ⟨u, v, b1, b2, rfl, o1, o2, rfl⟩ := own_two hown
  obtain ⟨rfl, rfl⟩ := own_str o1
  obtain ⟨rfl, rfl⟩ := own_int o2
  refine .inl ⟨callFunc_run hf hb hname, ?_⟩
  refine Calls.mono (ef ▸ Any.stringslite_IndexByte L ⟨s.toArray⟩ c w) ?_
  rintro e w' ⟨rfl, rfl⟩
  exact ⟨_, [], [], rfl, by simp, by simp, Ans.c (.sh (rep_int _ _ rfl) rfl), .skip (by intro t cs; exact ⟨nofun, nofun⟩) (.skip (by intro t cs; exact ⟨nofun, nofun⟩) .nil), ⟨rfl, rfl, rfl, Nat.le_refl _, fun _ _ _ => rfl⟩⟩
end
end Go.Vm
