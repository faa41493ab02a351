/- Part 10 of an abstract value machine: a framework of this session's own, in which functions of the program are run once and for all inputs. No condition. -/
import Derived.Test.YtgeafoacmnlioaaDoorV9
import Derived.Shelf.Strings.SlTrimAscii
/- The abstract value machine: strings.Trim at a set of ascii bytes. -/
namespace Go.Vm
open Go.Proofs Go.Shelf Go.RowKit
set_option linter.unusedVariables false
variable {P : Program} {ρ : Ren} {kt : KT}
def sTrim : Spec Kd := { params := [.a .str, .a .str], ret := .one (.a .str), pins := [], pl := { nt := 0 }, ts := [] }
def MTrim (x : List UInt8 × List UInt8) : Option (List UInt8) := if decide (x.1.length ≤ 9223372036854775807) = true then if decide (x.2.length ≤ 4294967280) = true then if (x.2.all fun b => decide (b.toNat < 128)) = true then some (Lib.trimS x.1 x.2) else none else none else none
theorem ctr_trim (L : Lays.n160 P ρ) (h116 : (P.info? (ρ.t 116)).map (fun i => (i.zero, i.size)) = some (some (.agg (Array.replicate 256 (.bool false))), 256)) {f : FuncId} {fn : Func} (hf : P.funcs[f]? = some fn) (hb : fn.body.isSome = true) (hname : (fn.name == "runtime.NumGoroutine") = false) (ef : ρ.f 160 = f) :
    Ctr (tabOf kt) P f (conOf (tabOf kt) sTrim MTrim) := by
  refine ctr_hand fun x r hx w vs Y bl hown hnd hY hg hgb => ?_
  obtain ⟨s, c⟩ := x
  unfold MTrim at hx
  split at hx
  case isFalse => cases hx
  rename_i h1
  split at hx
  case isFalse => cases hx
  rename_i h2
  split at hx
  case isFalse => cases hx
  rename_i h3
  have h1 := of_decide_eq_true h1
  have h2 := of_decide_eq_true h2
  cases hx
  obtain ⟨u, v, b1, b2, rfl, o1, o2, rfl⟩ := own_two hown
  obtain ⟨rfl, rfl⟩ := own_str o1
  obtain ⟨rfl, rfl⟩ := own_str o2
  refine .inl ⟨callFunc_run hf hb hname, ?_⟩
  refine Calls.mono (ef ▸ Any.strings_Trim_laid L h116 ⟨s.toArray⟩ ⟨c.toArray⟩ w (ba_size h1) (Nat.lt_of_le_of_lt (ba_size h2) (by decide)) (by simpa using ascii_of_all h3)) ?_
  rintro e w' ⟨rfl, hw⟩
  refine ⟨_, [], [], rfl, by simp, by simp, .c (.sh (rep_string (⟨(Lib.trimS s c).toArray⟩ : ByteArray)) ?_), .skip (by intro t cs; exact ⟨nofun, nofun⟩) (.skip (by intro t cs; exact ⟨nofun, nofun⟩) .nil), ⟨hw.os, hw.tape, hw.output, hw.size, fun k hk _ => hw.block k hk⟩⟩
  rfl
end Go.Vm
