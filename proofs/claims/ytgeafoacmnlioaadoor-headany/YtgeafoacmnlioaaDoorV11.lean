/- Part 11 of an abstract value machine: a framework of this session's own, in which functions of the program are run once and for all inputs. No condition. -/
import Derived.Test.YtgeafoacmnlioaaDoorV10
import Derived.Test.YtgeafoacmnlioaaDoorV7
import Derived.Shelf.Strconv.Itoa3
import Derived.Shelf.Strconv.AtoiAll
import Derived.Shelf.Strings.Search2
import Derived.Shelf.Strings.OnBuilder
import Derived.Handed
import Derived.SizedLaws
import Derived.Shelf.Vars
/- The abstract value machine: strconv's Itoa, Atoi of any text; strings.Join; where one text stands in another. -/
namespace Go.Vm
open Go.Proofs Go.Shelf Go.RowKit Go.Sort Go.Lib
set_option linter.unusedVariables false
def IntVars (l : List Nat) (w : World) : Prop := ∀ g ∈ l, ∃ m, w.cell? ⟨g, 0, none⟩ = some (.int .i64 m)
theorem intvars_on {l : List Nat} {gb : Nat} (hl : ∀ g ∈ l, g < gb) (w w' : World) (h : IntVars l w) (hw : ∀ b, b < gb → w'.heap[b]? = w.heap[b]?) : IntVars l w' := by
  intro g hg
  obtain ⟨m, hm⟩ := h g hg
  exact ⟨m, by rw [cell_agree (hw g (hl g hg))]; exact hm⟩
theorem handed_shaped {H : Type} {enc : TypeId × Value → H} {a : Assume} {C : Checked} {os : Os} {f : FuncId} {fn : Func} {s : ChangeSpec} {conds : List PathCond} {apart fresh handsOn again : Bool} {X : World → Array Value → Prop}
    (hX : ∀ (w w' : World) (args : Array Value), w.heap = w'.heap → X w args → X w' args)
    (own : ownKnob C.prog.godebug = none) (started : os.Started) (noInit : C.prog.inits.idxOf? f = none) (hfn : C.prog.funcs[f]? = some fn)
    (witness : ∃ (w : World) (tape : Tape) (i : Input), w.os = os ∧ (w.forCall tape i).Shaped C.prog ∧ i.vars = [] ∧ Input.okWide C.prog (w.forCall tape i) .any w.heap.size f i ∧
      ((s.pre enc C.prog fn conds apart (w.forCall tape i).memory i.args ∧ X (w.forCall tape i).memory i.args) ∧ sizedMet enc C.prog fn (OpenSpec.ofChange s) apart (w.forCall tape i).memory i.args) ∧ a.holds C.prog (lone (Frame.enter C.prog f i.args .normal) [] (w.forCall tape i)))
    (contract : ∀ (W : World) (base : Nat) (args : Array Value) (ds gs : List (DataW H)) (before : List MemPlace),
      (∀ (j : Nat) t v, fn.params[j]? = some t → args[j]? = some v → Value.okWide C.prog W .any base t v) →
      DataW.Whole enc C.prog fn.params.toList s.vars apart W args.toList ds gs before →
      conds.all (PathCond.test C.prog ⟨fn.params.toList, ds, s.plain.varTypes C.prog, gs⟩) = true →
      (DataW.weightsEach C.prog (fn.params.toList ++ s.plain.varTypes C.prog) (ds ++ gs)).all (· ≤ reachBytes) = true → X W args → W.ShapedOpen C.prog →
      a.holds C.prog (lone (Frame.enter C.prog f args .normal) [] W) →
      Calls C.prog f args W fun e W' => ∃ v, e = .returned v ∧ s.post enc C.prog fn apart fresh handsOn again W args v W') :
    ReturnsInHanded a C os f .any (fun w args => (s.pre enc C.prog fn conds apart w args ∧ X w args) ∧ sizedMet enc C.prog fn (OpenSpec.ofChange s) apart w args) (s.post enc C.prog fn apart fresh handsOn again) := by
  refine returnsInHanded_of_calls own started noInit witness ?_
  intro w tape i _ hsh _ hok hpre hholds
  obtain ⟨_, _, _, fn', hfn', _, _, _, _, hval⟩ := hok
  have e : fn' = fn := Option.some.inj (hfn'.symm.trans hfn)
  subst e
  obtain ⟨⟨⟨ds, gs, before, hw, hc⟩, hx⟩, hz⟩ := hpre
  have hw' := DataW.Whole.of_heap (w' := w.forCall tape i) (by rfl) hw
  refine (contract (w.forCall tape i) w.heap.size i.args ds gs before hval hw' hc (hz.weights hw) (hX _ _ _ (by rfl) hx) hsh hholds).mono fun e W' ⟨v, he, hp⟩ => ?_
  subst he
  exact ChangeSpec.post_blind hp
section
variable {P : Program} {ρ : Ren} {kt : KT}
def sIndex : Spec Kd := { params := [.a .str, .a .str], ret := .one (.a (.int .i64)), pins := [], pl := { nt := 0 }, ts := [] }
def MIndex (x : List UInt8 × List UInt8) : Option Int := if decide (x.1.length ≤ 4294967280) = true then some (Lib.index x.1 x.2) else none
theorem ctr_index (L : Lays.n219 P ρ) (hgl : ∀ w, kt.gl w → ∃ m, w.cell? ⟨ρ.g 1, 0, none⟩ = some (.int .i64 m)) {f : FuncId} {fn : Func} (hf : P.funcs[f]? = some fn) (hb : fn.body.isSome = true) (hname : (fn.name == "runtime.NumGoroutine") = false) (ef : ρ.f 219 = f) :
    Ctr (tabOf kt) P f (conOf (tabOf kt) sIndex MIndex) := by
  refine ctr_hand fun x r hx w vs Y bl hown hnd hY hg hgb => ?_
  obtain ⟨s, c⟩ := x
  unfold MIndex at hx
  split at hx
  case isFalse => cases hx
  rename_i h1
  have h1 : s.length ≤ 4294967280 := of_decide_eq_true h1
  cases hx
  obtain ⟨u, v, b1, b2, rfl, o1, o2, rfl⟩ := own_two hown
  obtain ⟨rfl, rfl⟩ := own_str o1
  obtain ⟨rfl, rfl⟩ := own_str o2
  refine .inl ⟨callFunc_run hf hb hname, ?_⟩
  obtain ⟨m, hm⟩ := hgl w hg
  have hsz : (⟨s.toArray⟩ : ByteArray).size ≤ 4294967280 := ba_size h1
  refine Calls.mono (ef ▸ Any.stringslite_Index L ⟨s.toArray⟩ ⟨c.toArray⟩ m w (by omega) hm) ?_
  rintro e w' ⟨rfl, rfl⟩
  exact ⟨_, [], [], rfl, by simp, by simp, Ans.c (.sh (rep_int _ _ rfl) rfl), .skip (by intro t cs; exact ⟨nofun, nofun⟩) (.skip (by intro t cs; exact ⟨nofun, nofun⟩) .nil), ⟨rfl, rfl, rfl, Nat.le_refl _, fun _ _ _ => rfl⟩⟩
end
end Go.Vm
