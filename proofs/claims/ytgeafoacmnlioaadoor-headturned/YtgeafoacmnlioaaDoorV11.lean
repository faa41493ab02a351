/- Part 11 of an abstract value machine: a framework of this session's own, in which functions of the program are run once and for all inputs. No condition. -/
import Derived.Test.YtgeafoacmnlioaaDoorV10
import Derived.Test.YtgeafoacmnlioaaDoorV7
import Derived.Shelf.Strconv.Itoa3
import Derived.Shelf.Strconv.AtoiAll
import Derived.Shelf.Strings.Search2
import Derived.Shelf.Strings.OnBuilder
import Derived.Handed
import Derived.SizedLaws
import Derived.Shelf.Vars
/- The abstract value machine: strconv's Itoa, Atoi of any text; strings.Join; where one text stands in another. -/
namespace Go.Vm
open Go.Proofs Go.Shelf Go.RowKit Go.Sort Go.Lib
set_option linter.unusedVariables false
def IntVars (l : List Nat) (w : World) : Prop := ∀ g ∈ l, ∃ m, w.cell? ⟨g, 0, none⟩ = some (.int .i64 m)
theorem intvars_on {l : List Nat} {gb : Nat} (hl : ∀ g ∈ l, g < gb) (w w' : World) (h : IntVars l w) (hw : ∀ b, b < gb → w'.heap[b]? = w.heap[b]?) : IntVars l w' := by
  intro g hg
  obtain ⟨m, hm⟩ := h g hg
  exact ⟨m, by rw [cell_agree (hw g (hl g hg))]; exact hm⟩
theorem handed_shaped {H : Type} {enc : TypeId × Value → H} {a : Assume} {C : Checked} {os : Os} {f : FuncId} {fn : Func} {s : ChangeSpec} {conds : List PathCond} {apart fresh handsOn again : Bool} {X : World → Array Value → Prop}
    (hX : ∀ (w w' : World) (args : Array Value), w.heap = w'.heap → X w args → X w' args)
    (own : ownKnob C.prog.godebug = none) (started : os.Started) (noInit : C.prog.inits.idxOf? f = none) (hfn : C.prog.funcs[f]? = some fn)
    (witness : ∃ (w : World) (tape : Tape) (i : Input), w.os = os ∧ (w.forCall tape i).Shaped C.prog ∧ i.vars = [] ∧ Input.okWide C.prog (w.forCall tape i) .any w.heap.size f i ∧
      ((s.pre enc C.prog fn conds apart (w.forCall tape i).memory i.args ∧ X (w.forCall tape i).memory i.args) ∧ sizedMet enc C.prog fn (OpenSpec.ofChange s) apart (w.forCall tape i).memory i.args) ∧ a.holds C.prog (lone (Frame.enter C.prog f i.args .normal) [] (w.forCall tape i)))
    (contract : ∀ (W : World) (base : Nat) (args : Array Value) (ds gs : List (DataW H)) (before : List MemPlace),
      (∀ (j : Nat) t v, fn.params[j]? = some t → args[j]? = some v → Value.okWide C.prog W .any base t v) →
      DataW.Whole enc C.prog fn.params.toList s.vars apart W args.toList ds gs before →
      conds.all (PathCond.test C.prog ⟨fn.params.toList, ds, s.plain.varTypes C.prog, gs⟩) = true →
      (DataW.weightsEach C.prog (fn.params.toList ++ s.plain.varTypes C.prog) (ds ++ gs)).all (· ≤ reachBytes) = true → X W args → W.ShapedOpen C.prog →
      a.holds C.prog (lone (Frame.enter C.prog f args .normal) [] W) →
      Calls C.prog f args W fun e W' => ∃ v, e = .returned v ∧ s.post enc C.prog fn apart fresh handsOn again W args v W') :
    ReturnsInHanded a C os f .any (fun w args => (s.pre enc C.prog fn conds apart w args ∧ X w args) ∧ sizedMet enc C.prog fn (OpenSpec.ofChange s) apart w args) (s.post enc C.prog fn apart fresh handsOn again) := by
  refine returnsInHanded_of_calls own started noInit witness ?_
  intro w tape i _ hsh _ hok hpre hholds
  obtain ⟨_, _, _, fn', hfn', _, _, _, _, hval⟩ := hok
  have e : fn' = fn := Option.some.inj (hfn'.symm.trans hfn)
  subst e
  obtain ⟨⟨⟨ds, gs, before, hw, hc⟩, hx⟩, hz⟩ := hpre
  have hw' := DataW.Whole.of_heap (w' := w.forCall tape i) (by rfl) hw
  refine (contract (w.forCall tape i) w.heap.size i.args ds gs before hval hw' hc (hz.weights hw) (hX _ _ _ (by rfl) hx) hsh hholds).mono fun e W' ⟨v, he, hp⟩ => ?_
  subst he
  exact ChangeSpec.post_blind hp
section
variable {P : Program} {ρ : Ren} {kt : KT}
def sIndex : Spec Kd := { params := [.a .str, .a .str], ret := .one (.a (.int .i64)), pins := [], pl := { nt := 0 }, ts := [] }
def MIndex (x : List UInt8 × List UInt8) : Option Int := if decide (x.1.length ≤ 4294967280) = true then some (Lib.index x.1 x.2) else none
theorem ctr_index (L : Lays.n219 P ρ) (hgl : ∀ w, kt.gl w → ∃ m, w.cell? ⟨ρ.g 1, 0, none⟩ = some (.int .i64 m)) {f : FuncId} {fn : Func} (hf : P.funcs[f]? = some fn) (hb : fn.body.isSome = true) (hname : (fn.name == "runtime.NumGoroutine") = false) (ef : ρ.f 219 = f) :
    Ctr (tabOf kt) P f (conOf (tabOf kt) sIndex MIndex) := by
  refine ctr_hand fun x r hx w vs Y bl hown hnd hY hg hgb => ?_
  obtain ⟨s, c⟩ := x
  unfold MIndex at hx
  split at hx
  case isFalse => cases hx
  rename_i h1
  have h1 : s.length ≤ 4294967280 := of_decide_eq_true h1
  cases hx
  obtain ⟨u, v, b1, b2, rfl, o1, o2, rfl⟩ := own_two hown
  obtain ⟨rfl, rfl⟩ := own_str o1
  obtain ⟨rfl, rfl⟩ := own_str o2
  refine .inl ⟨callFunc_run hf hb hname, ?_⟩
  obtain ⟨m, hm⟩ := hgl w hg
  have hsz : (⟨s.toArray⟩ : ByteArray).size ≤ 4294967280 := ba_size h1
  refine Calls.mono (ef ▸ Any.stringslite_Index L ⟨s.toArray⟩ ⟨c.toArray⟩ m w (by omega) hm) ?_
  rintro e w' ⟨rfl, rfl⟩
  exact ⟨_, [], [], rfl, by simp, by simp, Ans.c (.sh (rep_int _ _ rfl) rfl), .skip (by intro t cs; exact ⟨nofun, nofun⟩) (.skip (by intro t cs; exact ⟨nofun, nofun⟩) .nil), ⟨rfl, rfl, rfl, Nat.le_refl _, fun _ _ _ => rfl⟩⟩
theorem own_slcS {w : World} {Y : Nat → Prop} {l : List (List UInt8)} {v : Value} {bl : List Nat} (h : Own (tabOf kt) w Y (.slc .str l) v bl) :
    bl = [] ∧ ((l = [] ∧ ∃ a c, v = .slice a 0 c) ∨ ∃ b off cap, v = .slice (some ⟨b, off, none⟩) l.length cap ∧ l.length ≤ cap ∧ b < w.heap.size ∧ ∀ (j : Nat) x, (l.map fun s => (⟨s.toArray⟩ : ByteArray))[j]? = some x → w.cell? ⟨b, off + j, none⟩ = some (.string x)) := by
  cases h with
  | c h =>
    cases h with
    | sh hr hs =>
      refine ⟨rfl, ?_⟩
      cases hr with
      | slcn k => exact .inl ⟨rfl, _, _, rfl⟩
      | slcz k a c => exact .inl ⟨rfl, _, _, rfl⟩
      | slc cap f hn hX hc hr ho =>
        rename_i b off
        rcases Nat.eq_zero_or_pos l.length with h0 | h0
        · obtain rfl : l = [] := List.length_eq_zero_iff.1 h0
          exact .inl ⟨rfl, _, _, rfl⟩
        · refine .inr ⟨b, off, cap, rfl, hn, (hX h0).2, fun j x hx => ?_⟩
          rw [List.getElem?_map] at hx
          obtain ⟨s, hs1, rfl⟩ := Option.map_eq_some_iff.1 hx
          obtain ⟨hj, rfl⟩ := List.getElem?_eq_some_iff.1 hs1
          have e1 : j * (tabOf kt).sz .str + 0 = j := by show j * 1 + 0 = j; omega
          have h2 : Rep (tabOf kt) w Y (.str l[j]) (f (j * (tabOf kt).sz .str + 0)) := hr j hj 0 (Nat.lt_succ_self 0)
          rw [e1] at h2
          rw [hc j (by show j < l.length * 1; omega)]
          generalize f j = u at h2
          cases h2
          rfl
theorem join_calls (L : Lays.n156 P ρ) (X : Builder.Extra P ρ) (b off cap : Nat) (l : List (List UInt8)) (c : List UInt8) (w : World) (hcells : ∀ (j : Nat) x, (l.map fun s => (⟨s.toArray⟩ : ByteArray))[j]? = some x → w.cell? ⟨b, off + j, none⟩ = some (.string x)) (hlt : b < w.heap.size) (hN : l.length ≤ 140737488355328) (hcap : l.length ≤ cap) (h2 : (Lib.join l c).length ≤ 140737488355328) :
    Calls P (ρ.f 156) #[.slice (some ⟨b, off, none⟩) l.length cap, .string ⟨c.toArray⟩] w fun e w' => e = .returned (.string ⟨(Lib.join l c).toArray⟩) ∧ Below w.heap.size w w' := by
  have e1 : (l.map fun s => (⟨s.toArray⟩ : ByteArray)).map (fun x => x.data.toList) = l := by rw [List.map_map]; simp [Function.comp_def]
  have hJ := Any.strings_Join L X b off cap (l.map fun s => (⟨s.toArray⟩ : ByteArray)) ⟨c.toArray⟩ w hcells hlt (by rw [List.length_map]; omega) (by rw [List.length_map]; omega) (by rw [e1]; exact h2)
  rw [e1, List.length_map] at hJ
  exact hJ
def sJoin : Spec Kd := { params := [.a (.slc .str), .a .str], ret := .one (.a .str), pins := [], pl := { nt := 0 }, ts := [] }
def MJoin (x : List (List UInt8) × List UInt8) : Option (List UInt8) := if decide (x.1.length ≤ 140737488355328) = true then if decide ((Lib.join x.1 x.2).length ≤ 140737488355328) = true then some (Lib.join x.1 x.2) else none else none
theorem ctr_join (L : Lays.n156 P ρ) (X : Builder.Extra P ρ) {f : FuncId} {fn : Func} (hf : P.funcs[f]? = some fn) (hb : fn.body.isSome = true) (hname : (fn.name == "runtime.NumGoroutine") = false) (ef : ρ.f 156 = f) :
    Ctr (tabOf kt) P f (conOf (tabOf kt) sJoin MJoin) := by
  refine ctr_hand fun x r hx w vs Y bl hown hnd hY hg hgb => ?_
  obtain ⟨l, c⟩ := x
  unfold MJoin at hx
  split at hx
  case isFalse => cases hx
  rename_i h1
  have h1 : l.length ≤ 140737488355328 := of_decide_eq_true h1
  split at hx
  case isFalse => cases hx
  rename_i h2
  have h2 : (Lib.join l c).length ≤ 140737488355328 := of_decide_eq_true h2
  cases hx
  obtain ⟨u, v, b1, b2, rfl, o1, o2, rfl⟩ := own_two hown
  obtain ⟨rfl, rfl⟩ := own_str o2
  obtain ⟨rfl, o3⟩ := own_slcS o1
  refine .inl ⟨callFunc_run hf hb hname, ?_⟩
  have fin : ∀ (e : Ending) (w' : World), e = .returned (.string ⟨(Lib.join l c).toArray⟩) → Below w.heap.size w w' → Comes (tabOf kt) sJoin (absSs (tabOf kt) sJoin.params (l, c)) (Lib.join l c) w [u, .string ⟨c.toArray⟩] Y [] e w' := by
    rintro e w' rfl hw
    exact ⟨_, [], [], rfl, by simp, by simp, Ans.c (.sh (.str _) rfl), .skip (by intro t cs; exact ⟨nofun, nofun⟩) (.skip (by intro t cs; exact ⟨nofun, nofun⟩) .nil), ⟨hw.os, hw.tape, hw.output, hw.size, fun k hk _ => hw.block k hk⟩⟩
  rcases o3 with ⟨rfl, a, cap, rfl⟩ | ⟨b, off, cap, rfl, hcap, hlt, hcells⟩
  · refine Calls.mono (ef ▸ Any.strings_Join_none L X a cap ⟨c.toArray⟩ w) ?_
    rintro e w' ⟨rfl, rfl⟩
    exact fin _ _ rfl (Below.refl _ _)
  · have hJ := join_calls L X b off cap l c w hcells hlt h1 hcap h2
    refine Calls.mono (ef ▸ hJ) ?_
    rintro e w' ⟨rfl, hw⟩
    exact fin _ _ rfl hw
end
end Go.Vm
