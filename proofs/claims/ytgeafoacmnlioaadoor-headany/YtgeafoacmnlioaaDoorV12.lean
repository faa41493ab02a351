/- Part 12 of an abstract value machine: a framework of this session's own, in which functions of the program are run once and for all inputs. No condition. -/
import Derived.Test.YtgeafoacmnlioaaDoorV11
import Derived.Shelf.Sort.Plain
import Derived.Shelf.Slices.In.SortNone
/- The abstract value machine: slices.Sort at texts. -/
namespace Go.Vm
open Go.Proofs Go.Shelf Go.RowKit Go.Sort Go.Lib
set_option linter.unusedVariables false
section
variable {P : Program} {kt : KT}
abbrev sortB (l : List (List UInt8)) : List (List UInt8) := l.mergeSort fun x y => decide (x ≤ y)
theorem els_strs {w : World} {X : Nat → Prop} {l : List (List UInt8)} {xs : List Value} (h : Els (tabOf kt) w X .str l xs) : xs = l.map encStr := by
  have hlen : xs.length = l.length * 1 := h.len
  apply List.ext_getElem?
  intro i
  by_cases hi : i < l.length
  · obtain ⟨v, a, r⟩ := h.rep i hi 0 (by show 0 < 1; omega)
    have r' : Rep (tabOf kt) w X (.str l[i]) v := r
    cases r'
    have a' : xs[i * 1 + 0]? = some (.string ⟨l[i].toArray⟩) := a
    rw [show i = i * 1 + 0 by omega, a']
    simp [hi, encStr]
  · rw [List.getElem?_eq_none (by omega), List.getElem?_eq_none (by simp; omega)]
theorem els_of_strs {w : World} {X : Nat → Prop} (l : List (List UInt8)) : Els (tabOf kt) w X .str l (l.map encStr) := by
  refine ⟨by show _ = l.length * 1; simp, fun u hu => ?_, fun i hi c hcc => ?_, fun i hi c hcc => ?_⟩
  · obtain ⟨s, _, rfl⟩ := List.mem_map.1 hu; rfl
  · have hc : c < 1 := hcc
    have : c = 0 := by omega
    subst this
    refine ⟨.string ⟨l[i].toArray⟩, ?_, Rep.str _⟩
    show (l.map encStr)[i * 1 + 0]? = _
    rw [show i * 1 + 0 = i by omega]
    simp [hi, encStr]
  · have hc : c < 1 := hcc
    have : c = 0 := by omega
    subst this
    rfl
def sSortB (e : TypeId) : Spec Kd := { params := [.newb e [.row e .str]], ret := .one (.a .junk), pins := [[.row e .str]], pl := { nt := 0 }, ts := [] }
def MSortB (x : List (List UInt8) × Unit) : Option (Unit × (List (List UInt8) × Unit)) := if decide (x.1.length ≤ 1000000000000) = true then some ((), (sortB x.1, ())) else none
theorem heap_put {w : World} {n g : Nat} {os : Array Obj} {d : Array (List UInt8)} {cur : Array Value} {e : TypeId} {fz : Nat × Nat} (hg : w.heap[g]? = some (.cells cur e fz)) : (grow (putRow encStr (Sort.ahead w n) g 0 d) os).heap[g]? = some (.cells (putCells encStr 0 d cur) e fz) := by
  have hlt := heap_lt hg
  unfold putRow mapBlock
  show ((w.heap.modify g (onCells (putCells encStr 0 d))) ++ os)[g]? = _
  rw [Array.getElem?_append_left (by simpa using hlt), Array.getElem?_modify, if_pos rfl, hg]
  rfl
theorem heap_put_other {w : World} {g n k : Nat} {os : Array Obj} {d : Array (List UInt8)} (hk : k < w.heap.size) (hne : g ≠ k) : (grow (putRow encStr (Sort.ahead w n) g 0 d) os).heap[k]? = w.heap[k]? := by
  unfold putRow mapBlock
  show ((w.heap.modify g (onCells (putCells encStr 0 d))) ++ os)[k]? = _
  rw [Array.getElem?_append_left (by simpa using hk), Array.getElem?_modify, if_neg hne]
theorem heap_put_size {w : World} {g n : Nat} {os : Array Obj} {d : Array (List UInt8)} : w.heap.size ≤ (grow (putRow encStr (Sort.ahead w n) g 0 d) os).heap.size := by
  unfold putRow mapBlock
  show w.heap.size ≤ ((w.heap.modify g _) ++ os).size
  rw [Array.size_append]; simp
theorem ctr_sortB {e : TypeId} {ρ : Ren} (Ly : Lays.n190 P ρ) {f : FuncId} {fn : Func} (hf : P.funcs[f]? = some fn) (hb : fn.body.isSome = true) (hname : (fn.name == "runtime.NumGoroutine") = false) (ef : ρ.f 190 = f) :
    Ctr (tabOf kt) P f (conOf (tabOf kt) (sSortB e) MSortB) := by
  subst ef
  refine ctr_hand fun x r hx w vs Y bl hown hnd hY hg hgb => ?_
  obtain ⟨l, ⟨⟩⟩ := x
  change List (List UInt8) at l
  unfold MSortB at hx
  split at hx
  case isFalse => cases hx
  rename_i hlen
  have hlen : l.length ≤ 1000000000000 := of_decide_eq_true hlen
  cases hx
  have ho : ∃ u, vs = #[u] ∧ Own (tabOf kt) w Y (.newb e [.row e .str l]) u bl := own_one hown
  obtain ⟨u, rfl, o1⟩ := ho
  have hr : RepRow (tabOf kt) w Y e .str l u ∧ bl = (blk u).toList := by
    cases o1 with
    | c h => cases h with
      | sh h hs => cases hs
    | lend h => exact ⟨h, rfl⟩
  obtain ⟨hr, rfl⟩ := hr
  obtain ⟨xs, hx1, hx2⟩ := hr.els
  refine .inl ⟨callFunc_run hf hb hname, ?_⟩
  have fin : ∀ w' : World, RepRow (tabOf kt) w' (fun b => (Y b ∨ w.heap.size ≤ b ∨ b ∈ (blk u).toList) ∧ b ∉ [] ++ ((blk u).toList ++ [])) e .str (sortB l) u → w'.os = w.os → w'.tape = w.tape → w'.output = w.output → w.heap.size ≤ w'.heap.size → (∀ k, k < w.heap.size → k ∉ (blk u).toList → w'.heap[k]? = w.heap[k]?) →
      Comes (tabOf kt) (sSortB e) (absSs (tabOf kt) (sSortB e).params (l, ())) ((), (sortB l, ())) w #[u].toList Y ((blk u).toList) (.returned (.tuple #[])) w' := by
    intro w' hrow q1 q2 q3 q4 q5
    refine ⟨.tuple #[], [], (blk u).toList ++ [], rfl, by simpa using hnd, fun k hk => ⟨Nat.lt_of_lt_of_le (hY k (by simpa using hk)).2 q4, .inr (by simpa using hk)⟩, Ans.c (.junk _), ?_, ⟨q1, q2, q3, q4, fun k hk hk2 => q5 k hk (by simpa using hk2)⟩⟩
    exact PinsL.lend hrow .nil
  have hxs := els_strs hx2
  rcases hx1.2 with ⟨rfl, h0⟩ | ⟨gg, cap, cur, rfl, _, ⟨fz, hfz, hgg⟩, hnc, hcm, hcs, htk⟩
  · have : l = [] := List.length_eq_zero_iff.1 h0
    subst this
    refine Calls.mono (Any.slices_Sort_string_none Ly none 0 w) ?_
    rintro e' w' ⟨rfl, rfl⟩
    refine fin _ ?_ rfl rfl rfl (Nat.le_refl _) (fun _ _ _ => rfl)
    have : sortB [] = [] := by simp [sortB]
    rw [this]
    exact RepRow.mk' (ownsR_nil _ _ _) (Els.nil _)
  · have hszk : (tabOf kt).sz .str = 1 := rfl
    rw [hszk, Nat.mul_one] at hcs htk
    have hcur : ∀ (j : Nat) (u : Value), (l.map encStr)[j]? = some u → cur[j]? = some u := by
      intro j u hj
      rw [← hxs, ← htk] at hj
      rw [List.getElem?_take] at hj
      split at hj
      · rw [← Array.getElem?_toList]; exact hj
      · cases hj
    have hH : Holds encStr w gg 0 l.toArray := by
      intro j hj
      have hj' : j < l.length := by simpa using hj
      have h2 := hcur j (encStr l[j]) (by simp [hj'])
      refine ⟨?_, ?_⟩
      · rw [Nat.zero_add, Lib.cell_of_heap hgg, h2]
        simp [hj']
      · obtain ⟨lo, hi'⟩ := fz
        have hjc := (Array.getElem?_eq_some_iff.1 h2).1
        simp only [World.frozen?, hgg, Bool.and_eq_false_iff, decide_eq_false_iff_not]
        simp only at hfz
        omega
    have hs := Any.slices_Sort_string Ly gg 0 cap l w hH (heap_lt hgg) (by omega)
    refine Calls.mono hs ?_
    rintro e' w' ⟨rfl, n, os, rfl⟩
    have hgg' := heap_put (n := n) (os := os) (d := (sortB l).toArray) hgg
    have hsl : (sortB l).length = l.length := List.length_mergeSort _
    refine fin _ ?_ rfl rfl rfl heap_put_size (fun k hk hk2 => heap_put_other hk (fun e => hk2 (by simp [blk, e])))
    refine RepRow.mk' (xs := (sortB l).map encStr) ?_ ?_
    · refine ⟨by simp [hszk], .inr ⟨gg, cap, _, ?_, Nat.zero_le _, ⟨fz, ?_, hgg'⟩, ?_, hcm, ?_, ?_⟩⟩
      · rw [hsl]
      · rcases hfz with hfz | hfz
        · exact .inl hfz
        · right; simpa [putCells] using hfz
      · rw [hsl]; exact hnc
      · rw [hszk, Nat.mul_one]; simpa [putCells] using hcs
      · rw [hszk, Nat.mul_one, hsl]
        apply List.ext_getElem?
        intro t
        rw [List.getElem?_take]
        split
        · rename_i ht
          rw [Array.getElem?_toList]
          unfold putCells
          rw [Array.getElem?_mapIdx]
          have hc : t < cur.size := by omega
          have ht2 : t < (sortB l).length := by omega
          rw [Array.getElem?_eq_getElem hc, Option.map_some, if_pos ⟨Nat.zero_le _, by rw [List.size_toArray]; omega⟩, Nat.sub_zero]
          rw [List.getElem?_map, List.getElem?_eq_getElem ht2]
          have e1 : (sortB l).toArray[t]! = (sortB l)[t] := by
            have hq : t < (sortB l).toArray.size := by rw [List.size_toArray]; exact ht2
            rw [getElem!_pos (sortB l).toArray t hq]; rfl
          rw [e1]
          rfl
        · rename_i ht
          rw [List.getElem?_eq_none (by simp; omega)]
    · refine (els_of_strs (kt := kt) (w := w) (X := Y) (sortB l)).mono fun b hb1 hb2 => ?_
      have hne : gg ≠ b := by
        rintro rfl
        exact (hY gg (by simp [blk])).1 hb1
      exact ⟨⟨.inl hb1, by simpa [blk] using Ne.symm hne⟩, Nat.lt_of_lt_of_le hb2 heap_put_size, heap_put_other hb2 hne⟩
end
end Go.Vm
