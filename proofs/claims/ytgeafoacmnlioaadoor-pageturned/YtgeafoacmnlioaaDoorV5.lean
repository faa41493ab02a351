/- Part 5 of an abstract value machine: a framework of this session's own, in which functions of the program are run once and for all inputs. No condition. -/
import Derived.Test.YtgeafoacmnlioaaDoorV4
import Derived.Test.YtgeafoacmnlioaaDoorV3
import Derived.Shelf.Strings.Builder1
/- The abstract value machine: strings.Builder's own pointer, and its text: two contracts by hand. -/
namespace Go.Vm
open Go.Proofs Go.Shelf Go.RowKit
set_option linter.unusedVariables false
variable {P : Program} {ρ : Ren}
set_option maxHeartbeats 1000000 in
set_option maxRecDepth 100000 in
theorem bstr (L : Lays.n169 P ρ) (X : Builder.Extra P ρ) (b : Nat) (p : Value) (a : Option Addr) (n c : Nat) (q : Option Addr) (s : ByteArray) (w w1 w2 : World)
    (hbk : w.heap[b]? = some (.cells #[p, .slice a n c] (ρ.t 72) (0, 0)))
    (hSD : (Builtin.unsafeSliceData_ #[(ρ.t 37)] (ρ.t 127) #[.slice a n c]).run P w.drew = .ok (.pointer q) w1)
    (c2 : w1.cell? ⟨b, 1, none⟩ = some (.slice a n c))
    (hUS : (Builtin.unsafeString_ #[(ρ.t 127), (ρ.t 3)] (ρ.t 9) #[.pointer q, .int .i64 n]).run P w1 = .ok (.string s) w2) :
    Calls P (ρ.f 169) #[.pointer (some ⟨b, 0, none⟩)] w fun e w' => e = .returned (.string s) ∧ w' = w2 := by
  have c1 : w.drew.cell? ⟨b, 1, none⟩ = some (.slice a n c) := by
    have : w.drew.heap[b]? = some (.cells #[p, .slice a n c] (ρ.t 72) (0, 0)) := hbk
    rw [Lib.cell_of_heap this]; rfl
  have m0 := L.mixed
  have x1 := L.t72; have x2 := L.a72; have x3 := L.z72; have x4 := L.v72; have x5 := run_underlying L.t72
  have y1 := L.t70; have y2 := L.a70; have y3 := L.z70; have y4 := L.v70; have y5 := run_underlying L.t70
  have k1 := L.t37; have k2 := L.a37; have k3 := L.z37; have k4 := L.v37; have k5 := run_underlying L.t37
  have l1 := L.t127; have l2 := L.a127; have l3 := L.z127; have l4 := L.v127; have l5 := run_underlying L.t127
  have n1 := L.t3; have n2 := L.a3; have n3 := L.z3; have n4 := L.v3; have n5 := run_underlying L.t3
  have o1 := L.t9; have o2 := L.a9; have o3 := L.z9; have o4 := L.v9; have o5 := run_underlying L.t9
  go_enter L.f169, Body.n169_ntmps ρ
  go_wp2
  go_region_o
  all_goals (go_wp2; go_ret; exact ⟨rfl, rfl⟩)
section
variable {kt : KT}
theorem own_builder {w : World} {Y : Nat → Prop} {tb e : TypeId} {l : List UInt8} {vs : Array Value} {bl : List Nat}
    (h : OwnL (Own (tabOf kt) w Y) [.pin tb [.argp 0, .row e .u8 l]] vs.toList bl) :
    ∃ b u0 u1, vs = #[.pointer (some ⟨b, 0, none⟩)] ∧ w.heap[b]? = some (.cells #[u0, u1] tb (0, 0)) ∧ (u0 = .pointer none ∨ u0 = .pointer (some ⟨b, 0, none⟩)) ∧ RepRow (tabOf kt) w Y e .u8 l u1 ∧ u1.oneCell' = true ∧ bl = b :: (blk u1).toList := by
  obtain ⟨xs⟩ := vs
  cases h with
  | cons h t =>
    cases t
    have hb : OwnBox (tabOf kt) w Y tb [.argp 0, .row e .u8 l] _ _ := own_pin h
    obtain ⟨b, us, bs, rfl, h2, h3, rfl⟩ := hb
    obtain ⟨ys⟩ := us
    cases h3 with
    | cons c1 t1 =>
      cases t1 with
      | cons c2 t2 =>
        cases t2
        rcases c1 with ⟨c1, _⟩ | ⟨_, rfl, hv⟩
        · cases c1 with
          | sh hr hs => cases hs
        · rcases c2 with ⟨c2, h1, _⟩ | ⟨hc, _⟩
          · cases c2 with
            | sh hr hs => cases hs
            | row hr => exact ⟨b, _, _, rfl, h2, hv, hr, h1, by simp⟩
          · cases hc
theorem builder_own {w : World} {Y : Nat → Prop} {tb e : TypeId} {l : List UInt8} {b : Nat} {u0 u1 : Value} (h2 : w.heap[b]? = some (.cells #[u0, u1] tb (0, 0))) (hv : u0 = .pointer none ∨ u0 = .pointer (some ⟨b, 0, none⟩))
    (hr : RepRow (tabOf kt) w Y e .u8 l u1) (h1 : u1.oneCell' = true) : OwnBox (tabOf kt) w Y tb [.argp 0, .row e .u8 l] (.pointer (some ⟨b, 0, none⟩)) (b :: (blk u1).toList) := by
  refine ⟨b, _, _, rfl, h2, ?_, rfl⟩
  have : OwnL (CellC (tabOf kt) w Y b) [.argp 0, .row e .u8 l] [u0, u1] ([] ++ ((blk u1).toList ++ [])) :=
    .cons (.inr ⟨rfl, rfl, hv⟩) (.cons (.inl ⟨.row hr, h1, rfl⟩) .nil)
  simpa using this
def sCopy (tb e : TypeId) : Spec Kd := { params := [.pin tb [.argp 0, .row e .u8]], ret := .tup [], pins := [[.argp 0, .row e .u8]], pl := { nt := 0 }, ts := [] }
def MCopy (x : Unit × List UInt8 × Unit) : Option (Unit × (Unit × List UInt8 × Unit)) := some ((), x)
theorem ctr_copy {tb : TypeId} {f : FuncId} {fn : Func} (hf : P.funcs[f]? = some fn) (hb : fn.body.isSome = true) (hname : (fn.name == "runtime.NumGoroutine") = false) (e : TypeId)
    (hfresh : ∀ (b : Nat) (w : World), w.cell? ⟨b, 0, none⟩ = some (.pointer none) → w.shape? b = some (tb, 2) → w.frozen? ⟨b, 0, none⟩ = false →
      Calls P f #[.pointer (some ⟨b, 0, none⟩)] w fun e w' => e = .returned (.tuple #[]) ∧ w' = w.setCell ⟨b, 0, none⟩ (.pointer (some ⟨b, 0, none⟩)))
    (hused : ∀ (b : Nat) (w : World), w.cell? ⟨b, 0, none⟩ = some (.pointer (some ⟨b, 0, none⟩)) → Calls P f #[.pointer (some ⟨b, 0, none⟩)] w fun e w' => e = .returned (.tuple #[]) ∧ w' = w) :
    Ctr (tabOf kt) P f (conOf (tabOf kt) (sCopy tb e) MCopy) := by
  refine ctr_hand fun x r hx w vs Y bl hown hnd hY _ _ => ?_
  cases hx
  obtain ⟨⟨⟩, l0, ⟨⟩⟩ := x
  obtain ⟨l, rfl⟩ : ∃ l : List UInt8, l = l0 := ⟨l0, rfl⟩
  obtain ⟨b, u0, u1, rfl, h2, hv, hr, h1, rfl⟩ := own_builder hown
  refine .inl ⟨callFunc_run hf hb hname, ?_⟩
  have fin : ∀ w' : World, w'.heap[b]? = some (.cells #[.pointer (some ⟨b, 0, none⟩), u1] (tb) (0, 0)) → (∀ k, k ≠ b → w'.heap[k]? = w.heap[k]?) → w'.os = w.os → w'.tape = w.tape → w'.output = w.output → w'.heap.size = w.heap.size →
      Comes (tabOf kt) (sCopy (tb) e) [.pin (tb) [.argp 0, .row e .u8 l]] ((), (), l, ()) w [.pointer (some ⟨b, 0, none⟩)] Y (b :: (blk u1).toList) (.returned (.tuple #[])) w' := by
    intro w' hw' hk q1 q2 q3 q4
    refine ⟨.tuple #[], [], b :: (blk u1).toList, rfl, hnd, fun k hk => ⟨by rw [q4]; exact (hY k hk).2, .inr hk⟩, ⟨#[], rfl, .nil⟩, ?_, ⟨q1, q2, q3, by rw [q4]; exact Nat.le_refl _, fun k hk1 hk2 => hk k fun e => hk2 (by rw [e]; exact List.mem_cons_self ..)⟩⟩
    have hne : ∀ k, Y k → k ≠ b := fun k hk e => (hY b (List.mem_cons_self ..)).1 (e ▸ hk)
    have hrow := hr.mono (w' := w') (X' := fun k => (Y k ∨ w.heap.size ≤ k ∨ k ∈ b :: (blk u1).toList) ∧ k ∉ [] ++ b :: (blk u1).toList) (fun k hk1 hk2 => ⟨⟨.inl hk1, fun hm => (hY k (by simpa using hm)).1 hk1⟩, by rw [q4]; exact hk2, hk k (hne k hk1)⟩)
      (fun k hk1 => hk k fun e => by
        subst e
        rw [hk1] at hnd
        simp at hnd)
    have := PinsL.pin (t := tb) (cs := ([DV.argp 0, DV.row e Kd.u8 l] : List (DV El))) (builder_own hw' (.inr rfl) hrow h1) .nil
    rw [List.append_nil] at this
    exact this
  have hs : w.shape? b = some (tb, 2) := by simp [World.shape?, h2]
  have hlt := heap_lt h2
  rcases hv with rfl | rfl
  · refine Calls.mono (hfresh b w (by rw [Lib.cell_of_heap h2]; rfl) hs (Lib.frozen_of_heap h2 0)) ?_
    rintro e' w' ⟨rfl, rfl⟩
    exact fin (w.setCell ⟨b, 0, none⟩ (.pointer (some ⟨b, 0, none⟩))) (by simp [World.setCell, Array.getElem?_modify, h2]) (fun k hk => Below.heap_setCell _ _ _ _ hk) rfl rfl rfl (by simp [World.setCell])
  · refine Calls.mono (hused b w (by rw [Lib.cell_of_heap h2]; rfl)) ?_
    rintro e' w' ⟨rfl, rfl⟩
    exact fin _ h2 (fun _ _ => rfl) rfl rfl rfl rfl
def sBStr (tb e : TypeId) : Spec Kd := { params := [.pin tb [.argp 0, .row e .u8]], ret := .one (.a .str), pins := [[.argp 0, .junk]], pl := { nt := 0 }, ts := [] }
def MBStr (x : Unit × List UInt8 × Unit) : Option (List UInt8 × (Unit × Unit × Unit)) := some (x.2.1, ((), (), ()))
theorem els_bytes {w : World} {X : Nat → Prop} {l : List UInt8} {xs : List Value} (h : Els (tabOf kt) w X .u8 l xs) : ∀ (j : Nat) (x : UInt8), l[j]? = some x → xs[j]? = some (.int .u8 x.toNat) := by
  intro j x hx
  obtain ⟨hj, rfl⟩ := List.getElem?_eq_some_iff.1 hx
  obtain ⟨u, h1, h2⟩ := h.rep j hj 0 (by show 0 < 1; omega)
  cases h2
  have : j * (tabOf kt).sz .u8 + 0 = j := by show j * 1 + 0 = j; omega
  rw [this] at h1
  exact h1
theorem ctr_bstr (L : Lays.n169 P ρ) (X : Builder.Extra P ρ) {f : FuncId} {fn : Func} (hf : P.funcs[f]? = some fn) (hb : fn.body.isSome = true) (hname : (fn.name == "runtime.NumGoroutine") = false) (ef : ρ.f 169 = f) :
    Ctr (tabOf kt) P f (conOf (tabOf kt) (sBStr (ρ.t 72) (ρ.t 5)) MBStr) := by
  refine ctr_hand fun x r hx w vs Y bl hown hnd hY _ _ => ?_
  cases hx
  obtain ⟨⟨⟩, l0, ⟨⟩⟩ := x
  obtain ⟨l, rfl⟩ : ∃ l : List UInt8, l = l0 := ⟨l0, rfl⟩
  obtain ⟨b, u0, u1, rfl, h2, hv, hr, h1, rfl⟩ := own_builder hown
  refine .inl ⟨callFunc_run hf hb hname, ?_⟩
  have fin : ∀ w' : World, w'.heap[b]? = some (.cells #[u0, u1] (ρ.t 72) (0, 0)) → (∀ k, k < w.heap.size → k ∉ b :: (blk u1).toList → w'.heap[k]? = w.heap[k]?) → w'.os = w.os → w'.tape = w.tape → w'.output = w.output → w.heap.size ≤ w'.heap.size →
      Comes (tabOf kt) (sBStr (ρ.t 72) (ρ.t 5)) [.pin (ρ.t 72) [.argp 0, .row (ρ.t 5) .u8 l]] (l, ((), (), ())) w [.pointer (some ⟨b, 0, none⟩)] Y (b :: (blk u1).toList) (.returned (.string ⟨l.toArray⟩)) w' := by
    intro w' hw' hk q1 q2 q3 q4
    refine ⟨.string ⟨l.toArray⟩, [], [b], rfl, by simp, fun k hk => ?_, ?_, ?_, ⟨q1, q2, q3, q4, fun k hk1 hk2 => hk k hk1 hk2⟩⟩
    · simp only [List.nil_append, List.mem_singleton] at hk
      subst hk
      exact ⟨Nat.lt_of_lt_of_le (hY k (List.mem_cons_self ..)).2 q4, .inr (List.mem_cons_self ..)⟩
    · exact Ans.c (.sh (Rep.str l) rfl)
    · refine PinsL.pin (t := ρ.t 72) (cs := ([DV.argp 0, DV.row (ρ.t 5) Kd.u8 l] : List (DV El))) (b := [b]) ⟨b, _, [], rfl, hw', ?_, rfl⟩ .nil
      exact .cons (b := []) (.inr ⟨rfl, rfl, hv⟩) (.cons (b := []) (.inl ⟨.junk _, h1, rfl⟩) .nil)
  obtain ⟨xs, hx1, hx2⟩ := hr.els
  have hlt := heap_lt h2
  rcases hx1.2 with ⟨rfl, h0⟩ | ⟨g, cap, cur, rfl, _, hg, hnc, hcm, hcs, htake⟩
  · have : l = [] := List.length_eq_zero_iff.1 h0
    subst this
    refine Calls.mono (ef ▸ bstr L X b u0 none 0 0 none .empty w w.drew w.drew h2 rfl (by rw [Lib.cell_of_heap (show w.drew.heap[b]? = _ from h2)]; rfl) (Lib.run_unsafeString_none _ _ _ _ none)) ?_
    rintro e' w' ⟨rfl, rfl⟩
    exact fin _ h2 (fun _ _ _ => rfl) rfl rfl rfl (Nat.le_refl _)
  · have hd : w.drew.heap[b]? = some (.cells #[u0, .slice (some ⟨g, 0, none⟩) l.length cap] (ρ.t 72) (0, 0)) := h2
    obtain ⟨fz, _, hg⟩ := hg
    have hdg : w.drew.heap[g]? = some (.cells cur (ρ.t 5) fz) := hg
    have hbg : b ≠ g := by
      intro e
      subst e
      simp [blk] at hnd
    have hcd : w.drew.cell? ⟨b, 1, none⟩ = some (.slice (some ⟨g, 0, none⟩) l.length cap) := by rw [Lib.cell_of_heap hd]; rfl
    by_cases h0 : l = []
    · subst h0
      by_cases hc0 : cap = 0
      · subst hc0
        have hz := Lib.run_unsafeSliceData_zero (P := P) w.drew #[(ρ.t 37)] (ρ.t 127) (ρ.t 5) L.t127 ⟨g, 0, none⟩ 0 (ρ.t 5, cur.size) (by simp [World.shape?, hdg])
        have hb3 : (w.drew.alloc (.view ⟨g, 0, none⟩ (ρ.t 5))).heap[b]? = some (.cells #[u0, .slice (some ⟨g, 0, none⟩) 0 0] (ρ.t 72) (0, 0)) := by
          rw [Go.Vm.alloc_old _ _ b (by exact hlt)]; exact hd
        refine Calls.mono (ef ▸ bstr L X b u0 (some ⟨g, 0, none⟩) 0 0 _ .empty w _ _ h2 hz (by rw [Lib.cell_of_heap hb3]; rfl) (Lib.run_unsafeString_none _ _ _ _ _)) ?_
        rintro e' w' ⟨rfl, rfl⟩
        exact fin _ hb3 (fun k hk _ => Go.Vm.alloc_old w.drew _ k hk) rfl rfl rfl (by show w.heap.size ≤ (w.heap.push _).size; simp)
      · refine Calls.mono (ef ▸ bstr L X b u0 (some ⟨g, 0, none⟩) 0 cap _ .empty w w.drew w.drew h2 (Lib.run_unsafeSliceData_row _ _ _ _ _ _ hc0) hcd (Lib.run_unsafeString_none _ _ _ _ _)) ?_
        rintro e' w' ⟨rfl, rfl⟩
        exact fin _ h2 (fun _ _ _ => rfl) rfl rfl rfl (Nat.le_refl _)
    · have hlen : 0 < l.length := List.length_pos_iff.2 h0
      have hnc : l.length ≤ cap := hnc
      have hcells := hx1.cells (g := g) rfl
      have hus := Lib.run_unsafeString_row (P := P) w.drew (ρ.t 127) (ρ.t 3) (ρ.t 9) (ρ.t 5) L.t127 X.cellsByte g cur.size (by simp [World.shape?, hdg]) l h0
        (by have : (tabOf kt).sz .u8 = 1 := rfl; rw [this] at hcs; omega) (by unfold maxLen at hcm; omega) (fun j x hx => hcells j _ (els_bytes hx2 j x hx))
      refine Calls.mono (ef ▸ bstr L X b u0 (some ⟨g, 0, none⟩) l.length cap _ _ w w.drew _ h2 (Lib.run_unsafeSliceData_row _ _ _ _ _ _ (by omega)) hcd hus) ?_
      rintro e' w' ⟨rfl, rfl⟩
      have hfr : ∀ k, k ≠ g → (w.drew.freeze ⟨g, 0, none⟩ l.length).heap[k]? = w.heap[k]? := by
        intro k hk
        unfold World.freeze
        rw [if_neg (by omega)]
        simp only [Array.getElem?_modify]
        rw [if_neg (by exact fun e => hk e.symm)]
        rfl
      refine fin _ (by rw [hfr b hbg]; exact h2) (fun k _ hk => hfr k fun e => hk (by subst e; simp [blk])) ?_ ?_ ?_ ?_
      · unfold World.freeze; rw [if_neg (by omega)]; rfl
      · unfold World.freeze; rw [if_neg (by omega)]; rfl
      · unfold World.freeze; rw [if_neg (by omega)]; rfl
      · unfold World.freeze; rw [if_neg (by omega)]; show w.heap.size ≤ (w.heap.modify _ _).size; simp
end
end Go.Vm
