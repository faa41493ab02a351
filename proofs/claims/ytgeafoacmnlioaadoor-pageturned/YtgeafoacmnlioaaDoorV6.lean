/- Part 6 of an abstract value machine: a framework of this session's own, in which functions of the program are run once and for all inputs. No condition. -/
import Derived.Test.YtgeafoacmnlioaaDoorV5
import Derived.Test.YtgeafoacmnlioaaDoorV3
import Derived.Test.YtgeafoacmnlioaaDoorV4
import Derived.Laws.World
import Derived.Laws.NewBlocks
import Derived.Shelf.Strings.Split
import Derived.Lib.IndexBytes
/- The abstract value machine: functions of Go's library strings, by the shelf's contracts. -/
namespace Go.Vm
open Go.Proofs Go.Shelf Go.RowKit
set_option linter.unusedVariables false
variable {P : Program} {ρ : Ren}
theorem fresh_cell_at (w : World) (l : List ByteArray) (t : TypeId) (j : Nat) (x : ByteArray) (h : l[j]? = some x) :
    (w.alloc (.cells (l.map Value.string).toArray t)).cell? ⟨w.heap.size, j, none⟩ = some (.string x) := by
  rw [World.cell?_alloc_at _ _ _ _ rfl, List.getElem?_toArray, List.getElem?_map, h]
  rfl
theorem lt_of_eq_of_lt' (s : List UInt8) {n : Nat} (h : s.length < n) : (⟨s.toArray⟩ : ByteArray).size < n := by
  show s.toArray.size < n
  simpa using h
theorem split_one (L : Lays.n146 P ρ) (hi9 : (P.info? (ρ.t 9)).map (fun i => (i.zero, i.size, i.bytes)) = some (some (.string ByteArray.empty), 1, 16)) (s : ByteArray) (c : UInt8) (w : World) (hs : s.size < 4294967281) :
    Calls P (ρ.f 146) #[.string s, .string ⟨#[c]⟩] w fun e w' =>
      e = .returned (.slice (some ⟨w.heap.size, 0, none⟩) (Lib.countB s ⟨#[c]⟩ + 1) (Lib.countB s ⟨#[c]⟩ + 1)) ∧ w' = w.alloc (.cells ((Lib.splitB ⟨#[c]⟩ 0 (Lib.countB s ⟨#[c]⟩) s).map Value.string).toArray (ρ.t 9)) := by
  have h1 : 1 ≤ (⟨#[c]⟩ : ByteArray).size := Nat.le_refl 1
  have hI : ∀ (x : ByteArray) (cs : Array Value), x.size ≤ s.size → Calls P (ρ.f 143) #[.string x, .string ⟨#[c]⟩] (w.alloc (.cells cs (ρ.t 9))) fun e w' => e = .returned (.int .i64 (Lib.indexB x ⟨#[c]⟩)) ∧ w' = w.alloc (.cells cs (ρ.t 9)) := by
    intro x cs _
    refine (Any.strings_Index_one { L with } x c _).mono fun e w' ⟨he, hw⟩ => ⟨?_, hw⟩
    rw [he]
    show _ = Ending.returned (Value.int .i64 (Lib.index x.data.toList [c]))
    rw [Lib.index_one]
  have hC : Calls P (ρ.f 138) #[.string s, .string ⟨#[c]⟩] w fun e w' => e = .returned (.int .i64 (Lib.countB s ⟨#[c]⟩)) ∧ w' = w := by
    refine (Any.strings_Count_one { L with } s c w).mono fun e w' ⟨he, hw⟩ => ⟨?_, hw⟩
    rw [he]
    show _ = Ending.returned (Value.int .i64 ((Lib.count s.data.toList [c] : Nat) : Int))
    rw [Lib.count_one]
    rfl
  have hle := Lib.countB_le (⟨#[c]⟩ : ByteArray) h1 s.size s (Nat.le_refl _)
  have hlen := Lib.splitB_all (⟨#[c]⟩ : ByteArray) h1 0 _ s rfl
  have cc := Any.strings_genSplit_core { L with } hi9 s ⟨#[c]⟩ 0 (-1) (Lib.countB s ⟨#[c]⟩ + 1) w hs h1 (Nat.zero_le _) hI hC (by decide) (by decide) (by rw [if_pos (by decide)]; omega)
  rw [Nat.add_sub_cancel, hlen] at cc
  have e2 : Lib.cellsOf (Lib.splitB ⟨#[c]⟩ 0 (Lib.countB s ⟨#[c]⟩) s) (Lib.countB s ⟨#[c]⟩ + 1) = ((Lib.splitB ⟨#[c]⟩ 0 (Lib.countB s ⟨#[c]⟩) s).map Value.string).toArray := by rw [← hlen]; exact Lib.cellsOf_full _
  rw [e2] at cc
  have t3 := L.t3; have t9 := L.t9; have t31 := L.t31
  have a3 := L.a3; have a9 := L.a9; have a31 := L.a31
  have z3 := L.z3; have v3 := L.v3; have z9 := L.z9; have v9 := L.v9; have z31 := L.z31; have v31 := L.v31
  have e221 : ∀ args w, (callFunc (ρ.f 221) args).run P w = .ok (.enter (ρ.f 221) args) w := enters_of L.f221 (by kernel_rfl) rfl
  go_enter L.f146, Body.n146_ntmps ρ
  go_wp2_with (go_at_fn (ρ.f 221); refine cc.mono ?_; rintro e w' ⟨rfl, hw⟩; rw [hw])
  go_ret
  exact ⟨rfl, rfl⟩
section
variable {kt : KT}
theorem own_two {w : World} {Y : Nat → Prop} {a b : DV El} {vs : Array Value} {bl : List Nat} (h : OwnL (Own (tabOf kt) w Y) [a, b] vs.toList bl) :
    ∃ u v b1 b2, vs = #[u, v] ∧ Own (tabOf kt) w Y a u b1 ∧ Own (tabOf kt) w Y b v b2 ∧ bl = b1 ++ b2 := by
  obtain ⟨xs⟩ := vs
  cases h with
  | cons h t =>
    cases t with
    | cons h' t' =>
      cases t'
      exact ⟨_, _, _, _, rfl, h, h', by simp⟩
theorem own_str {w : World} {Y : Nat → Prop} {l : List UInt8} {v : Value} {bl : List Nat} (h : Own (tabOf kt) w Y (.str l) v bl) : v = .string ⟨l.toArray⟩ ∧ bl = [] := by
  cases h with
  | c h =>
    cases h with
    | sh hr hs =>
      cases hr
      exact ⟨rfl, rfl⟩
theorem own_int {w : World} {Y : Nat → Prop} {k : IntKind} {i : Int} {v : Value} {bl : List Nat} (h : Own (tabOf kt) w Y (.int k i) v bl) : v = .int k i ∧ bl = [] := by
  cases h with
  | c h =>
    cases h with
    | sh hr hs =>
      cases hr
      exact ⟨rfl, rfl⟩
theorem rep_fresh_strs {w : World} {Y : Nat → Prop} (zs : List ByteArray) (t : TypeId) (cap : Nat) (hcap : cap = zs.length) (hY : Y w.heap.size) :
    Rep (tabOf kt) (w.alloc (.cells (zs.map Value.string).toArray t)) Y (.slc .str (zs.map fun s => s.data.toList)) (.slice (some ⟨w.heap.size, 0, none⟩) zs.length cap) := by
  subst hcap
  have hlen : (zs.map fun s : ByteArray => s.data.toList).length = zs.length := by simp
  have := Rep.slc (T := tabOf kt) (w := w.alloc (.cells (zs.map Value.string).toArray t)) (X := Y) (k := Kd.str) (l := zs.map fun s => s.data.toList) (b := w.heap.size) (off := 0) zs.length (fun j => .string (zs.getD j ByteArray.empty)) (by rw [hlen]; exact Nat.le_refl _) (fun _ => ⟨hY, by simp⟩)
    (fun j hj => by
      rw [hlen] at hj
      have hj' : j < zs.length := by have : (tabOf kt).sz .str = 1 := rfl; rw [this] at hj; omega
      rw [Nat.zero_add]
      exact fresh_cell_at w zs t j _ (by simp [List.getD, List.getElem?_eq_getElem hj']))
    (fun i hi c hcc => by
      have hc0 : c = 0 := by have : c < 1 := hcc; omega
      subst hc0
      rw [hlen] at hi
      have e : i * (tabOf kt).sz .str + 0 = i := by show i * 1 + 0 = i; omega
      rw [e]
      have : (zs.map fun s : ByteArray => s.data.toList)[i]'(by rw [hlen]; exact hi) = (zs.getD i ByteArray.empty).data.toList := by
        simp [List.getD, List.getElem?_eq_getElem hi]
      show Rep _ _ _ (.str ((zs.map fun s : ByteArray => s.data.toList)[i]'(by rw [hlen]; exact hi))) _
      rw [this]
      exact rep_string _)
    (fun i hi c hcc => by
      have hc0 : c = 0 := by have : c < 1 := hcc; omega
      subst hc0
      rfl)
  rw [hlen] at this
  exact this
def sSplit : Spec Kd := { params := [.a .str, .a .str], ret := .one (.a (.slc .str)), pins := [], pl := { nt := 0 }, ts := [] }
def MSplit (x : List UInt8 × List UInt8) : Option (List (List UInt8)) := if decide (x.1.length < 4294967281) = true then if decide (x.2.length = 1) = true then some (Lib.split x.1 x.2) else none else none
theorem ctr_split (L : Lays.n146 P ρ) (hi9 : (P.info? (ρ.t 9)).map (fun i => (i.zero, i.size, i.bytes)) = some (some (.string ByteArray.empty), 1, 16)) {f : FuncId} {fn : Func} (hf : P.funcs[f]? = some fn) (hb : fn.body.isSome = true) (hname : (fn.name == "runtime.NumGoroutine") = false) (ef : ρ.f 146 = f) :
    Ctr (tabOf kt) P f (conOf (tabOf kt) sSplit MSplit) := by
  refine ctr_hand fun x r hx w vs Y bl hown hnd hY _ _ => ?_
  obtain ⟨s, p⟩ := x
  unfold MSplit at hx
  split at hx
  · rename_i h1
    split at hx
    · rename_i h2
      cases hx
      have h1 := of_decide_eq_true h1
      have h2 := of_decide_eq_true h2
      obtain ⟨c, rfl⟩ : ∃ c, p = [c] := by
        match p, h2 with
        | [c], _ => exact ⟨c, rfl⟩
      obtain ⟨u, v, b1, b2, rfl, o1, o2, rfl⟩ := own_two hown
      obtain ⟨rfl, rfl⟩ := own_str o1
      obtain ⟨rfl, rfl⟩ := own_str o2
      refine .inl ⟨callFunc_run hf hb hname, ?_⟩
      have hlen := Lib.splitB_all (⟨#[c]⟩ : ByteArray) (Nat.le_refl 1) 0 _ (⟨s.toArray⟩ : ByteArray) rfl
      refine Calls.mono (ef ▸ split_one L hi9 ⟨s.toArray⟩ c w (lt_of_eq_of_lt' s h1)) ?_
      rintro e w' ⟨rfl, rfl⟩
      have hsp : ((Lib.splitB ⟨#[c]⟩ 0 (Lib.countB ⟨s.toArray⟩ ⟨#[c]⟩) ⟨s.toArray⟩).map fun z : ByteArray => z.data.toList) = Lib.split s [c] := Lib.splitB_data _ _ _ _
      refine ⟨_, [], [], rfl, by simp, by simp, ?_, .skip (by intro t cs; exact ⟨nofun, nofun⟩) (.skip (by intro t cs; exact ⟨nofun, nofun⟩) .nil), ⟨rfl, rfl, rfl, by simp, fun k hk _ => Go.Vm.alloc_old w _ k hk⟩⟩
      refine Ans.c (.sh ?_ rfl)
      rw [← hlen]
      have := rep_fresh_strs (kt := kt) (w := w) (Y := fun b => (Y b ∨ w.heap.size ≤ b ∨ b ∈ ([] : List Nat) ++ []) ∧ b ∉ ([] : List Nat) ++ []) (Lib.splitB ⟨#[c]⟩ 0 (Lib.countB ⟨s.toArray⟩ ⟨#[c]⟩) ⟨s.toArray⟩) (ρ.t 9) _ rfl ⟨.inr (.inl (Nat.le_refl _)), by simp⟩
      rw [hsp] at this
      exact this
    · cases hx
  · cases hx
def sIdxB : Spec Kd := { params := [.a .str, .a (.int .u8)], ret := .one (.a (.int .i64)), pins := [], pl := { nt := 0 }, ts := [] }
def MIdxB (x : List UInt8 × Int) : Option Int := some (Lib.indexByte x.1 x.2.toNat.toUInt8)
theorem ctr_idxB (L : Lays.n217 P ρ) {f : FuncId} {fn : Func} (hf : P.funcs[f]? = some fn) (hb : fn.body.isSome = true) (hname : (fn.name == "runtime.NumGoroutine") = false) (ef : ρ.f 217 = f) :
    Ctr (tabOf kt) P f (conOf (tabOf kt) sIdxB MIdxB) := by
  refine ctr_hand fun x r hx w vs Y bl hown hnd hY _ _ => ?_
  obtain ⟨s, c⟩ := x
  cases hx
  obtain ⟨u, v, b1, b2, rfl, o1, o2, rfl⟩ := own_two hown
  obtain ⟨rfl, rfl⟩ := own_str o1
  obtain ⟨rfl, rfl⟩ := own_int o2
  refine .inl ⟨callFunc_run hf hb hname, ?_⟩
  refine Calls.mono (ef ▸ Any.stringslite_IndexByte L ⟨s.toArray⟩ c w) ?_
  rintro e w' ⟨rfl, rfl⟩
  exact ⟨_, [], [], rfl, by simp, by simp, Ans.c (.sh (rep_int _ _ rfl) rfl), .skip (by intro t cs; exact ⟨nofun, nofun⟩) (.skip (by intro t cs; exact ⟨nofun, nofun⟩) .nil), ⟨rfl, rfl, rfl, Nat.le_refl _, fun _ _ _ => rfl⟩⟩
end
end Go.Vm
