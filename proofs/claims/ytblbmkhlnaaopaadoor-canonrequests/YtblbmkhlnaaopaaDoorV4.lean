/- Part 4 of an abstract value machine: a framework of this session's own, in which functions of the program are run once and for all inputs. No condition. -/
import Derived.Test.YtblbmkhlnaaopaaDoorV3
import Derived.Below
import Derived.WideShapes
/- The kinds of elements. PRINTED by tabgen.py. -/
namespace Go.Vm
open Go.Lib
set_option linter.unusedVariables false

inductive Kd where
  | i64
  | i32
  | u8
  | u32
  | u64
  | bo
  | str
  deriving DecidableEq

abbrev El : Kd → Type
  | .i64 => Int
  | .i32 => Int
  | .u8 => UInt8
  | .u32 => Int
  | .u64 => Int
  | .bo => Bool
  | .str => List UInt8

def Kd.enc : (k : Kd) → El k → List (DV El)
  | .i64, n => [.int .i64 n]
  | .i32, n => [.int .i32 n]
  | .u8, b => [.int .u8 (b.toNat : Int)]
  | .u32, n => [.int .u32 n]
  | .u64, n => [.int .u64 n]
  | .bo, b => [.bool b]
  | .str, s => [.str s]

def Kd.dec (k : Kd) (cs : List (DV El)) : Option (El k) :=
  match k with
  | .i64 => match cs with
    | [.int .i64 n] => some n
    | _ => none
  | .i32 => match cs with
    | [.int .i32 n] => some n
    | _ => none
  | .u8 => match cs with
    | [.int .u8 n] => some (UInt8.ofNat n.toNat)
    | _ => none
  | .u32 => match cs with
    | [.int .u32 n] => some n
    | _ => none
  | .u64 => match cs with
    | [.int .u64 n] => some n
    | _ => none
  | .bo => match cs with
    | [.bool b] => some b
    | _ => none
  | .str => match cs with
    | [.str s] => some s
    | _ => none

def Kd.ofStr (k : Kd) (s : List UInt8) : Option (List (El k)) :=
  match k with
  | .u8 => some s
  | _ => none
def Kd.toStr (k : Kd) (l : List (El k)) : Option (List UInt8) :=
  match k, l with
  | .u8, l => some l
  | _, _ => none
def Kd.runes (k : Kd) (l : List (El k)) : Option (List Int) :=
  match k, l with
  | .i32, l => some l
  | _, _ => none
def Kd.sz : Kd → Nat
  | _ => 1
def Kd.fk : Kd → Bool
  | _ => true

theorem u8_back {n : Int} (h : okInt .u8 n = true) : ((UInt8.ofNat n.toNat).toNat : Int) = n := by
  simp only [okInt, Bool.and_eq_true, decide_eq_true_eq] at h
  simp
  omega

/-- The table: which type has which kind. -/
def tabOf (kt : TypeId → Option Kd) : Tab El where
  deq := inferInstance
  kind := kt
  sz := Kd.sz
  enc := Kd.enc
  dec := Kd.dec
  ofStr := Kd.ofStr
  toStr := Kd.toStr
  runes := Kd.runes
  runes_ok := by
    intro k s l h
    cases k <;> simp only [Kd.runes] at h <;> cases h
    exact ⟨rfl, fun i h h' => rfl⟩
  fk := Kd.fk
  fk_ok := by intro k x h; cases k <;> first | rfl | (cases h; done)
  enc_len := by intro k x; cases k <;> rfl
  dec_ok := by
    intro k cs x hin h
    cases k <;> simp only [Kd.dec] at h <;> split at h <;> cases h <;> first | rfl | skip
    simp only [Kd.enc]
    rw [u8_back (hin _ (List.mem_cons_self ..))]
  ofStr_ok := by
    intro k s l h
    cases k <;> simp only [Kd.ofStr] at h <;> cases h
    exact ⟨rfl, fun i h h' => rfl⟩
  toStr_ok := by
    intro k s l h
    cases k <;> simp only [Kd.toStr] at h <;> cases h
    exact ⟨rfl, fun i h h' => rfl⟩

end Go.Vm

/- From a law's contract to what its row asks. -/
namespace Go.Vm
open Go.Lib Go.RowKit
set_option linter.unusedVariables false
variable {K : Type} {E : K → Type}
variable {T : Tab E} {P : Program}

theorem callsX_calls {f : FuncId} {fn : Func} {vs : Array Value} {w : World} {R : Ending → World → Prop} (hf : P.funcs[f]? = some fn) (hb : fn.body.isSome = true) (hname : (fn.name == "runtime.NumGoroutine") = false)
    (h : CallsX P f vs w R) : Calls P f vs w R := by
  rcases h with ⟨_, h⟩ | ⟨v, w', h, _⟩
  · exact h
  · rw [callFunc_run hf hb hname] at h
    cases h

theorem law_below {s : Spec K} {M : tyS E s.params → Option (s.R E)} {f : FuncId} {fn : Func} (hc : Ctr T P f (conOf T s M)) (hf : P.funcs[f]? = some fn) (hb : fn.body.isSome = true) (hname : (fn.name == "runtime.NumGoroutine") = false)
    {x : tyS E s.params} {r : s.R E} (hM : M x = some r) {ds : List (DV E)} (hds : rdSs T s.params (normL s.params ds) = some x) (hr : absR T s r = ⟨.bool true, []⟩) {w : World} {vs : Array Value}
    (hown : OwnL (Own T w fun _ => True) ds vs.toList []) : Calls P f vs w fun e w' => e = .returned (.bool true) ∧ Below w.heap.size w w' := by
  have hcon : (conOf T s M ds) = ⟨s.R E, M x, absR T s, s.flat T⟩ := by unfold conOf; rw [hds]
  have h0 := hc ds
  rw [hcon] at h0
  have h1 := h0 r hM w vs (fun _ => True) [] hown List.nodup_nil (fun b hb => by cases hb)
  refine (callsX_calls hf hb hname h1).mono ?_
  rintro e w' ⟨v, bl1, bl2, rfl, _, _, h4, _, h6, _⟩
  change AnsT T w' _ vs.toList (absR T s r).v v bl1 at h4
  rw [hr] at h4
  have hv : v = .bool true := by
    have h5 : Ans T w' _ vs.toList (.bool true : DV E) v bl1 := h4
    cases h5 with
    | c h => cases h with
      | sh hr hs => cases hr; rfl
  exact ⟨by rw [hv], ⟨h6.os, h6.tape, h6.output, h6.size, fun k hk => h6.block k hk (by simp)⟩⟩

theorem own_sh {w : World} {Y : Nat → Prop} {d : DV E} {v : Value} {ds : List (DV E)} {vs : List Value} (h : Rep T w Y d v) (hs : d.share = true) (t : OwnL (Own T w Y) ds vs []) : OwnL (Own T w Y) (d :: ds) (v :: vs) [] :=
  .cons (b := []) (.c (.sh h hs)) t

theorem rep_int {w : World} {Y : Nat → Prop} (k : IntKind) (n : Int) (h : okInt k n = true) : Rep T w Y (.int k n) (.int k n) := .int h
theorem rep_string {w : World} {Y : Nat → Prop} (s : ByteArray) : Rep T w Y (.str s.data.toList : DV E) (.string s) := by
  have : s = ⟨s.data.toList.toArray⟩ := by apply ByteArray.ext; simp
  exact this ▸ Rep.str s.data.toList
theorem rep_bool {w : World} {Y : Nat → Prop} (b : Bool) : Rep T w Y (.bool b : DV E) (.bool b) := .bool b

theorem slice_spot {w : World} {r : Reach} {base : Nat} {t e : TypeId} {a : Addr} {len cap : Nat} (ht : P.underlying t = some (.slice e)) (h : Value.okWide P w r base t (.slice (some a) len cap)) : a.spot = none := by
  unfold Value.okWide at h
  rw [ht] at h
  simp only [Cell.okWide, Cell.ok, ht] at h
  exact h.2.2.2.1

theorem slice_lt {w : World} {r : Reach} {base : Nat} {t e : TypeId} {a : Addr} {len cap : Nat} (ht : P.underlying t = some (.slice e)) (h : Value.okWide P w r base t (.slice (some a) len cap)) : a.block < w.heap.size := by
  unfold Value.okWide at h
  rw [ht] at h
  simp only [Cell.okWide, Cell.ok, ht] at h
  obtain ⟨row, cells, h1, _⟩ := h.2.2.2.2
  rcases Nat.lt_or_ge a.block w.heap.size with h' | h'
  · exact h'
  · simp [World.shape?, Array.getElem?_eq_none h'] at h1

/-- A slice of numbers that came in. -/
theorem rep_i64s {kt : TypeId → Option Kd} {w : World} (a : Option Addr) (len cap : Nat) (zs : List Int)
    (h : (a = none ∧ len = 0 ∧ cap = 0 ∧ zs = []) ∨ ∃ x, a = some x ∧ x.spot = none ∧ x.block < w.heap.size ∧ len ≤ cap ∧ zs.length = cap ∧ ∀ i, i < zs.length → w.cell? (x.add i) = some (.int .i64 (zs.getD i 0))) :
    Rep (tabOf kt) w (fun _ => True) (.slc .i64 (zs.take len)) (.slice a len cap) := by
  rcases h with ⟨rfl, rfl, rfl, rfl⟩ | ⟨⟨b, off, sp⟩, rfl, hsp, hlt, hl, hz, hc⟩
  · exact .slcn _
  · simp only at hsp hlt
    subst hsp
    have hlen : (zs.take len).length = len := by simp; omega
    have := Rep.slc (T := tabOf kt) (w := w) (X := fun _ => True) (k := Kd.i64) (l := zs.take len) (b := b) (off := off) cap (fun j => .int .i64 (zs.getD j 0)) (by rw [hlen]; exact hl) (fun _ => ⟨trivial, hlt⟩)
      (fun j hj => by
        rw [hlen] at hj
        have hj' : j < len := by have : (tabOf kt).sz .i64 = 1 := rfl; rw [this] at hj; omega
        have := hc j (by omega)
        have e : (⟨b, off, none⟩ : Addr).add j = ⟨b, off + j, none⟩ := by
          unfold Addr.add
          split
          · rename_i h0; subst h0; rfl
          · rfl
        rw [e] at this
        exact this)
      (fun i hi c hcc => by
        have hc0 : c = 0 := by have : c < 1 := hcc; omega
        subst hc0
        rw [hlen] at hi
        have e : i * (tabOf kt).sz .i64 + 0 = i := by show i * 1 + 0 = i; omega
        rw [e]
        have : (zs.take len)[i]'(by rw [hlen]; exact hi) = zs.getD i 0 := by
          simp [List.getElem_take, List.getD, List.getElem?_eq_getElem (show i < zs.length by omega)]
        show Rep _ w _ (.int .i64 ((zs.take len)[i]'(by rw [hlen]; exact hi))) _
        rw [this]
        exact .int rfl)
      (fun i hi c hcc => by
        have hc0 : c = 0 := by have : c < 1 := hcc; omega
        subst hc0
        rfl)
    rw [hlen] at this
    exact this

/-- A slice of texts that came in. -/
theorem rep_strs {kt : TypeId → Option Kd} {w : World} (a : Option Addr) (len cap : Nat) (zs : List ByteArray)
    (h : (a = none ∧ len = 0 ∧ cap = 0 ∧ zs = []) ∨ ∃ x, a = some x ∧ x.spot = none ∧ x.block < w.heap.size ∧ len ≤ cap ∧ zs.length = cap ∧ ∀ i, i < zs.length → w.cell? (x.add i) = some (.string (zs.getD i ByteArray.empty))) :
    Rep (tabOf kt) w (fun _ => True) (.slc .str ((zs.take len).map fun s => s.data.toList)) (.slice a len cap) := by
  rcases h with ⟨rfl, rfl, rfl, rfl⟩ | ⟨⟨b, off, sp⟩, rfl, hsp, hlt, hl, hz, hc⟩
  · exact .slcn _
  · simp only at hsp hlt
    subst hsp
    have hlen : ((zs.take len).map fun s : ByteArray => s.data.toList).length = len := by simp; omega
    have := Rep.slc (T := tabOf kt) (w := w) (X := fun _ => True) (k := Kd.str) (l := (zs.take len).map fun s => s.data.toList) (b := b) (off := off) cap (fun j => .string (zs.getD j ByteArray.empty)) (by rw [hlen]; exact hl) (fun _ => ⟨trivial, hlt⟩)
      (fun j hj => by
        rw [hlen] at hj
        have hj' : j < len := by have : (tabOf kt).sz .str = 1 := rfl; rw [this] at hj; omega
        have := hc j (by omega)
        have e : (⟨b, off, none⟩ : Addr).add j = ⟨b, off + j, none⟩ := by
          unfold Addr.add
          split
          · rename_i h0; subst h0; rfl
          · rfl
        rw [e] at this
        exact this)
      (fun i hi c hcc => by
        have hc0 : c = 0 := by have : c < 1 := hcc; omega
        subst hc0
        rw [hlen] at hi
        have e : i * (tabOf kt).sz .str + 0 = i := by show i * 1 + 0 = i; omega
        rw [e]
        have : ((zs.take len).map fun s : ByteArray => s.data.toList)[i]'(by rw [hlen]; exact hi) = (zs.getD i ByteArray.empty).data.toList := by
          simp [List.getElem_take, List.getD, List.getElem?_eq_getElem (show i < zs.length by omega)]
        show Rep _ w _ (.str (((zs.take len).map fun s : ByteArray => s.data.toList)[i]'(by rw [hlen]; exact hi))) _
        rw [this]
        exact rep_string _)
      (fun i hi c hcc => by
        have hc0 : c = 0 := by have : c < 1 := hcc; omega
        subst hc0
        rfl)
    rw [hlen] at this
    exact this

/-- Two numbers that came in. -/
theorem rep_pair {kt : TypeId → Option Kd} {w : World} {Y : Nat → Prop} (a b : Int) : Rep (tabOf kt) w Y (.arr 2 .i64 [a, b]) (.agg #[.int .i64 a, .int .i64 b]) := by
  refine .arr rfl rfl (.agg rfl fun i hi hi' => ?_)
  have : i = 0 ∨ i = 1 := by simp at hi'; omega
  rcases this with rfl | rfl <;> exact .int rfl

/-- A struct's cells, one by one. -/
inductive ReppL (kt : TypeId → Option Kd) (w : World) (Y : Nat → Prop) : List (DV El) → List Value → Prop
  | nil : ReppL kt w Y [] []
  | cons {d : DV El} {v : Value} {ds : List (DV El)} {vs : List Value} (h : Rep (tabOf kt) w Y d v) (hs : ReppL kt w Y ds vs) : ReppL kt w Y (d :: ds) (v :: vs)
theorem ReppL.get {kt : TypeId → Option Kd} {w : World} {Y : Nat → Prop} {ds : List (DV El)} {vs : List Value} (h : ReppL kt w Y ds vs) : ds.length = vs.length ∧ ∀ i (hi : i < ds.length) (hi' : i < vs.length), Rep (tabOf kt) w Y ds[i] vs[i] := by
  induction h with
  | nil => exact ⟨rfl, fun i hi => by cases hi⟩
  | cons h hs ih =>
    refine ⟨by simp [ih.1], fun i hi hi' => ?_⟩
    cases i with
    | zero => exact h
    | succ i => exact ih.2 i (by simpa using hi) (by simpa using hi')
theorem rep_agg {kt : TypeId → Option Kd} {w : World} {Y : Nat → Prop} {ds : List (DV El)} {vs : List Value} (h : ReppL kt w Y ds vs) : Rep (tabOf kt) w Y (.agg ds) (.agg vs.toArray) :=
  .agg (by simpa using h.get.1) fun i hi hi' => by simpa using h.get.2 i hi (by simpa using hi')

end Go.Vm

