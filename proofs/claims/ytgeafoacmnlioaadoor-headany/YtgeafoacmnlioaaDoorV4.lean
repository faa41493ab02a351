/- Part 4 of an abstract value machine: a framework of this session's own, in which functions of the program are run once and for all inputs. No condition. -/
import Derived.Test.YtgeafoacmnlioaaDoorV3
import Derived.Lib.LaidTab
import Derived.LaidLaws
import Derived.Lib.ItoaNum
import Derived.Below
import Derived.WideShapes
/- The kinds of elements. PRINTED by tabgen.py. -/
namespace Go.Vm
open Go.Lib
set_option linter.unusedVariables false
inductive JV where
  | nil | null | bool (b : Bool) | int (n : Int) | str (s : List UInt8) | list (l : List JV) | obj (l : List (List UInt8 × JV × Unit))
inductive Kd where
  | i64
  | i32
  | u8
  | u32
  | u64
  | bo
  | str
  | jv
  | er
  | en
  | ens
  | rd
  | pc
  | ph
  | rl
  | ac
  | pl
  | fd
  | fe
  | wt
  | fi
  | dd
  | dm
  | me
  deriving DecidableEq
abbrev El : Kd → Type
  | .i64 => Int
  | .i32 => Int
  | .u8 => UInt8
  | .u32 => Int
  | .u64 => Int
  | .bo => Bool
  | .str => List UInt8
  | .jv => JV
  | .er => Bool
  | .en => Int × (List UInt8) × Int × Int × Int × Int × (List UInt8) × Int × Int × Int × (List UInt8) × (List UInt8) × (List UInt8) × (List UInt8) × Unit
  | .ens => (List (Int × (List UInt8) × Int × Int × Int × Int × (List UInt8) × Int × Int × Int × (List UInt8) × (List UInt8) × (List UInt8) × (List UInt8) × Unit)) × Unit
  | .rd => Int × Int × (List UInt8) × Int × Int × Int × Int × (List UInt8) × Int × Int × Int × (List UInt8) × (List UInt8) × (List UInt8) × (List UInt8) × Unit
  | .pc => Bool × (List UInt8) × Unit
  | .ph => Int × (List UInt8) × Int × (List UInt8) × Unit
  | .rl => (List UInt8) × (List UInt8) × (List (Int × (List UInt8) × Int × (List UInt8) × Unit)) × Unit
  | .ac => Int × Int × Int × Int × Int × Int × Int × (List UInt8) × (List UInt8) × (List UInt8) × (List UInt8) × Unit
  | .pl => Int × Int × (List UInt8) × Int × Int × Int × Int × (List UInt8) × Int × Int × Int × (List UInt8) × (List UInt8) × (List UInt8) × (List UInt8) × Int × (List UInt8) × Int × Int × Int × (List UInt8) × (List UInt8) × Int × Int × Int × (List UInt8) × Int × Int × Unit
  | .fd => (List UInt8) × (List UInt8) × Unit
  | .fe => (List UInt8) × (List UInt8) × Unit
  | .wt => (List UInt8) × (List UInt8) × Unit
  | .fi => (List UInt8) × (List (UInt8)) × (List (Int)) × Unit
  | .dd => Int × (List UInt8) × (List UInt8) × Int × Int × Int × Unit
  | .dm => Int × Int × Unit
  | .me => (List UInt8) × JV × Unit
def Kd.enc : (k : Kd) → El k → List (DV El)
  | .i64, n => [.int .i64 n]
  | .i32, n => [.int .i32 n]
  | .u8, b => [.int .u8 (b.toNat : Int)]
  | .u32, n => [.int .u32 n]
  | .u64, n => [.int .u64 n]
  | .bo, b => [.bool b]
  | .str, s => [.str s]
  | .jv, x => [.any .jv x]
  | .er, x => [.any .er x]
  | .en, x => [.int .i64 x.1, .str x.2.1, .int .i64 x.2.2.1, .int .i64 x.2.2.2.1, .int .i64 x.2.2.2.2.1, .int .i64 x.2.2.2.2.2.1, .str x.2.2.2.2.2.2.1, .int .i64 x.2.2.2.2.2.2.2.1, .int .i64 x.2.2.2.2.2.2.2.2.1, .int .i64 x.2.2.2.2.2.2.2.2.2.1, .str x.2.2.2.2.2.2.2.2.2.2.1, .str x.2.2.2.2.2.2.2.2.2.2.2.1, .str x.2.2.2.2.2.2.2.2.2.2.2.2.1, .str x.2.2.2.2.2.2.2.2.2.2.2.2.2.1]
  | .ens, x => [.slc .en x.1]
  | .rd, x => [.int .i64 x.1, .int .i64 x.2.1, .str x.2.2.1, .int .i64 x.2.2.2.1, .int .i64 x.2.2.2.2.1, .int .i64 x.2.2.2.2.2.1, .int .i64 x.2.2.2.2.2.2.1, .str x.2.2.2.2.2.2.2.1, .int .i64 x.2.2.2.2.2.2.2.2.1, .int .i64 x.2.2.2.2.2.2.2.2.2.1, .int .i64 x.2.2.2.2.2.2.2.2.2.2.1, .str x.2.2.2.2.2.2.2.2.2.2.2.1, .str x.2.2.2.2.2.2.2.2.2.2.2.2.1, .str x.2.2.2.2.2.2.2.2.2.2.2.2.2.1, .str x.2.2.2.2.2.2.2.2.2.2.2.2.2.2.1]
  | .pc, x => [.bool x.1, .str x.2.1]
  | .ph, x => [.int .i64 x.1, .str x.2.1, .int .i64 x.2.2.1, .str x.2.2.2.1]
  | .rl, x => [.str x.1, .str x.2.1, .slc .ph x.2.2.1]
  | .ac, x => [.int .i64 x.1, .int .i64 x.2.1, .int .i64 x.2.2.1, .int .i64 x.2.2.2.1, .int .i64 x.2.2.2.2.1, .int .i64 x.2.2.2.2.2.1, .int .i64 x.2.2.2.2.2.2.1, .str x.2.2.2.2.2.2.2.1, .str x.2.2.2.2.2.2.2.2.1, .str x.2.2.2.2.2.2.2.2.2.1, .str x.2.2.2.2.2.2.2.2.2.2.1]
  | .pl, x => [.int .i64 x.1, .int .i64 x.2.1, .str x.2.2.1, .int .i64 x.2.2.2.1, .int .i64 x.2.2.2.2.1, .int .i64 x.2.2.2.2.2.1, .int .i64 x.2.2.2.2.2.2.1, .str x.2.2.2.2.2.2.2.1, .int .i64 x.2.2.2.2.2.2.2.2.1, .int .i64 x.2.2.2.2.2.2.2.2.2.1, .int .i64 x.2.2.2.2.2.2.2.2.2.2.1, .str x.2.2.2.2.2.2.2.2.2.2.2.1, .str x.2.2.2.2.2.2.2.2.2.2.2.2.1, .str x.2.2.2.2.2.2.2.2.2.2.2.2.2.1, .str x.2.2.2.2.2.2.2.2.2.2.2.2.2.2.1, .int .i64 x.2.2.2.2.2.2.2.2.2.2.2.2.2.2.2.1, .str x.2.2.2.2.2.2.2.2.2.2.2.2.2.2.2.2.1, .int .i64 x.2.2.2.2.2.2.2.2.2.2.2.2.2.2.2.2.2.1, .int .i64 x.2.2.2.2.2.2.2.2.2.2.2.2.2.2.2.2.2.2.1, .int .i64 x.2.2.2.2.2.2.2.2.2.2.2.2.2.2.2.2.2.2.2.1, .str x.2.2.2.2.2.2.2.2.2.2.2.2.2.2.2.2.2.2.2.2.1, .str x.2.2.2.2.2.2.2.2.2.2.2.2.2.2.2.2.2.2.2.2.2.1, .int .i64 x.2.2.2.2.2.2.2.2.2.2.2.2.2.2.2.2.2.2.2.2.2.2.1, .int .i64 x.2.2.2.2.2.2.2.2.2.2.2.2.2.2.2.2.2.2.2.2.2.2.2.1, .int .i64 x.2.2.2.2.2.2.2.2.2.2.2.2.2.2.2.2.2.2.2.2.2.2.2.2.1, .str x.2.2.2.2.2.2.2.2.2.2.2.2.2.2.2.2.2.2.2.2.2.2.2.2.2.1, .int .i64 x.2.2.2.2.2.2.2.2.2.2.2.2.2.2.2.2.2.2.2.2.2.2.2.2.2.2.1, .int .i64 x.2.2.2.2.2.2.2.2.2.2.2.2.2.2.2.2.2.2.2.2.2.2.2.2.2.2.2.1]
  | .fd, x => [.str x.1, .str x.2.1]
  | .fe, x => [.str x.1, .str x.2.1]
  | .wt, x => [.str x.1, .str x.2.1]
  | .fi, x => [.str x.1, .slc .u8 x.2.1, .slc .i64 x.2.2.1]
  | .dd, x => [.int .u8 x.1, .str x.2.1, .str x.2.2.1, .int .i64 x.2.2.2.1, .int .i64 x.2.2.2.2.1, .int .i64 x.2.2.2.2.2.1]
  | .dm, x => [.int .u8 x.1, .int .i64 x.2.1]
  | .me, x => [.str x.1, .any .jv x.2.1]
def Kd.dec (k : Kd) (cs : List (DV El)) : Option (El k) :=
  match k with
  | .i64 => match cs with
    | [.int .i64 n] => some n
    | _ => none
  | .i32 => match cs with
    | [.int .i32 n] => some n
    | _ => none
  | .u8 => match cs with
    | [.int .u8 n] => some (UInt8.ofNat n.toNat)
    | _ => none
  | .u32 => match cs with
    | [.int .u32 n] => some n
    | _ => none
  | .u64 => match cs with
    | [.int .u64 n] => some n
    | _ => none
  | .bo => match cs with
    | [.bool b] => some b
    | _ => none
  | .str => match cs with
    | [.str s] => some s
    | _ => none
  | .en => match cs with
    | [.int .i64 x0, .str x1, .int .i64 x2, .int .i64 x3, .int .i64 x4, .int .i64 x5, .str x6, .int .i64 x7, .int .i64 x8, .int .i64 x9, .str x10, .str x11, .str x12, .str x13] => some (x0, x1, x2, x3, x4, x5, x6, x7, x8, x9, x10, x11, x12, x13, ())
    | _ => none
  | .ens => match cs with
    | [.slc .en x0] => some (x0, ())
    | _ => none
  | .rd => match cs with
    | [.int .i64 x0, .int .i64 x1, .str x2, .int .i64 x3, .int .i64 x4, .int .i64 x5, .int .i64 x6, .str x7, .int .i64 x8, .int .i64 x9, .int .i64 x10, .str x11, .str x12, .str x13, .str x14] => some (x0, x1, x2, x3, x4, x5, x6, x7, x8, x9, x10, x11, x12, x13, x14, ())
    | _ => none
  | .pc => match cs with
    | [.bool x0, .str x1] => some (x0, x1, ())
    | _ => none
  | .ph => match cs with
    | [.int .i64 x0, .str x1, .int .i64 x2, .str x3] => some (x0, x1, x2, x3, ())
    | _ => none
  | .rl => match cs with
    | [.str x0, .str x1, .slc .ph x2] => some (x0, x1, x2, ())
    | _ => none
  | .ac => match cs with
    | [.int .i64 x0, .int .i64 x1, .int .i64 x2, .int .i64 x3, .int .i64 x4, .int .i64 x5, .int .i64 x6, .str x7, .str x8, .str x9, .str x10] => some (x0, x1, x2, x3, x4, x5, x6, x7, x8, x9, x10, ())
    | _ => none
  | .pl => match cs with
    | [.int .i64 x0, .int .i64 x1, .str x2, .int .i64 x3, .int .i64 x4, .int .i64 x5, .int .i64 x6, .str x7, .int .i64 x8, .int .i64 x9, .int .i64 x10, .str x11, .str x12, .str x13, .str x14, .int .i64 x15, .str x16, .int .i64 x17, .int .i64 x18, .int .i64 x19, .str x20, .str x21, .int .i64 x22, .int .i64 x23, .int .i64 x24, .str x25, .int .i64 x26, .int .i64 x27] => some (x0, x1, x2, x3, x4, x5, x6, x7, x8, x9, x10, x11, x12, x13, x14, x15, x16, x17, x18, x19, x20, x21, x22, x23, x24, x25, x26, x27, ())
    | _ => none
  | .fd => match cs with
    | [.str x0, .str x1] => some (x0, x1, ())
    | _ => none
  | .fe => match cs with
    | [.str x0, .str x1] => some (x0, x1, ())
    | _ => none
  | .wt => match cs with
    | [.str x0, .str x1] => some (x0, x1, ())
    | _ => none
  | .fi => match cs with
    | [.str x0, .slc .u8 x1, .slc .i64 x2] => some (x0, x1, x2, ())
    | _ => none
  | .dd => match cs with
    | [.int .u8 x0, .str x1, .str x2, .int .i64 x3, .int .i64 x4, .int .i64 x5] => some (x0, x1, x2, x3, x4, x5, ())
    | _ => none
  | .dm => match cs with
    | [.int .u8 x0, .int .i64 x1] => some (x0, x1, ())
    | _ => none
  | .me => match cs with
    | [.str x0, .any .jv x1] => some (x0, x1, ())
    | _ => none
  | .jv => match cs with
    | [.any .jv x] => some x
    | _ => none
  | .er => match cs with
    | [.any .er x] => some x
    | _ => none
def Kd.ofStr (k : Kd) (s : List UInt8) : Option (List (El k)) :=
  match k with
  | .u8 => some s
  | _ => none
def Kd.toStr (k : Kd) (l : List (El k)) : Option (List UInt8) :=
  match k, l with
  | .u8, l => some l
  | _, _ => none
def Kd.runes (k : Kd) (l : List (El k)) : Option (List Int) :=
  match k, l with
  | .i32, l => some l
  | _, _ => none
def Kd.sz : Kd → Nat
  | .en => 14
  | .ens => 1
  | .rd => 15
  | .pc => 2
  | .ph => 4
  | .rl => 3
  | .ac => 11
  | .pl => 28
  | .fd => 2
  | .fe => 2
  | .wt => 2
  | .fi => 3
  | .dd => 6
  | .dm => 2
  | .me => 2
  | _ => 1
def Kd.fk : Kd → Bool
  | .jv => false
  | .er => false
  | .ens => false
  | .rl => false
  | .fi => false
  | .me => false
  | _ => true
theorem u8_back {n : Int} (h : okInt .u8 n = true) : ((UInt8.ofNat n.toNat).toNat : Int) = n := by
  simp only [okInt, Bool.and_eq_true, decide_eq_true_eq] at h
  simp
  omega
structure JT where
  nu : TypeId
  bo : TypeId
  it : TypeId
  st : TypeId
  li : TypeId
  ob : TypeId
  er : TypeId := 0
  nd : [nu, bo, it, st, li, ob].Nodup
structure KT where
  k : TypeId → Option Kd
  j : JT
  gl : World → Prop := fun _ => True
  gb : Nat := 0
  gl_sz : ∀ w, gl w → gb ≤ w.heap.size := by intros; exact Nat.zero_le _
  gl_ok : ∀ w w', gl w → (∀ b, b < gb → w'.heap[b]? = w.heap[b]?) → gl w' := by intros; trivial
instance : CoeFun KT fun _ => TypeId → Option Kd := ⟨KT.k⟩
def jdyn (j : JT) : JV → DV El
  | .nil => .nili
  | .null => .ifc j.nu (.agg [])
  | .bool b => .ifc j.bo (.bool b)
  | .int n => .ifc j.it (.int .i64 n)
  | .str s => .ifc j.st (.str s)
  | .list l => .ifc j.li (.slc .jv l)
  | .obj l => .ifc j.ob (.slc .me l)
def Kd.dyn (j : JT) (k : Kd) (x : El k) : DV El :=
  match k, x with
  | .jv, x => jdyn j x
  | .er, b => if b = true then .ifc j.er .junk else .nili
  | _, _ => .nili
def Kd.und (j : JT) (k : Kd) (d : DV El) : Option (El k) :=
  match k with
  | .jv => match d with
    | .nili => some .nil
    | .ifc t (.agg []) => if t = j.nu then some .null else none
    | .ifc t (.bool b) => if t = j.bo then some (.bool b) else none
    | .ifc t (.int .i64 n) => if t = j.it then some (.int n) else none
    | .ifc t (.str s) => if t = j.st then some (.str s) else none
    | .ifc t (.slc .jv l) => if t = j.li then some (.list l) else none
    | .ifc t (.slc .me l) => if t = j.ob then some (.obj l) else none
    | _ => none
  | _ => none
def Kd.asK (j : JT) (k : Kd) (t : TypeId) : Option (AsD Kd) :=
  match k with
  | .jv => if t = j.nu then some .unit else if t = j.bo then some .bool else if t = j.it then some .int else if t = j.st then some .str else if t = j.li then some (.slc .jv) else if t = j.ob then some (.slc .me) else none
  | _ => none
def JV.isNull : JV → Bool
  | .null => true
  | _ => false
def JV.bool? : JV → Option Bool
  | .bool b => some b
  | _ => none
def JV.int? : JV → Option Int
  | .int n => some n
  | _ => none
def JV.str? : JV → Option (List UInt8)
  | .str s => some s
  | _ => none
def JV.list? : JV → Option (List JV)
  | .list l => some l
  | _ => none
def JV.obj? : JV → Option (List (List UInt8 × JV × Unit))
  | .obj l => some l
  | _ => none
def Kd.gU (k : Kd) (x : El k) : Bool :=
  match k, x with
  | .jv, x => x.isNull
  | _, _ => false
def JV.isNil : JV → Bool
  | .nil => true
  | _ => false
def Kd.gZ (k : Kd) (x : El k) : Bool :=
  match k, x with
  | .jv, x => x.isNil
  | .er, b => !b
  | _, _ => true
theorem gz_dyn (j : JT) (k : Kd) (x : El k) : (Kd.gZ k x = true → Kd.dyn j k x = .nili) ∧ (Kd.gZ k x = false → ∃ t d, Kd.dyn j k x = .ifc t d) := by
  cases k
  case jv => cases x <;> first | exact ⟨fun _ => rfl, fun h => (by cases h)⟩ | exact ⟨fun h => (by cases h), fun _ => ⟨_, _, rfl⟩⟩
  case er => cases x <;> first | exact ⟨fun _ => rfl, fun h => (by cases h)⟩ | exact ⟨fun h => (by cases h), fun _ => ⟨_, _, rfl⟩⟩
  all_goals exact ⟨fun _ => rfl, fun h => (by cases h)⟩
def Kd.gB (k : Kd) (x : El k) : Option Bool :=
  match k, x with
  | .jv, x => x.bool?
  | _, _ => none
def Kd.gI (k : Kd) (x : El k) : Option Int :=
  match k, x with
  | .jv, x => x.int?
  | _, _ => none
def Kd.gS (k : Kd) (x : El k) : Option (List UInt8) :=
  match k, x with
  | .jv, x => x.str?
  | _, _ => none
def Kd.gL (k k' : Kd) (x : El k) : Option (List (El k')) :=
  match k, k', x with
  | .jv, .jv, x => x.list?
  | .jv, .me, x => x.obj?
  | _, _, _ => none
theorem und_dyn (j : JT) (k : Kd) (d : DV El) (x : El k) (h : Kd.und j k d = some x) : Kd.dyn j k x = d := by
  unfold Kd.und at h
  split at h
  · split at h <;> first | (cases h; done) | skip
    · cases h; rfl
    all_goals
      split at h
      · rename_i e
        cases h
        subst e
        rfl
      · cases h
  · cases h
theorem as_dyn (j : JT) (k : Kd) (t : TypeId) (a : AsD Kd) (h : Kd.asK j k t = some a) (x : El k) : (∀ d, asVal Kd.gU Kd.gB Kd.gI Kd.gS Kd.gL k a x = some d → Kd.dyn j k x = .ifc t d) ∧
    (asVal Kd.gU Kd.gB Kd.gI Kd.gS Kd.gL k a x = none → Kd.dyn j k x = .nili ∨ ∃ t' d, Kd.dyn j k x = .ifc t' d ∧ t' ≠ t) := by
  have nd := j.nd
  simp only [List.nodup_cons, List.mem_cons, List.not_mem_nil, or_false, not_or, not_false_eq_true, List.nodup_nil, and_true] at nd
  obtain ⟨⟨a1, a2, a3, a4, a5⟩, ⟨b1, b2, b3, b4⟩, ⟨c1, c2, c3⟩, ⟨d1, d2⟩, e1⟩ := nd
  unfold Kd.asK at h
  split at h
  · cases x <;> (repeat' split at h) <;> cases h <;> subst t <;>
      refine ⟨fun d hd => ?_, fun hd => ?_⟩ <;>
      first
        | (cases hd; done)
        | (cases hd; rfl)
        | exact .inl rfl
        | exact .inr ⟨_, _, rfl, by first | assumption | (apply Ne.symm; assumption)⟩
  · cases h
def tabOf (kt : KT) : Tab El where
  deq := inferInstance
  kind := kt.k
  gl := kt.gl
  gb := kt.gb
  gl_sz := kt.gl_sz
  gl_ok := kt.gl_ok
  dyn := Kd.dyn kt.j
  und := Kd.und kt.j
  asK := Kd.asK kt.j
  gU := Kd.gU
  gZ := Kd.gZ
  gz_ok := gz_dyn kt.j
  gB := Kd.gB
  gI := Kd.gI
  gS := Kd.gS
  gL := Kd.gL
  dyn_pl := by
    intro k x
    cases k <;> first | rfl | (cases x <;> rfl)
  und_ok := und_dyn kt.j
  as_ok := as_dyn kt.j
  sz := Kd.sz
  enc := Kd.enc
  dec := Kd.dec
  ofStr := Kd.ofStr
  toStr := Kd.toStr
  runes := Kd.runes
  runes_ok := by
    intro k s l h
    cases k <;> simp only [Kd.runes] at h <;> cases h
    exact ⟨rfl, fun i h h' => rfl⟩
  fk := Kd.fk
  fk_ok := by intro k x h; cases k <;> first | rfl | (cases h; done)
  enc_len := by intro k x; cases k <;> rfl
  dec_ok := by
    intro k cs x hin h
    cases k <;> simp only [Kd.dec] at h <;> split at h <;> cases h <;> first | rfl | skip
    simp only [Kd.enc]
    rw [u8_back (hin _ (List.mem_cons_self ..))]
  ofStr_ok := by
    intro k s l h
    cases k <;> simp only [Kd.ofStr] at h <;> cases h
    exact ⟨rfl, fun i h h' => rfl⟩
  toStr_ok := by
    intro k s l h
    cases k <;> simp only [Kd.toStr] at h <;> cases h
    exact ⟨rfl, fun i h h' => rfl⟩
end Go.Vm
/- Members in order: the sort of json's objects, plainly. No condition. -/
namespace Go.Vm
set_option linter.unusedVariables false
set_option linter.unusedSimpArgs false
abbrev By := List UInt8
end Go.Vm
/- The world's globals: tables of numbers and errors that are laid. No condition. -/
namespace Go.Vm
open Go.Lib
set_option linter.unusedVariables false
variable {P : Program}
structure GlW (P : Program) (gb : Nat) (tabs : List (String × IntKind × List Int)) (errs : List Nat) (more : World → Prop) (w : World) : Prop where
  sz : gb ≤ w.heap.size
  tab : ∀ x ∈ tabs, TabIs P w x.1 x.2.1 x.2.2
  err : ∀ g ∈ errs, ∃ te pe, w.cell? ⟨g, 0, none⟩ = some (.iface te pe)
  more : more w
theorem var_agree {w w' : World} {n : String} {g : Nat} (hg : P.globalNamed n = some g) (h : w'.heap[g]? = w.heap[g]?) : w'.var? P n = w.var? P n := by unfold World.var?; rw [hg, Option.bind_some, Option.bind_some, h]
theorem cell_agree {w w' : World} {g o : Nat} (h : w'.heap[g]? = w.heap[g]?) : w'.cell? ⟨g, o, none⟩ = w.cell? ⟨g, o, none⟩ := by unfold World.cell?; rw [h]
theorem GlW.on {gb : Nat} {tabs : List (String × IntKind × List Int)} {errs : List Nat} {more : World → Prop} {w w' : World} (ht : ∀ x ∈ tabs, ∃ g, P.globalNamed x.1 = some g ∧ g < gb) (he : ∀ g ∈ errs, g < gb)
    (hm : ∀ w w' : World, more w → (∀ b, b < gb → w'.heap[b]? = w.heap[b]?) → more w') (h : GlW P gb tabs errs more w) (hw : ∀ b, b < gb → w'.heap[b]? = w.heap[b]?) : GlW P gb tabs errs more w' := by
  refine ⟨?_, fun x hx => ?_, fun g hg => ?_, hm w w' h.more hw⟩
  · rcases Nat.eq_zero_or_pos gb with h0 | h0
    · omega
    · have h1 := hw (gb - 1) (by omega)
      have h2 := h.sz
      rw [Array.getElem?_eq_getElem (by omega : gb - 1 < w.heap.size)] at h1
      have := (Array.getElem?_eq_some_iff.1 h1).1
      omega
  · obtain ⟨g, h1, h2⟩ := ht x hx
    have := h.tab x hx
    unfold TabIs at this ⊢
    rw [var_agree h1 (hw g h2)]
    exact this
  · obtain ⟨te, pe, h1⟩ := h.err g hg
    exact ⟨te, pe, by rw [cell_agree (hw g (he g hg))]; exact h1⟩
end Go.Vm
/- From a law's contract to what its row asks. -/
namespace Go.Vm
open Go.Lib Go.RowKit
set_option linter.unusedVariables false
variable {K : Type} {E : K → Type}
variable {T : Tab E} {P : Program}
theorem callsX_calls {f : FuncId} {fn : Func} {vs : Array Value} {w : World} {R : Ending → World → Prop} (hf : P.funcs[f]? = some fn) (hb : fn.body.isSome = true) (hname : (fn.name == "runtime.NumGoroutine") = false)
    (h : CallsX P f vs w R) : Calls P f vs w R := by
  rcases h with ⟨_, h⟩ | ⟨v, w', h, _⟩
  · exact h
  · rw [callFunc_run hf hb hname] at h
    cases h
theorem law_below {s : Spec K} {M : tyS E s.params → Option (s.R E)} {f : FuncId} {fn : Func} (hc : Ctr T P f (conOf T s M)) (hf : P.funcs[f]? = some fn) (hb : fn.body.isSome = true) (hname : (fn.name == "runtime.NumGoroutine") = false)
    {x : tyS E s.params} {r : s.R E} (hM : M x = some r) {ds : List (DV E)} (hds : rdSs T s.params (normL s.params ds) = some x) (hr : absR T s r = ⟨.bool true, []⟩) {w : World} {vs : Array Value}
    (hown : OwnL (Own T w fun _ => True) ds vs.toList []) (hgl : T.gl w) : Calls P f vs w fun e w' => e = .returned (.bool true) ∧ Below w.heap.size w w' := by
  have hcon : (conOf T s M ds) = ⟨s.R E, M x, absR T s, s.flat T⟩ := by unfold conOf; rw [hds]
  have h0 := hc ds
  rw [hcon] at h0
  have h1 := h0 r hM w vs (fun _ => True) [] hown List.nodup_nil (fun b hb => by cases hb) hgl (fun b hb => by cases hb)
  refine (callsX_calls hf hb hname h1).mono ?_
  rintro e w' ⟨v, bl1, bl2, rfl, _, _, h4, _, h6, _⟩
  change AnsT T w' _ vs.toList (absR T s r).v v bl1 at h4
  rw [hr] at h4
  have hv : v = .bool true := by
    have h5 : Ans T w' _ vs.toList (.bool true : DV E) v bl1 := h4
    cases h5 with
    | c h => cases h with
      | sh hr hs => cases hr; rfl
  exact ⟨by rw [hv], ⟨h6.os, h6.tape, h6.output, h6.size, fun k hk => h6.block k hk (by simp)⟩⟩
theorem own_sh {w : World} {Y : Nat → Prop} {d : DV E} {v : Value} {ds : List (DV E)} {vs : List Value} (h : Rep T w Y d v) (hs : d.share = true) (t : OwnL (Own T w Y) ds vs []) : OwnL (Own T w Y) (d :: ds) (v :: vs) [] :=
  .cons (b := []) (.c (.sh h hs)) t
theorem rep_int {w : World} {Y : Nat → Prop} (k : IntKind) (n : Int) (h : okInt k n = true) : Rep T w Y (.int k n) (.int k n) := .int h
theorem rep_string {w : World} {Y : Nat → Prop} (s : ByteArray) : Rep T w Y (.str s.data.toList : DV E) (.string s) := by
  have : s = ⟨s.data.toList.toArray⟩ := by apply ByteArray.ext; simp
  exact this ▸ Rep.str s.data.toList
inductive ReppL (kt : KT) (w : World) (Y : Nat → Prop) : List (DV El) → List Value → Prop
  | nil : ReppL kt w Y [] []
  | cons {d : DV El} {v : Value} {ds : List (DV El)} {vs : List Value} (h : Rep (tabOf kt) w Y d v) (hs : ReppL kt w Y ds vs) : ReppL kt w Y (d :: ds) (v :: vs)
theorem ReppL.get {kt : KT} {w : World} {Y : Nat → Prop} {ds : List (DV El)} {vs : List Value} (h : ReppL kt w Y ds vs) : ds.length = vs.length ∧ ∀ i (hi : i < ds.length) (hi' : i < vs.length), Rep (tabOf kt) w Y ds[i] vs[i] := by
  induction h with
  | nil => exact ⟨rfl, fun i hi => by cases hi⟩
  | cons h hs ih =>
    refine ⟨by simp [ih.1], fun i hi hi' => ?_⟩
    cases i with
    | zero => exact h
    | succ i => exact ih.2 i (by simpa using hi) (by simpa using hi')
end Go.Vm
/- Data that came in, opened as values of the machine: structs, slices, of any depth. -/
namespace Go.Vm
open Go.Lib Go.RowKit
set_option linter.unusedVariables false
section
variable {S : Value → Prop} {kt : KT} {H : Type} {enc : TypeId × Value → H} {P : Program} {w : World} {base : Nat} {sp : Nat → Bool} {held : Bool}
theorem ReppL.append {kt : KT} {w : World} {Y : Nat → Prop} : ∀ {ds : List (DV El)} {vs : List Value} {ds' : List (DV El)} {vs' : List Value}, ReppL kt w Y ds vs → ReppL kt w Y ds' vs' → ReppL kt w Y (ds ++ ds') (vs ++ vs')
  | _, _, _, _, .nil, h' => h'
  | _, _, _, _, .cons h hs, h' => .cons h (hs.append h')
def Opens (S : Value → Prop) (kt : KT) (enc : TypeId × Value → H) (P : Program) (w : World) (base : Nat) (sp : Nat → Bool) (held : Bool) (t : TypeId) (ss : List (S0 Kd)) : Prop :=
  ∀ fuel cs d, DataW.trod enc P w base sp held fuel t cs = some d → (∀ c ∈ cs, S c) → ∃ x : tyL El ss, ReppL kt w (fun _ => True) (absL ss x) cs
inductive OpensF (S : Value → Prop) (kt : KT) (enc : TypeId × Value → H) (P : Program) (w : World) (base : Nat) (sp : Nat → Bool) (held : Bool) : List Field → Nat → List (S0 Kd) → Prop
  | nil (off : Nat) : OpensF S kt enc P w base sp held [] off []
  | cons {f : Field} {fs : List Field} {off : Nat} {s s' : List (S0 Kd)} (ho : f.offset = off) (hc : P.cellsOf f.type = s.length) (h : Opens S kt enc P w base sp held f.type s) (hs : OpensF S kt enc P w base sp held fs (off + s.length) s') :
      OpensF S kt enc P w base sp held (f :: fs) off (s ++ s')
theorem ReppL.len {ds : List (DV El)} {vs : List Value} {Y : Nat → Prop} (h : ReppL kt w Y ds vs) : ds.length = vs.length := h.get.1
end
end Go.Vm
