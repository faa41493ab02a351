/- Part 3 of an abstract value machine: a framework of this session's own, in which functions of the program are run once and for all inputs. No condition. -/
import Derived.Test.YtgeafoacmnlioaaDoorV2
/- The abstract value machine: shapes of states; the run of a body. -/
namespace Go.Vm
open Go.Lib
set_option linter.unusedVariables false
variable {K : Type} {E : K → Type}
/-! ### shapes -/
inductive S0 (K : Type) where
  | int (k : IntKind) | bool | str | slc (k : K) | nilp | nili | nils | fn (f : FuncId) | ptr (n off : Nat) | rowp (n : Nat) | rowv (n : Nat) | row (e : TypeId) (k : K) | argp (j : Nat) | junk | arr (n : Nat) (k : K) | any (k : K) | cslc (n len : Nat) | rws (n sz : Nat)
inductive S1 (K : Type) where
  | a (s : S0 K) | agg (ss : List (S0 K)) | elt (k : K) | eptr (k : K) (off : Nat) | pin (t : TypeId) (ss : List (S0 K)) | newb (t : TypeId) (ss : List (S0 K)) | ifc (t : TypeId) (s : S0 K) | ifcA (t : TypeId) (ss : List (S0 K)) | shp (ss : List (S0 K)) | opt (ss : List (S0 K)) | fnc (f : FuncId) (sss : List (List (S0 K)))
inductive SB (K : Type) where
  | cells (t : TypeId) (ss : List (S0 K)) | row (e : TypeId) (k : K) | siter | arr (t : TypeId) (n : Nat) (k : K)
inductive It (K : Type) where
  | tmp (t : Nat) (s : S1 K) | box (n : Nat) (b : SB K)
structure SS (K : Type) where
  its : List (It K)
  frz : List Nat := []
  co : List (Co K) := []
variable (E) in
def S0.ty : S0 K → Type
  | .int _ => Int
  | .bool => Bool
  | .str => List UInt8
  | .slc k => List (E k)
  | .rowv _ => Nat
  | .rws _ _ => Nat
  | .row _ k => List (E k)
  | .arr _ k => List (E k)
  | .any k => E k
  | _ => Unit
variable (E) in
def tyL : List (S0 K) → Type
  | [] => Unit
  | s :: r => s.ty E × tyL r
variable (E) in
def tyLL : List (List (S0 K)) → Type
  | [] => Unit
  | ss :: r => tyL E ss × tyLL r
variable (E) in
def S1.ty : S1 K → Type
  | .a s => s.ty E
  | .agg ss | .pin _ ss | .newb _ ss | .ifcA _ ss | .shp ss => tyL E ss
  | .opt ss => Bool × tyL E ss
  | .fnc _ sss => tyLL E sss
  | .elt k | .eptr k _ => E k
  | .ifc _ s => s.ty E
variable (E) in
def SB.ty : SB K → Type
  | .cells _ ss => tyL E ss
  | .row _ k => List (E k)
  | .siter => List UInt8 × Nat
  | .arr _ _ k => List (E k)
variable (E) in
def It.ty : It K → Type
  | .tmp _ s => s.ty E
  | .box _ b => b.ty E
variable (E) in
def tyI : List (It K) → Type
  | [] => Unit
  | i :: r => i.ty E × tyI r
def S0.abs : (s : S0 K) → s.ty E → DV E
  | .int k, n => .int k n
  | .bool, b => .bool b
  | .str, s => .str s
  | .slc k, l => .slc k l
  | .nilp, _ => .nilp
  | .nili, _ => .nili
  | .nils, _ => .nils
  | .fn f, _ => .fn f []
  | .ptr n off, _ => .ptr n off
  | .rowp n, _ => .rowp n
  | .rowv n, b => .rowv n b
  | .row e k, l => .row e k l
  | .argp j, _ => .argp j
  | .junk, _ => .junk
  | .arr n k, l => .arr n k l
  | .any k, x => .any k x
  | .cslc n l, _ => .cslc n l
  | .rws n sz, lo => .rws n lo sz
def absL : (ss : List (S0 K)) → tyL E ss → List (DV E)
  | [], _ => []
  | s :: r, x => s.abs x.1 :: absL r x.2
def absLL : (sss : List (List (S0 K))) → tyLL E sss → List (DV E)
  | [], _ => []
  | ss :: r, x => .shp (absL ss x.1) :: absLL r x.2
section
variable (T : Tab E)
def S1.abs : (s : S1 K) → s.ty E → DV E
  | .a s, x => s.abs x
  | .agg ss, x => .agg (absL ss x)
  | .elt k, x => .agg (T.enc k x)
  | .eptr k off, x => .eptr (T.enc k x) off
  | .pin t ss, x => .pin t (absL ss x)
  | .newb t ss, x => .newb t (absL ss x)
  | .ifc t s, x => .ifc t (s.abs x)
  | .ifcA t ss, x => .ifc t (.agg (absL ss x))
  | .shp ss, x => .shp (absL ss x)
  | .opt ss, x => .opt x.1 (absL ss x.2)
  | .fnc f sss, x => .fn f (absLL sss x)
def SB.abs : (s : SB K) → s.ty E → Box E
  | .cells t ss, x => .cells t (absL ss x)
  | .row e k, l => .row e k l
  | .siter, x => .siter x.1 x.2
  | .arr t n k, l => .arr t n k l
def It.abs : (i : It K) → i.ty E → St E → St E
  | .tmp t s, x, st => ⟨st.tmps.set t (s.abs T x), st.mem⟩
  | .box n b, x, st => ⟨st.tmps, (n, b.abs x) :: st.mem⟩
def absI (nt : Nat) : (its : List (It K)) → tyI E its → St E
  | [], _ => ⟨List.replicate nt .junk, []⟩
  | i :: r, x => i.abs T x.1 (absI nt r x.2)
def gInt (k : IntKind) (d : DV E) : Option (Int) := match d with
  | .int k' n => if k' = k then some n else none
  | _ => none
def gBool (d : DV E) : Option (Bool) := match d with
  | .bool b => some b
  | _ => none
def gStr (d : DV E) : Option (List UInt8) := match d with
  | .str s => some s
  | _ => none
def gSlc (k : K) (d : DV E) : Option (List (E k)) := match d with
  | .slc k' l => castL T k k' l
  | _ => none
def gNilp (d : DV E) : Option (Unit) := match d with
  | .nilp => some ()
  | _ => none
def gNili (d : DV E) : Option (Unit) := match d with
  | .nili => some ()
  | _ => none
def gNils (d : DV E) : Option (Unit) := match d with
  | .nils => some ()
  | _ => none
def gFn (f : FuncId) (d : DV E) : Option (Unit) := match d with
  | .fn f' [] => if f' = f then some () else none
  | _ => none
def gPtr (n off : Nat) (d : DV E) : Option (Unit) := match d with
  | .ptr n' off' => if n' = n ∧ off' = off then some () else none
  | _ => none
def gRowp (n : Nat) (d : DV E) : Option (Unit) := match d with
  | .rowp n' => if n' = n then some () else none
  | _ => none
def gRowv (n : Nat) (d : DV E) : Option (Nat) := match d with
  | .rowv n' b => if n' = n then some b else none
  | _ => none
def gRow (e : TypeId) (k : K) (d : DV E) : Option (List (E k)) := match d with
  | .row e' k' l => if e' = e then castL T k k' l else none
  | _ => none
def gArr (n : Nat) (k : K) (d : DV E) : Option (List (E k)) := match d with
  | .arr n' k' l => if n' = n then castL T k k' l else none
  | _ => none
def gArgp (j : Nat) (d : DV E) : Option (Unit) := match d with
  | .argp j' => if j' = j then some () else none
  | _ => none
def gJunk (d : DV E) : Option (Unit) := match d with
  | .junk => some ()
  | _ => none
def gCslc (n len : Nat) (d : DV E) : Option (Unit) := match d with
  | .cslc n' len' => if n' = n ∧ len' = len then some () else none
  | _ => none
def gRws (n sz : Nat) (d : DV E) : Option (Nat) := match d with
  | .rws n' lo sz' => if n' = n ∧ sz' = sz then some lo else none
  | _ => none
def castE (k k' : K) (x : E k') : Option (E k) :=
  match T.deq k' k with
  | .isTrue h => some (h ▸ x)
  | .isFalse _ => none
def gAny (k : K) (d : DV E) : Option (E k) := match d with
  | .any k' x => castE T k k' x
  | _ => none
def S0.rd (s : S0 K) (d : DV E) : Option (s.ty E) :=
  match s with
  | .int k => gInt k d
  | .bool => gBool d
  | .str => gStr d
  | .slc k => gSlc T k d
  | .nilp => gNilp d
  | .nili => gNili d
  | .nils => gNils d
  | .fn f => gFn f d
  | .ptr n off => gPtr n off d
  | .rowp n => gRowp n d
  | .rowv n => gRowv n d
  | .row e k => gRow T e k d
  | .argp j => gArgp j d
  | .junk => gJunk d
  | .arr n k => gArr T n k d
  | .any k => gAny T k d
  | .cslc n l => gCslc n l d
  | .rws n sz => gRws n sz d
def rdL : (ss : List (S0 K)) → List (DV E) → Option (tyL E ss)
  | [], [] => some ()
  | s :: r, d :: ds => (s.rd T d).bind fun x => (rdL r ds).bind fun y => some (x, y)
  | _, _ => none
def gAgg (d : DV E) : Option (List (DV E)) := match d with
  | .agg cs => some cs
  | _ => none
def gPin (t : TypeId) (d : DV E) : Option (List (DV E)) := match d with
  | .pin t' cs => if t' = t then some cs else none
  | _ => none
def gNewb (t : TypeId) (d : DV E) : Option (List (DV E)) := match d with
  | .newb t' cs => if t' = t then some cs else none
  | _ => none
def gIfc (t : TypeId) (d : DV E) : Option (DV E) := match d with
  | .ifc t' d => if t' = t then some d else none
  | _ => none
def gShp (d : DV E) : Option (List (DV E)) := match d with
  | .shp cs => some cs
  | _ => none
def gOpt (d : DV E) : Option (Bool × List (DV E)) := match d with
  | .opt c cs => some (c, cs)
  | _ => none
def rdLL : (sss : List (List (S0 K))) → List (DV E) → Option (tyLL E sss)
  | [], [] => some ()
  | ss :: r, d :: ds => ((gShp d).bind (rdL T ss)).bind fun x => (rdLL r ds).bind fun y => some (x, y)
  | _, _ => none
def gFnc (f : FuncId) (d : DV E) : Option (List (DV E)) := match d with
  | .fn f' cs => if f' = f then some cs else none
  | _ => none
def S1.rd (s : S1 K) (d : DV E) : Option (s.ty E) :=
  match s with
  | .a s => s.rd T d
  | .agg ss => (gAgg d).bind (rdL T ss)
  | .pin t ss => (gPin t d).bind (rdL T ss)
  | .newb t ss => (gNewb t d).bind (rdL T ss)
  | .ifc t s => (gIfc t d).bind (s.rd T)
  | .ifcA t ss => (gIfc t d).bind fun d => (gAgg d).bind (rdL T ss)
  | .shp ss => (gShp d).bind (rdL T ss)
  | .opt ss => (gOpt d).bind fun q => (rdL T ss q.2).bind fun x => some (q.1, x)
  | .fnc f sss => (gFnc f d).bind (rdLL T sss)
  | _ => none
def SB.rd : (s : SB K) → Box E → Option (s.ty E)
  | .cells t ss, .cells t' cs => if t' = t then rdL T ss cs else none
  | .row e k, .row e' k' l => if e' = e then castL T k k' l else none
  | .siter, .siter s pos => some (s, pos)
  | .arr t n k, .arr t' n' k' l => if t' = t ∧ n' = n then castL T k k' l else none
  | _, _ => none
def It.rd (st : St E) : (i : It K) → Option (i.ty E)
  | .tmp t s => s.rd T (st.tmps.getD t .junk)
  | .box n b => (look st.mem n).bind (b.rd T)
def rdI (st : St E) : (its : List (It K)) → Option (tyI E its)
  | [] => some ()
  | i :: r => (i.rd T st).bind fun x => (rdI st r).bind fun y => some (x, y)
def boxNames : List (It K) → List Nat
  | [] => []
  | .tmp .. :: r => boxNames r
  | .box n _ :: r => n :: boxNames r
def rdS (nt : Nat) (ss : SS K) (st : St E) : Option (tyI E ss.its) :=
  if st.tmps.length = nt ∧ nodupB (boxNames ss.its) = true then rdI T (coes T ss.co (forget ss.frz st)) ss.its else none
inductive Ex where
  | norm | exit (i : Nat) | ret
  deriving DecidableEq
variable (E) in
def sumT : Ex × SS K → List (Ex × SS K) → Type
  | x, [] => tyI E x.2.its
  | x, y :: r => tyI E x.2.its ⊕ sumT y r
def rdSum (nt : Nat) : (x : Ex × SS K) → (l : List (Ex × SS K)) → Ex → St E → Option (sumT E x l)
  | x, [], e, st => if x.1 = e then rdS T nt x.2 st else none
  | x, y :: r, e, st => if x.1 = e then (rdS T nt x.2 st).bind fun v => some (.inl v) else (rdSum nt y r e st).bind fun v => some (.inr v)
def absSum {γ : Type} (nt : Nat) : (x : Ex × SS K) → (l : List (Ex × SS K)) → sumT E x l → (Ex → St E → γ) → γ
  | x, [], v, k => k x.1 (absI T nt x.2.its v)
  | x, y :: r, v, k => match v with
    | .inl v => k x.1 (absI T nt x.2.its v)
    | .inr v => absSum nt y r v k
end
def assoc {α : Type} : List (Nat × α) → Nat → Option α
  | [], _ => none
  | (k, a) :: r, n => if k = n then some a else assoc r n
structure Plan (K : Type) where
  orc : Orc := {}
  nt : Nat
  joins : List (Nat × (Ex × SS K) × List (Ex × SS K)) := []
  loops : List (Nat × SS K × (Ex × SS K) × List (Ex × SS K)) := []
  frz : List (Nat × List Nat) := []
  cuts : List (Nat × List (Nat × SS K)) := []
  bjoins : List (Nat × (Ex × SS K) × List (Ex × SS K)) := []
  ends : List (Nat × SS K) := []
  unr : Nat := 0
def exOut (id : Nat) (e : Ex) : Ex := match e with
  | .exit j => if j = id then .norm else .exit j
  | e => e
def firstReg : Code → Nat
  | .region id _ _ => id + 1
  | .seq x y => if firstReg x = 0 then firstReg y else firstReg x
  | .cond _ x y => if firstReg x = 0 then firstReg y else firstReg x
  | .block _ b => firstReg b
  | .loop b => firstReg b
  | _ => 0
def loopM {X Y : Type} (f : X → Option (X ⊕ Y)) : Nat → X → Option Y
  | 0, _ => none
  | n + 1, x => (f x).bind fun r => match r with
    | .inl x' => loopM f n x'
    | .inr y => some y
def unroll (f : St E → (β : Type) → (Ex → St E → Option β) → Option β) : Nat → St E → (β : Type) → (Ex → St E → Option β) → Option β
  | 0, _, _, _ => none
  | n + 1, st, β, k => f st β fun e st' => match e with
    | .norm => unroll f n st' β k
    | e => k e st'
section
variable (T : Tab E) (P : Program) (env : Env E) (pl : Plan K) (F : Nat)
def joinOf (q : Nat) : Operand → Option ((Ex × SS K) × List (Ex × SS K))
  | .tmp t => assoc pl.joins (t + 100000 * q)
  | _ => none
def runCuts (ops : Array Oper) {β : Type} : List (Nat × SS K) → List Nat → St E → (St E → Option β) → Option β
  | [], l, st, k => runOps T P env pl.orc ops none l [] st k
  | (c, ss) :: r, l, st, k => (runOps T P env pl.orc ops none (l.take c) [] st (rdS T pl.nt ss)).bind fun x => runCuts ops r (l.drop c) (absI T pl.nt ss.its x) k
def runC : Code → Nat → St E → {β : Type} → (Ex → St E → Option β) → Option β
  | .skip, _, st, _, k => k .norm st
  | .region id ops draw, _, st, _, k =>
    if draw = true then
      if edgesBack ops = true then
        match assoc pl.ends id with
        | none => runOps T P env pl.orc ops (some (masks ops)) (List.range ops.size) [] (forget ((assoc pl.frz id).getD []) st) (k .norm)
        | some ss => (runOps T P env pl.orc ops (some (masks ops)) (List.range ops.size) [] (forget ((assoc pl.frz id).getD []) st) (rdS T pl.nt ss)).bind fun x => k .norm (absI T pl.nt ss.its x)
      else none
    else runCuts T P env pl ops ((assoc pl.cuts id).getD []) (List.range ops.size) (forget ((assoc pl.frz id).getD []) st) (k .norm)
  | .seq x y, l, st, _, k => runC x l st fun e st' => match e with
    | .norm => runC y l st' k
    | e => k e st'
  | .cond c x y, l, st, _, k =>
    match st.ev c with
    | .bool b =>
      match joinOf pl (firstReg (.seq x y)) c with
      | none => if b = true then runC x l st k else runC y l st k
      | some (h, r) => (if b = true then runC x l st (rdSum T pl.nt h r) else runC y l st (rdSum T pl.nt h r)).bind fun t => absSum T pl.nt h r t k
    | _ => none
  | .block id body, _, st, _, k =>
    match assoc pl.bjoins id with
    | none => runC body id st fun e st' => k (exOut id e) st'
    | some (h, r) => (runC body id st fun e st' => rdSum T pl.nt h r (exOut id e) st').bind fun t => absSum T pl.nt h r t k
  | .loop body, l, st, _, k =>
    match assoc pl.loops l with
    | none => unroll (fun st β k => runC body l st (β := β) k) pl.unr st _ k
    | some (ss, h, r) => (rdS T pl.nt ss st).bind fun x =>
      (loopM (fun x => runC body l (absI T pl.nt ss.its x) fun e st' => match e with
        | .norm => (rdS T pl.nt ss st').bind fun v => some (Sum.inl v)
        | e => (rdSum T pl.nt h r e st').bind fun v => some (Sum.inr v)) F x).bind fun y => absSum T pl.nt h r y k
  | .exit id, _, st, _, k => k (.exit id) st
  | .ret, _, st, _, k => k .ret st
  | _, _, _, _, _ => none
end
end Go.Vm
/- The abstract value machine: the run of a body is sound. -/
namespace Go.Vm
open Go.Lib
set_option linter.unusedVariables false
variable {K : Type} {E : K → Type}
variable {T : Tab E} {P : Program}
/-! ### shapes are true -/
theorem ite_some {α : Type} {c : Prop} [Decidable c] {m : Option α} {x : α} (h : (if c then m else none) = some x) : c ∧ m = some x := by
  by_cases hc : c
  · rw [if_pos hc] at h; exact ⟨hc, h⟩
  · rw [if_neg hc] at h; cases h
theorem gInt_ok {k : IntKind} {d : DV E} {x : Int} (h : gInt k d = some x) : DV.int k x = d := by
  unfold gInt at h
  split at h
  · obtain ⟨e, h⟩ := ite_some h; cases h; subst e; rfl
  · cases h
theorem gBool_ok {d : DV E} {x : Bool} (h : gBool d = some x) : DV.bool x = d := by
  unfold gBool at h
  split at h
  · cases h; rfl
  · cases h
theorem gStr_ok {d : DV E} {x : List UInt8} (h : gStr d = some x) : DV.str x = d := by
  unfold gStr at h
  split at h
  · cases h; rfl
  · cases h
theorem gSlc_ok {k : K} {d : DV E} {x : List (E k)} (h : gSlc T k d = some x) : DV.slc k x = d := by
  unfold gSlc at h
  split at h
  · obtain ⟨e, he⟩ := castL_spec h; subst e; rw [he]
  · cases h
theorem gNilp_ok {d : DV E} {x : Unit} (h : gNilp d = some x) : DV.nilp = d := by
  unfold gNilp at h
  split at h
  · cases h; rfl
  · cases h
theorem gNili_ok {d : DV E} {x : Unit} (h : gNili d = some x) : DV.nili = d := by
  unfold gNili at h
  split at h
  · cases h; rfl
  · cases h
theorem gNils_ok {d : DV E} {x : Unit} (h : gNils d = some x) : DV.nils = d := by
  unfold gNils at h
  split at h
  · cases h; rfl
  · cases h
theorem gFn_ok {f : FuncId} {d : DV E} {x : Unit} (h : gFn f d = some x) : DV.fn f [] = d := by
  unfold gFn at h
  split at h
  · obtain ⟨e, h⟩ := ite_some h; cases h; subst e; rfl
  · cases h
theorem gPtr_ok {n off : Nat} {d : DV E} {x : Unit} (h : gPtr n off d = some x) : DV.ptr n off = d := by
  unfold gPtr at h
  split at h
  · obtain ⟨⟨e, e'⟩, h⟩ := ite_some h; subst e; subst e'; rfl
  · cases h
theorem gRowp_ok {n : Nat} {d : DV E} {x : Unit} (h : gRowp n d = some x) : DV.rowp n = d := by
  unfold gRowp at h
  split at h
  · obtain ⟨e, h⟩ := ite_some h; cases h; subst e; rfl
  · cases h
theorem gRowv_ok {n : Nat} {d : DV E} {x : Nat} (h : gRowv n d = some x) : DV.rowv n x = d := by
  unfold gRowv at h
  split at h
  · obtain ⟨e, h⟩ := ite_some h; cases h; subst e; rfl
  · cases h
theorem gRow_ok {e : TypeId} {k : K} {d : DV E} {x : List (E k)} (h : gRow T e k d = some x) : DV.row e k x = d := by
  unfold gRow at h
  split at h
  · obtain ⟨e, h2⟩ := ite_some h; obtain ⟨e', he⟩ := castL_spec h2; subst e; subst e'; rw [he]
  · cases h
theorem gArr_ok {n : Nat} {k : K} {d : DV E} {x : List (E k)} (h : gArr T n k d = some x) : DV.arr n k x = d := by
  unfold gArr at h
  split at h
  · obtain ⟨e, h2⟩ := ite_some h; obtain ⟨e', he⟩ := castL_spec h2; subst e; subst e'; rw [he]
  · cases h
theorem gArgp_ok {j : Nat} {d : DV E} {x : Unit} (h : gArgp j d = some x) : DV.argp j = d := by
  unfold gArgp at h
  split at h
  · obtain ⟨e, h⟩ := ite_some h; cases h; subst e; rfl
  · cases h
theorem gJunk_ok {d : DV E} {x : Unit} (h : gJunk d = some x) : DV.junk = d := by
  unfold gJunk at h
  split at h
  · cases h; rfl
  · cases h
theorem gCslc_ok {n len : Nat} {d : DV E} {x : Unit} (h : gCslc n len d = some x) : DV.cslc n len = d := by
  unfold gCslc at h
  split at h
  · obtain ⟨⟨e, e'⟩, h⟩ := ite_some h; subst e; subst e'; rfl
  · cases h
theorem gRws_ok {n sz : Nat} {d : DV E} {x : Nat} (h : gRws n sz d = some x) : DV.rws n x sz = d := by
  unfold gRws at h
  split at h
  · obtain ⟨⟨e, e'⟩, h⟩ := ite_some h; cases h; subst e; subst e'; rfl
  · cases h
theorem gAny_ok {k : K} {d : DV E} {x : E k} (h : gAny T k d = some x) : DV.any k x = d := by
  unfold gAny at h
  split at h
  · unfold castE at h
    split at h
    · rename_i e _
      cases h
      subst e
      rfl
    · cases h
  · cases h
theorem S0.rd_ok {s : S0 K} {d : DV E} {x : s.ty E} (h : s.rd T d = some x) : s.abs x = d := by
  cases s with
  | int k => exact gInt_ok h
  | bool => exact gBool_ok h
  | str => exact gStr_ok h
  | slc k => exact gSlc_ok h
  | nilp => exact gNilp_ok h
  | nili => exact gNili_ok h
  | nils => exact gNils_ok h
  | fn f => exact gFn_ok h
  | ptr n off => exact gPtr_ok h
  | rowp n => exact gRowp_ok h
  | rowv n => exact gRowv_ok h
  | row e k => exact gRow_ok h
  | argp j => exact gArgp_ok h
  | junk => exact gJunk_ok h
  | arr n k => exact gArr_ok h
  | any k => exact gAny_ok h
  | cslc n l => exact gCslc_ok h
  | rws n sz => exact gRws_ok h
theorem rdL_ok : ∀ {ss : List (S0 K)} {ds : List (DV E)} {x : tyL E ss}, rdL T ss ds = some x → absL ss x = ds
  | [], [], x, h => rfl
  | [], d :: ds, x, h => by simp [rdL] at h
  | s :: r, [], x, h => by simp [rdL] at h
  | s :: r, d :: ds, x, h => by
    simp only [rdL] at h
    obtain ⟨y, hy, h⟩ := Option.bind_eq_some_iff.1 h
    obtain ⟨z, hz, h⟩ := Option.bind_eq_some_iff.1 h
    cases h
    simp only [absL, S0.rd_ok hy, rdL_ok hz]
theorem gAgg_ok {d : DV E} {x : List (DV E)} (h : gAgg d = some x) : DV.agg x = d := by
  unfold gAgg at h
  split at h
  · cases h; rfl
  · cases h
theorem gPin_ok {t : TypeId} {d : DV E} {x : List (DV E)} (h : gPin t d = some x) : DV.pin t x = d := by
  unfold gPin at h
  split at h
  · obtain ⟨e, h⟩ := ite_some h; cases h; subst e; rfl
  · cases h
theorem gNewb_ok {t : TypeId} {d : DV E} {x : List (DV E)} (h : gNewb t d = some x) : DV.newb t x = d := by
  unfold gNewb at h
  split at h
  · obtain ⟨e, h⟩ := ite_some h; cases h; subst e; rfl
  · cases h
theorem gIfc_ok {t : TypeId} {d x : DV E} (h : gIfc t d = some x) : DV.ifc t x = d := by
  unfold gIfc at h
  split at h
  · obtain ⟨e, h⟩ := ite_some h; cases h; subst e; rfl
  · cases h
theorem gShp_ok {d : DV E} {x : List (DV E)} (h : gShp d = some x) : DV.shp x = d := by
  unfold gShp at h
  split at h
  · cases h; rfl
  · cases h
theorem gOpt_ok {d : DV E} {x : Bool × List (DV E)} (h : gOpt d = some x) : DV.opt x.1 x.2 = d := by
  unfold gOpt at h
  split at h
  · cases h; rfl
  · cases h
theorem rdLL_ok : ∀ {sss : List (List (S0 K))} {ds : List (DV E)} {x : tyLL E sss}, rdLL T sss ds = some x → absLL sss x = ds
  | [], [], x, h => rfl
  | [], d :: ds, x, h => by simp [rdLL] at h
  | s :: r, [], x, h => by simp [rdLL] at h
  | s :: r, d :: ds, x, h => by
    simp only [rdLL] at h
    obtain ⟨y, hy, h⟩ := Option.bind_eq_some_iff.1 h
    obtain ⟨cs, h1, hy⟩ := Option.bind_eq_some_iff.1 hy
    obtain ⟨z, hz, h⟩ := Option.bind_eq_some_iff.1 h
    cases h
    simp only [absLL, rdL_ok hy, rdLL_ok hz, gShp_ok h1]
theorem gFnc_ok {f : FuncId} {d : DV E} {x : List (DV E)} (h : gFnc f d = some x) : DV.fn f x = d := by
  unfold gFnc at h
  split at h
  · obtain ⟨e, h⟩ := ite_some h; cases h; subst e; rfl
  · cases h
theorem S1.rd_ok {s : S1 K} {d : DV E} {x : s.ty E} (h : s.rd T d = some x) : s.abs T x = d := by
  cases s with
  | a s => exact S0.rd_ok h
  | elt k => cases h
  | eptr k off => cases h
  | agg ss => obtain ⟨cs, h1, h⟩ := Option.bind_eq_some_iff.1 h; rw [← gAgg_ok h1]; exact congrArg _ (rdL_ok h)
  | pin t ss => obtain ⟨cs, h1, h⟩ := Option.bind_eq_some_iff.1 h; rw [← gPin_ok h1]; exact congrArg _ (rdL_ok h)
  | newb t ss => obtain ⟨cs, h1, h⟩ := Option.bind_eq_some_iff.1 h; rw [← gNewb_ok h1]; exact congrArg _ (rdL_ok h)
  | ifc t s => obtain ⟨cs, h1, h⟩ := Option.bind_eq_some_iff.1 h; rw [← gIfc_ok h1]; exact congrArg _ (S0.rd_ok h)
  | ifcA t ss =>
    obtain ⟨d', h1, h⟩ := Option.bind_eq_some_iff.1 h
    obtain ⟨cs, h2, h⟩ := Option.bind_eq_some_iff.1 h
    rw [← gIfc_ok h1, ← gAgg_ok h2]
    exact congrArg (fun q => DV.ifc _ (.agg q)) (rdL_ok h)
  | shp ss => obtain ⟨cs, h1, h⟩ := Option.bind_eq_some_iff.1 h; rw [← gShp_ok h1]; exact congrArg _ (rdL_ok h)
  | opt ss =>
    obtain ⟨q, h1, h⟩ := Option.bind_eq_some_iff.1 h
    obtain ⟨y, h2, h⟩ := Option.bind_eq_some_iff.1 h
    cases h
    rw [← gOpt_ok h1]
    exact congrArg (DV.opt q.1) (rdL_ok h2)
  | fnc f sss => obtain ⟨cs, h1, h⟩ := Option.bind_eq_some_iff.1 h; rw [← gFnc_ok h1]; exact congrArg _ (rdLL_ok h)
theorem SB.rd_ok {s : SB K} {b : Box E} {x : s.ty E} (h : s.rd T b = some x) : s.abs x = b := by
  cases s <;> cases b <;> simp only [SB.rd] at h <;> first | (cases h; done) | skip
  case cells.cells => obtain ⟨e, h⟩ := ite_some h; subst e; exact congrArg _ (rdL_ok h)
  case row.row =>
    obtain ⟨e, h⟩ := ite_some h
    subst e
    obtain ⟨e, he⟩ := castL_spec h
    subst e
    rw [he]
    rfl
  case siter.siter => cases h; rfl
  case arr.arr =>
    obtain ⟨⟨e, e'⟩, h⟩ := ite_some h
    subst e; subst e'
    obtain ⟨e, he⟩ := castL_spec h
    subst e
    rw [he]
    rfl
theorem abs_noR {s : S1 K} {x : s.ty E} : ∀ n i cs off, s.abs T x ≠ .rptr n i cs off := by
  intro n i cs off
  cases s with
  | a s => cases s <;> simp [S1.abs, S0.abs]
  | _ => simp [S1.abs]
theorem rdI_ok {st : St E} : ∀ {its : List (It K)} {x : tyI E its}, rdI T st its = some x →
    (absI T st.tmps.length its x).tmps.length = st.tmps.length ∧ names (absI T st.tmps.length its x).mem = boxNames its ∧
    (∀ i (hi : i < st.tmps.length) (hi' : i < (absI T st.tmps.length its x).tmps.length), (absI T st.tmps.length its x).tmps[i] = .junk ∨ ((absI T st.tmps.length its x).tmps[i] = st.tmps[i] ∧ ∀ n j cs off, st.tmps[i] ≠ .rptr n j cs off)) ∧
    ∀ n b, (n, b) ∈ (absI T st.tmps.length its x).mem → (n, b) ∈ st.mem
  | [], x, h => ⟨by simp [absI], rfl, fun i hi hi' => .inl (by simp [absI]), fun n b hm => by simp [absI] at hm⟩
  | .tmp t s :: r, x, h => by
    simp only [rdI, It.rd] at h
    obtain ⟨y, hy, h⟩ := Option.bind_eq_some_iff.1 h
    obtain ⟨z, hz, h⟩ := Option.bind_eq_some_iff.1 h
    cases h
    obtain ⟨h1, h2, h3, h4⟩ := rdI_ok hz
    refine ⟨by simp [absI, It.abs, h1], by simp [absI, It.abs, boxNames, h2], fun i hi hi' => ?_, fun n b hm => h4 n b (by simpa [absI, It.abs] using hm)⟩
    simp only [absI, It.abs] at hi' ⊢
    by_cases hit : t = i
    · subst hit
      simp only [List.getElem_set_self]
      have := S1.rd_ok hy
      rw [getD_lt _ _ _ hi] at this
      refine .inr ⟨this, fun n j cs off e => ?_⟩
      rw [e] at this
      exact abs_noR n j cs off this
    · simp only [List.getElem_set_ne hit]
      exact h3 i hi (by simpa using hi')
  | .box n b :: r, x, h => by
    simp only [rdI, It.rd] at h
    obtain ⟨y, hy, h⟩ := Option.bind_eq_some_iff.1 h
    obtain ⟨z, hz, h⟩ := Option.bind_eq_some_iff.1 h
    cases h
    obtain ⟨b0, hl, hb⟩ := Option.bind_eq_some_iff.1 hy
    obtain ⟨h1, h2, h3, h4⟩ := rdI_ok hz
    refine ⟨h1, by simp only [absI, It.abs, names, List.map_cons, boxNames]; exact congrArg _ h2, h3, fun n' b' hm => ?_⟩
    simp only [absI, It.abs, List.mem_cons] at hm
    rcases hm with hm | hm
    · cases hm
      rw [SB.rd_ok hb]
      exact look_mem hl
    · exact h4 _ _ hm
section
variable {w0 : World} {G : GP}
theorem rdS_ok {nt : Nat} {ss : SS K} {st : St E} {x : tyI E ss.its} (h : rdS T nt ss st = some x) {a : Act} {w : World} {g : Gh} (hi : Inv T w0 G st a w g) : ∃ g', Inv T w0 G (absI T nt ss.its x) a w g' := by
  unfold rdS at h
  split at h
  · rename_i hc
    obtain ⟨hl, hn⟩ := hc
    have hf0 := forget_weak hi ss.frz
    obtain ⟨g', hf⟩ := coes_ok ss.co hf0
    have hlen : (coes T ss.co (forget ss.frz st)).tmps.length = nt := by
      rw [coes_len]
      unfold forget; split
      · exact hl
      · simpa using hl
    subst hlen
    obtain ⟨h1, h2, h3, h4⟩ := rdI_ok h
    refine ⟨g', hf.weak ⟨h1, by rw [h2]; exact nodupB_spec hn, fun i hi hi' => ?_, fun n b hm => ⟨b, h4 n b hm, .same b⟩⟩⟩
    rcases h3 i hi hi' with h5 | ⟨h5, h6⟩
    · rw [h5]; exact .junk _
    · rw [h5]; exact .same _ (fun n j cs off e => absurd e (h6 n j cs off))
  · cases h
theorem rdSum_ok {nt : Nat} : ∀ {x : Ex × SS K} {l : List (Ex × SS K)} {e : Ex} {st : St E} {t : sumT E x l}, rdSum T nt x l e st = some t →
    ∃ st', (∀ (γ : Type) (k : Ex → St E → γ), absSum T nt x l t k = k e st') ∧ ∀ a w g, Inv T w0 G st a w g → ∃ g', Inv T w0 G st' a w g'
  | x, [], e, st, t, h => by
    simp only [rdSum] at h
    obtain ⟨he, h⟩ := ite_some h
    exact ⟨_, fun γ k => by simp only [absSum, he], fun a w g hi => rdS_ok h hi⟩
  | x, y :: r, e, st, t, h => by
    simp only [rdSum] at h
    split at h
    · rename_i he
      obtain ⟨v, hv, h⟩ := Option.bind_eq_some_iff.1 h
      cases h
      exact ⟨_, fun γ k => by simp only [absSum, he], fun a w g hi => rdS_ok hv hi⟩
    · obtain ⟨v, hv, h⟩ := Option.bind_eq_some_iff.1 h
      cases h
      obtain ⟨st', h1, h2⟩ := rdSum_ok hv
      exact ⟨st', fun γ k => by simp only [absSum]; exact h1 γ k, h2⟩
/-! ### the run -/
def Ex.ex : Ex → Exit
  | .norm => .normal
  | .exit i => .exit i
  | .ret => .ret
variable (T P w0 G) in
def Goes (J : List Nat) (c : Code) (st : St E) (e : Ex) (st' : St E) : Prop :=
  ∀ a w g, Inv T w0 G st a w g → c.wp P (fun e' a' w' => e' = e.ex ∧ ∃ g', Inv T w0 G st' a' w' g' ∧ Keep J a a') a w
def keepsO (J : List Nat) (o : Oper) : Bool := match o.dst with
  | some d => !J.contains d
  | none => true
def keepsC (J : List Nat) : Code → Bool
  | .region _ ops _ => ops.toList.all (keepsO J)
  | .seq x y | .cond _ x y => keepsC J x && keepsC J y
  | .block _ b | .loop b => keepsC J b
  | _ => true
theorem keepsO_spec {J : List Nat} {ops : Array Oper} (h : ops.toList.all (keepsO J) = true) (i : Nat) (o : Oper) (ho : ops[i]? = some o) (d : Nat) (hd : o.dst = some d) : d ∉ J := by
  have := List.all_eq_true.1 h o (by simpa using Array.mem_of_getElem? ho)
  unfold keepsO at this
  rw [hd] at this
  simpa using this
variable (P) in
def loopWp (c : Code) (Q : Exit → Act → World → Prop) (a : Act) (w : World) : Prop :=
  ∀ (b : Frame) (k : List Item) (cs : List Frame), ∃ e a' w', Q e a' w' ∧ Arrives P (lone (b.at a (.code c :: .inLoop c :: k)) cs w) b k cs e a' w'
theorem wp_of_loopWp {c : Code} {Q : Exit → Act → World → Prop} {a : Act} {w : World} (h : loopWp P c Q a w) : (Code.loop c).wp P Q a w := by
  intro b k cs
  obtain ⟨e, a', w', hq, harr⟩ := h b k cs
  exact ⟨e, a', w', hq, .of_steps (.one step_loop) harr⟩
theorem loopWp_mono {c : Code} {Q Q' : Exit → Act → World → Prop} {a : Act} {w : World} (h : loopWp P c Q a w) (hq : ∀ e a w, Q e a w → Q' e a w) : loopWp P c Q' a w :=
  fun b k cs => let ⟨e, a', w', q, r⟩ := h b k cs; ⟨e, a', w', hq _ _ _ q, r⟩
theorem loopWp_round {c : Code} {Q : Exit → Act → World → Prop} {a : Act} {w : World} (h : c.wp P (Exit.then (loopWp P c Q) Q) a w) : loopWp P c Q a w := by
  intro b k cs
  obtain ⟨e, a₁, w₁, hq, harr⟩ := h b (.inLoop c :: k) cs
  cases e with
  | normal =>
    obtain ⟨e₂, a₂, w₂, hq₂, harr₂⟩ := hq b k cs
    exact ⟨e₂, a₂, w₂, hq₂, .of_steps (Steps.trans harr (.one step_inLoop)) harr₂⟩
  | exit id => exact ⟨_, a₁, w₁, hq, .pass (x := .inLoop c) rfl (fun _ _ => .inl (by simp)) harr⟩
  | goto l => exact ⟨_, a₁, w₁, hq, .pass (x := .inLoop c) rfl (fun _ _ => .inl (by simp)) harr⟩
  | ret => exact ⟨_, a₁, w₁, hq, .pass (x := .inLoop c) rfl (fun _ _ => .inl (by simp)) harr⟩
  | panic ch => exact ⟨_, a₁, w₁, hq, .pass (x := .inLoop c) rfl (fun _ _ => .inl (by simp)) harr⟩
  | outgrown => exact ⟨_, a₁, w₁, hq, .pass (x := .inLoop c) rfl (fun _ _ => .inl (by simp)) harr⟩
theorem inv_drawn {st : St E} {a : Act} {w : World} {g : Gh} (h : Inv T w0 G st a w g) (n : Nat) : Inv T w0 G st a { w with drawn := n } g :=
  h.grow (w' := { w with drawn := n }) ⟨rfl, rfl, rfl, Nat.le_refl _, fun _ _ _ => rfl⟩ none .junk undef (Rep.junk _).toT (fun _ _ _ _ e => by cases e)
theorem repT_evBool {st : St E} {a : Act} {w : World} {g : Gh} (h : Inv T w0 G st a w g) {c : Operand} {b : Bool} (hc : st.ev c = .bool b) : a.eval c = .bool b := by
  have := h.ev c
  rw [hc] at this
  exact repT_bool this
variable {env : Env E} {pl : Plan K} {F : Nat} {J : List Nat}
theorem cuts_ok [hgl : GlOk T w0 G] (henv : ∀ f, Ctr T P f (env f)) {ops : Array Oper} (hJ : ∀ (i : Nat) (o : Oper), ops[i]? = some o → ∀ d, o.dst = some d → d ∉ J) {β : Type} : ∀ (cuts : List (Nat × SS K)) (l : List Nat) (st : St E) (k : St E → Option β) (r : β),
    runCuts T P env pl ops cuts l st k = some r → ∃ st', k st' = some r ∧ ∀ (Q : Exit → Act → World → Prop) (a : Act) (w : World) (g : Gh), Inv T w0 G st a w g →
      (∀ a' w' g', Inv T w0 G st' a' w' g' → Keep J a a' → Q .normal a' w') → wpOps P ops Q l a w
  | [], l, st, k, r, h => by
    obtain ⟨rs, st', h1, h2, h3, h4⟩ := runOps_spec _ _ _ _ _ (fun a ha => by cases ha) h
    refine ⟨st', h3, fun Q a w g hi hn => ?_⟩
    rw [← h1, ← List.append_nil (rs.map (·.i))]
    exact text_ok (T := T) (env := env) (orc := pl.orc) (w0 := w0) (G := G) henv hJ rs _ st' a w g hi h2 [] fun a' w' g' hi' hk => by simpa [wpOps] using hn a' w' g' hi' hk
  | (c, ss) :: cuts, l, st, k, r, h => by
    simp only [runCuts] at h
    obtain ⟨x, hx, h⟩ := Option.bind_eq_some_iff.1 h
    obtain ⟨rs, st1, h1, h2, h3, h4⟩ := runOps_spec _ _ _ _ _ (fun a ha => by cases ha) hx
    obtain ⟨st', hk, hw⟩ := cuts_ok henv hJ cuts (l.drop c) _ k r h
    refine ⟨st', hk, fun Q a w g hi hn => ?_⟩
    rw [← List.take_append_drop c l, ← h1]
    exact text_ok (T := T) (env := env) (orc := pl.orc) (w0 := w0) (G := G) henv hJ rs _ st1 a w g hi h2 _ fun a' w' g' hi' hkp => by
      obtain ⟨g1, hi1⟩ := rdS_ok h3 hi'
      exact hw Q a' w' g1 hi1 fun a2 w2 g2 hi2 hk2 => hn a2 w2 g2 hi2 (hkp.trans hk2)
theorem region_ok [hgl : GlOk T w0 G] (henv : ∀ f, Ctr T P f (env f)) (hm : P.follows .mixedOrders = true) {β : Type} {id : Nat} {ops : Array Oper} {draw : Bool} {l : Nat} {st : St E} {k : Ex → St E → Option β} {r : β}
    (hJ : keepsC J (.region id ops draw) = true) (h : runC T P env pl F (.region id ops draw) l st k = some r) : ∃ e st', k e st' = some r ∧ Goes T P w0 G J (.region id ops draw) st e st' := by
  simp only [runC] at h
  cases draw with
  | true =>
    simp only [if_true] at h
    split at h
    · rename_i hb
      have key : ∀ {γ : Type} (K : St E → Option γ) (y : γ), runOps T P env pl.orc ops (some (masks ops)) (List.range ops.size) [] (forget ((assoc pl.frz id).getD []) st) K = some y →
          ∃ st', K st' = some y ∧ Goes T P w0 G J (.region id ops true) st .norm st' := by
        intro γ K y h
        obtain ⟨rs, st', h1, h2, h3, h4⟩ := runOps_spec _ _ _ _ _ (fun a ha => by cases ha) h
        refine ⟨st', h3, fun a w g hi => wp_region_any hm ?_⟩
        refine any_ok (T := T) (env := env) (orc := pl.orc) (w0 := w0) (G := G) henv hb (keepsO_spec hJ) (st' := st') (a0 := a) (fun a w g hi hk => ⟨rfl, g, hi, hk⟩) _ _ rs _ a _ g (inv_drawn (forget_weak hi _) _) (Keep.refl J a) h2 ?_ (by simp) ?_ (h4 _ rfl).2 ?_
        · rw [h1]; symm
          rw [List.filter_eq_self]
          intro j hj
          simp [List.mem_range.1 hj]
        · intro i o e ho he hbi hl
          by_cases hi : i < ops.size
          · simp [hi] at hl
          · simp [Nat.le_of_not_lt hi] at hl
        · have := congrArg List.length h1
          simp at this
          omega
      split at h
      · obtain ⟨st', h1, h2⟩ := key _ _ h
        exact ⟨.norm, st', h1, h2⟩
      · rename_i ss _
        obtain ⟨x, hx, h⟩ := Option.bind_eq_some_iff.1 h
        obtain ⟨st', h1, h2⟩ := key _ _ hx
        refine ⟨.norm, _, h, fun a w g hi => wp_mono (h2 a w g hi) ?_⟩
        rintro e' a' w' ⟨rfl, g', hi', hk'⟩
        obtain ⟨g1, hi1⟩ := rdS_ok h1 hi'
        exact ⟨rfl, g1, hi1, hk'⟩
    · cases h
  | false =>
    simp only [Bool.false_eq_true, if_false] at h
    obtain ⟨st', h3, hw⟩ := cuts_ok (w0 := w0) (G := G) henv (keepsO_spec hJ) _ _ _ _ _ h
    exact ⟨.norm, st', h3, fun a w g hi => wp_region (hw _ a w g (forget_weak hi _) fun a w g hi hk => ⟨rfl, g, hi, hk⟩)⟩
theorem runC_ok [hgl : GlOk T w0 G] (henv : ∀ f, Ctr T P f (env f)) (hm : P.follows .mixedOrders = true) : ∀ (c : Code), keepsC J c = true → ∀ (l : Nat) (st : St E) (β : Type) (k : Ex → St E → Option β) (r : β), runC T P env pl F c l st k = some r →
    ∃ e st', k e st' = some r ∧ Goes T P w0 G J c st e st' := by
  intro c
  induction c with
  | skip => intro hJ l st β k r h; exact ⟨.norm, st, h, fun a w g hi => wp_skip ⟨rfl, g, hi, Keep.refl J a⟩⟩
  | region id ops draw => intro hJ l st β k r h; exact region_ok henv hm hJ h
  | seq x y ihx ihy =>
    intro hJ l st β k r h
    simp only [keepsC, Bool.and_eq_true] at hJ
    simp only [runC] at h
    obtain ⟨e, st1, hk, hg⟩ := ihx hJ.1 _ _ _ _ _ h
    cases e with
    | norm =>
      obtain ⟨e2, st2, hk2, hg2⟩ := ihy hJ.2 _ _ _ _ _ hk
      refine ⟨e2, st2, hk2, fun a w g hi => wp_seq (wp_mono (hg a w g hi) ?_)⟩
      rintro e a' w' ⟨rfl, g', hi', hk'⟩
      exact wp_mono (hg2 a' w' g' hi') fun e a w ⟨h1, g2, h2, h3⟩ => ⟨h1, g2, h2, hk'.trans h3⟩
    | exit j =>
      refine ⟨.exit j, st1, hk, fun a w g hi => wp_seq (wp_mono (hg a w g hi) ?_)⟩
      rintro e a' w' ⟨rfl, g', hi', hk'⟩
      exact ⟨rfl, g', hi', hk'⟩
    | ret =>
      refine ⟨.ret, st1, hk, fun a w g hi => wp_seq (wp_mono (hg a w g hi) ?_)⟩
      rintro e a' w' ⟨rfl, g', hi', hk'⟩
      exact ⟨rfl, g', hi', hk'⟩
  | cond c x y ihx ihy =>
    intro hJ l st β k r h
    simp only [keepsC, Bool.and_eq_true] at hJ
    simp only [runC] at h
    split at h
    · rename_i b hb
      have hite : ∀ (β : Type) (k : Ex → St E → Option β) (r : β), (if b = true then runC T P env pl F x l st k else runC T P env pl F y l st k) = some r → ∃ e st', k e st' = some r ∧ Goes T P w0 G J (.cond c x y) st e st' := by
        intro β k r h
        cases b with
        | true =>
          obtain ⟨e, st', h1, h2⟩ := ihx hJ.1 _ _ _ _ _ (by simpa using h)
          exact ⟨e, st', h1, fun a w g hi => wp_cond_true (repT_evBool hi hb) (h2 a w g hi)⟩
        | false =>
          obtain ⟨e, st', h1, h2⟩ := ihy hJ.2 _ _ _ _ _ (by simpa using h)
          exact ⟨e, st', h1, fun a w g hi => wp_cond_false (repT_evBool hi hb) (h2 a w g hi)⟩
      split at h
      · exact hite _ _ _ h
      · rename_i hd tl _
        obtain ⟨t, ht, h⟩ := Option.bind_eq_some_iff.1 h
        obtain ⟨e, st1, h1, h2⟩ := hite _ _ _ ht
        obtain ⟨st2, h3, h4⟩ := rdSum_ok (w0 := w0) (G := G) h1
        rw [h3] at h
        refine ⟨e, st2, h, fun a w g hi => wp_mono (h2 a w g hi) ?_⟩
        rintro e' a' w' ⟨rfl, g', hi', hk'⟩
        obtain ⟨g1, hi1⟩ := h4 _ _ _ hi'
        exact ⟨rfl, g1, hi1, hk'⟩
    · cases h
  | block id body ih =>
    intro hJ l st β k r h
    simp only [runC] at h
    have out : ∀ (e : Ex) (st1 : St E), Goes T P w0 G J body st e st1 → Goes T P w0 G J (.block id body) st (exOut id e) st1 := by
      intro e st1 hg a w g hi
      refine wp_block (wp_mono (hg a w g hi) ?_)
      rintro e' a' w' ⟨rfl, g', hi', hk'⟩
      cases e with
      | norm => exact ⟨rfl, g', hi', hk'⟩
      | ret => exact ⟨rfl, g', hi', hk'⟩
      | exit j =>
        by_cases hj : j = id
        · simp only [exOut, hj, if_true, Ex.ex, Exit.inBlock]
          exact ⟨trivial, g', hi', hk'⟩
        · simp only [exOut, hj, if_false, Ex.ex, Exit.inBlock]
          exact ⟨trivial, g', hi', hk'⟩
    split at h
    · obtain ⟨e, st1, hk, hg⟩ := ih hJ _ _ _ _ _ h
      exact ⟨exOut id e, st1, hk, out e st1 hg⟩
    · rename_i hd tl _
      obtain ⟨t, ht, h⟩ := Option.bind_eq_some_iff.1 h
      obtain ⟨e, st1, h1, h2⟩ := ih hJ _ _ _ _ _ ht
      obtain ⟨st2, h3, h4⟩ := rdSum_ok (w0 := w0) (G := G) h1
      rw [h3] at h
      refine ⟨exOut id e, st2, h, fun a w g hi => wp_mono (out e st1 h2 a w g hi) ?_⟩
      rintro e' a' w' ⟨rfl, g', hi', hk'⟩
      obtain ⟨g1, hi1⟩ := h4 _ _ _ hi'
      exact ⟨rfl, g1, hi1, hk'⟩
  | loop body ih =>
    intro hJ l st β k r h
    simp only [runC] at h
    split at h
    · have key : ∀ (n : Nat) (st : St E) (k : Ex → St E → Option β) (r : β), unroll (fun st β k => runC T P env pl F body l st (β := β) k) n st β k = some r →
          ∃ e st', k e st' = some r ∧ ∀ a w g, Inv T w0 G st a w g → loopWp P body (fun e' a' w' => e' = e.ex ∧ ∃ g', Inv T w0 G st' a' w' g' ∧ Keep J a a') a w := by
        intro n
        induction n with
        | zero => intro st k r h; cases h
        | succ n ihn =>
          intro st k r h
          simp only [unroll] at h
          obtain ⟨e1, st1, hk1, hg1⟩ := ih hJ _ _ _ _ _ h
          have other : e1 ≠ .norm → k e1 st1 = some r → ∃ e st', k e st' = some r ∧ ∀ a w g, Inv T w0 G st a w g → loopWp P body (fun e' a' w' => e' = e.ex ∧ ∃ g', Inv T w0 G st' a' w' g' ∧ Keep J a a') a w := by
            intro hne hk
            refine ⟨e1, st1, hk, fun a w g hi => loopWp_round (wp_mono (hg1 a w g hi) ?_)⟩
            rintro e' a' w' ⟨rfl, g', hi', hk'⟩
            cases e1 with
            | norm => exact absurd rfl hne
            | exit j => exact ⟨rfl, g', hi', hk'⟩
            | ret => exact ⟨rfl, g', hi', hk'⟩
          cases e1 with
          | norm =>
            simp only at hk1
            obtain ⟨e, st', h1, h2⟩ := ihn st1 k r hk1
            refine ⟨e, st', h1, fun a w g hi => loopWp_round (wp_mono (hg1 a w g hi) ?_)⟩
            rintro e' a' w' ⟨rfl, g', hi', hk'⟩
            exact loopWp_mono (h2 a' w' g' hi') fun e a w ⟨q1, g2, q2, q3⟩ => ⟨q1, g2, q2, hk'.trans q3⟩
          | exit j => exact other (by simp) hk1
          | ret => exact other (by simp) hk1
      obtain ⟨e, st', h1, h2⟩ := key _ _ _ _ h
      exact ⟨e, st', h1, fun a w g hi => wp_of_loopWp (h2 a w g hi)⟩
    · rename_i ss hd tl _
      obtain ⟨x, hx, h⟩ := Option.bind_eq_some_iff.1 h
      obtain ⟨y, hy, h⟩ := Option.bind_eq_some_iff.1 h
      have key : ∀ (n : Nat) (x : tyI E ss.its) (y : sumT E hd tl), loopM (fun x => runC T P env pl F body l (absI T pl.nt ss.its x) fun e st' => match e with
          | .norm => (rdS T pl.nt ss st').bind fun v => some (Sum.inl v)
          | e => (rdSum T pl.nt hd tl e st').bind fun v => some (Sum.inr v)) n x = some y →
          ∃ e st', (∀ (γ : Type) (k : Ex → St E → γ), absSum T pl.nt hd tl y k = k e st') ∧ ∀ a w g, Inv T w0 G (absI T pl.nt ss.its x) a w g → loopWp P body (fun e' a' w' => e' = e.ex ∧ ∃ g', Inv T w0 G st' a' w' g' ∧ Keep J a a') a w := by
        intro n
        induction n with
        | zero => intro x y h; cases h
        | succ n ihn =>
          intro x y h
          simp only [loopM] at h
          obtain ⟨q, hq, h⟩ := Option.bind_eq_some_iff.1 h
          obtain ⟨e1, st1, hk1, hg1⟩ := ih hJ _ _ _ _ _ hq
          have other : e1 ≠ .norm → ((rdSum T pl.nt hd tl e1 st1).bind fun v => some (Sum.inr v : tyI E ss.its ⊕ sumT E hd tl)) = some q → ∃ e st', (∀ (γ : Type) (k : Ex → St E → γ), absSum T pl.nt hd tl y k = k e st') ∧ ∀ a w g, Inv T w0 G (absI T pl.nt ss.its x) a w g → loopWp P body (fun e' a' w' => e' = e.ex ∧ ∃ g', Inv T w0 G st' a' w' g' ∧ Keep J a a') a w := by
            intro hne hk
            obtain ⟨v, hv, hk⟩ := Option.bind_eq_some_iff.1 hk
            cases hk
            cases h
            obtain ⟨st2, h3, h4⟩ := rdSum_ok (w0 := w0) (G := G) hv
            refine ⟨e1, st2, h3, fun a w g hi => loopWp_round (wp_mono (hg1 a w g hi) ?_)⟩
            rintro e' a' w' ⟨rfl, g', hi', hk'⟩
            obtain ⟨g1, hi1⟩ := h4 _ _ _ hi'
            cases e1 with
            | norm => exact absurd rfl hne
            | exit j => exact ⟨rfl, g1, hi1, hk'⟩
            | ret => exact ⟨rfl, g1, hi1, hk'⟩
          cases e1 with
          | norm =>
            simp only at hk1
            obtain ⟨v, hv, hk1⟩ := Option.bind_eq_some_iff.1 hk1
            cases hk1
            obtain ⟨e, st', h1, h2⟩ := ihn v y h
            refine ⟨e, st', h1, fun a w g hi => loopWp_round (wp_mono (hg1 a w g hi) ?_)⟩
            rintro e' a' w' ⟨rfl, g', hi', hk'⟩
            obtain ⟨g1, hi1⟩ := rdS_ok hv hi'
            exact loopWp_mono (h2 a' w' g1 hi1) fun e a w ⟨q1, g2, q2, q3⟩ => ⟨q1, g2, q2, hk'.trans q3⟩
          | exit j => exact other (by simp) hk1
          | ret => exact other (by simp) hk1
      obtain ⟨e, st', h1, h2⟩ := key F x y hy
      rw [h1] at h
      refine ⟨e, st', h, fun a w g hi => ?_⟩
      obtain ⟨g1, hi1⟩ := rdS_ok hx hi
      exact wp_of_loopWp (h2 a w g1 hi1)
  | exit id => intro hJ l st β k r h; exact ⟨.exit id, st, h, fun a w g hi => wp_exit ⟨rfl, g, hi, Keep.refl J a⟩⟩
  | ret => intro hJ l st β k r h; exact ⟨.ret, st, h, fun a w g hi => wp_ret ⟨rfl, g, hi, Keep.refl J a⟩⟩
  | _ => intro hJ l st β k r h; simp [runC] at h
end
end Go.Vm
/- The abstract value machine: how a function begins and ends. -/
namespace Go.Vm
open Go.Lib
set_option linter.unusedVariables false
variable {K : Type} {E : K → Type}
variable {T : Tab E} {P : Program}
/-! ### the beginning -/
def pinNew : DV E → DV E
  | .pin t cs => .newb t cs
  | .newb t cs => match cs with
    | [d] => d
    | cs => .newb t cs
  | d => d
def st0 (nt : Nat) (ds : List (DV E)) : St E :=
  ⟨(convParts 1 [] (ds.map pinNew)).1 ++ List.replicate (nt - ds.length) .junk, (convParts 1 [] (ds.map pinNew)).2⟩
/-! ### the end -/
def passRes (mem : Mem E) (nm : List (Nat × Nat)) (d : DV E) : DV E × List Nat :=
  match d with
  | .ptr n 0 => match assoc nm n with
    | some j => (.argp j, [])
    | none => match look mem n with
      | some (.cells t cs) => (.newb t (cs.map (passCell n mem)), n :: cs.flatMap (invCell mem))
      | _ => (.junk, [])
  | .rowv _ _ => (.junk, [])
  | d => (passArg mem .give d, invN mem .give d)
def pinsEnd (mem : Mem E) (tmps : List (DV E)) : Nat → List (DV E) → Option (List (Nat × Nat) × List (List (DV E)) × List Nat)
  | _, [] => some ([], [], [])
  | j, d :: r => match d with
    | .pin t _ => match tmps.getD j .junk with
      | .ptr n 0 => match look mem n with
        | some (.cells t' cs) => if t' = t then (pinsEnd mem tmps (j + 1) r).bind fun q => some ((n, j) :: q.1, cs.map (passCell n mem) :: q.2.1, (n :: cs.flatMap (invCell mem)) ++ q.2.2) else none
        | _ => none
      | _ => none
    | .newb _ _ => match tmps.getD j .junk with
      | .rowp n => match look mem n with
        | some (.row e k l) => (pinsEnd mem tmps (j + 1) r).bind fun q => some (q.1, [.row e k l] :: q.2.1, n :: q.2.2)
        | _ => none
      | _ => none
    | _ => pinsEnd mem tmps (j + 1) r
def resEnd (ts : List Nat) (ds : List (DV E)) (st : St E) : Option (Res E) :=
  (pinsEnd st.mem st.tmps 0 ds).bind fun q =>
    if nodupB ((ts.flatMap fun t => (passRes st.mem q.1 (st.tmps.getD t .junk)).2) ++ q.2.2) = true then
      some ⟨match ts with
        | [t] => (passRes st.mem q.1 (st.tmps.getD t .junk)).1
        | ts => .tup (ts.map fun t => (passRes st.mem q.1 (st.tmps.getD t .junk)).1), q.2.1⟩
    else none
def loadRl (T : Tab E) (P : Program) {β : Type} : List (Nat × Option TypeId) → St E → List (DV E) → (St E → Option β) → Option β
  | [], st, acc, K => K ⟨st.tmps ++ acc, st.mem⟩
  | (t, none) :: r, st, acc, K => if (isRptr (st.tmps.getD t .junk)).isSome then none else loadRl T P r st (acc ++ [st.tmps.getD t .junk]) K
  | (ad, some ty) :: r, st, acc, K => (loadB T P ty (st.tmps.getD ad .junk) st.mem).run fun o => loadRl T P r st (acc ++ [o.v]) K
def loadRc (T : Tab E) (P : Program) {β : Type} (nt : Nat) (rc : List (Nat × Option TypeId)) (st : St E) (K : St E → Option β) : Option β := match rc with
  | [] => K st
  | x :: r => if st.tmps.length = nt then loadRl T P (x :: r) st [] K else none
section
variable {w : World} {Y : Nat → Prop} {bl : List Nat}
theorem own_ans {args : List Value} {d : DV E} {v : Value} {b : List Nat} (h : Own T w Y d v b) : Ans T w Y args (pinNew d) v b := by
  cases h with
  | pin h => exact .newb h
  | lend h => exact .c (.row h)
  | c h =>
    have : pinNew d = d := by
      cases h with
      | sh hr hs => cases d <;> first | rfl | (simp [DV.share, DV.lay, DV.plain] at hs; done)
      | _ => rfl
    rw [this]
    exact .c h
theorem own_pin {t : TypeId} {cs : List (DV E)} {v : Value} {b : List Nat} (h : Own T w Y (.pin t cs) v b) : OwnBox T w Y t cs v b := by
  cases h with
  | pin h => exact h
  | c h => cases h with
    | sh hr hs => simp [DV.share, DV.lay, DV.plain] at hs
theorem ownL_len {R : DV E → Value → List Nat → Prop} {ds : List (DV E)} {vs : List Value} {bl : List Nat} (h : OwnL R ds vs bl) : ds.length = vs.length := by
  induction h with
  | nil => rfl
  | cons _ _ ih => simp [ih]
def hidG (w : World) (Y : Nat → Prop) (bl : List Nat) : Gh := ⟨fun _ => undef, fun b => b < w.heap.size ∧ ¬ Y b ∧ b ∉ bl⟩
theorem begin_ok {nt : Nat} {ds : List (DV E)} {vs : Array Value} (h : OwnL (Own T w Y) ds vs.toList bl) (hnd : bl.Nodup) (hY : ∀ b ∈ bl, ¬ Y b ∧ b < w.heap.size) (hn : nodupB (names (st0 nt ds).mem) = true) (hlen : ds.length ≤ nt) :
    ∃ g : Gh, Inv T w ⟨(· ∈ bl), (hidG w Y bl).hid⟩ (st0 nt ds) { tmps := vs ++ Array.replicate (nt - vs.size) undef, defers := [] } w g := by
  have hl := ownL_len h
  have ha : OwnL (Ans T w Y []) (ds.map pinNew) vs.toList bl := h.map pinNew fun d v b hd => own_ans hd
  obtain ⟨es, e1, e2, e3, e4, e5⟩ := convParts_ok [] ha 1
  have hmem : (st0 nt ds).mem = entMem es := e1.symm
  have hnn : (entNames es).Nodup := by rw [entNames_mem, ← hmem]; exact nodupB_spec hn
  have hnew : newMem ([] : Mem E) es [] (entNames es) = entMem es := by
    have : dropL ([] : Mem E) (entNames es) = [] := by
      generalize entNames es = l
      induction l with
      | nil => rfl
      | cons x l ih => exact ih
    unfold newMem
    rw [this]
    simp [killM]
  have hblk : blks (entMem es) (updL (hidG w Y bl) es) = bl := by
    have := blks_newMem (g := hidG w Y bl) (ks := []) (m := ([] : Mem E)) hnn (fun n hn => hn)
    rw [hnew] at this
    rw [this, e2]
    have : dropL ([] : Mem E) (entNames es) = [] := by
      generalize entNames es = l
      induction l with
      | nil => rfl
      | cons x l ih => exact ih
    rw [this]
    simp [blks]
  have hw : Wide T w Y (free (entMem es) (updL (hidG w Y bl) es)) := by
    intro b hb hlt
    refine ⟨by rw [hblk]; exact fun hb' => (hY b hb').1 hb, fun hh => ?_⟩
    exact hh.2.1 hb
  have hag : Agrees (updL (hidG w Y bl) es) es := fun x hx => updL_mem hnn hx
  have e5 := e5 _ _ hw hag (fun j n u hj => by simp at hj)
  refine ⟨updL (hidG w Y bl) es, rfl, ?_, ?_, ?_, ?_, ?_, ?_, Frame0.refl _ _, ?_, rfl, ?_⟩
  · simp [st0, e4, hl]
  · intro i hi
    rw [hmem]
    by_cases hiv : i < vs.toList.length
    · have hic : i < (convParts 1 [] (ds.map pinNew)).1.length := by rw [e4]; exact hiv
      have h1 : (st0 nt ds).tmps[i] = (convParts 1 [] (ds.map pinNew)).1[i] := by simp [st0, List.getElem_append_left hic]
      have h2 : (vs ++ Array.replicate (nt - vs.size) undef).getD i undef = vs.toList[i] := by
        have : i < vs.size := by simpa using hiv
        simp [Array.getElem?_append_left this, this]
      rw [h1, h2]
      exact .of1 (e5 i hic hiv).1
    · have hic : (convParts 1 [] (ds.map pinNew)).1.length ≤ i := by rw [e4]; omega
      have h1 : (st0 nt ds).tmps[i] = .junk := by simp [st0, List.getElem_append_right hic]
      rw [h1]
      exact (Rep.junk _).toT
  · rw [hmem]; rw [entNames_mem] at hnn; exact hnn
  · rw [hmem, hblk]; exact hnd
  · intro n bx hm
    rw [hmem] at hm ⊢
    obtain ⟨x, hx, he⟩ := List.mem_map.1 hm
    cases he
    have := e3 _ _ hw hag x hx
    rw [← hag x hx] at this
    exact this
  · rw [hmem, hblk]
    exact fun b hb => ⟨(hY b hb).2, .inr hb⟩
  · intro i hi n j cs off he
    by_cases hiv : i < vs.toList.length
    · have hic : i < (convParts 1 [] (ds.map pinNew)).1.length := by rw [e4]; exact hiv
      have h1 : (st0 nt ds).tmps[i] = (convParts 1 [] (ds.map pinNew)).1[i] := by simp [st0, List.getElem_append_left hic]
      have := (e5 i hic hiv).2
      rw [← h1, he] at this
      simp [DV.noR] at this
    · have hic : (convParts 1 [] (ds.map pinNew)).1.length ≤ i := by rw [e4]; omega
      have h1 : (st0 nt ds).tmps[i] = .junk := by simp [st0, List.getElem_append_right hic]
      rw [h1] at he
      cases he
  · rintro b ⟨h1, h2, h3⟩
    exact ⟨h1, h3⟩
end
end Go.Vm
/- The abstract value machine: functions keep their contracts. -/
namespace Go.Vm
open Go.Lib
set_option linter.unusedVariables false
variable {K : Type} {E : K → Type}
variable {T : Tab E} {P : Program}
section
variable {w0 w : World} {Y : Nat → Prop} {bl : List Nat} {st : St E} {a : Act} {g : Gh}
theorem passRes_names {mem : Mem E} {nm : List (Nat × Nat)} {d : DV E} {n : Nat} (h : n ∈ (passRes mem nm d).2) : n ∈ names mem := by
  unfold passRes at h
  split at h
  · rename_i m
    split at h
    · cases h
    · split at h
      · rename_i t cs hl
        have : n ∈ invN mem .give (.ptr m 0 : DV E) := by simpa [invN, hl] using h
        exact inv_names this
      · cases h
  · cases h
  · exact inv_names (b := .give) (d := d) h
theorem assoc_mem {α : Type} {l : List (Nat × α)} {n : Nat} {x : α} (h : assoc l n = some x) : (n, x) ∈ l := by
  induction l with
  | nil => cases h
  | cons y l ih =>
    obtain ⟨k, b⟩ := y
    unfold assoc at h
    split at h
    · rename_i e; cases h; subst e; exact List.mem_cons_self ..
    · exact List.mem_cons_of_mem _ (ih h)
theorem passRes_ok {G : GP} (h : Inv T w0 G st a w g) {Y' : Nat → Prop} (hY : ∀ b, free st.mem g b → Y' b) {args : List Value} {nm : List (Nat × Nat)}
    (hnm : ∀ n j, (n, j) ∈ nm → args[j]? = some (g n)) {d : DV E} {v : Value} (hd : RepT T w (free st.mem g) g d v) :
    Ans T w Y' args (passRes st.mem nm d).1 v ((passRes st.mem nm d).2.flatMap (bk g)) ∧ ∀ ds, (passRes st.mem nm d).1 ≠ .tup ds := by
  have gen : ∀ d : DV E, RepT T w (free st.mem g) g d v → (∀ n b, d ≠ .rowv n b) → (∀ n, d ≠ .ptr n 0) → Ans T w Y' args (passArg st.mem .give d) v ((invN st.mem .give d).flatMap (bk g)) ∧ ∀ ds, passArg st.mem .give d ≠ .tup ds := by
    intro d hd h1 h2
    have ho := pass_ok h hY .give hd (fun n hn => by
      unfold viewN at hn
      split at hn
      · simp at hn
      · exact absurd rfl (h1 _ _)
      · cases hn)
    have hnp0 : isPin (passArg st.mem .give d) = false := pass_notPin st.mem (d, .give) (by
        rintro (⟨n, t, cs, e, _⟩ | ⟨e, _⟩)
        · exact absurd e (h2 n)
        · cases e)
    have hnp : ∀ t cs, passArg st.mem .give d ≠ .pin t cs ∧ passArg st.mem .give d ≠ .newb t cs := by
      intro t cs
      constructor <;> intro he <;> rw [he] at hnp0 <;> simp [isPin] at hnp0
    clear hnp0
    generalize passArg st.mem .give d = d' at ho hnp
    generalize (invN st.mem .give d).flatMap (bk g) = bb at ho
    refine ⟨?_, ?_⟩
    · cases ho with
      | c hc => exact .c hc
      | pin hp => exact absurd rfl (hnp _ _).1
      | lend hp => exact absurd rfl (hnp _ _).2
    · intro ds e
      subst e
      cases ho with
      | c hc => cases hc with
        | sh _ hs => simp [DV.share, DV.lay, DV.plain] at hs
  unfold passRes
  split
  · rename_i n
    split
    · rename_i j hj
      obtain ⟨b, h1, h2⟩ := repT_ptr hd
      refine ⟨.argp ?_, fun ds e => by cases e⟩
      rw [hnm n j (assoc_mem hj), h1, h2]
    · have ho := pass_ok h hY .give hd (fun n hn => by simp [viewN] at hn)
      split
      · rename_i t cs hl
        simp only [passArg, hl, invN] at ho
        exact ⟨.newb (own_pin ho), fun ds e => by cases e⟩
      · exact ⟨.c (.junk v), fun ds e => by cases e⟩
  · exact ⟨.c (.junk v), fun ds e => by cases e⟩
  · rename_i h1 h2
    exact gen d hd (fun n b e => h2 n b e) (fun n e => h1 n e)
theorem ansT_of {Y' : Nat → Prop} {args : List Value} {d : DV E} {v : Value} {b : List Nat} (h : Ans T w Y' args d v b) (hn : ∀ ds, d ≠ .tup ds) : AnsT T w Y' args d v b := by
  cases d <;> first | exact h | exact absurd rfl (hn _)
theorem pinsEnd_names {mem : Mem E} {tmps : List (DV E)} : ∀ (ds : List (DV E)) (j : Nat) (q : List (Nat × Nat) × List (List (DV E)) × List Nat), pinsEnd mem tmps j ds = some q → ∀ n ∈ q.2.2, n ∈ names mem
  | [], j, q, h, n, hn => by cases h; cases hn
  | d :: r, j, q, h, n, hn => by
    unfold pinsEnd at h
    split at h
    · rename_i t _
      split at h
      · rename_i m _
        split at h
        · rename_i t' cs hl
          obtain ⟨_, h⟩ := ite_some h
          obtain ⟨q', h1, h2⟩ := Option.bind_eq_some_iff.1 h
          cases h2
          rcases List.mem_append.1 hn with hn | hn
          · have : n ∈ invN mem .give (.ptr m 0 : DV E) := by simpa [invN, hl] using hn
            exact inv_names this
          · exact pinsEnd_names r (j + 1) q' h1 n hn
        · cases h
      · cases h
    · split at h
      · rename_i m _
        split at h
        · rename_i e k l hl
          obtain ⟨q', h1, h2⟩ := Option.bind_eq_some_iff.1 h
          cases h2
          rcases List.mem_cons.1 hn with rfl | hn
          · exact look_names hl
          · exact pinsEnd_names r (j + 1) q' h1 n hn
        · cases h
      · cases h
    · exact pinsEnd_names r (j + 1) q h n hn
def pinIdx : Nat → List (DV E) → List Nat
  | _, [] => []
  | j, d :: r => if isPin d = true then j :: pinIdx (j + 1) r else pinIdx (j + 1) r
theorem pinsEnd_ok {G : GP} (h : Inv T w0 G st a w g) {Y' : Nat → Prop} (hY : ∀ b, free st.mem g b → Y' b) :
    ∀ (ds : List (DV E)) (vs : List Value) (j : Nat) (q : List (Nat × Nat) × List (List (DV E)) × List Nat), ds.length = vs.length → pinsEnd st.mem st.tmps j ds = some q → (∀ i ∈ pinIdx j ds, ∃ i', i = j + i' ∧ vs[i']? = some (a.tmps.getD i undef)) →
      PinsL T w Y' ds vs q.2.1 (q.2.2.flatMap (bk g)) ∧ ∀ n i, (n, i) ∈ q.1 → ∃ i', i = j + i' ∧ vs[i']? = some (g n)
  | [], [], j, q, _, h1, hk => by cases h1; exact ⟨.nil, fun n i hm => by cases hm⟩
  | [], _ :: _, _, _, hl, _, _ => by simp at hl
  | _ :: _, [], _, _, hl, _, _ => by simp at hl
  | d :: r, v :: vs, j, q, hl, h1, hk => by
    have hl' : r.length = vs.length := by simpa using hl
    have hk' : ∀ i ∈ pinIdx (j + 1) r, ∃ i', i = (j + 1) + i' ∧ vs[i']? = some (a.tmps.getD i undef) := by
      intro i hi
      have hi1 : i ∈ pinIdx j (d :: r) := by
        unfold pinIdx; split
        · exact List.mem_cons_of_mem _ hi
        · exact hi
      obtain ⟨i', e, hv⟩ := hk i hi1
      have hge : ∀ (r : List (DV E)) (k i : Nat), i ∈ pinIdx k r → k ≤ i := by
        intro r
        induction r with
        | nil => intro k i hi; cases hi
        | cons d r ih =>
          intro k i hi
          unfold pinIdx at hi
          split at hi
          · rcases List.mem_cons.1 hi with rfl | hi
            · exact Nat.le_refl _
            · have := ih _ _ hi; omega
          · have := ih _ _ hi; omega
      have := hge r (j + 1) i hi
      cases i' with
      | zero => omega
      | succ i' => exact ⟨i', by omega, by simpa using hv⟩
    unfold pinsEnd at h1
    split at h1
    · rename_i t cs0
      split at h1
      · rename_i n hn
        split at h1
        · rename_i t' cs hlook
          obtain ⟨et, h1'⟩ := ite_some h1
          clear h1
          subst et
          obtain ⟨q', h2, h3⟩ := Option.bind_eq_some_iff.1 h1'
          cases h3
          obtain ⟨p1, p2⟩ := pinsEnd_ok h hY r vs (j + 1) q' hl' h2 hk'
          obtain ⟨i', e, hv⟩ := hk j (by unfold pinIdx; simp [isPin])
          have : i' = 0 := by omega
          subst this
          simp only [List.getElem?_cons_zero, Option.some.injEq] at hv
          have hr : RepT T w (free st.mem g) g (.ptr n 0) v := by
            have := h.ev (.tmp j)
            simp only [St.ev, Act.eval, hn] at this
            rw [hv]
            exact this
          have ho := pass_ok h hY .give hr (fun n hn => by simp [viewN] at hn)
          simp only [passArg, hlook, invN] at ho
          obtain ⟨b, q1, q2⟩ := repT_ptr hr
          refine ⟨?_, ?_⟩
          · rw [List.flatMap_append]
            exact .pin (own_pin ho) p1
          · intro m i hm
            rcases List.mem_cons.1 hm with hm | hm
            · cases hm
              exact ⟨0, rfl, by simp [q1, q2]⟩
            · obtain ⟨i', e, hv⟩ := p2 m i hm
              exact ⟨i' + 1, by omega, by simpa using hv⟩
        · cases h1
      · cases h1
    · split at h1
      · rename_i n hn
        split at h1
        · rename_i e k l hlook
          obtain ⟨q', h2, h3⟩ := Option.bind_eq_some_iff.1 h1
          cases h3
          obtain ⟨p1, p2⟩ := pinsEnd_ok h hY r vs (j + 1) q' hl' h2 hk'
          obtain ⟨i', ei, hv⟩ := hk j (by unfold pinIdx; simp [isPin])
          have : i' = 0 := by omega
          subst this
          simp only [List.getElem?_cons_zero, Option.some.injEq] at hv
          have hr : RepT T w (free st.mem g) g (.rowp n) v := by
            have := h.ev (.tmp j)
            simp only [St.ev, Act.eval, hn] at this
            rw [hv]
            exact this
          have hvn : v = g n := hr
          have hrow : RepRow T w (free st.mem g) e k l (g n) := h.mm n _ (look_mem hlook)
          refine ⟨?_, ?_⟩
          · rw [List.flatMap_cons, hvn]
            exact .lend (hrow.mono (fun b hb hlt => ⟨hY b hb, hlt, rfl⟩) fun _ _ => rfl) p1
          · intro m i hm
            obtain ⟨i', ei, hv⟩ := p2 m i hm
            exact ⟨i' + 1, by omega, by simpa using hv⟩
        · cases h1
      · cases h1
    · rename_i hnp hnp2
      obtain ⟨p1, p2⟩ := pinsEnd_ok h hY r vs (j + 1) q hl' h1 hk'
      refine ⟨.skip (fun t cs => ⟨fun e => hnp t cs e, fun e => hnp2 t cs e⟩) p1, ?_⟩
      intro m i hm
      obtain ⟨i', e, hv⟩ := p2 m i hm
      exact ⟨i' + 1, by omega, by simpa using hv⟩
def retV (ts : List Nat) (a : Act) : Value := match ts with
  | [t] => a.tmps.getD t undef
  | ts => .tuple (ts.map fun t => a.tmps.getD t undef).toArray
theorem end_ok {vs : Array Value} {ds : List (DV E)} (h : Inv T w0 ⟨(· ∈ bl), (hidG w0 Y bl).hid⟩ st a w g) (hl : ds.length = vs.size) {ts : List Nat} {res : Res E} (hr : resEnd ts ds st = some res)
    (hk : ∀ i ∈ pinIdx 0 ds, vs.toList[i]? = some (a.tmps.getD i undef)) :
    ∃ bl1 bl2, (bl1 ++ bl2).Nodup ∧ (∀ b ∈ bl1 ++ bl2, b < w.heap.size ∧ (w0.heap.size ≤ b ∨ b ∈ bl)) ∧
      AnsT T w (fun b => (Y b ∨ w0.heap.size ≤ b ∨ b ∈ bl) ∧ b ∉ bl1 ++ bl2) vs.toList res.v (retV ts a) bl1 ∧
      PinsL T w (fun b => (Y b ∨ w0.heap.size ≤ b ∨ b ∈ bl) ∧ b ∉ bl1 ++ bl2) ds vs.toList res.pins bl2 ∧ Frame0 (· ∈ bl) w0 w := by
  unfold resEnd at hr
  obtain ⟨q, hq, hr⟩ := Option.bind_eq_some_iff.1 hr
  obtain ⟨hn, hr⟩ := ite_some hr
  cases hr
  obtain ⟨bl1, hbl1⟩ : ∃ bl1, bl1 = (ts.flatMap fun t => (passRes st.mem q.1 (st.tmps.getD t .junk)).2).flatMap (bk g) := ⟨_, rfl⟩
  obtain ⟨bl2, hbl2⟩ : ∃ bl2, bl2 = q.2.2.flatMap (bk g) := ⟨_, rfl⟩
  have hnm1 : ∀ n ∈ (ts.flatMap fun t => (passRes st.mem q.1 (st.tmps.getD t .junk)).2) ++ q.2.2, n ∈ names st.mem := by
    intro n hn
    rcases List.mem_append.1 hn with hn | hn
    · obtain ⟨t, _, hn⟩ := List.mem_flatMap.1 hn
      exact passRes_names hn
    · exact pinsEnd_names ds 0 q hq n hn
  have hb12 : bl1 ++ bl2 = ((ts.flatMap fun t => (passRes st.mem q.1 (st.tmps.getD t .junk)).2) ++ q.2.2).flatMap (bk g) := by rw [hbl1, hbl2, List.flatMap_append]
  have hin : ∀ b ∈ bl1 ++ bl2, b ∈ blks st.mem g := by
    intro b hb
    rw [hb12] at hb
    obtain ⟨n, h1, h2⟩ := List.mem_flatMap.1 hb
    exact mem_blks.2 ⟨n, hnm1 n h1, by simpa [bk] using h2⟩
  have hY : ∀ b, free st.mem g b → (fun b => (Y b ∨ w0.heap.size ≤ b ∨ b ∈ bl) ∧ b ∉ bl1 ++ bl2) b := by
    intro b hf
    refine ⟨?_, fun hb => hf.1 (hin b hb)⟩
    have h2 := hf.2
    rw [h.hz.1] at h2
    by_cases h3 : w0.heap.size ≤ b
    · exact .inr (.inl h3)
    by_cases h4 : Y b
    · exact .inl h4
    by_cases h5 : b ∈ bl
    · exact .inr (.inr h5)
    exact absurd ⟨by omega, h4, h5⟩ h2
  obtain ⟨hp, hnm⟩ := pinsEnd_ok h hY ds vs.toList 0 q (by simpa using hl) hq (fun i hi => ⟨i, by omega, hk i hi⟩)
  have hnm' : ∀ n j, (n, j) ∈ q.1 → vs.toList[j]? = some (g n) := by
    intro n j hm
    obtain ⟨i', e, hv⟩ := hnm n j hm
    have : j = i' := by omega
    subst this
    exact hv
  have hpart : ∀ t, Ans T w (fun b => (Y b ∨ w0.heap.size ≤ b ∨ b ∈ bl) ∧ b ∉ bl1 ++ bl2) vs.toList (passRes st.mem q.1 (st.tmps.getD t .junk)).1 (a.tmps.getD t undef) ((passRes st.mem q.1 (st.tmps.getD t .junk)).2.flatMap (bk g)) ∧ ∀ ds, (passRes st.mem q.1 (st.tmps.getD t .junk)).1 ≠ .tup ds :=
    fun t => passRes_ok h hY hnm' (h.ev (.tmp t))
  refine ⟨bl1, bl2, ?_, ?_, ?_, by rw [hbl2]; rw [hbl2] at hp; exact hp, h.fr⟩
  · rw [hb12]
    exact nodup_bk h.nd h.nn (nodupB_spec hn) hnm1
  · intro b hb
    exact h.bo b (hin b hb)
  · have many : ∀ ts : List Nat, OwnL (Ans T w (fun b => (Y b ∨ w0.heap.size ≤ b ∨ b ∈ bl) ∧ b ∉ bl1 ++ bl2) vs.toList) (ts.map fun t => (passRes st.mem q.1 (st.tmps.getD t .junk)).1) (ts.map fun t => a.tmps.getD t undef)
        ((ts.flatMap fun t => (passRes st.mem q.1 (st.tmps.getD t .junk)).2).flatMap (bk g)) := by
      intro ts
      induction ts with
      | nil => exact .nil
      | cons t ts ih => simp only [List.map_cons, List.flatMap_cons, List.flatMap_append]; exact .cons (hpart t).1 ih
    match ts, hbl1 with
    | [t], hbl1 =>
      simp only [retV]
      refine ansT_of ?_ (hpart t).2
      rw [hbl1]
      simp only [List.flatMap_cons, List.flatMap_nil, List.append_nil]
      rw [← List.append_nil (List.flatMap (bk g) _)]
      simpa [hbl1, List.flatMap_append] using (hpart t).1
    | [], hbl1 => exact ⟨_, rfl, by simpa [hbl1] using many []⟩
    | t :: t' :: ts, hbl1 => exact ⟨_, rfl, by rw [hbl1]; simpa [hbl1] using many (t :: t' :: ts)⟩
end
end Go.Vm
/- The abstract value machine: from the run of a body to the function's contract. -/
namespace Go.Vm
open Go.Lib
set_option linter.unusedVariables false
variable {K : Type} {E : K → Type}
inductive SR (K : Type) where
  | one (s : S1 K) | tup (ss : List (S1 K))
variable (E) in
def tyS : List (S1 K) → Type
  | [] => Unit
  | [s] => s.ty E
  | s :: r => s.ty E × tyS r
variable (E) in
def tyP : List (List (S0 K)) → Type
  | [] => Unit
  | [s] => tyL E s
  | s :: r => tyL E s × tyP r
variable (E) in
def SR.ty : SR K → Type
  | .one s => s.ty E
  | .tup ss => tyS E ss
structure Spec (K : Type) where
  params : List (S1 K)
  ret : SR K
  pins : List (List (S0 K)) := []
  pl : Plan K
  rfrz : List Nat := []
  ts : List Nat
  rc : List (Nat × Option TypeId) := []
  rco : List (Co K) := []
def rcVar : Nat × Option TypeId → ResultVar
  | (t, none) => .tmp t
  | (t, some ty) => .cell t ty
def Spec.vars (s : Spec K) : Array ResultVar := match s.rc with
  | [] => (s.ts.map ResultVar.tmp).toArray
  | rc => (rc.map rcVar).toArray
variable (E) in
def Spec.R (s : Spec K) : Type := match s.pins with
  | [] => s.ret.ty E
  | p :: ps => s.ret.ty E × tyP E (p :: ps)
section
variable (T : Tab E)
def absSs : (ss : List (S1 K)) → tyS E ss → List (DV E)
  | [], _ => []
  | [s], x => [s.abs T x]
  | s :: s' :: r, x => s.abs T x.1 :: absSs (s' :: r) x.2
def rdSs : (ss : List (S1 K)) → List (DV E) → Option (tyS E ss)
  | [], [] => some ()
  | [s], [d] => s.rd T d
  | s :: s' :: r, d :: ds => (s.rd T d).bind fun x => (rdSs (s' :: r) ds).bind fun y => some (x, y)
  | _, _ => none
def absPs : (ss : List (List (S0 K))) → tyP E ss → List (List (DV E))
  | [], _ => []
  | [s], x => [absL s x]
  | s :: s' :: r, x => absL s x.1 :: absPs (s' :: r) x.2
def rdPs : (ss : List (List (S0 K))) → List (List (DV E)) → Option (tyP E ss)
  | [], [] => some ()
  | [s], [d] => rdL T s d
  | s :: s' :: r, d :: ds => (rdL T s d).bind fun x => (rdPs (s' :: r) ds).bind fun y => some (x, y)
  | _, _ => none
def SR.abs : (s : SR K) → s.ty E → DV E
  | .one s, x => s.abs T x
  | .tup ss, x => .tup (absSs T ss x)
def gTup (d : DV E) : Option (List (DV E)) := match d with
  | .tup ds => some ds
  | _ => none
def SR.rd : (s : SR K) → DV E → Option (s.ty E)
  | .one s, d => s.rd T d
  | .tup ss, d => (gTup d).bind (rdSs T ss)
def absR (s : Spec K) : s.R E → Res E := match s with
  | ⟨_, ret, [], _, _, _, _, _⟩ => fun x => ⟨ret.abs T x, []⟩
  | ⟨_, ret, p :: ps, _, _, _, _, _⟩ => fun x => ⟨ret.abs T x.1, absPs (p :: ps) x.2⟩
def rdR (s : Spec K) (res : Res E) : Option (s.R E) := match s with
  | ⟨_, ret, [], _, _, _, _, _⟩ => match res.pins with
    | [] => ret.rd T res.v
    | _ => none
  | ⟨_, ret, p :: ps, _, _, _, _, _⟩ => (ret.rd T res.v).bind fun x => (rdPs T (p :: ps) res.pins).bind fun y => some (x, y)
def normC (s : S0 K) (d : DV E) : DV E :=
  match s with
  | .slc k => match d with
    | .nils => .slc k []
    | d => d
  | .row e k => match d with
    | .nils => .row e k []
    | d => d
  | .argp _ => match d with
    | .nilp => .argp 0
    | d => d
  | .junk => if d.plain = true then .junk else d
  | _ => d
def normCs : List (S0 K) → List (DV E) → List (DV E)
  | s :: ss, d :: ds => normC s d :: normCs ss ds
  | _, ds => ds
def normP (s : S1 K) (d : DV E) : DV E :=
  match s with
  | .a (.slc k) => match d with
    | .nils => .slc k []
    | d => d
  | .a (.row e k) => match d with
    | .nils => .row e k []
    | d => d
  | .a .junk => if d.share = true then .junk else d
  | .pin _ ss => match d with
    | .pin t cs => .pin t (normCs ss cs)
    | d => d
  | _ => d
def normL : List (S1 K) → List (DV E) → List (DV E)
  | s :: ss, d :: ds => normP s d :: normL ss ds
  | _, ds => ds
def S0.flat (fk : K → Bool) : S0 K → Bool
  | .int _ | .bool | .str | .nilp | .nili | .nils | .argp _ => true
  | .row _ k => fk k
  | .arr _ k => fk k
  | _ => false
def S1.flat (fk : K → Bool) : S1 K → Bool
  | .a s => s.flat fk
  | _ => false
def SR.flat (fk : K → Bool) : SR K → Bool
  | .one (.agg ss) => ss.all (S0.flat fun _ => false)
  | .one s => s.flat fk
  | .tup ss => ss.all (S1.flat fk)
def Spec.flat (s : Spec K) : Bool := s.ret.flat T.fk && s.pins.all fun p => p.all (S0.flat T.fk)
def conOf (s : Spec K) (M : tyS E s.params → Option (s.R E)) (ds : List (DV E)) : Con E :=
  match rdSs T s.params (normL s.params ds) with
  | some x => ⟨s.R E, M x, absR T s, s.flat T⟩
  | none => .bad
variable (P : Program) (env : Env E)
def fnRun (s : Spec K) (code : Code) (F : Nat) (x : tyS E s.params) : Option (s.R E) :=
  if nodupB (names (st0 s.pl.nt (absSs T s.params x)).mem) = true ∧ (absSs T s.params x).length ≤ s.pl.nt ∧ (s.rc.isEmpty = true ∨ s.ts = (List.range s.rc.length).map (s.pl.nt + ·)) then
    runC T P env s.pl F code 0 (st0 s.pl.nt (absSs T s.params x)) fun e st => match e with
      | .exit _ => none
      | _ => loadRc T P s.pl.nt s.rc (coes T s.rco (forget s.rfrz st)) fun st => (resEnd s.ts (absSs T s.params x) st).bind (rdR T s)
  else none
def S1.isPin : S1 K → Bool
  | .pin _ _ => true
  | .newb _ _ => true
  | _ => false
def pinIdxS : Nat → List (S1 K) → List Nat
  | _, [] => []
  | j, s :: r => if s.isPin = true then j :: pinIdxS (j + 1) r else pinIdxS (j + 1) r
end
variable {T : Tab E} {P : Program} {env : Env E}
theorem rdSs_ok : ∀ {ss : List (S1 K)} {ds : List (DV E)} {x : tyS E ss}, rdSs T ss ds = some x → absSs T ss x = ds := by
  intro ss
  induction ss with
  | nil =>
    intro ds x h
    cases ds with
    | nil => rfl
    | cons d ds => cases h
  | cons s r ih =>
    intro ds x h
    cases r with
    | nil =>
      cases ds with
      | nil => cases h
      | cons d ds =>
        cases ds with
        | nil => show [s.abs T x] = _; rw [S1.rd_ok (T := T) (s := s) (d := d) (x := x) h]
        | cons d' ds => cases h
    | cons s' r =>
      cases ds with
      | nil => cases h
      | cons d ds =>
        change ((s.rd T d).bind fun x => (rdSs T (s' :: r) ds).bind fun y => some (x, y)) = some x at h
        obtain ⟨y, hy, h⟩ := Option.bind_eq_some_iff.1 h
        obtain ⟨z, hz, h⟩ := Option.bind_eq_some_iff.1 h
        cases h
        show s.abs T y :: absSs T (s' :: r) z = _
        rw [S1.rd_ok hy, ih hz]
theorem rdPs_ok : ∀ {ss : List (List (S0 K))} {ds : List (List (DV E))} {x : tyP E ss}, rdPs T ss ds = some x → absPs ss x = ds := by
  intro ss
  induction ss with
  | nil =>
    intro ds x h
    cases ds with
    | nil => rfl
    | cons d ds => cases h
  | cons s r ih =>
    intro ds x h
    cases r with
    | nil =>
      cases ds with
      | nil => cases h
      | cons d ds =>
        cases ds with
        | nil => show [absL s x] = _; rw [rdL_ok (T := T) (ss := s) (ds := d) (x := x) h]
        | cons d' ds => cases h
    | cons s' r =>
      cases ds with
      | nil => cases h
      | cons d ds =>
        change ((rdL T s d).bind fun x => (rdPs T (s' :: r) ds).bind fun y => some (x, y)) = some x at h
        obtain ⟨y, hy, h⟩ := Option.bind_eq_some_iff.1 h
        obtain ⟨z, hz, h⟩ := Option.bind_eq_some_iff.1 h
        cases h
        show absL s y :: absPs (s' :: r) z = _
        rw [rdL_ok hy, ih hz]
theorem SR.rd_ok {s : SR K} {d : DV E} {x : s.ty E} (h : s.rd T d = some x) : s.abs T x = d := by
  cases s with
  | one s => exact S1.rd_ok h
  | tup ss =>
    obtain ⟨ds, h1, h2⟩ := Option.bind_eq_some_iff.1 h
    have : d = .tup ds := by
      unfold gTup at h1
      split at h1
      · cases h1; rfl
      · cases h1
    rw [this]
    exact congrArg _ (rdSs_ok h2)
theorem rdR_ok {s : Spec K} {res : Res E} {x : s.R E} (h : rdR T s res = some x) : absR T s x = res := by
  obtain ⟨v, pins⟩ := res
  obtain ⟨ps, ret, pp, pl, rf, ts, rc⟩ := s
  cases pp with
  | nil =>
    cases pins with
    | nil =>
      have := SR.rd_ok (T := T) (s := ret) (d := v) (x := x) h
      show Res.mk (ret.abs T x) [] = _
      rw [this]
    | cons p q => cases h
  | cons p q =>
    obtain ⟨y, hy, h⟩ := Option.bind_eq_some_iff.1 h
    obtain ⟨z, hz, h⟩ := Option.bind_eq_some_iff.1 h
    cases h
    show Res.mk (ret.abs T y) (absPs (p :: q) z) = _
    rw [SR.rd_ok hy, rdPs_ok hz]
theorem cell_norm {w : World} {Y : Nat → Prop} {b0 : Nat} {s : S0 K} {d : DV E} {v : Value} {b : List Nat} (h : CellC T w Y b0 d v b) : CellC T w Y b0 (normC s d) v b := by
  have nils : ∀ {v : Value} {b : List Nat}, CellC T w Y b0 (.nils : DV E) v b → v = .slice none 0 0 ∧ b = [] ∧ v.oneCell' = true := by
    intro v b h
    rcases h with ⟨h, h1, _⟩ | ⟨h, _⟩
    · cases h with
      | sh hr hs => cases hr; exact ⟨rfl, rfl, h1⟩
    · cases h
  unfold normC
  split
  · split
    · obtain ⟨rfl, rfl, h1⟩ := nils h
      exact .inl ⟨.sh (.slcn _) rfl, h1, rfl⟩
    · exact h
  · split
    · rename_i e k _
      obtain ⟨rfl, rfl, h1⟩ := nils h
      exact .inl ⟨.row (v := .slice none 0 0) (RepRow.mk' (ownsR_nil w e (T.sz k)) (.nil k)), h1, rfl⟩
    · exact h
  · split
    · rcases h with ⟨h, h1, _⟩ | ⟨h, _⟩
      · cases h with
        | sh hr hs => cases hr; exact .inr ⟨rfl, rfl, .inl rfl⟩
      · cases h
    · exact h
  · split
    · rename_i hp
      rcases h with ⟨h, h1, h2⟩ | ⟨h, h2⟩
      · cases h with
        | junk v => exact .inl ⟨.junk v, h1, rfl⟩
        | sh hr hs => exact .inl ⟨.junk v, h1, rfl⟩
        | row hr => simp [DV.plain] at hp
      · rw [h] at hp; simp [DV.plain] at hp
    · exact h
  · exact h
theorem cells_norm {w : World} {Y : Nat → Prop} {b0 : Nat} {ds : List (DV E)} {vs : List Value} {bs : List Nat} (h : OwnL (CellC T w Y b0) ds vs bs) : ∀ (ss : List (S0 K)), OwnL (CellC T w Y b0) (normCs ss ds) vs bs := by
  induction h with
  | nil => intro ss; cases ss <;> exact .nil
  | cons h t ih =>
    intro ss
    cases ss with
    | nil => exact .cons h t
    | cons s ss => exact .cons (cell_norm h) (ih ss)
theorem own_norm {w : World} {Y : Nat → Prop} {s : S1 K} {d : DV E} {v : Value} {b : List Nat} (h : Own T w Y d v b) : Own T w Y (normP s d) v b := by
  unfold normP
  split
  · split
    · cases h with
      | c h => cases h with
        | sh hr hs => cases hr; exact .c (.sh (.slcn _) rfl)
    · exact h
  · rename_i e k
    have nilrow : Own T w Y (.row e k []) (.slice none 0 0) [] := .c (.row (v := .slice none 0 0) (RepRow.mk' (ownsR_nil w e (T.sz k)) (.nil k)))
    split
    · cases h with
      | c h => cases h with
        | sh hr hs => cases hr; exact nilrow
    · exact h
  · split
    · rename_i hs
      cases h with
      | c h => cases h with
        | junk v => exact .c (.junk v)
        | sh hr hs => exact .c (.junk v)
        | row hr => simp [DV.share, DV.lay, DV.plain] at hs
      | pin hp => simp [DV.share, DV.lay, DV.plain] at hs
      | lend hp => simp [DV.share, DV.lay, DV.plain] at hs
    · exact h
  · split
    · cases h with
      | c h => cases h with
        | sh hr hs => simp [DV.share, DV.lay, DV.plain] at hs
      | pin hp =>
        obtain ⟨b, vs, bs, h1, h2, h3, h4⟩ := hp
        exact .pin ⟨b, vs, bs, h1, h2, cells_norm h3 _, h4⟩
    · exact h
  · exact h
end Go.Vm
/- The abstract value machine: the theorem of a function. -/
namespace Go.Vm
open Go.Lib
set_option linter.unusedVariables false
variable {K : Type} {E : K → Type}
variable {T : Tab E} {P : Program} {env : Env E}
theorem normL_own {w : World} {Y : Nat → Prop} {ds : List (DV E)} {vs : List Value} {bl : List Nat} (h : OwnL (Own T w Y) ds vs bl) : ∀ (ss : List (S1 K)), OwnL (Own T w Y) (normL ss ds) vs bl := by
  induction h with
  | nil => intro ss; cases ss <;> exact .nil
  | cons h t ih =>
    intro ss
    cases ss with
    | nil => exact .cons h t
    | cons s ss => exact .cons (own_norm h) (ih ss)
theorem norm_pin1 {s : S1 K} {d : DV E} {t : TypeId} {cs : List (DV E)} (h : normP s d = .pin t cs) : ∃ cs0, d = .pin t cs0 := by
  unfold normP at h
  split at h
  · split at h
    · cases h
    · exact ⟨_, h⟩
  · split at h
    · cases h
    · exact ⟨_, h⟩
  · split at h
    · cases h
    · exact ⟨_, h⟩
  · split at h
    · cases h; exact ⟨_, rfl⟩
    · exact ⟨_, h⟩
  · exact ⟨_, h⟩
theorem norm_pin2 (s : S1 K) (t : TypeId) (cs : List (DV E)) : ∃ cs', normP s (.pin t cs : DV E) = .pin t cs' := by
  unfold normP
  split
  · exact ⟨_, rfl⟩
  · exact ⟨_, rfl⟩
  · exact ⟨cs, rfl⟩
  · exact ⟨_, rfl⟩
  · exact ⟨_, rfl⟩
theorem norm_newb1 {s : S1 K} {d : DV E} {t : TypeId} {cs : List (DV E)} (h : normP s d = .newb t cs) : d = .newb t cs := by
  unfold normP at h
  split at h
  · split at h
    · cases h
    · exact h
  · split at h
    · cases h
    · exact h
  · split at h
    · cases h
    · exact h
  · split at h
    · cases h
    · exact h
  · exact h
theorem norm_newb2 (s : S1 K) (t : TypeId) (cs : List (DV E)) : normP s (.newb t cs : DV E) = .newb t cs := by
  unfold normP
  split <;> rfl
theorem normL_pins {w : World} {Y : Nat → Prop} : ∀ (ss : List (S1 K)) (ds : List (DV E)) (vs : List Value) (ps : List (List (DV E))) (bl : List Nat), PinsL T w Y (normL ss ds) vs ps bl → PinsL T w Y ds vs ps bl
  | [], ds, vs, ps, bl, h => by cases ds <;> exact h
  | s :: ss, [], vs, ps, bl, h => h
  | s :: ss, d :: ds, vs, ps, bl, h => by
    change PinsL T w Y (normP s d :: normL ss ds) vs ps bl at h
    generalize hd : normP s d = d' at h
    cases h with
    | skip hn h =>
      refine .skip (fun t cs => ⟨fun e => ?_, fun e => ?_⟩) (normL_pins ss ds _ _ _ h)
      · subst e
        obtain ⟨cs', hc⟩ := norm_pin2 s t cs
        exact (hn t cs').1 (by rw [← hd]; exact hc)
      · subst e
        exact (hn t cs).2 (by rw [← hd]; exact norm_newb2 s t cs)
    | @pin t cs _ _ _ _ _ _ _ hb h =>
      obtain ⟨cs0, this⟩ := norm_pin1 hd
      rw [this]
      exact .pin hb (normL_pins ss ds _ _ _ h)
    | lend hb h =>
      rw [norm_newb1 hd]
      exact .lend hb (normL_pins ss ds _ _ _ h)
theorem isPin_abs (s : S1 K) (x : s.ty E) : isPin (s.abs T x) = s.isPin := by
  cases s with
  | a s => cases s <;> rfl
  | _ => rfl
theorem pinIdx_abs : ∀ (ss : List (S1 K)) (x : tyS E ss) (j : Nat), pinIdx j (absSs T ss x) = pinIdxS j ss := by
  intro ss
  induction ss with
  | nil => intro x j; rfl
  | cons s r ih =>
    intro x j
    cases r with
    | nil =>
      change pinIdx j [s.abs T x] = _
      unfold pinIdx pinIdxS
      rw [show isPin (s.abs T x) = s.isPin from isPin_abs s x]
      rfl
    | cons s' r =>
      change pinIdx j (s.abs T x.1 :: absSs T (s' :: r) x.2) = _
      unfold pinIdx pinIdxS
      rw [isPin_abs, ih]
theorem absL_flat {fk : K → Bool} : ∀ {ss : List (S0 K)} {x : tyL E ss}, ss.all (S0.flat fk) = true → (absL ss x).all (DV.flat fk) = true
  | [], x, h => rfl
  | s :: r, x, h => by
    simp only [List.all_cons, Bool.and_eq_true] at h
    simp only [absL, List.all_cons, Bool.and_eq_true]
    refine ⟨?_, absL_flat h.2⟩
    have h1 := h.1
    cases s <;> first | rfl | (simp [S0.flat] at h1; done) | (simpa [S0.abs, DV.flat, S0.flat] using h1)
theorem S1.abs_flat {s : S1 K} {x : s.ty E} (h : s.flat T.fk = true) : (s.abs T x).flat T.fk = true := by
  cases s with
  | a s => cases s <;> first | rfl | (simp [S1.flat, S0.flat] at h; done) | (simpa [S1.abs, S0.abs, DV.flat, S1.flat, S0.flat] using h)
  | _ => simp [S1.flat] at h
theorem absSs_flat : ∀ (ss : List (S1 K)) (x : tyS E ss), ss.all (S1.flat T.fk) = true → (absSs T ss x).all (DV.flat T.fk) = true := by
  intro ss
  induction ss with
  | nil => intro x h; rfl
  | cons s r ih =>
    intro x h
    simp only [List.all_cons, Bool.and_eq_true] at h
    cases r with
    | nil =>
      change ([s.abs T x].all (DV.flat T.fk)) = true
      simp only [List.all_cons, List.all_nil, Bool.and_true]
      exact S1.abs_flat h.1
    | cons s' r =>
      change ((s.abs T x.1 :: absSs T (s' :: r) x.2).all (DV.flat T.fk)) = true
      simp only [List.all_cons, Bool.and_eq_true]
      have := ih x.2 h.2
      simp only [List.all_eq_true] at this
      exact ⟨S1.abs_flat h.1, by simpa [List.all_eq_true] using this⟩
theorem SR.abs_flat {s : SR K} {x : s.ty E} (h : s.flat T.fk = true) : flatV T.fk (s.abs T x) = true := by
  cases s with
  | tup ss => exact absSs_flat ss x h
  | one s =>
    cases s with
    | agg ss => exact absL_flat (fk := fun _ => false) h
    | a s => cases s <;> first | rfl | (simp [SR.flat, S1.flat, S0.flat] at h; done) | (simpa [SR.abs, S1.abs, S0.abs, flatV, DV.flat, SR.flat, S1.flat, S0.flat] using h)
    | _ => simp [SR.flat, S1.flat] at h
theorem absPs_flat : ∀ (ss : List (List (S0 K))) (x : tyP E ss), (ss.all fun p => p.all (S0.flat T.fk)) = true → ∀ p ∈ absPs ss x, p.all (DV.flat T.fk) = true := by
  intro ss
  induction ss with
  | nil => intro x h p hp; cases hp
  | cons s r ih =>
    intro x h p hp
    simp only [List.all_cons, Bool.and_eq_true] at h
    cases r with
    | nil =>
      change p ∈ [absL s x] at hp
      rcases List.mem_singleton.1 hp with rfl
      exact absL_flat h.1
    | cons s' r =>
      change p ∈ absL s x.1 :: absPs (s' :: r) x.2 at hp
      rcases List.mem_cons.1 hp with rfl | hp
      · exact absL_flat h.1
      · exact ih x.2 h.2 p hp
theorem absR_flat {s : Spec K} {r : s.R E} (h : s.flat T = true) : flatV T.fk (absR T s r).v = true ∧ ∀ p ∈ (absR T s r).pins, p.all (DV.flat T.fk) = true := by
  obtain ⟨ps, ret, pp, pl, rf, ts, rc⟩ := s
  simp only [Spec.flat, Bool.and_eq_true] at h
  cases pp with
  | nil => exact ⟨SR.abs_flat (x := r) h.1, fun p hp => by cases hp⟩
  | cons p q => exact ⟨SR.abs_flat (x := r.1) h.1, absPs_flat (p :: q) r.2 h.2⟩
theorem callFunc_run {f : FuncId} {fn : Func} {vs : Array Value} {w : World} (hf : P.funcs[f]? = some fn) (hb : fn.body.isSome = true) (hname : (fn.name == "runtime.NumGoroutine") = false) : (callFunc f vs).run P w = .ok (.enter f vs) w := by
  have : fn.body.isNone = false := by cases h : fn.body <;> simp_all
  simp only [callFunc, Sem.run_bind, run_program, Result.andThen_ok, hf, hname, this, Bool.false_eq_true, if_false, Sem.run_pure]
theorem mapM_tmps (a : Act) (P : Program) (w : World) : ∀ ts : List Nat, (List.mapM (m := Sem) (fun (r : ResultVar) => match r with
    | .tmp t => pure (a.tmps.getD t undef)
    | .cell ad t => do loadVar t (← asAddr (a.tmps.getD ad undef))) (ts.map ResultVar.tmp)).run P w = .ok (ts.map fun t => a.tmps.getD t undef) w
  | [] => by simp
  | t :: ts => by simp only [List.map_cons, List.mapM_cons, Sem.run_bind, Sem.run_pure, Result.andThen_ok, mapM_tmps a P w ts]
theorem Inv.pushes {w0 : World} {G : GP} {st : St E} {a : Act} {w : World} {g : Gh} (h : Inv T w0 G st a w g) (ds : List (DV E)) (us : List Value) (hl : ds.length = us.length)
    (hr : ∀ i (hi : i < ds.length) (hi' : i < us.length), RepT T w (free st.mem g) g ds[i] us[i] ∧ ∀ k j cs off, ds[i] ≠ .rptr k j cs off) :
    Inv T w0 G ⟨st.tmps ++ ds, st.mem⟩ { a with tmps := a.tmps ++ us.toArray } w g := by
  refine ⟨h.df, by simp [h.tl, hl], fun i hi => ?_, h.nn, h.nd, h.mm, h.bo, h.fr, fun i hi n j cs off he => ?_, h.hz⟩
  · simp only [List.length_append] at hi
    by_cases hlt : i < st.tmps.length
    · have e : (a.tmps ++ us.toArray).getD i undef = a.tmps.getD i undef := by
        have : i < a.tmps.size := by rw [h.tl]; exact hlt
        simp [Array.getElem?_append_left this]
      simp only [List.getElem_append_left hlt, e]
      exact h.tm i hlt
    · have hle : st.tmps.length ≤ i := by omega
      have hi2 : i - st.tmps.length < us.length := by omega
      have e : (a.tmps ++ us.toArray).getD i undef = us[i - st.tmps.length] := by
        have h1 : a.tmps.size ≤ i := by rw [h.tl]; exact hle
        simp [Array.getElem?_append_right h1, h.tl, hi2]
      simp only [List.getElem_append_right hle, e]
      exact (hr _ (by omega) hi2).1
  · simp only [List.length_append] at hi
    by_cases hlt : i < st.tmps.length
    · rw [List.getElem_append_left hlt] at he
      exact h.rl i hlt n j cs off he
    · rw [List.getElem_append_right (by omega)] at he
      exact absurd he ((hr _ (by omega) (by omega)).2 n j cs off)
theorem loadRl_ok {w0 : World} {G : GP} {st : St E} {a : Act} {w : World} {g : Gh} (h : Inv T w0 G st a w g) {β : Type} {K : St E → Option β} {r : β} : ∀ (rc : List (Nat × Option TypeId)) (acc : List (DV E)) (us : List Value), acc.length = us.length →
    (∀ i (hi : i < acc.length) (hi' : i < us.length), RepT T w (free st.mem g) g acc[i] us[i] ∧ ∀ k j cs off, acc[i] ≠ .rptr k j cs off) → loadRl T P rc st acc K = some r →
    ∃ st2 us', Inv T w0 G st2 { a with tmps := a.tmps ++ (us ++ us').toArray } w g ∧ K st2 = some r ∧ us'.length = rc.length ∧
      (List.mapM (m := Sem) (fun (r : ResultVar) => match r with
    | .tmp t => pure (a.tmps.getD t undef)
    | .cell ad t => do loadVar t (← asAddr (a.tmps.getD ad undef))) (rc.map rcVar)).run P w = .ok us' w
  | [], acc, us, hl, hr, hK => ⟨_, [], by simpa using h.pushes acc us hl hr, hK, rfl, by simp⟩
  | (t, none) :: rc, acc, us, hl, hr, hK => by
    simp only [loadRl] at hK
    split at hK
    · cases hK
    rename_i hnr
    have hx : RepT T w (free st.mem g) g (st.tmps.getD t .junk) (a.tmps.getD t undef) := h.ev (.tmp t)
    obtain ⟨st2, us', q1, q2, q3, q4⟩ := loadRl_ok h rc (acc ++ [st.tmps.getD t .junk]) (us ++ [a.tmps.getD t undef]) (by simp [hl]) (fun i hi hi' => by
      by_cases hlt : i < acc.length
      · rw [List.getElem_append_left hlt, List.getElem_append_left (by omega)]
        exact hr i hlt (by omega)
      · have e : i = acc.length := by simp at hi; omega
        subst e
        have e2 : (us ++ [a.tmps.getD t undef])[acc.length] = a.tmps.getD t undef := by rw [List.getElem_append_right (by omega)]; simp [hl]
        have e3 : (acc ++ [st.tmps.getD t .junk])[acc.length] = st.tmps.getD t .junk := by rw [List.getElem_append_right (by omega)]; simp
        rw [e2, e3]
        exact ⟨hx, fun k j cs off e => by rw [e] at hnr; exact hnr rfl⟩) hK
    refine ⟨st2, _ :: us', by simpa using q1, q2, by simp [q3], ?_⟩
    simp only [List.map_cons, List.mapM_cons, rcVar]
    rw [Sem.run_bind, Sem.run_pure]
    simp only [Result.andThen_ok, Sem.run_bind, q4, Sem.run_pure]
    simp
  | (ad, some ty) :: rc, acc, us, hl, hr, hK => by
    simp only [loadRl] at hK
    obtain ⟨o, ho, hK⟩ := Cal.run_has _ _ _ hK
    have hx : RepT T w (free st.mem g) g (st.tmps.getD ad .junk) (a.tmps.getD ad undef) := h.ev (.tmp ad)
    obtain ⟨_, u, h2, h3, h4⟩ := loadB_val h hx o ho
    obtain ⟨st2, us', q1, q2, q3, q4⟩ := loadRl_ok h rc (acc ++ [o.v]) (us ++ [u]) (by simp [hl]) (fun i hi hi' => by
      by_cases hlt : i < acc.length
      · rw [List.getElem_append_left hlt, List.getElem_append_left (by omega)]
        exact hr i hlt (by omega)
      · have e : i = acc.length := by simp at hi; omega
        subst e
        have e2 : (us ++ [u])[acc.length] = u := by rw [List.getElem_append_right (by omega)]; simp [hl]
        rw [e2]
        simpa using ⟨h3, h4⟩) hK
    refine ⟨st2, u :: us', by simpa using q1, q2, by simp [q3], ?_⟩
    have hrun : (do loadVar ty (← asAddr (a.tmps.getD ad undef)) : Sem Value).run P w = .ok u w := by
      generalize a.tmps.getD ad undef = va at h2
      unfold Instr.loadAt Instr.sureAddr at h2
      split at h2
      · simpa [asAddr] using h2
      · simp at h2
    simp only [List.map_cons, List.mapM_cons, rcVar]
    rw [Sem.run_bind, hrun]
    simp only [Result.andThen_ok, Sem.run_bind, q4, Sem.run_pure]
theorem results_rc {w0 : World} {G : GP} {fn : Func} {s : Spec K} (hv : fn.results = s.vars) {st : St E} {a : Act} {w : World} {g : Gh} (h : Inv T w0 G st a w g) {β : Type} {K : St E → Option β} {r : β}
    (hrc : s.rc.isEmpty = true ∨ s.ts = (List.range s.rc.length).map (s.pl.nt + ·)) (hK : loadRc T P s.pl.nt s.rc st K = some r) :
    ∃ st2 us, Inv T w0 G st2 { a with tmps := a.tmps ++ us } w g ∧ K st2 = some r ∧ (us = #[] ∨ a.tmps.size = s.pl.nt) ∧ (results fn a.tmps).run P w = .ok (retV s.ts { a with tmps := a.tmps ++ us }) w := by
  unfold results
  rw [hv, Array.mapM_eq_mapM_toList]
  unfold Spec.vars
  unfold loadRc at hK
  have fin : ∀ vs : List Value, (match vs.toArray.toList with
      | [v] => (pure v : Sem Value)
      | vs => pure (Value.tuple vs.toArray)).run P w = .ok (match vs with | [v] => v | vs => .tuple vs.toArray) w := by
    intro vs
    match vs with
    | [] => rfl
    | [v] => rfl
    | v :: v' :: vs => simp
  cases hc : s.rc with
  | nil =>
    rw [hc] at hK
    simp only at hK
    refine ⟨st, #[], by simpa using h, hK, .inl rfl, ?_⟩
    simp only [Sem.run_bind]
    have := mapM_tmps a P w s.ts
    rw [map_eq_pure_bind, Sem.run_bind]
    erw [this]
    simp only [Result.andThen_ok, Sem.run_pure]
    match s.ts with
    | [] => rfl
    | [t] => simp [retV]
    | t :: t' :: ts => simp [retV]
  | cons x rc =>
    rw [hc] at hK hrc
    simp only at hK
    have hts := hrc.resolve_left (by simp)
    obtain ⟨hlen, hK⟩ := ite_some hK
    have hsz : a.tmps.size = s.pl.nt := by rw [h.tl, hlen]
    obtain ⟨st2, us', q1, q2, q3, q4⟩ := loadRl_ok (P := P) h (x :: rc) [] [] rfl (fun i hi => by cases hi) hK
    refine ⟨st2, us'.toArray, by simpa using q1, q2, .inr hsz, ?_⟩
    simp only [Sem.run_bind]
    rw [map_eq_pure_bind, Sem.run_bind]
    erw [q4]
    simp only [Result.andThen_ok, Sem.run_pure]
    have hval : (s.ts.map fun t => (a.tmps ++ us'.toArray).getD t undef) = us' := by
      rw [hts, List.map_map]
      apply List.ext_getElem
      · simp [q3]
      · intro i h1 h2
        simp [hsz, h2]
    unfold retV
    rw [hts] at hval ⊢
    match us', q3, hval with
    | [], q3, _ => simp at q3
    | [u], q3, hval =>
      have : rc = [] := by simpa using q3.symm
      subst this
      simp at hval ⊢
      exact hval.symm
    | u :: u' :: us, q3, hval =>
      obtain ⟨y, rc', rfl⟩ : ∃ y rc', rc = y :: rc' := by cases rc with
        | nil => simp at q3
        | cons y rc' => exact ⟨y, rc', rfl⟩
      simp only [List.length_cons, List.range_succ_eq_map, List.map_cons] at hval ⊢
      rw [hval]
      simp
theorem ctr_of {s : Spec K} {M : tyS E s.params → Option (s.R E)} {f : FuncId} {fn : Func} {code : Code} (hf : P.funcs[f]? = some fn) (hb : fn.body = some code) (hname : (fn.name == "runtime.NumGoroutine") = false)
    (hts : fn.results = s.vars) (hnt : fn.ntmps = s.pl.nt) (henv : ∀ f, Ctr T P f (env f)) (hm : P.follows .mixedOrders = true) (hk : keepsC (pinIdxS 0 s.params) code = true)
    (hM : ∀ x r, M x = some r → ∃ F, fnRun T P env s code F x = some r) : Ctr T P f (conOf T s M) := by
  intro ds
  unfold conOf
  cases hx : rdSs T s.params (normL s.params ds) with
  | none => intro r hr; cases hr
  | some x =>
    intro r hr w vs Y bl hown hnd hY hgl hgb
    haveI : GlOk T w ⟨(· ∈ bl), (hidG w Y bl).hid⟩ := ⟨hgl, hgb⟩
    have hds := rdSs_ok hx
    have hown' := normL_own hown s.params
    rw [← hds] at hown'
    obtain ⟨F, hF⟩ := hM x r hr
    unfold fnRun at hF
    obtain ⟨⟨hn, hlen, hrc⟩, hF⟩ := ite_some hF
    refine .inl ⟨callFunc_run hf (by rw [hb]; rfl) hname, calls_of_wp hf hb ?_⟩
    obtain ⟨g, hg⟩ := begin_ok (nt := s.pl.nt) hown' hnd hY hn hlen
    rw [hnt]
    obtain ⟨e, st', hK, hgo⟩ := runC_ok (w0 := w) (G := ⟨(· ∈ bl), (hidG w Y bl).hid⟩) (J := pinIdxS 0 s.params) henv hm code hk 0 _ _ _ _ hF
    refine wp_mono (hgo _ _ g hg) ?_
    rintro e' a' w' ⟨rfl, g', hi, hkeep⟩
    have fin : (loadRc T P s.pl.nt s.rc (coes T s.rco (forget s.rfrz st')) fun st => (resEnd s.ts (absSs T s.params x) st).bind (rdR T s)) = some r → a'.defers = [] ∧ ∃ v, (results fn a'.tmps).run P w' = .ok v w' ∧ ∃ v' bl1 bl2, Ending.returned v = Ending.returned v' ∧ (bl1 ++ bl2).Nodup ∧ (∀ b ∈ bl1 ++ bl2, b < w'.heap.size ∧ (w.heap.size ≤ b ∨ b ∈ bl)) ∧
        AnsT T w' (fun b => (Y b ∨ w.heap.size ≤ b ∨ b ∈ bl) ∧ b ∉ bl1 ++ bl2) vs.toList (absR T s r).v v' bl1 ∧
        PinsL T w' (fun b => (Y b ∨ w.heap.size ≤ b ∨ b ∈ bl) ∧ b ∉ bl1 ++ bl2) ds vs.toList (absR T s r).pins bl2 ∧ Frame0 (· ∈ bl) w w' ∧
        (s.flat T = true → flatV T.fk (absR T s r).v = true ∧ ∀ p ∈ (absR T s r).pins, p.all (DV.flat T.fk) = true) := by
      intro hK
      obtain ⟨g', hi'⟩ := coes_ok s.rco (forget_weak hi s.rfrz)
      obtain ⟨st2, us, hi', hK, hsz, hres⟩ := results_rc (P := P) hts hi' hrc hK
      generalize ha2 : ({ a' with tmps := a'.tmps ++ us } : Act) = a2 at hi' hres
      replace ha2 : a2.tmps = a'.tmps ++ us := by rw [← ha2]
      obtain ⟨res, h1, h2⟩ := Option.bind_eq_some_iff.1 hK
      have hget : ∀ i, i < s.pl.nt → a2.tmps.getD i undef = a'.tmps.getD i undef := by
        intro i hi
        rw [ha2]
        rcases hsz with rfl | hsz
        · simp
        · simp [Array.getElem?_append_left (show i < a'.tmps.size by omega)]
      have hl : (absSs T s.params x).length = vs.size := by have := ownL_len hown'; simpa using this
      obtain ⟨bl1, bl2, q1, q2, q3, q4, q5⟩ := end_ok hi' hl h1 (by
        intro i hi0
        rw [pinIdx_abs] at hi0
        have hk' := hkeep i hi0
        have hlt : i < vs.size := by
          have : ∀ (ds : List (DV E)) (j i : Nat), i ∈ pinIdx j ds → i < j + ds.length := by
            intro ds
            induction ds with
            | nil => intro j i h; cases h
            | cons d r ih =>
              intro j i h
              unfold pinIdx at h
              simp only [List.length_cons]
              split at h
              · rcases List.mem_cons.1 h with rfl | h
                · omega
                · have := ih _ _ h; omega
              · have := ih _ _ h; omega
          have := this (absSs T s.params x) 0 i (by rw [pinIdx_abs]; exact hi0)
          omega
        rw [hget i (by omega), hk']
        simp [Array.getElem?_append_left hlt, hlt])
      rw [rdR_ok h2]
      refine ⟨hi.df, _, hres, retV s.ts a2, bl1, bl2, rfl, q1, q2, q3, ?_, q5, fun hf => ?_⟩
      · rw [hds] at q4
        exact normL_pins _ _ _ _ _ q4
      · rw [← rdR_ok h2]; exact absR_flat hf
    cases e with
    | exit j => cases hK
    | norm => exact fin hK
    | ret => exact fin hK
end Go.Vm
/- The abstract value machine: functions one by one. -/
namespace Go.Vm
open Go.Lib
set_option linter.unusedVariables false
variable {K : Type} {E : K → Type}
def sumC {α β γ : Type} (s : α ⊕ β) (f : α → γ) (g : β → γ) : γ := match s with
  | .inl a => f a
  | .inr b => g b
def envN : Env E := fun _ _ => .bad
def envS (f : FuncId) (C : List (DV E) → Con E) (env : Env E) : Env E := fun g => if g = f then C else env g
theorem envN_ok {T : Tab E} {P : Program} : ∀ f, Ctr T P f (envN (E := E) f) := by
  intro f ds r hr
  cases hr
theorem envS_ok {T : Tab E} {P : Program} {f : FuncId} {C : List (DV E) → Con E} {env : Env E} (h : ∀ g, Ctr T P g (env g)) (hc : Ctr T P f C) : ∀ g, Ctr T P g (envS f C env g) := by
  intro g
  unfold envS
  split
  · rename_i e; subst e; exact hc
  · exact h g
end Go.Vm
/- Plain laws of the models: more fuel tells the same; what a model comes to. -/
namespace Go.Vm
set_option linter.unusedVariables false
structure Le {α : Type} (a b : Option α) : Prop where
  le : ∀ r, a = some r → b = some r
theorem Le.refl {α : Type} (a : Option α) : Le a a := ⟨fun _ h => h⟩
theorem Le.bind {α β : Type} {a b : Option α} {f g : α → Option β} (h : Le a b) (hf : ∀ x, Le (f x) (g x)) : Le (a.bind f) (b.bind g) := by
  refine ⟨fun r hr => ?_⟩
  obtain ⟨x, hx, hr⟩ := Option.bind_eq_some_iff.1 hr
  exact Option.bind_eq_some_iff.2 ⟨x, h.le x hx, (hf x).le r hr⟩
theorem Le.loop {X Y : Type} {f g : X → Option (X ⊕ Y)} (hf : ∀ x, Le (f x) (g x)) : ∀ {n m : Nat}, n ≤ m → ∀ x, Le (loopM f n x) (loopM g m x)
  | 0, m, h, x => ⟨fun r hr => by cases hr⟩
  | n + 1, 0, h, x => by omega
  | n + 1, m + 1, h, x => by
    unfold loopM
    refine Le.bind (hf x) fun y => ?_
    cases y with
    | inl x' => exact Le.loop hf (by omega) x'
    | inr y => exact Le.refl _
theorem Le.sumC {α β γ : Type} {s : α ⊕ β} {f f' : α → Option γ} {g g' : β → Option γ} (h : ∀ x, Le (f x) (f' x)) (h' : ∀ x, Le (g x) (g' x)) : Le (Go.Vm.sumC s f g) (Go.Vm.sumC s f' g') := by
  cases s with
  | inl a => exact h a
  | inr b => exact h' b
def Tends {α : Type} (m : Nat → Option α) (r : α) : Prop := ∃ N, ∀ F, N ≤ F → m F = some r
theorem Tends.const {α : Type} {m : Option α} {r : α} (h : m = some r) : Tends (fun _ => m) r := ⟨0, fun _ _ => h⟩
theorem Tends.ret {α : Type} (r : α) : Tends (fun _ => some r) r := ⟨0, fun _ _ => rfl⟩
theorem Tends.of {α : Type} {m : Nat → Option α} {r : α} (h : ∀ F, m F = some r) : Tends m r := ⟨0, fun F _ => h F⟩
theorem Tends.bind {α β : Type} {m : Nat → Option α} {k : Nat → α → Option β} {r : α} {s : β} (h : Tends m r) (h' : Tends (fun F => k F r) s) : Tends (fun F => (m F).bind (k F)) s := by
  obtain ⟨N, h⟩ := h
  obtain ⟨N', h'⟩ := h'
  refine ⟨max N N', fun F hF => ?_⟩
  show (m F).bind (k F) = _
  rw [h F (by omega), Option.bind_some]
  exact h' F (by omega)
theorem Tends.congr {α : Type} {m m' : Nat → Option α} {r : α} (h : Tends m r) (e : ∀ F, m' F = m F) : Tends m' r := by
  obtain ⟨N, h⟩ := h
  exact ⟨N, fun F hF => (e F).trans (h F hF)⟩
theorem Tends.mono {α : Type} {m : Nat → Option α} {r : α} (hm : ∀ F F', F ≤ F' → Le (m F) (m F')) (F : Nat) (h : m F = some r) : Tends m r := ⟨F, fun F' hF => (hm F F' hF).le r h⟩
theorem Tends.ex {α : Type} {m : Nat → Option α} {r : α} (h : Tends m r) : ∃ F, m F = some r := by
  obtain ⟨N, h⟩ := h
  exact ⟨N, h N (Nat.le_refl _)⟩
theorem Tends.pos {α : Type} {c : Prop} [Decidable c] {m m' : Nat → Option α} {r : α} (hc : c) (h : Tends m r) : Tends (fun F => if c then m F else m' F) r := h.congr fun F => by rw [if_pos hc]
theorem Tends.neg {α : Type} {c : Prop} [Decidable c] {m m' : Nat → Option α} {r : α} (hc : ¬ c) (h : Tends m' r) : Tends (fun F => if c then m F else m' F) r := h.congr fun F => by rw [if_neg hc]
theorem Tends.eq {α : Type} {m : Nat → Option α} {r r' : α} (h : Tends m r) (e : r = r') : Tends m r' := e ▸ h
def TendsL {X Y : Type} (f : Nat → X → Option (X ⊕ Y)) (x : X) (y : Y) : Prop := ∃ N, ∀ F n, N ≤ F → N ≤ n → loopM (f F) n x = some y
theorem TendsL.fin {X Y : Type} {f : Nat → X → Option (X ⊕ Y)} {x : X} {y : Y} (h : Tends (fun F => f F x) (.inr y)) : TendsL f x y := by
  obtain ⟨N, h⟩ := h
  refine ⟨N + 1, fun F n hF hn => ?_⟩
  obtain ⟨n, rfl⟩ : ∃ k, n = k + 1 := ⟨n - 1, by omega⟩
  unfold loopM
  have h1 : f F x = some (.inr y) := h F (by omega)
  rw [h1]
  rfl
theorem TendsL.step {X Y : Type} {f : Nat → X → Option (X ⊕ Y)} {x x' : X} {y : Y} (h : Tends (fun F => f F x) (.inl x')) (h' : TendsL f x' y) : TendsL f x y := by
  obtain ⟨N, h⟩ := h
  obtain ⟨N', h'⟩ := h'
  refine ⟨max N N' + 1, fun F n hF hn => ?_⟩
  obtain ⟨n, rfl⟩ : ∃ k, n = k + 1 := ⟨n - 1, by omega⟩
  unfold loopM
  have h1 : f F x = some (.inl x') := h F (by omega)
  rw [h1, Option.bind_some]
  exact h' F n (by omega) (by omega)
theorem TendsL.run {X Y : Type} {f : Nat → X → Option (X ⊕ Y)} {x : X} {y : Y} (h : TendsL f x y) : Tends (fun F => loopM (f F) F x) y := by
  obtain ⟨N, h⟩ := h
  exact ⟨N, fun F hF => h F F hF hF⟩
theorem bind_ite {α β : Type} {c : Prop} [Decidable c] (a b : Option α) (f : α → Option β) : (if c then a else b).bind f = if c then a.bind f else b.bind f := by split <;> rfl
theorem some_ite {α : Type} (c : Prop) [Decidable c] (a b : α) : (if c then some a else some b) = some (if c then a else b) := by split <;> rfl
theorem prod_ite {α β : Type} (c : Prop) [Decidable c] (a a' : α) (b b' : β) : (if c then (a, b) else (a', b')) = (if c then a else a', if c then b else b') := by split <;> rfl
theorem wrap64 (n : Int) (h : -9223372036854775808 ≤ n) (h' : n ≤ 9223372036854775807) : IntKind.i64.wrap n = n := by
  simp only [IntKind.wrap, IntKind.signed, IntKind.bits]
  simp
  omega
end Go.Vm
/- The abstract value machine: contracts that are shown by hand. -/
namespace Go.Vm
open Go.Lib
set_option linter.unusedVariables false
variable {K : Type} {E : K → Type}
variable {T : Tab E} {P : Program}
def Comes (T : Tab E) (s : Spec K) (ds : List (DV E)) (r : s.R E) (w : World) (vs : List Value) (Y : Nat → Prop) (bl : List Nat) (e : Ending) (w' : World) : Prop :=
  ∃ v bl1 bl2, e = .returned v ∧ (bl1 ++ bl2).Nodup ∧ (∀ b ∈ bl1 ++ bl2, b < w'.heap.size ∧ (w.heap.size ≤ b ∨ b ∈ bl)) ∧
    AnsT T w' (fun b => (Y b ∨ w.heap.size ≤ b ∨ b ∈ bl) ∧ b ∉ bl1 ++ bl2) vs (absR T s r).v v bl1 ∧
    PinsL T w' (fun b => (Y b ∨ w.heap.size ≤ b ∨ b ∈ bl) ∧ b ∉ bl1 ++ bl2) ds vs (absR T s r).pins bl2 ∧ Frame0 (· ∈ bl) w w'
theorem ctr_hand {s : Spec K} {M : tyS E s.params → Option (s.R E)} {f : FuncId}
    (h : ∀ x r, M x = some r → ∀ (w : World) (vs : Array Value) (Y : Nat → Prop) (bl : List Nat), OwnL (Own T w Y) (absSs T s.params x) vs.toList bl → bl.Nodup → (∀ b ∈ bl, ¬ Y b ∧ b < w.heap.size) → T.gl w → (∀ b ∈ bl, T.gb ≤ b) →
      CallsX P f vs w (Comes T s (absSs T s.params x) r w vs.toList Y bl)) : Ctr T P f (conOf T s M) := by
  intro ds
  unfold conOf
  cases hx : rdSs T s.params (normL s.params ds) with
  | none => intro r hr; cases hr
  | some x =>
    intro r hr w vs Y bl hown hnd hY hgl hgb
    have hds := rdSs_ok hx
    have hown' := normL_own hown s.params
    rw [← hds] at hown'
    have hc := h x r hr w vs Y bl hown' hnd hY hgl hgb
    have key : ∀ e w', Comes T s (absSs T s.params x) r w vs.toList Y bl e w' → ∃ v bl1 bl2, e = .returned v ∧ (bl1 ++ bl2).Nodup ∧ (∀ b ∈ bl1 ++ bl2, b < w'.heap.size ∧ (w.heap.size ≤ b ∨ b ∈ bl)) ∧
        AnsT T w' (fun b => (Y b ∨ w.heap.size ≤ b ∨ b ∈ bl) ∧ b ∉ bl1 ++ bl2) vs.toList (absR T s r).v v bl1 ∧
        PinsL T w' (fun b => (Y b ∨ w.heap.size ≤ b ∨ b ∈ bl) ∧ b ∉ bl1 ++ bl2) ds vs.toList (absR T s r).pins bl2 ∧ Frame0 (· ∈ bl) w w' ∧
        (s.flat T = true → flatV T.fk (absR T s r).v = true ∧ ∀ p ∈ (absR T s r).pins, p.all (DV.flat T.fk) = true) := by
      rintro e w' ⟨v, bl1, bl2, h1, h2, h3, h4, h5, h6⟩
      refine ⟨v, bl1, bl2, h1, h2, h3, h4, ?_, h6, fun hf => absR_flat hf⟩
      rw [hds] at h5
      exact normL_pins _ _ _ _ _ h5
    rcases hc with ⟨h1, h2⟩ | ⟨v, w', h1, h2⟩
    · exact .inl ⟨h1, h2.mono key⟩
    · exact .inr ⟨v, w', h1, key _ _ h2⟩
end Go.Vm
