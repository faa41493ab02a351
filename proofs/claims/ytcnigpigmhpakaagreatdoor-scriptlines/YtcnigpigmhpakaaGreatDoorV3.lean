/- Part 3 of an abstract value machine: a framework of this session's own, in which functions of the program are run once and for all inputs. No condition. -/
import Derived.Test.YtcnigpigmhpakaaGreatDoorV2
/- The abstract value machine: shapes of states; the run of a body. -/
namespace Go.Vm
open Go.Lib
set_option linter.unusedVariables false
variable {K:Type} {E:K→Type}
/-! ### shapes -/
inductive S0 (K:Type) where
 | int (k:IntKind) | bool | str | slc (k:K) | nilp | nili | nils | fn (f:FuncId) | ptr (n off:Nat) | rowp (n:Nat) | rowv (n:Nat) | row (e:TypeId) (k:K) | argp (j:Nat) | junk | arr (n:Nat) (k:K) | any (k:K) | cslc (n len:Nat) | rws (n sz:Nat)
inductive S1 (K:Type) where
 | a (s:S0 K) | agg (ss:List (S0 K)) | elt (k:K) | eptr (k:K) (off:Nat) | pin (t:TypeId) (ss:List (S0 K)) | newb (t:TypeId) (ss:List (S0 K)) | ifc (t:TypeId) (s:S0 K) | ifcA (t:TypeId) (ss:List (S0 K)) | shp (ss:List (S0 K)) | opt (ss:List (S0 K)) | fnc (f:FuncId) (sss:List (List (S0 K)))
inductive SB (K:Type) where
 | cells (t:TypeId) (ss:List (S0 K)) | row (e:TypeId) (k:K) | siter | arr (t:TypeId) (n:Nat) (k:K)
inductive It (K:Type) where
 | tmp (t:Nat) (s:S1 K) | box (n:Nat) (b:SB K)
structure SS (K:Type) where
 its:List (It K)
 frz:List Nat := []
 co:List (Co K) := []
variable (E) in
def S0.ty:S0 K→Type
 | .int _=>Int
 | .bool=>Bool
 | .str=>List UInt8
 | .slc k=>List (E k)
 | .rowv _=>Nat
 | .rws _ _=>Nat
 | .row _ k=>List (E k)
 | .arr _ k=>List (E k)
 | .any k=>E k
 | _=>Unit
variable (E) in
def tyL:List (S0 K)→Type
 | []=>Unit
 | s :: r=>s.ty E×tyL r
variable (E) in
def Fw:List (List (S0 K))→Type
 | []=>Unit
 | ss :: r=>tyL E ss×Fw r
variable (E) in
def S1.ty:S1 K→Type
 | .a s=>s.ty E
 | .agg ss | .pin _ ss | .newb _ ss | .ifcA _ ss | .shp ss=>tyL E ss
 | .opt ss=>Bool×tyL E ss
 | .fnc _ sss=>Fw E sss
 | .elt k | .eptr k _=>E k
 | .ifc _ s=>s.ty E
variable (E) in
def SB.ty:SB K→Type
 | .cells _ ss=>tyL E ss
 | .row _ k=>List (E k)
 | .siter=>List UInt8×Nat
 | .arr _ _ k=>List (E k)
variable (E) in
def It.ty:It K→Type
 | .tmp _ s=>s.ty E
 | .box _ b=>b.ty E
variable (E) in
def tyI:List (It K)→Type
 | []=>Unit
 | i :: r=>i.ty E×tyI r
def S0.abs:(s:S0 K)→s.ty E→DV E
 | .int k,n => .int k n
 | .bool,b => .bool b
 | .str,s => .str s
 | .slc k,l => .slc k l
 | .nilp,_ => .nilp
 | .nili,_ => .nili
 | .nils,_ => .nils
 | .fn f,_ => .fn f []
 | .ptr n off,_ => .ptr n off
 | .rowp n,_ => .rowp n
 | .rowv n,b => .rowv n b
 | .row e k,l => .row e k l
 | .argp j,_ => .argp j
 | .junk,_ => .junk
 | .arr n k,l => .arr n k l
 | .any k,x => .any k x
 | .cslc n l,_ => .cslc n l
 | .rws n sz,lo => .rws n lo sz
def fO:(ss:List (S0 K))→tyL E ss→List (DV E)
 | [],_ => []
 | s :: r,x=>s.abs x.1 :: fO r x.2
def C5:(sss:List (List (S0 K)))→Fw E sss→List (DV E)
 | [],_ => []
 | ss :: r,x => .shp (fO ss x.1) :: C5 r x.2
section
variable (T:Tab E)
def S1.abs:(s:S1 K)→s.ty E→DV E
 | .a s,x=>s.abs x
 | .agg ss,x => .agg (fO ss x)
 | .elt k,x => .agg (T.enc k x)
 | .eptr k off,x => .eptr (T.enc k x) off
 | .pin t ss,x => .pin t (fO ss x)
 | .newb t ss,x => .newb t (fO ss x)
 | .ifc t s,x => .ifc t (s.abs x)
 | .ifcA t ss,x => .ifc t (.agg (fO ss x))
 | .shp ss,x => .shp (fO ss x)
 | .opt ss,x => .opt x.1 (fO ss x.2)
 | .fnc f sss,x => .fn f (C5 sss x)
def SB.abs:(s:SB K)→s.ty E→Box E
 | .cells t ss,x => .cells t (fO ss x)
 | .row e k,l => .row e k l
 | .siter,x => .siter x.1 x.2
 | .arr t n k,l => .arr t n k l
def It.abs:(i:It K)→i.ty E→St E→St E
 | .tmp t s,x,st=>⟨st.tmps.set t (s.abs T x),st.mem⟩
 | .box n b,x,st=>⟨st.tmps,(n,b.abs x) :: st.mem⟩
def j4 (nt:Nat):(its:List (It K))→tyI E its→St E
 | [],_=>⟨List.replicate nt .junk,[]⟩
 | i :: r,x=>i.abs T x.1 (j4 nt r x.2)
def Jx (k:IntKind) (d:DV E):Option (Int):=match d with
 | .int k' n=>if k'=k then some n else none
 | _=>none
def G3 (d:DV E):Option (Bool):=match d with
 | .bool b=>some b
 | _=>none
def Jw (d:DV E):Option (List UInt8):=match d with
 | .str s=>some s
 | _=>none
def Ke (k:K) (d:DV E):Option (List (E k)):=match d with
 | .slc k' l=>nR T k k' l
 | _=>none
def Fl (d:DV E):Option (Unit):=match d with
 | .nilp=>some ()
 | _=>none
def GL (d:DV E):Option (Unit):=match d with
 | .nili=>some ()
 | _=>none
def GA (d:DV E):Option (Unit):=match d with
 | .nils=>some ()
 | _=>none
def gFn (f:FuncId) (d:DV E):Option (Unit):=match d with
 | .fn f' []=>if f'=f then some () else none
 | _=>none
def JM (n off:Nat) (d:DV E):Option (Unit):=match d with
 | .ptr n' off'=>if n'=n∧off'=off then some () else none
 | _=>none
def FW (n:Nat) (d:DV E):Option (Unit):=match d with
 | .rowp n'=>if n'=n then some () else none
 | _=>none
def Fk (n:Nat) (d:DV E):Option (Nat):=match d with
 | .rowv n' b=>if n'=n then some b else none
 | _=>none
def Jg (e:TypeId) (k:K) (d:DV E):Option (List (E k)):=match d with
 | .row e' k' l=>if e'=e then nR T k k' l else none
 | _=>none
def J0 (n:Nat) (k:K) (d:DV E):Option (List (E k)):=match d with
 | .arr n' k' l=>if n'=n then nR T k k' l else none
 | _=>none
def Gz (j:Nat) (d:DV E):Option (Unit):=match d with
 | .argp j'=>if j'=j then some () else none
 | _=>none
def GC (d:DV E):Option (Unit):=match d with
 | .junk=>some ()
 | _=>none
def FO (n len:Nat) (d:DV E):Option (Unit):=match d with
 | .cslc n' len'=>if n'=n∧len'=len then some () else none
 | _=>none
def JZ (n sz:Nat) (d:DV E):Option (Nat):=match d with
 | .rws n' lo sz'=>if n'=n∧sz'=sz then some lo else none
 | _=>none
def Ja (k k':K) (x:E k'):Option (E k) :=
 match T.deq k' k with
 | .isTrue h=>some (h ▸ x)
 | .isFalse _=>none
def Jz (k:K) (d:DV E):Option (E k):=match d with
 | .any k' x=>Ja T k k' x
 | _=>none
def S0.rd (s:S0 K) (d:DV E):Option (s.ty E) :=
 match s with
 | .int k=>Jx k d
 | .bool=>G3 d
 | .str=>Jw d
 | .slc k=>Ke T k d
 | .nilp=>Fl d
 | .nili=>GL d
 | .nils=>GA d
 | .fn f=>gFn f d
 | .ptr n off=>JM n off d
 | .rowp n=>FW n d
 | .rowv n=>Fk n d
 | .row e k=>Jg T e k d
 | .argp j=>Gz j d
 | .junk=>GC d
 | .arr n k=>J0 T n k d
 | .any k=>Jz T k d
 | .cslc n l=>FO n l d
 | .rws n sz=>JZ n sz d
def rdL:(ss:List (S0 K))→List (DV E)→Option (tyL E ss)
 | [],[]=>some ()
 | s :: r,d :: ds=>(s.rd T d).bind fun x=>(rdL r ds).bind fun y=>some (x,y)
 | _,_=>none
def IF (d:DV E):Option (List (DV E)):=match d with
 | .agg cs=>some cs
 | _=>none
def Jn (t:TypeId) (d:DV E):Option (List (DV E)):=match d with
 | .pin t' cs=>if t'=t then some cs else none
 | _=>none
def GQ (t:TypeId) (d:DV E):Option (List (DV E)):=match d with
 | .newb t' cs=>if t'=t then some cs else none
 | _=>none
def HK (t:TypeId) (d:DV E):Option (DV E):=match d with
 | .ifc t' d=>if t'=t then some d else none
 | _=>none
def Hu (d:DV E):Option (List (DV E)):=match d with
 | .shp cs=>some cs
 | _=>none
def JW (d:DV E):Option (Bool×List (DV E)):=match d with
 | .opt c cs=>some (c,cs)
 | _=>none
def D5:(sss:List (List (S0 K)))→List (DV E)→Option (Fw E sss)
 | [],[]=>some ()
 | ss :: r,d :: ds=>((Hu d).bind (rdL T ss)).bind fun x=>(D5 r ds).bind fun y=>some (x,y)
 | _,_=>none
def J5 (f:FuncId) (d:DV E):Option (List (DV E)):=match d with
 | .fn f' cs=>if f'=f then some cs else none
 | _=>none
def S1.rd (s:S1 K) (d:DV E):Option (s.ty E) :=
 match s with
 | .a s=>s.rd T d
 | .agg ss=>(IF d).bind (rdL T ss)
 | .pin t ss=>(Jn t d).bind (rdL T ss)
 | .newb t ss=>(GQ t d).bind (rdL T ss)
 | .ifc t s=>(HK t d).bind (s.rd T)
 | .ifcA t ss=>(HK t d).bind fun d=>(IF d).bind (rdL T ss)
 | .shp ss=>(Hu d).bind (rdL T ss)
 | .opt ss=>(JW d).bind fun q=>(rdL T ss q.2).bind fun x=>some (q.1,x)
 | .fnc f sss=>(J5 f d).bind (D5 T sss)
 | _=>none
def SB.rd:(s:SB K)→Box E→Option (s.ty E)
 | .cells t ss, .cells t' cs=>if t'=t then rdL T ss cs else none
 | .row e k, .row e' k' l=>if e'=e then nR T k k' l else none
 | .siter, .siter s pos=>some (s,pos)
 | .arr t n k, .arr t' n' k' l=>if t'=t∧n'=n then nR T k k' l else none
 | _,_=>none
def It.rd (st:St E):(i:It K)→Option (i.ty E)
 | .tmp t s=>s.rd T (st.tmps.getD t .junk)
 | .box n b=>(look st.mem n).bind (b.rd T)
def rdI (st:St E):(its:List (It K))→Option (tyI E its)
 | []=>some ()
 | i :: r=>(i.rd T st).bind fun x=>(rdI st r).bind fun y=>some (x,y)
def mr:List (It K)→List Nat
 | [] => []
 | .tmp .. :: r=>mr r
 | .box n _ :: r=>n :: mr r
def rdS (nt:Nat) (ss:SS K) (st:St E):Option (tyI E ss.its) :=
 if st.tmps.length=nt∧nodupB (mr ss.its)=true then rdI T (Au T ss.co (forget ss.frz st)) ss.its else none
inductive Ex where
 | norm | exit (i:Nat) | ret
 deriving DecidableEq
variable (E) in
def Er:Ex×SS K→List (Ex×SS K)→Type
 | x,[]=>tyI E x.2.its
 | x,y :: r=>tyI E x.2.its ⊕ Er y r
def qh (nt:Nat):(x:Ex×SS K)→(l:List (Ex×SS K))→Ex→St E→Option (Er E x l)
 | x,[],e,st=>if x.1=e then rdS T nt x.2 st else none
 | x,y :: r,e,st=>if x.1=e then (rdS T nt x.2 st).bind fun v=>some (.inl v) else (qh nt y r e st).bind fun v=>some (.inr v)
def mn {γ:Type} (nt:Nat):(x:Ex×SS K)→(l:List (Ex×SS K))→Er E x l→(Ex→St E→γ)→γ
 | x,[],v,k=>k x.1 (j4 T nt x.2.its v)
 | x,y :: r,v,k=>match v with
  | .inl v=>k x.1 (j4 T nt x.2.its v)
  | .inr v=>mn nt y r v k
end
def assoc {α:Type}:List (Nat×α)→Nat→Option α
 | [],_=>none
 | (k,a) :: r,n=>if k=n then some a else assoc r n
structure JA (K:Type) where
 orc:Orc:={}
 nt:Nat
 joins:List (Nat×(Ex×SS K)×List (Ex×SS K)) := []
 loops:List (Nat×SS K×(Ex×SS K)×List (Ex×SS K)) := []
 frz:List (Nat×List Nat) := []
 cuts:List (Nat×List (Nat×SS K)) := []
 bjoins:List (Nat×(Ex×SS K)×List (Ex×SS K)) := []
 ends:List (Nat×SS K) := []
 unr:Nat:=0
def uR (id:Nat) (e:Ex):Ex:=match e with
 | .exit j=>if j=id then .norm else .exit j
 | e=>e
def ja:Code→Nat
 | .region id _ _=>id+1
 | .seq x y=>if ja x=0 then ja y else ja x
 | .cond _ x y=>if ja x=0 then ja y else ja x
 | .block _ b=>ja b
 | .loop b=>ja b
 | _=>0
def bS {X Y:Type} (f:X→Option (X ⊕ Y)):Nat→X→Option Y
 | 0,_=>none
 | n+1,x=>(f x).bind fun r=>match r with
  | .inl x'=>bS f n x'
  | .inr y=>some y
def zm (f:St E→(β:Type)→(Ex→St E→Option β)→Option β):Nat→St E→(β:Type)→(Ex→St E→Option β)→Option β
 | 0,_,_,_=>none
 | n+1,st,β,k=>f st β fun e st'=>match e with
  | .norm=>zm f n st' β k
  | e=>k e st'
section
variable (T:Tab E) (P:Program) (env:Env E) (pl:JA K) (F:Nat)
def JY (q:Nat):Operand→Option ((Ex×SS K)×List (Ex×SS K))
 | .tmp t=>assoc pl.joins (t+100000 * q)
 | _=>none
def tO (ops:Array Oper) {β:Type}:List (Nat×SS K)→List Nat→St E→(St E→Option β)→Option β
 | [],l,st,k=>oL T P env pl.orc ops none l [] st k
 | (c,ss) :: r,l,st,k=>(oL T P env pl.orc ops none (l.take c) [] st (rdS T pl.nt ss)).bind fun x=>tO ops r (l.drop c) (j4 T pl.nt ss.its x) k
def lB:Code→Nat→St E→{β:Type}→(Ex→St E→Option β)→Option β
 | .skip,_,st,_,k=>k .norm st
 | .region id ops draw,_,st,_,k =>
  if draw=true then
   if pz ops=true then
    match assoc pl.ends id with
    | none=>oL T P env pl.orc ops (some (AJ ops)) (List.range ops.size) [] (forget ((assoc pl.frz id).getD []) st) (k .norm)
    | some ss=>(oL T P env pl.orc ops (some (AJ ops)) (List.range ops.size) [] (forget ((assoc pl.frz id).getD []) st) (rdS T pl.nt ss)).bind fun x=>k .norm (j4 T pl.nt ss.its x)
   else none
  else tO T P env pl ops ((assoc pl.cuts id).getD []) (List.range ops.size) (forget ((assoc pl.frz id).getD []) st) (k .norm)
 | .seq x y,l,st,_,k=>lB x l st fun e st'=>match e with
  | .norm=>lB y l st' k
  | e=>k e st'
 | .cond c x y,l,st,_,k =>
  match st.ev c with
  | .bool b =>
   match JY pl (ja (.seq x y)) c with
   | none=>if b=true then lB x l st k else lB y l st k
   | some (h,r)=>(if b=true then lB x l st (qh T pl.nt h r) else lB y l st (qh T pl.nt h r)).bind fun t=>mn T pl.nt h r t k
  | _=>none
 | .block id body,_,st,_,k =>
  match assoc pl.bjoins id with
  | none=>lB body id st fun e st'=>k (uR id e) st'
  | some (h,r)=>(lB body id st fun e st'=>qh T pl.nt h r (uR id e) st').bind fun t=>mn T pl.nt h r t k
 | .loop body,l,st,_,k =>
  match assoc pl.loops l with
  | none=>zm (fun st β k=>lB body l st (β:=β) k) pl.unr st _ k
  | some (ss,h,r)=>(rdS T pl.nt ss st).bind fun x =>
   (bS (fun x=>lB body l (j4 T pl.nt ss.its x) fun e st'=>match e with
    | .norm=>(rdS T pl.nt ss st').bind fun v=>some (Sum.inl v)
    | e=>(qh T pl.nt h r e st').bind fun v=>some (Sum.inr v)) F x).bind fun y=>mn T pl.nt h r y k
 | .exit id,_,st,_,k=>k (.exit id) st
 | .ret,_,st,_,k=>k .ret st
 | _,_,_,_,_=>none
end
end Go.Vm
/- The abstract value machine: the run of a body is sound. -/
namespace Go.Vm
open Go.Lib
set_option linter.unusedVariables false
variable {K:Type} {E:K→Type}
variable {T:Tab E} {P:Program}
/-! ### shapes are true -/
theorem cu {α:Type} {c:Prop} [Decidable c] {m:Option α} {x:α} (h:(if c then m else none)=some x):c∧m=some x:=by
 by_cases hc:c
 ·rw [if_pos hc] at h; exact ⟨hc,h⟩
 ·rw [if_neg hc] at h; cases h
theorem IK {k:IntKind} {d:DV E} {x:Int} (h:Jx k d=some x):DV.int k x=d:=by
 unfold Jx at h
 split at h
 ·obtain ⟨e,h⟩:=cu h; cases h; subst e; rfl
 ·cases h
theorem Gu {d:DV E} {x:Bool} (h:G3 d=some x):DV.bool x=d:=by
 unfold G3 at h
 split at h
 ·cases h; rfl
 ·cases h
theorem Ie {d:DV E} {x:List UInt8} (h:Jw d=some x):DV.str x=d:=by
 unfold Jw at h
 split at h
 ·cases h; rfl
 ·cases h
theorem HE {k:K} {d:DV E} {x:List (E k)} (h:Ke T k d=some x):DV.slc k x=d:=by
 unfold Ke at h
 split at h
 ·obtain ⟨e,he⟩:=fB h; subst e; rw [he]
 ·cases h
theorem F4 {d:DV E} {x:Unit} (h:Fl d=some x):DV.nilp=d:=by
 unfold Fl at h
 split at h
 ·cases h; rfl
 ·cases h
theorem Fj {d:DV E} {x:Unit} (h:GL d=some x):DV.nili=d:=by
 unfold GL at h
 split at h
 ·cases h; rfl
 ·cases h
theorem Ft {d:DV E} {x:Unit} (h:GA d=some x):DV.nils=d:=by
 unfold GA at h
 split at h
 ·cases h; rfl
 ·cases h
theorem JP {f:FuncId} {d:DV E} {x:Unit} (h:gFn f d=some x):DV.fn f []=d:=by
 unfold gFn at h
 split at h
 ·obtain ⟨e,h⟩:=cu h; cases h; subst e; rfl
 ·cases h
theorem HP {n off:Nat} {d:DV E} {x:Unit} (h:JM n off d=some x):DV.ptr n off=d:=by
 unfold JM at h
 split at h
 ·obtain ⟨⟨e,e'⟩,h⟩:=cu h; subst e; subst e'; rfl
 ·cases h
theorem FJ {n:Nat} {d:DV E} {x:Unit} (h:FW n d=some x):DV.rowp n=d:=by
 unfold FW at h
 split at h
 ·obtain ⟨e,h⟩:=cu h; cases h; subst e; rfl
 ·cases h
theorem G5 {n:Nat} {d:DV E} {x:Nat} (h:Fk n d=some x):DV.rowv n x=d:=by
 unfold Fk at h
 split at h
 ·obtain ⟨e,h⟩:=cu h; cases h; subst e; rfl
 ·cases h
theorem Hs {e:TypeId} {k:K} {d:DV E} {x:List (E k)} (h:Jg T e k d=some x):DV.row e k x=d:=by
 unfold Jg at h
 split at h
 ·obtain ⟨e,h2⟩:=cu h; obtain ⟨e',he⟩:=fB h2; subst e; subst e'; rw [he]
 ·cases h
theorem HI {n:Nat} {k:K} {d:DV E} {x:List (E k)} (h:J0 T n k d=some x):DV.arr n k x=d:=by
 unfold J0 at h
 split at h
 ·obtain ⟨e,h2⟩:=cu h; obtain ⟨e',he⟩:=fB h2; subst e; subst e'; rw [he]
 ·cases h
theorem Gs {j:Nat} {d:DV E} {x:Unit} (h:Gz j d=some x):DV.argp j=d:=by
 unfold Gz at h
 split at h
 ·obtain ⟨e,h⟩:=cu h; cases h; subst e; rfl
 ·cases h
theorem Fo {d:DV E} {x:Unit} (h:GC d=some x):DV.junk=d:=by
 unfold GC at h
 split at h
 ·cases h; rfl
 ·cases h
theorem GD {n len:Nat} {d:DV E} {x:Unit} (h:FO n len d=some x):DV.cslc n len=d:=by
 unfold FO at h
 split at h
 ·obtain ⟨⟨e,e'⟩,h⟩:=cu h; subst e; subst e'; rfl
 ·cases h
theorem Iq {n sz:Nat} {d:DV E} {x:Nat} (h:JZ n sz d=some x):DV.rws n x sz=d:=by
 unfold JZ at h
 split at h
 ·obtain ⟨⟨e,e'⟩,h⟩:=cu h; cases h; subst e; subst e'; rfl
 ·cases h
theorem HS {k:K} {d:DV E} {x:E k} (h:Jz T k d=some x):DV.any k x=d:=by
 unfold Jz at h
 split at h
 ·unfold Ja at h
  split at h
  ·rename_i e _
   cases h
   subst e
   rfl
  ·cases h
 ·cases h
theorem S0.mG {s:S0 K} {d:DV E} {x:s.ty E} (h:s.rd T d=some x):s.abs x=d:=by
 cases s with
 | int k=>exact IK h
 | bool=>exact Gu h
 | str=>exact Ie h
 | slc k=>exact HE h
 | nilp=>exact F4 h
 | nili=>exact Fj h
 | nils=>exact Ft h
 | fn f=>exact JP h
 | ptr n off=>exact HP h
 | rowp n=>exact FJ h
 | rowv n=>exact G5 h
 | row e k=>exact Hs h
 | argp j=>exact Gs h
 | junk=>exact Fo h
 | arr n k=>exact HI h
 | any k=>exact HS h
 | cslc n l=>exact GD h
 | rws n sz=>exact Iq h
theorem lg : ∀ {ss:List (S0 K)} {ds:List (DV E)} {x:tyL E ss},rdL T ss ds=some x→fO ss x=ds
 | [],[],x,h=>rfl
 | [],d :: ds,x,h=>by simp [rdL] at h
 | s :: r,[],x,h=>by simp [rdL] at h
 | s :: r,d :: ds,x,h=>by
  simp only [rdL] at h
  obtain ⟨y,hy,h⟩:=Option.bind_eq_some_iff.1 h
  obtain ⟨z,hz,h⟩:=Option.bind_eq_some_iff.1 h
  cases h
  simp only [fO,S0.mG hy,lg hz]
theorem Da {d:DV E} {x:List (DV E)} (h:IF d=some x):DV.agg x=d:=by
 unfold IF at h
 split at h
 ·cases h; rfl
 ·cases h
theorem IC {t:TypeId} {d:DV E} {x:List (DV E)} (h:Jn t d=some x):DV.pin t x=d:=by
 unfold Jn at h
 split at h
 ·obtain ⟨e,h⟩:=cu h; cases h; subst e; rfl
 ·cases h
theorem FP {t:TypeId} {d:DV E} {x:List (DV E)} (h:GQ t d=some x):DV.newb t x=d:=by
 unfold GQ at h
 split at h
 ·obtain ⟨e,h⟩:=cu h; cases h; subst e; rfl
 ·cases h
theorem Dm {t:TypeId} {d x:DV E} (h:HK t d=some x):DV.ifc t x=d:=by
 unfold HK at h
 split at h
 ·obtain ⟨e,h⟩:=cu h; cases h; subst e; rfl
 ·cases h
theorem CF {d:DV E} {x:List (DV E)} (h:Hu d=some x):DV.shp x=d:=by
 unfold Hu at h
 split at h
 ·cases h; rfl
 ·cases h
theorem Im {d:DV E} {x:Bool×List (DV E)} (h:JW d=some x):DV.opt x.1 x.2=d:=by
 unfold JW at h
 split at h
 ·cases h; rfl
 ·cases h
theorem CB : ∀ {sss:List (List (S0 K))} {ds:List (DV E)} {x:Fw E sss},D5 T sss ds=some x→C5 sss x=ds
 | [],[],x,h=>rfl
 | [],d :: ds,x,h=>by simp [D5] at h
 | s :: r,[],x,h=>by simp [D5] at h
 | s :: r,d :: ds,x,h=>by
  simp only [D5] at h
  obtain ⟨y,hy,h⟩:=Option.bind_eq_some_iff.1 h
  obtain ⟨cs,h1,hy⟩:=Option.bind_eq_some_iff.1 hy
  obtain ⟨z,hz,h⟩:=Option.bind_eq_some_iff.1 h
  cases h
  simp only [C5,lg hy,CB hz,CF h1]
theorem IH {f:FuncId} {d:DV E} {x:List (DV E)} (h:J5 f d=some x):DV.fn f x=d:=by
 unfold J5 at h
 split at h
 ·obtain ⟨e,h⟩:=cu h; cases h; subst e; rfl
 ·cases h
theorem S1.mG {s:S1 K} {d:DV E} {x:s.ty E} (h:s.rd T d=some x):s.abs T x=d:=by
 cases s with
 | a s=>exact S0.mG h
 | elt k=>cases h
 | eptr k off=>cases h
 | agg ss=>obtain ⟨cs,h1,h⟩:=Option.bind_eq_some_iff.1 h; rw [← Da h1]; exact congrArg _ (lg h)
 | pin t ss=>obtain ⟨cs,h1,h⟩:=Option.bind_eq_some_iff.1 h; rw [← IC h1]; exact congrArg _ (lg h)
 | newb t ss=>obtain ⟨cs,h1,h⟩:=Option.bind_eq_some_iff.1 h; rw [← FP h1]; exact congrArg _ (lg h)
 | ifc t s=>obtain ⟨cs,h1,h⟩:=Option.bind_eq_some_iff.1 h; rw [← Dm h1]; exact congrArg _ (S0.mG h)
 | ifcA t ss =>
  obtain ⟨d',h1,h⟩:=Option.bind_eq_some_iff.1 h
  obtain ⟨cs,h2,h⟩:=Option.bind_eq_some_iff.1 h
  rw [← Dm h1, ← Da h2]
  exact congrArg (fun q=>DV.ifc _ (.agg q)) (lg h)
 | shp ss=>obtain ⟨cs,h1,h⟩:=Option.bind_eq_some_iff.1 h; rw [← CF h1]; exact congrArg _ (lg h)
 | opt ss =>
  obtain ⟨q,h1,h⟩:=Option.bind_eq_some_iff.1 h
  obtain ⟨y,h2,h⟩:=Option.bind_eq_some_iff.1 h
  cases h
  rw [← Im h1]
  exact congrArg (DV.opt q.1) (lg h2)
 | fnc f sss=>obtain ⟨cs,h1,h⟩:=Option.bind_eq_some_iff.1 h; rw [← IH h1]; exact congrArg _ (CB h)
theorem SB.mG {s:SB K} {b:Box E} {x:s.ty E} (h:s.rd T b=some x):s.abs x=b:=by
 cases s <;> cases b <;> simp only [SB.rd] at h <;> first | (cases h; done) | skip
 case cells.cells=>obtain ⟨e,h⟩:=cu h; subst e; exact congrArg _ (lg h)
 case row.row =>
  obtain ⟨e,h⟩:=cu h
  subst e
  obtain ⟨e,he⟩:=fB h
  subst e
  rw [he]
  rfl
 case siter.siter=>cases h; rfl
 case arr.arr =>
  obtain ⟨⟨e,e'⟩,h⟩:=cu h
  subst e; subst e'
  obtain ⟨e,he⟩:=fB h
  subst e
  rw [he]
  rfl
theorem Iv {s:S1 K} {x:s.ty E} : ∀ n i cs off,s.abs T x ≠ .rptr n i cs off:=by
 intro n i cs off
 cases s with
 | a s=>cases s <;> simp [S1.abs,S0.abs]
 | _=>simp [S1.abs]
theorem Cf {st:St E} : ∀ {its:List (It K)} {x:tyI E its},rdI T st its=some x →
  (j4 T st.tmps.length its x).tmps.length=st.tmps.length∧names (j4 T st.tmps.length its x).mem=mr its ∧
  (∀ i (hi:i<st.tmps.length) (hi':i<(j4 T st.tmps.length its x).tmps.length),(j4 T st.tmps.length its x).tmps[i] = .junk∨((j4 T st.tmps.length its x).tmps[i]=st.tmps[i] ∧ ∀ n j cs off,st.tmps[i] ≠ .rptr n j cs off)) ∧
  ∀ n b,(n,b)∈(j4 T st.tmps.length its x).mem→(n,b)∈st.mem
 | [],x,h=>⟨by simp [j4],rfl,fun i hi hi' => .inl (by simp [j4]),fun n b hm=>by simp [j4] at hm⟩
 | .tmp t s :: r,x,h=>by
  simp only [rdI,It.rd] at h
  obtain ⟨y,hy,h⟩:=Option.bind_eq_some_iff.1 h
  obtain ⟨z,hz,h⟩:=Option.bind_eq_some_iff.1 h
  cases h
  obtain ⟨h1,h2,h3,h4⟩:=Cf hz
  refine ⟨by simp [j4,It.abs,h1],by simp [j4,It.abs,mr,h2],fun i hi hi' => ?_,fun n b hm=>h4 n b (by simpa [j4,It.abs] using hm)⟩
  simp only [j4,It.abs] at hi' ⊢
  by_cases hit:t=i
  ·subst hit
   simp only [List.getElem_set_self]
   have:=S1.mG hy
   rw [dV _ _ _ hi] at this
   refine .inr ⟨this,fun n j cs off e => ?_⟩
   rw [e] at this
   exact Iv n j cs off this
  ·simp only [List.getElem_set_ne hit]
   exact h3 i hi (by simpa using hi')
 | .box n b :: r,x,h=>by
  simp only [rdI,It.rd] at h
  obtain ⟨y,hy,h⟩:=Option.bind_eq_some_iff.1 h
  obtain ⟨z,hz,h⟩:=Option.bind_eq_some_iff.1 h
  cases h
  obtain ⟨b0,hl,hb⟩:=Option.bind_eq_some_iff.1 hy
  obtain ⟨h1,h2,h3,h4⟩:=Cf hz
  refine ⟨h1,by simp only [j4,It.abs,names,List.map_cons,mr]; exact congrArg _ h2,h3,fun n' b' hm => ?_⟩
  simp only [j4,It.abs,List.mem_cons] at hm
  rcases hm with hm | hm
  ·cases hm
   rw [SB.mG hb]
   exact bt hl
  ·exact h4 _ _ hm
section
variable {w0:World} {G:GP}
theorem se {nt:Nat} {ss:SS K} {st:St E} {x:tyI E ss.its} (h:rdS T nt ss st=some x) {a:Act} {w:World} {g:Gh} (hi:Inv T w0 G st a w g) : ∃ g',Inv T w0 G (j4 T nt ss.its x) a w g':=by
 unfold rdS at h
 split at h
 ·rename_i hc
  obtain ⟨hl,hn⟩:=hc
  have hf0:=l8 hi ss.frz
  obtain ⟨g',hf⟩:=yd ss.co hf0
  have hlen:(Au T ss.co (forget ss.frz st)).tmps.length=nt:=by
   rw [AD]
   unfold forget; split
   ·exact hl
   ·simpa using hl
  subst hlen
  obtain ⟨h1,h2,h3,h4⟩:=Cf h
  refine ⟨g',hf.Ki ⟨h1,by rw [h2]; exact iQ hn,fun i hi hi' => ?_,fun n b hm=>⟨b,h4 n b hm, .same b⟩⟩⟩
  rcases h3 i hi hi' with h5 | ⟨h5,h6⟩
  ·rw [h5]; exact .junk _
  ·rw [h5]; exact .same _ (fun n j cs off e=>absurd e (h6 n j cs off))
 ·cases h
theorem rE {nt:Nat} : ∀ {x:Ex×SS K} {l:List (Ex×SS K)} {e:Ex} {st:St E} {t:Er E x l},qh T nt x l e st=some t →
  ∃ st',(∀ (γ:Type) (k:Ex→St E→γ),mn T nt x l t k=k e st') ∧ ∀ a w g,Inv T w0 G st a w g → ∃ g',Inv T w0 G st' a w g'
 | x,[],e,st,t,h=>by
  simp only [qh] at h
  obtain ⟨he,h⟩:=cu h
  exact ⟨_,fun γ k=>by simp only [mn,he],fun a w g hi=>se h hi⟩
 | x,y :: r,e,st,t,h=>by
  simp only [qh] at h
  split at h
  ·rename_i he
   obtain ⟨v,hv,h⟩:=Option.bind_eq_some_iff.1 h
   cases h
   exact ⟨_,fun γ k=>by simp only [mn,he],fun a w g hi=>se hv hi⟩
  ·obtain ⟨v,hv,h⟩:=Option.bind_eq_some_iff.1 h
   cases h
   obtain ⟨st',h1,h2⟩:=rE hv
   exact ⟨st',fun γ k=>by simp only [mn]; exact h1 γ k,h2⟩
/-! ### the run -/
def Ex.ex:Ex→Exit
 | .norm => .normal
 | .exit i => .exit i
 | .ret => .ret
variable (T P w0 G) in
def DP (J:List Nat) (c:Code) (st:St E) (e:Ex) (st':St E):Prop :=
 ∀ a w g,Inv T w0 G st a w g→c.wp P (fun e' a' w'=>e'=e.ex ∧ ∃ g',Inv T w0 G st' a' w' g'∧kR J a a') a w
def BP (J:List Nat) (o:Oper):Bool:=match o.dst with
 | some d => !J.contains d
 | none=>true
def mY (J:List Nat):Code→Bool
 | .region _ ops _=>ops.toList.all (BP J)
 | .seq x y | .cond _ x y=>mY J x && mY J y
 | .block _ b | .loop b=>mY J b
 | _=>true
theorem tn {J:List Nat} {ops:Array Oper} (h:ops.toList.all (BP J)=true) (i:Nat) (o:Oper) (ho:ops[i]? = some o) (d:Nat) (hd:o.dst=some d):d ∉ J:=by
 have:=List.all_eq_true.1 h o (by simpa using Array.mem_of_getElem? ho)
 unfold BP at this
 rw [hd] at this
 simpa using this
variable (P) in
def mP (c:Code) (Q:Exit→Act→World→Prop) (a:Act) (w:World):Prop :=
 ∀ (b:Frame) (k:List Item) (cs:List Frame), ∃ e a' w',Q e a' w'∧Arrives P (lone (b.at a (.code c :: .inLoop c :: k)) cs w) b k cs e a' w'
theorem rJ {c:Code} {Q:Exit→Act→World→Prop} {a:Act} {w:World} (h:mP P c Q a w):(Code.loop c).wp P Q a w:=by
 intro b k cs
 obtain ⟨e,a',w',hq,harr⟩:=h b k cs
 exact ⟨e,a',w',hq, .of_steps (.one step_loop) harr⟩
theorem sO {c:Code} {Q Q':Exit→Act→World→Prop} {a:Act} {w:World} (h:mP P c Q a w) (hq : ∀ e a w,Q e a w→Q' e a w):mP P c Q' a w :=
 fun b k cs=>let ⟨e,a',w',q,r⟩:=h b k cs; ⟨e,a',w',hq _ _ _ q,r⟩
theorem kG {c:Code} {Q:Exit→Act→World→Prop} {a:Act} {w:World} (h:c.wp P (Exit.then (mP P c Q) Q) a w):mP P c Q a w:=by
 intro b k cs
 obtain ⟨e,a₁,w₁,hq,harr⟩:=h b (.inLoop c :: k) cs
 cases e with
 | normal =>
  obtain ⟨e₂,a₂,w₂,hq₂,harr₂⟩:=hq b k cs
  exact ⟨e₂,a₂,w₂,hq₂, .of_steps (Steps.trans harr (.one step_inLoop)) harr₂⟩
 | exit id=>exact ⟨_,a₁,w₁,hq, .pass (x := .inLoop c) rfl (fun _ _ => .inl (by simp)) harr⟩
 | goto l=>exact ⟨_,a₁,w₁,hq, .pass (x := .inLoop c) rfl (fun _ _ => .inl (by simp)) harr⟩
 | ret=>exact ⟨_,a₁,w₁,hq, .pass (x := .inLoop c) rfl (fun _ _ => .inl (by simp)) harr⟩
 | panic ch=>exact ⟨_,a₁,w₁,hq, .pass (x := .inLoop c) rfl (fun _ _ => .inl (by simp)) harr⟩
 | outgrown=>exact ⟨_,a₁,w₁,hq, .pass (x := .inLoop c) rfl (fun _ _ => .inl (by simp)) harr⟩
theorem Eo {st:St E} {a:Act} {w:World} {g:Gh} (h:Inv T w0 G st a w g) (n:Nat):Inv T w0 G st a { w with drawn:=n } g :=
 h.grow (w':={ w with drawn:=n }) ⟨rfl,rfl,rfl,Nat.le_refl _,fun _ _ _=>rfl⟩ none .junk undef (Rep.junk _).toT (fun _ _ _ _ e=>by cases e)
theorem sS {st:St E} {a:Act} {w:World} {g:Gh} (h:Inv T w0 G st a w g) {c:Operand} {b:Bool} (hc:st.ev c = .bool b):a.eval c = .bool b:=by
 have:=h.ev c
 rw [hc] at this
 exact jG this
variable {env:Env E} {pl:JA K} {F:Nat} {J:List Nat}
theorem CL [hgl:tC T w0 G] (henv : ∀ f,Ctr T P f (env f)) {ops:Array Oper} (hJ : ∀ (i:Nat) (o:Oper),ops[i]? = some o → ∀ d,o.dst=some d→d ∉ J) {β:Type} : ∀ (cuts:List (Nat×SS K)) (l:List Nat) (st:St E) (k:St E→Option β) (r:β),
  tO T P env pl ops cuts l st k=some r → ∃ st',k st'=some r ∧ ∀ (Q:Exit→Act→World→Prop) (a:Act) (w:World) (g:Gh),Inv T w0 G st a w g →
   (∀ a' w' g',Inv T w0 G st' a' w' g'→kR J a a'→Q .normal a' w')→wpOps P ops Q l a w
 | [],l,st,k,r,h=>by
  obtain ⟨rs,st',h1,h2,h3,h4⟩:=jU _ _ _ _ _ (fun a ha=>by cases ha) h
  refine ⟨st',h3,fun Q a w g hi hn => ?_⟩
  rw [← h1, ← List.append_nil (rs.map (·.i))]
  exact zr (T:=T) (env:=env) (orc:=pl.orc) (w0:=w0) (G:=G) henv hJ rs _ st' a w g hi h2 [] fun a' w' g' hi' hk=>by simpa [wpOps] using hn a' w' g' hi' hk
 | (c,ss) :: cuts,l,st,k,r,h=>by
  simp only [tO] at h
  obtain ⟨x,hx,h⟩:=Option.bind_eq_some_iff.1 h
  obtain ⟨rs,st1,h1,h2,h3,h4⟩:=jU _ _ _ _ _ (fun a ha=>by cases ha) hx
  obtain ⟨st',hk,hw⟩:=CL henv hJ cuts (l.drop c) _ k r h
  refine ⟨st',hk,fun Q a w g hi hn => ?_⟩
  rw [← List.take_append_drop c l, ← h1]
  exact zr (T:=T) (env:=env) (orc:=pl.orc) (w0:=w0) (G:=G) henv hJ rs _ st1 a w g hi h2 _ fun a' w' g' hi' hkp=>by
   obtain ⟨g1,hi1⟩:=se h3 hi'
   exact hw Q a' w' g1 hi1 fun a2 w2 g2 hi2 hk2=>hn a2 w2 g2 hi2 (hkp.trans hk2)
theorem EU [hgl:tC T w0 G] (henv : ∀ f,Ctr T P f (env f)) (hm:P.follows .mixedOrders=true) {β:Type} {id:Nat} {ops:Array Oper} {draw:Bool} {l:Nat} {st:St E} {k:Ex→St E→Option β} {r:β}
  (hJ:mY J (.region id ops draw)=true) (h:lB T P env pl F (.region id ops draw) l st k=some r) : ∃ e st',k e st'=some r∧DP T P w0 G J (.region id ops draw) st e st':=by
 simp only [lB] at h
 cases draw with
 | true =>
  simp only [if_true] at h
  split at h
  ·rename_i hb
   have key : ∀ {γ:Type} (K:St E→Option γ) (y:γ),oL T P env pl.orc ops (some (AJ ops)) (List.range ops.size) [] (forget ((assoc pl.frz id).getD []) st) K=some y →
     ∃ st',K st'=some y∧DP T P w0 G J (.region id ops true) st .norm st':=by
    intro γ K y h
    obtain ⟨rs,st',h1,h2,h3,h4⟩:=jU _ _ _ _ _ (fun a ha=>by cases ha) h
    refine ⟨st',h3,fun a w g hi=>wp_region_any hm ?_⟩
    refine Ka (T:=T) (env:=env) (orc:=pl.orc) (w0:=w0) (G:=G) henv hb (tn hJ) (st':=st') (a0:=a) (fun a w g hi hk=>⟨rfl,g,hi,hk⟩) _ _ rs _ a _ g (Eo (l8 hi _) _) (kR.refl J a) h2 ?_ (by simp) ?_ (h4 _ rfl).2 ?_
    ·rw [h1]; symm
     rw [List.filter_eq_self]
     intro j hj
     simp [List.mem_range.1 hj]
    ·intro i o e ho he hbi hl
     by_cases hi:i<ops.size
     ·simp [hi] at hl
     ·simp [Nat.le_of_not_lt hi] at hl
    ·have:=congrArg List.length h1
     simp at this
     omega
   split at h
   ·obtain ⟨st',h1,h2⟩:=key _ _ h
    exact ⟨.norm,st',h1,h2⟩
   ·rename_i ss _
    obtain ⟨x,hx,h⟩:=Option.bind_eq_some_iff.1 h
    obtain ⟨st',h1,h2⟩:=key _ _ hx
    refine ⟨.norm,_,h,fun a w g hi=>wp_mono (h2 a w g hi) ?_⟩
    rintro e' a' w' ⟨rfl,g',hi',hk'⟩
    obtain ⟨g1,hi1⟩:=se h1 hi'
    exact ⟨rfl,g1,hi1,hk'⟩
  ·cases h
 | false =>
  simp only [Bool.false_eq_true,if_false] at h
  obtain ⟨st',h3,hw⟩:=CL (w0:=w0) (G:=G) henv (tn hJ) _ _ _ _ _ h
  exact ⟨.norm,st',h3,fun a w g hi=>wp_region (hw _ a w g (l8 hi _) fun a w g hi hk=>⟨rfl,g,hi,hk⟩)⟩
theorem HH [hgl:tC T w0 G] (henv : ∀ f,Ctr T P f (env f)) (hm:P.follows .mixedOrders=true) : ∀ (c:Code),mY J c=true → ∀ (l:Nat) (st:St E) (β:Type) (k:Ex→St E→Option β) (r:β),lB T P env pl F c l st k=some r →
  ∃ e st',k e st'=some r∧DP T P w0 G J c st e st':=by
 intro c
 induction c with
 | skip=>intro hJ l st β k r h; exact ⟨.norm,st,h,fun a w g hi=>wp_skip ⟨rfl,g,hi,kR.refl J a⟩⟩
 | region id ops draw=>intro hJ l st β k r h; exact EU henv hm hJ h
 | seq x y ihx ihy =>
  intro hJ l st β k r h
  simp only [mY,Bool.and_eq_true] at hJ
  simp only [lB] at h
  obtain ⟨e,st1,hk,hg⟩:=ihx hJ.1 _ _ _ _ _ h
  cases e with
  | norm =>
   obtain ⟨e2,st2,hk2,hg2⟩:=ihy hJ.2 _ _ _ _ _ hk
   refine ⟨e2,st2,hk2,fun a w g hi=>wp_seq (wp_mono (hg a w g hi) ?_)⟩
   rintro e a' w' ⟨rfl,g',hi',hk'⟩
   exact wp_mono (hg2 a' w' g' hi') fun e a w ⟨h1,g2,h2,h3⟩=>⟨h1,g2,h2,hk'.trans h3⟩
  | exit j =>
   refine ⟨.exit j,st1,hk,fun a w g hi=>wp_seq (wp_mono (hg a w g hi) ?_)⟩
   rintro e a' w' ⟨rfl,g',hi',hk'⟩
   exact ⟨rfl,g',hi',hk'⟩
  | ret =>
   refine ⟨.ret,st1,hk,fun a w g hi=>wp_seq (wp_mono (hg a w g hi) ?_)⟩
   rintro e a' w' ⟨rfl,g',hi',hk'⟩
   exact ⟨rfl,g',hi',hk'⟩
 | cond c x y ihx ihy =>
  intro hJ l st β k r h
  simp only [mY,Bool.and_eq_true] at hJ
  simp only [lB] at h
  split at h
  ·rename_i b hb
   have hite : ∀ (β:Type) (k:Ex→St E→Option β) (r:β),(if b=true then lB T P env pl F x l st k else lB T P env pl F y l st k)=some r → ∃ e st',k e st'=some r∧DP T P w0 G J (.cond c x y) st e st':=by
    intro β k r h
    cases b with
    | true =>
     obtain ⟨e,st',h1,h2⟩:=ihx hJ.1 _ _ _ _ _ (by simpa using h)
     exact ⟨e,st',h1,fun a w g hi=>wp_cond_true (sS hi hb) (h2 a w g hi)⟩
    | false =>
     obtain ⟨e,st',h1,h2⟩:=ihy hJ.2 _ _ _ _ _ (by simpa using h)
     exact ⟨e,st',h1,fun a w g hi=>wp_cond_false (sS hi hb) (h2 a w g hi)⟩
   split at h
   ·exact hite _ _ _ h
   ·rename_i hd tl _
    obtain ⟨t,ht,h⟩:=Option.bind_eq_some_iff.1 h
    obtain ⟨e,st1,h1,h2⟩:=hite _ _ _ ht
    obtain ⟨st2,h3,h4⟩:=rE (w0:=w0) (G:=G) h1
    rw [h3] at h
    refine ⟨e,st2,h,fun a w g hi=>wp_mono (h2 a w g hi) ?_⟩
    rintro e' a' w' ⟨rfl,g',hi',hk'⟩
    obtain ⟨g1,hi1⟩:=h4 _ _ _ hi'
    exact ⟨rfl,g1,hi1,hk'⟩
  ·cases h
 | block id body ih =>
  intro hJ l st β k r h
  simp only [lB] at h
  have out : ∀ (e:Ex) (st1:St E),DP T P w0 G J body st e st1→DP T P w0 G J (.block id body) st (uR id e) st1:=by
   intro e st1 hg a w g hi
   refine wp_block (wp_mono (hg a w g hi) ?_)
   rintro e' a' w' ⟨rfl,g',hi',hk'⟩
   cases e with
   | norm=>exact ⟨rfl,g',hi',hk'⟩
   | ret=>exact ⟨rfl,g',hi',hk'⟩
   | exit j =>
    by_cases hj:j=id
    ·simp only [uR,hj,if_true,Ex.ex,Exit.inBlock]
     exact ⟨trivial,g',hi',hk'⟩
    ·simp only [uR,hj,if_false,Ex.ex,Exit.inBlock]
     exact ⟨trivial,g',hi',hk'⟩
  split at h
  ·obtain ⟨e,st1,hk,hg⟩:=ih hJ _ _ _ _ _ h
   exact ⟨uR id e,st1,hk,out e st1 hg⟩
  ·rename_i hd tl _
   obtain ⟨t,ht,h⟩:=Option.bind_eq_some_iff.1 h
   obtain ⟨e,st1,h1,h2⟩:=ih hJ _ _ _ _ _ ht
   obtain ⟨st2,h3,h4⟩:=rE (w0:=w0) (G:=G) h1
   rw [h3] at h
   refine ⟨uR id e,st2,h,fun a w g hi=>wp_mono (out e st1 h2 a w g hi) ?_⟩
   rintro e' a' w' ⟨rfl,g',hi',hk'⟩
   obtain ⟨g1,hi1⟩:=h4 _ _ _ hi'
   exact ⟨rfl,g1,hi1,hk'⟩
 | loop body ih =>
  intro hJ l st β k r h
  simp only [lB] at h
  split at h
  ·have key : ∀ (n:Nat) (st:St E) (k:Ex→St E→Option β) (r:β),zm (fun st β k=>lB T P env pl F body l st (β:=β) k) n st β k=some r →
     ∃ e st',k e st'=some r ∧ ∀ a w g,Inv T w0 G st a w g→mP P body (fun e' a' w'=>e'=e.ex ∧ ∃ g',Inv T w0 G st' a' w' g'∧kR J a a') a w:=by
    intro n
    induction n with
    | zero=>intro st k r h; cases h
    | succ n ihn =>
     intro st k r h
     simp only [zm] at h
     obtain ⟨e1,st1,hk1,hg1⟩:=ih hJ _ _ _ _ _ h
     have other:e1 ≠ .norm→k e1 st1=some r → ∃ e st',k e st'=some r ∧ ∀ a w g,Inv T w0 G st a w g→mP P body (fun e' a' w'=>e'=e.ex ∧ ∃ g',Inv T w0 G st' a' w' g'∧kR J a a') a w:=by
      intro hne hk
      refine ⟨e1,st1,hk,fun a w g hi=>kG (wp_mono (hg1 a w g hi) ?_)⟩
      rintro e' a' w' ⟨rfl,g',hi',hk'⟩
      cases e1 with
      | norm=>exact absurd rfl hne
      | exit j=>exact ⟨rfl,g',hi',hk'⟩
      | ret=>exact ⟨rfl,g',hi',hk'⟩
     cases e1 with
     | norm =>
      simp only at hk1
      obtain ⟨e,st',h1,h2⟩:=ihn st1 k r hk1
      refine ⟨e,st',h1,fun a w g hi=>kG (wp_mono (hg1 a w g hi) ?_)⟩
      rintro e' a' w' ⟨rfl,g',hi',hk'⟩
      exact sO (h2 a' w' g' hi') fun e a w ⟨q1,g2,q2,q3⟩=>⟨q1,g2,q2,hk'.trans q3⟩
     | exit j=>exact other (by simp) hk1
     | ret=>exact other (by simp) hk1
   obtain ⟨e,st',h1,h2⟩:=key _ _ _ _ h
   exact ⟨e,st',h1,fun a w g hi=>rJ (h2 a w g hi)⟩
  ·rename_i ss hd tl _
   obtain ⟨x,hx,h⟩:=Option.bind_eq_some_iff.1 h
   obtain ⟨y,hy,h⟩:=Option.bind_eq_some_iff.1 h
   have key : ∀ (n:Nat) (x:tyI E ss.its) (y:Er E hd tl),bS (fun x=>lB T P env pl F body l (j4 T pl.nt ss.its x) fun e st'=>match e with
     | .norm=>(rdS T pl.nt ss st').bind fun v=>some (Sum.inl v)
     | e=>(qh T pl.nt hd tl e st').bind fun v=>some (Sum.inr v)) n x=some y →
     ∃ e st',(∀ (γ:Type) (k:Ex→St E→γ),mn T pl.nt hd tl y k=k e st') ∧ ∀ a w g,Inv T w0 G (j4 T pl.nt ss.its x) a w g→mP P body (fun e' a' w'=>e'=e.ex ∧ ∃ g',Inv T w0 G st' a' w' g'∧kR J a a') a w:=by
    intro n
    induction n with
    | zero=>intro x y h; cases h
    | succ n ihn =>
     intro x y h
     simp only [bS] at h
     obtain ⟨q,hq,h⟩:=Option.bind_eq_some_iff.1 h
     obtain ⟨e1,st1,hk1,hg1⟩:=ih hJ _ _ _ _ _ hq
     have other:e1 ≠ .norm→((qh T pl.nt hd tl e1 st1).bind fun v=>some (Sum.inr v:tyI E ss.its ⊕ Er E hd tl))=some q → ∃ e st',(∀ (γ:Type) (k:Ex→St E→γ),mn T pl.nt hd tl y k=k e st') ∧ ∀ a w g,Inv T w0 G (j4 T pl.nt ss.its x) a w g→mP P body (fun e' a' w'=>e'=e.ex ∧ ∃ g',Inv T w0 G st' a' w' g'∧kR J a a') a w:=by
      intro hne hk
      obtain ⟨v,hv,hk⟩:=Option.bind_eq_some_iff.1 hk
      cases hk
      cases h
      obtain ⟨st2,h3,h4⟩:=rE (w0:=w0) (G:=G) hv
      refine ⟨e1,st2,h3,fun a w g hi=>kG (wp_mono (hg1 a w g hi) ?_)⟩
      rintro e' a' w' ⟨rfl,g',hi',hk'⟩
      obtain ⟨g1,hi1⟩:=h4 _ _ _ hi'
      cases e1 with
      | norm=>exact absurd rfl hne
      | exit j=>exact ⟨rfl,g1,hi1,hk'⟩
      | ret=>exact ⟨rfl,g1,hi1,hk'⟩
     cases e1 with
     | norm =>
      simp only at hk1
      obtain ⟨v,hv,hk1⟩:=Option.bind_eq_some_iff.1 hk1
      cases hk1
      obtain ⟨e,st',h1,h2⟩:=ihn v y h
      refine ⟨e,st',h1,fun a w g hi=>kG (wp_mono (hg1 a w g hi) ?_)⟩
      rintro e' a' w' ⟨rfl,g',hi',hk'⟩
      obtain ⟨g1,hi1⟩:=se hv hi'
      exact sO (h2 a' w' g1 hi1) fun e a w ⟨q1,g2,q2,q3⟩=>⟨q1,g2,q2,hk'.trans q3⟩
     | exit j=>exact other (by simp) hk1
     | ret=>exact other (by simp) hk1
   obtain ⟨e,st',h1,h2⟩:=key F x y hy
   rw [h1] at h
   refine ⟨e,st',h,fun a w g hi => ?_⟩
   obtain ⟨g1,hi1⟩:=se hx hi
   exact rJ (h2 a w g1 hi1)
 | exit id=>intro hJ l st β k r h; exact ⟨.exit id,st,h,fun a w g hi=>wp_exit ⟨rfl,g,hi,kR.refl J a⟩⟩
 | ret=>intro hJ l st β k r h; exact ⟨.ret,st,h,fun a w g hi=>wp_ret ⟨rfl,g,hi,kR.refl J a⟩⟩
 | _=>intro hJ l st β k r h; simp [lB] at h
end
end Go.Vm
/- The abstract value machine: how a function begins and ends. -/
namespace Go.Vm
open Go.Lib
set_option linter.unusedVariables false
variable {K:Type} {E:K→Type}
variable {T:Tab E} {P:Program}
/-! ### the beginning -/
def j6:DV E→DV E
 | .pin t cs => .newb t cs
 | .newb t cs=>match cs with
  | [d]=>d
  | cs => .newb t cs
 | d=>d
def st0 (nt:Nat) (ds:List (DV E)):St E :=
 ⟨(cg 1 [] (ds.map j6)).1 ++ List.replicate (nt - ds.length) .junk,(cg 1 [] (ds.map j6)).2⟩
/-! ### the end -/
def fx (mem:Mem E) (nm:List (Nat×Nat)) (d:DV E):DV E×List Nat :=
 match d with
 | .ptr n 0=>match assoc nm n with
  | some j=>(.argp j,[])
  | none=>match look mem n with
   | some (.cells t cs)=>(.newb t (cs.map (jd n mem)),n :: cs.flatMap (dG mem))
   | _=>(.junk,[])
 | .rowv _ _=>(.junk,[])
 | d=>(bX mem .give d,hI mem .give d)
def lY (mem:Mem E) (tmps:List (DV E)):Nat→List (DV E)→Option (List (Nat×Nat)×List (List (DV E))×List Nat)
 | _,[]=>some ([],[],[])
 | j,d :: r=>match d with
  | .pin t _=>match tmps.getD j .junk with
   | .ptr n 0=>match look mem n with
    | some (.cells t' cs)=>if t'=t then (lY mem tmps (j+1) r).bind fun q=>some ((n,j) :: q.1,cs.map (jd n mem) :: q.2.1,(n :: cs.flatMap (dG mem)) ++ q.2.2) else none
    | _=>none
   | _=>none
  | .newb _ _=>match tmps.getD j .junk with
   | .rowp n=>match look mem n with
    | some (.row e k l)=>(lY mem tmps (j+1) r).bind fun q=>some (q.1,[.row e k l] :: q.2.1,n :: q.2.2)
    | _=>none
   | _=>none
  | _=>lY mem tmps (j+1) r
def yC (ts:List Nat) (ds:List (DV E)) (st:St E):Option (Res E) :=
 (lY st.mem st.tmps 0 ds).bind fun q =>
  if nodupB ((ts.flatMap fun t=>(fx st.mem q.1 (st.tmps.getD t .junk)).2) ++ q.2.2)=true then
   some ⟨match ts with
    | [t]=>(fx st.mem q.1 (st.tmps.getD t .junk)).1
    | ts => .tup (ts.map fun t=>(fx st.mem q.1 (st.tmps.getD t .junk)).1),q.2.1⟩
  else none
def sc (T:Tab E) (P:Program) {β:Type}:List (Nat×Option TypeId)→St E→List (DV E)→(St E→Option β)→Option β
 | [],st,acc,K=>K ⟨st.tmps ++ acc,st.mem⟩
 | (t,none) :: r,st,acc,K=>if (ct (st.tmps.getD t .junk)).isSome then none else sc T P r st (acc ++ [st.tmps.getD t .junk]) K
 | (ad,some ty) :: r,st,acc,K=>(xq T P ty (st.tmps.getD ad .junk) st.mem).run fun o=>sc T P r st (acc ++ [o.v]) K
def zu (T:Tab E) (P:Program) {β:Type} (nt:Nat) (rc:List (Nat×Option TypeId)) (st:St E) (K:St E→Option β):Option β:=match rc with
 | []=>K st
 | x :: r=>if st.tmps.length=nt then sc T P (x :: r) st [] K else none
section
variable {w:World} {Y:Nat→Prop} {bl:List Nat}
theorem HZ {args:List Value} {d:DV E} {v:Value} {b:List Nat} (h:Own T w Y d v b):Ans T w Y args (j6 d) v b:=by
 cases h with
 | pin h=>exact .newb h
 | lend h=>exact .c (.row h)
 | c h =>
  have:j6 d=d:=by
   cases h with
   | sh hr hs=>cases d <;> first | rfl | (simp [DV.share,DV.lay,DV.plain] at hs; done)
   | _=>rfl
  rw [this]
  exact .c h
theorem xY {t:TypeId} {cs:List (DV E)} {v:Value} {b:List Nat} (h:Own T w Y (.pin t cs) v b):mh T w Y t cs v b:=by
 cases h with
 | pin h=>exact h
 | c h=>cases h with
  | sh hr hs=>simp [DV.share,DV.lay,DV.plain] at hs
theorem zX {R:DV E→Value→List Nat→Prop} {ds:List (DV E)} {vs:List Value} {bl:List Nat} (h:eZ R ds vs bl):ds.length=vs.length:=by
 induction h with
 | nil=>rfl
 | cons _ _ ih=>simp [ih]
def zk (w:World) (Y:Nat→Prop) (bl:List Nat):Gh:=⟨fun _=>undef,fun b=>b<w.heap.size ∧ ¬ Y b∧b ∉ bl⟩
theorem FT {nt:Nat} {ds:List (DV E)} {vs:Array Value} (h:eZ (Own T w Y) ds vs.toList bl) (hnd:bl.Nodup) (hY : ∀ b∈bl, ¬ Y b∧b<w.heap.size) (hn:nodupB (names (st0 nt ds).mem)=true) (hlen:ds.length≤nt) :
  ∃ g:Gh,Inv T w ⟨(· ∈ bl),(zk w Y bl).hid⟩ (st0 nt ds) { tmps:=vs ++ Array.replicate (nt - vs.size) undef,defers := [] } w g:=by
 have hl:=zX h
 have ha:eZ (Ans T w Y []) (ds.map j6) vs.toList bl:=h.map j6 fun d v b hd=>HZ hd
 obtain ⟨es,e1,e2,e3,e4,e5⟩:=rz [] ha 1
 have hmem:(st0 nt ds).mem=dQ es:=e1.symm
 have hnn:(bB es).Nodup:=by rw [mX, ← hmem]; exact iQ hn
 have hnew:eJ ([]:Mem E) es [] (bB es)=dQ es:=by
  have:gY ([]:Mem E) (bB es) = []:=by
   generalize bB es=l
   induction l with
   | nil=>rfl
   | cons x l ih=>exact ih
  unfold eJ
  rw [this]
  simp [cK]
 have hblk:dP (dQ es) (fH (zk w Y bl) es)=bl:=by
  have:=jY (g:=zk w Y bl) (ks := []) (m:=([]:Mem E)) hnn (fun n hn=>hn)
  rw [hnew] at this
  rw [this,e2]
  have:gY ([]:Mem E) (bB es) = []:=by
   generalize bB es=l
   induction l with
   | nil=>rfl
   | cons x l ih=>exact ih
  rw [this]
  simp [dP]
 have hw:mo T w Y (free (dQ es) (fH (zk w Y bl) es)):=by
  intro b hb hlt
  refine ⟨by rw [hblk]; exact fun hb'=>(hY b hb').1 hb,fun hh => ?_⟩
  exact hh.2.1 hb
 have hag:gF (fH (zk w Y bl) es) es:=fun x hx=>mI hnn hx
 have e5:=e5 _ _ hw hag (fun j n u hj=>by simp at hj)
 refine ⟨fH (zk w Y bl) es,rfl,?_,?_,?_,?_,?_,?_,jD.refl _ _,?_,rfl,?_⟩
 ·simp [st0,e4,hl]
 ·intro i hi
  rw [hmem]
  by_cases hiv:i<vs.toList.length
  ·have hic:i<(cg 1 [] (ds.map j6)).1.length:=by rw [e4]; exact hiv
   have h1:(st0 nt ds).tmps[i]=(cg 1 [] (ds.map j6)).1[i]:=by simp [st0,List.getElem_append_left hic]
   have h2:(vs ++ Array.replicate (nt - vs.size) undef).getD i undef=vs.toList[i]:=by
    have:i<vs.size:=by simpa using hiv
    simp [Array.getElem?_append_left this,this]
   rw [h1,h2]
   exact .of1 (e5 i hic hiv).1
  ·have hic:(cg 1 [] (ds.map j6)).1.length≤i:=by rw [e4]; omega
   have h1:(st0 nt ds).tmps[i] = .junk:=by simp [st0,List.getElem_append_right hic]
   rw [h1]
   exact (Rep.junk _).toT
 ·rw [hmem]; rw [mX] at hnn; exact hnn
 ·rw [hmem,hblk]; exact hnd
 ·intro n bx hm
  rw [hmem] at hm ⊢
  obtain ⟨x,hx,he⟩:=List.mem_map.1 hm
  cases he
  have:=e3 _ _ hw hag x hx
  rw [← hag x hx] at this
  exact this
 ·rw [hmem,hblk]
  exact fun b hb=>⟨(hY b hb).2, .inr hb⟩
 ·intro i hi n j cs off he
  by_cases hiv:i<vs.toList.length
  ·have hic:i<(cg 1 [] (ds.map j6)).1.length:=by rw [e4]; exact hiv
   have h1:(st0 nt ds).tmps[i]=(cg 1 [] (ds.map j6)).1[i]:=by simp [st0,List.getElem_append_left hic]
   have:=(e5 i hic hiv).2
   rw [← h1,he] at this
   simp [DV.noR] at this
  ·have hic:(cg 1 [] (ds.map j6)).1.length≤i:=by rw [e4]; omega
   have h1:(st0 nt ds).tmps[i] = .junk:=by simp [st0,List.getElem_append_right hic]
   rw [h1] at he
   cases he
 ·rintro b ⟨h1,h2,h3⟩
  exact ⟨h1,h3⟩
end
end Go.Vm
/- The abstract value machine: functions keep their contracts. -/
namespace Go.Vm
open Go.Lib
set_option linter.unusedVariables false
variable {K:Type} {E:K→Type}
variable {T:Tab E} {P:Program}
section
variable {w0 w:World} {Y:Nat→Prop} {bl:List Nat} {st:St E} {a:Act} {g:Gh}
theorem wx {mem:Mem E} {nm:List (Nat×Nat)} {d:DV E} {n:Nat} (h:n∈(fx mem nm d).2):n∈names mem:=by
 unfold fx at h
 split at h
 ·rename_i m
  split at h
  ·cases h
  ·split at h
   ·rename_i t cs hl
    have:n∈hI mem .give (.ptr m 0:DV E):=by simpa [hI,hl] using h
    exact pk this
   ·cases h
 ·cases h
 ·exact pk (b := .give) (d:=d) h
theorem Du {α:Type} {l:List (Nat×α)} {n:Nat} {x:α} (h:assoc l n=some x):(n,x)∈l:=by
 induction l with
 | nil=>cases h
 | cons y l ih =>
  obtain ⟨k,b⟩:=y
  unfold assoc at h
  split at h
  ·rename_i e; cases h; subst e; exact List.mem_cons_self ..
  ·exact List.mem_cons_of_mem _ (ih h)
theorem Bk {G:GP} (h:Inv T w0 G st a w g) {Y':Nat→Prop} (hY : ∀ b,free st.mem g b→Y' b) {args:List Value} {nm:List (Nat×Nat)}
  (hnm : ∀ n j,(n,j)∈nm→args[j]? = some (g n)) {d:DV E} {v:Value} (hd:aB T w (free st.mem g) g d v) :
  Ans T w Y' args (fx st.mem nm d).1 v ((fx st.mem nm d).2.flatMap (bk g)) ∧ ∀ ds,(fx st.mem nm d).1 ≠ .tup ds:=by
 have gen : ∀ d:DV E,aB T w (free st.mem g) g d v→(∀ n b,d ≠ .rowv n b)→(∀ n,d ≠ .ptr n 0)→Ans T w Y' args (bX st.mem .give d) v ((hI st.mem .give d).flatMap (bk g)) ∧ ∀ ds,bX st.mem .give d ≠ .tup ds:=by
  intro d hd h1 h2
  have ho:=tI h hY .give hd (fun n hn=>by
   unfold oC at hn
   split at hn
   ·simp at hn
   ·exact absurd rfl (h1 _ _)
   ·cases hn)
  have hnp0:iu (bX st.mem .give d)=false:=th st.mem (d, .give) (by
    rintro (⟨n,t,cs,e,_⟩ | ⟨e,_⟩)
    ·exact absurd e (h2 n)
    ·cases e)
  have hnp : ∀ t cs,bX st.mem .give d ≠ .pin t cs∧bX st.mem .give d ≠ .newb t cs:=by
   intro t cs
   constructor <;> intro he <;> rw [he] at hnp0 <;> simp [iu] at hnp0
  clear hnp0
  generalize bX st.mem .give d=d' at ho hnp
  generalize (hI st.mem .give d).flatMap (bk g)=bb at ho
  refine ⟨?_,?_⟩
  ·cases ho with
   | c hc=>exact .c hc
   | pin hp=>exact absurd rfl (hnp _ _).1
   | lend hp=>exact absurd rfl (hnp _ _).2
  ·intro ds e
   subst e
   cases ho with
   | c hc=>cases hc with
    | sh _ hs=>simp [DV.share,DV.lay,DV.plain] at hs
 unfold fx
 split
 ·rename_i n
  split
  ·rename_i j hj
   obtain ⟨b,h1,h2⟩:=ep hd
   refine ⟨.argp ?_,fun ds e=>by cases e⟩
   rw [hnm n j (Du hj),h1,h2]
  ·have ho:=tI h hY .give hd (fun n hn=>by simp [oC] at hn)
   split
   ·rename_i t cs hl
    simp only [bX,hl,hI] at ho
    exact ⟨.newb (xY ho),fun ds e=>by cases e⟩
   ·exact ⟨.c (.junk v),fun ds e=>by cases e⟩
 ·exact ⟨.c (.junk v),fun ds e=>by cases e⟩
 ·rename_i h1 h2
  exact gen d hd (fun n b e=>h2 n b e) (fun n e=>h1 n e)
theorem Iw {Y':Nat→Prop} {args:List Value} {d:DV E} {v:Value} {b:List Nat} (h:Ans T w Y' args d v b) (hn : ∀ ds,d ≠ .tup ds):tB T w Y' args d v b:=by
 cases d <;> first | exact h | exact absurd rfl (hn _)
theorem jN {mem:Mem E} {tmps:List (DV E)} : ∀ (ds:List (DV E)) (j:Nat) (q:List (Nat×Nat)×List (List (DV E))×List Nat),lY mem tmps j ds=some q → ∀ n∈q.2.2,n∈names mem
 | [],j,q,h,n,hn=>by cases h; cases hn
 | d :: r,j,q,h,n,hn=>by
  unfold lY at h
  split at h
  ·rename_i t _
   split at h
   ·rename_i m _
    split at h
    ·rename_i t' cs hl
     obtain ⟨_,h⟩:=cu h
     obtain ⟨q',h1,h2⟩:=Option.bind_eq_some_iff.1 h
     cases h2
     rcases List.mem_append.1 hn with hn | hn
     ·have:n∈hI mem .give (.ptr m 0:DV E):=by simpa [hI,hl] using hn
      exact pk this
     ·exact jN r (j+1) q' h1 n hn
    ·cases h
   ·cases h
  ·split at h
   ·rename_i m _
    split at h
    ·rename_i e k l hl
     obtain ⟨q',h1,h2⟩:=Option.bind_eq_some_iff.1 h
     cases h2
     rcases List.mem_cons.1 hn with rfl | hn
     ·exact bp hl
     ·exact jN r (j+1) q' h1 n hn
    ·cases h
   ·cases h
  ·exact jN r (j+1) q h n hn
def gm:Nat→List (DV E)→List Nat
 | _,[] => []
 | j,d :: r=>if iu d=true then j :: gm (j+1) r else gm (j+1) r
theorem ng {G:GP} (h:Inv T w0 G st a w g) {Y':Nat→Prop} (hY : ∀ b,free st.mem g b→Y' b) :
  ∀ (ds:List (DV E)) (vs:List Value) (j:Nat) (q:List (Nat×Nat)×List (List (DV E))×List Nat),ds.length=vs.length→lY st.mem st.tmps j ds=some q→(∀ i∈gm j ds, ∃ i',i=j+i'∧vs[i']? = some (a.tmps.getD i undef)) →
   fW T w Y' ds vs q.2.1 (q.2.2.flatMap (bk g)) ∧ ∀ n i,(n,i)∈q.1 → ∃ i',i=j+i'∧vs[i']? = some (g n)
 | [],[],j,q,_,h1,hk=>by cases h1; exact ⟨.nil,fun n i hm=>by cases hm⟩
 | [],_ :: _,_,_,hl,_,_=>by simp at hl
 | _ :: _,[],_,_,hl,_,_=>by simp at hl
 | d :: r,v :: vs,j,q,hl,h1,hk=>by
  have hl':r.length=vs.length:=by simpa using hl
  have hk' : ∀ i∈gm (j+1) r, ∃ i',i=(j+1)+i'∧vs[i']? = some (a.tmps.getD i undef):=by
   intro i hi
   have hi1:i∈gm j (d :: r):=by
    unfold gm; split
    ·exact List.mem_cons_of_mem _ hi
    ·exact hi
   obtain ⟨i',e,hv⟩:=hk i hi1
   have hge : ∀ (r:List (DV E)) (k i:Nat),i∈gm k r→k≤i:=by
    intro r
    induction r with
    | nil=>intro k i hi; cases hi
    | cons d r ih =>
     intro k i hi
     unfold gm at hi
     split at hi
     ·rcases List.mem_cons.1 hi with rfl | hi
      ·exact Nat.le_refl _
      ·have:=ih _ _ hi; omega
     ·have:=ih _ _ hi; omega
   have:=hge r (j+1) i hi
   cases i' with
   | zero=>omega
   | succ i'=>exact ⟨i',by omega,by simpa using hv⟩
  unfold lY at h1
  split at h1
  ·rename_i t cs0
   split at h1
   ·rename_i n hn
    split at h1
    ·rename_i t' cs hlook
     obtain ⟨et,h1'⟩:=cu h1
     clear h1
     subst et
     obtain ⟨q',h2,h3⟩:=Option.bind_eq_some_iff.1 h1'
     cases h3
     obtain ⟨p1,p2⟩:=ng h hY r vs (j+1) q' hl' h2 hk'
     obtain ⟨i',e,hv⟩:=hk j (by unfold gm; simp [iu])
     have:i'=0:=by omega
     subst this
     simp only [List.getElem?_cons_zero,Option.some.injEq] at hv
     have hr:aB T w (free st.mem g) g (.ptr n 0) v:=by
      have:=h.ev (.tmp j)
      simp only [St.ev,Act.eval,hn] at this
      rw [hv]
      exact this
     have ho:=tI h hY .give hr (fun n hn=>by simp [oC] at hn)
     simp only [bX,hlook,hI] at ho
     obtain ⟨b,q1,q2⟩:=ep hr
     refine ⟨?_,?_⟩
     ·rw [List.flatMap_append]
      exact .pin (xY ho) p1
     ·intro m i hm
      rcases List.mem_cons.1 hm with hm | hm
      ·cases hm
       exact ⟨0,rfl,by simp [q1,q2]⟩
      ·obtain ⟨i',e,hv⟩:=p2 m i hm
       exact ⟨i'+1,by omega,by simpa using hv⟩
    ·cases h1
   ·cases h1
  ·split at h1
   ·rename_i n hn
    split at h1
    ·rename_i e k l hlook
     obtain ⟨q',h2,h3⟩:=Option.bind_eq_some_iff.1 h1
     cases h3
     obtain ⟨p1,p2⟩:=ng h hY r vs (j+1) q' hl' h2 hk'
     obtain ⟨i',ei,hv⟩:=hk j (by unfold gm; simp [iu])
     have:i'=0:=by omega
     subst this
     simp only [List.getElem?_cons_zero,Option.some.injEq] at hv
     have hr:aB T w (free st.mem g) g (.rowp n) v:=by
      have:=h.ev (.tmp j)
      simp only [St.ev,Act.eval,hn] at this
      rw [hv]
      exact this
     have hvn:v=g n:=hr
     have hrow:aP T w (free st.mem g) e k l (g n):=h.mm n _ (bt hlook)
     refine ⟨?_,?_⟩
     ·rw [List.flatMap_cons,hvn]
      exact .lend (hrow.mono (fun b hb hlt=>⟨hY b hb,hlt,rfl⟩) fun _ _=>rfl) p1
     ·intro m i hm
      obtain ⟨i',ei,hv⟩:=p2 m i hm
      exact ⟨i'+1,by omega,by simpa using hv⟩
    ·cases h1
   ·cases h1
  ·rename_i hnp hnp2
   obtain ⟨p1,p2⟩:=ng h hY r vs (j+1) q hl' h1 hk'
   refine ⟨.skip (fun t cs=>⟨fun e=>hnp t cs e,fun e=>hnp2 t cs e⟩) p1,?_⟩
   intro m i hm
   obtain ⟨i',e,hv⟩:=p2 m i hm
   exact ⟨i'+1,by omega,by simpa using hv⟩
def BC (ts:List Nat) (a:Act):Value:=match ts with
 | [t]=>a.tmps.getD t undef
 | ts => .tuple (ts.map fun t=>a.tmps.getD t undef).toArray
theorem J2 {vs:Array Value} {ds:List (DV E)} (h:Inv T w0 ⟨(· ∈ bl),(zk w0 Y bl).hid⟩ st a w g) (hl:ds.length=vs.size) {ts:List Nat} {res:Res E} (hr:yC ts ds st=some res)
  (hk : ∀ i∈gm 0 ds,vs.toList[i]? = some (a.tmps.getD i undef)) :
  ∃ bl1 bl2,(bl1 ++ bl2).Nodup∧(∀ b∈bl1 ++ bl2,b<w.heap.size∧(w0.heap.size≤b∨b∈bl)) ∧
   tB T w (fun b=>(Y b∨w0.heap.size≤b∨b∈bl)∧b ∉ bl1 ++ bl2) vs.toList res.v (BC ts a) bl1 ∧
   fW T w (fun b=>(Y b∨w0.heap.size≤b∨b∈bl)∧b ∉ bl1 ++ bl2) ds vs.toList res.pins bl2∧jD (· ∈ bl) w0 w:=by
 unfold yC at hr
 obtain ⟨q,hq,hr⟩:=Option.bind_eq_some_iff.1 hr
 obtain ⟨hn,hr⟩:=cu hr
 cases hr
 obtain ⟨bl1,hbl1⟩ : ∃ bl1,bl1=(ts.flatMap fun t=>(fx st.mem q.1 (st.tmps.getD t .junk)).2).flatMap (bk g):=⟨_,rfl⟩
 obtain ⟨bl2,hbl2⟩ : ∃ bl2,bl2=q.2.2.flatMap (bk g):=⟨_,rfl⟩
 have hnm1 : ∀ n∈(ts.flatMap fun t=>(fx st.mem q.1 (st.tmps.getD t .junk)).2) ++ q.2.2,n∈names st.mem:=by
  intro n hn
  rcases List.mem_append.1 hn with hn | hn
  ·obtain ⟨t,_,hn⟩:=List.mem_flatMap.1 hn
   exact wx hn
  ·exact jN ds 0 q hq n hn
 have hb12:bl1 ++ bl2=((ts.flatMap fun t=>(fx st.mem q.1 (st.tmps.getD t .junk)).2) ++ q.2.2).flatMap (bk g):=by rw [hbl1,hbl2,List.flatMap_append]
 have hin : ∀ b∈bl1 ++ bl2,b∈dP st.mem g:=by
  intro b hb
  rw [hb12] at hb
  obtain ⟨n,h1,h2⟩:=List.mem_flatMap.1 hb
  exact aD.2 ⟨n,hnm1 n h1,by simpa [bk] using h2⟩
 have hY : ∀ b,free st.mem g b→(fun b=>(Y b∨w0.heap.size≤b∨b∈bl)∧b ∉ bl1 ++ bl2) b:=by
  intro b hf
  refine ⟨?_,fun hb=>hf.1 (hin b hb)⟩
  have h2:=hf.2
  rw [h.hz.1] at h2
  by_cases h3:w0.heap.size≤b
  ·exact .inr (.inl h3)
  by_cases h4:Y b
  ·exact .inl h4
  by_cases h5:b∈bl
  ·exact .inr (.inr h5)
  exact absurd ⟨by omega,h4,h5⟩ h2
 obtain ⟨hp,hnm⟩:=ng h hY ds vs.toList 0 q (by simpa using hl) hq (fun i hi=>⟨i,by omega,hk i hi⟩)
 have hnm' : ∀ n j,(n,j)∈q.1→vs.toList[j]? = some (g n):=by
  intro n j hm
  obtain ⟨i',e,hv⟩:=hnm n j hm
  have:j=i':=by omega
  subst this
  exact hv
 have hpart : ∀ t,Ans T w (fun b=>(Y b∨w0.heap.size≤b∨b∈bl)∧b ∉ bl1 ++ bl2) vs.toList (fx st.mem q.1 (st.tmps.getD t .junk)).1 (a.tmps.getD t undef) ((fx st.mem q.1 (st.tmps.getD t .junk)).2.flatMap (bk g)) ∧ ∀ ds,(fx st.mem q.1 (st.tmps.getD t .junk)).1 ≠ .tup ds :=
  fun t=>Bk h hY hnm' (h.ev (.tmp t))
 refine ⟨bl1,bl2,?_,?_,?_,by rw [hbl2]; rw [hbl2] at hp; exact hp,h.fr⟩
 ·rw [hb12]
  exact uB h.nd h.nn (iQ hn) hnm1
 ·intro b hb
  exact h.bo b (hin b hb)
 ·have many : ∀ ts:List Nat,eZ (Ans T w (fun b=>(Y b∨w0.heap.size≤b∨b∈bl)∧b ∉ bl1 ++ bl2) vs.toList) (ts.map fun t=>(fx st.mem q.1 (st.tmps.getD t .junk)).1) (ts.map fun t=>a.tmps.getD t undef)
    ((ts.flatMap fun t=>(fx st.mem q.1 (st.tmps.getD t .junk)).2).flatMap (bk g)):=by
   intro ts
   induction ts with
   | nil=>exact .nil
   | cons t ts ih=>simp only [List.map_cons,List.flatMap_cons,List.flatMap_append]; exact .cons (hpart t).1 ih
  match ts,hbl1 with
  | [t],hbl1 =>
   simp only [BC]
   refine Iw ?_ (hpart t).2
   rw [hbl1]
   simp only [List.flatMap_cons,List.flatMap_nil,List.append_nil]
   rw [← List.append_nil (List.flatMap (bk g) _)]
   simpa [hbl1,List.flatMap_append] using (hpart t).1
  | [],hbl1=>exact ⟨_,rfl,by simpa [hbl1] using many []⟩
  | t :: t' :: ts,hbl1=>exact ⟨_,rfl,by rw [hbl1]; simpa [hbl1] using many (t :: t' :: ts)⟩
end
end Go.Vm
/- The abstract value machine: from the run of a body to the function's contract. -/
namespace Go.Vm
open Go.Lib
set_option linter.unusedVariables false
variable {K:Type} {E:K→Type}
inductive SR (K:Type) where
 | one (s:S1 K) | tup (ss:List (S1 K))
variable (E) in
def tyS:List (S1 K)→Type
 | []=>Unit
 | [s]=>s.ty E
 | s :: r=>s.ty E×tyS r
variable (E) in
def tyP:List (List (S0 K))→Type
 | []=>Unit
 | [s]=>tyL E s
 | s :: r=>tyL E s×tyP r
variable (E) in
def SR.ty:SR K→Type
 | .one s=>s.ty E
 | .tup ss=>tyS E ss
structure Spec (K:Type) where
 params:List (S1 K)
 ret:SR K
 pins:List (List (S0 K)) := []
 pl:JA K
 rfrz:List Nat := []
 ts:List Nat
 rc:List (Nat×Option TypeId) := []
 rco:List (Co K) := []
def CG:Nat×Option TypeId→ResultVar
 | (t,none) => .tmp t
 | (t,some ty) => .cell t ty
def Spec.vars (s:Spec K):Array ResultVar:=match s.rc with
 | []=>(s.ts.map ResultVar.tmp).toArray
 | rc=>(rc.map CG).toArray
variable (E) in
def Spec.R (s:Spec K):Type:=match s.pins with
 | []=>s.ret.ty E
 | p :: ps=>s.ret.ty E×tyP E (p :: ps)
section
variable (T:Tab E)
def iv:(ss:List (S1 K))→tyS E ss→List (DV E)
 | [],_ => []
 | [s],x => [s.abs T x]
 | s :: s' :: r,x=>s.abs T x.1 :: iv (s' :: r) x.2
def yV:(ss:List (S1 K))→List (DV E)→Option (tyS E ss)
 | [],[]=>some ()
 | [s],[d]=>s.rd T d
 | s :: s' :: r,d :: ds=>(s.rd T d).bind fun x=>(yV (s' :: r) ds).bind fun y=>some (x,y)
 | _,_=>none
def vX:(ss:List (List (S0 K)))→tyP E ss→List (List (DV E))
 | [],_ => []
 | [s],x => [fO s x]
 | s :: s' :: r,x=>fO s x.1 :: vX (s' :: r) x.2
def Iy:(ss:List (List (S0 K)))→List (List (DV E))→Option (tyP E ss)
 | [],[]=>some ()
 | [s],[d]=>rdL T s d
 | s :: s' :: r,d :: ds=>(rdL T s d).bind fun x=>(Iy (s' :: r) ds).bind fun y=>some (x,y)
 | _,_=>none
def SR.abs:(s:SR K)→s.ty E→DV E
 | .one s,x=>s.abs T x
 | .tup ss,x => .tup (iv T ss x)
def Kq (d:DV E):Option (List (DV E)):=match d with
 | .tup ds=>some ds
 | _=>none
def SR.rd:(s:SR K)→DV E→Option (s.ty E)
 | .one s,d=>s.rd T d
 | .tup ss,d=>(Kq d).bind (yV T ss)
def pd (s:Spec K):s.R E→Res E:=match s with
 | ⟨_,ret,[],_,_,_,_,_⟩=>fun x=>⟨ret.abs T x,[]⟩
 | ⟨_,ret,p :: ps,_,_,_,_,_⟩=>fun x=>⟨ret.abs T x.1,vX (p :: ps) x.2⟩
def rdR (s:Spec K) (res:Res E):Option (s.R E):=match s with
 | ⟨_,ret,[],_,_,_,_,_⟩=>match res.pins with
  | []=>ret.rd T res.v
  | _=>none
 | ⟨_,ret,p :: ps,_,_,_,_,_⟩=>(ret.rd T res.v).bind fun x=>(Iy T (p :: ps) res.pins).bind fun y=>some (x,y)
def Hm (s:S0 K) (d:DV E):DV E :=
 match s with
 | .slc k=>match d with
  | .nils => .slc k []
  | d=>d
 | .row e k=>match d with
  | .nils => .row e k []
  | d=>d
 | .argp _=>match d with
  | .nilp => .argp 0
  | d=>d
 | .junk=>if d.plain=true then .junk else d
 | _=>d
def BN:List (S0 K)→List (DV E)→List (DV E)
 | s :: ss,d :: ds=>Hm s d :: BN ss ds
 | _,ds=>ds
def mu (s:S1 K) (d:DV E):DV E :=
 match s with
 | .a (.slc k)=>match d with
  | .nils => .slc k []
  | d=>d
 | .a (.row e k)=>match d with
  | .nils => .row e k []
  | d=>d
 | .a .junk=>if d.share=true then .junk else d
 | .pin _ ss=>match d with
  | .pin t cs => .pin t (BN ss cs)
  | d=>d
 | _=>d
def rp:List (S1 K)→List (DV E)→List (DV E)
 | s :: ss,d :: ds=>mu s d :: rp ss ds
 | _,ds=>ds
def S0.flat (fk:K→Bool):S0 K→Bool
 | .int _ | .bool | .str | .nilp | .nili | .nils | .argp _=>true
 | .row _ k=>fk k
 | .arr _ k=>fk k
 | _=>false
def S1.flat (fk:K→Bool):S1 K→Bool
 | .a s=>s.flat fk
 | _=>false
def SR.flat (fk:K→Bool):SR K→Bool
 | .one (.agg ss)=>ss.all (S0.flat fun _=>false)
 | .one s=>s.flat fk
 | .tup ss=>ss.all (S1.flat fk)
def Spec.flat (s:Spec K):Bool:=s.ret.flat T.fk && s.pins.all fun p=>p.all (S0.flat T.fk)
def ak (s:Spec K) (M:tyS E s.params→Option (s.R E)) (ds:List (DV E)):Con E :=
 match yV T s.params (rp s.params ds) with
 | some x=>⟨s.R E,M x,pd T s,s.flat T⟩
 | none => .bad
variable (P:Program) (env:Env E)
def o6 (s:Spec K) (code:Code) (F:Nat) (x:tyS E s.params):Option (s.R E) :=
 if nodupB (names (st0 s.pl.nt (iv T s.params x)).mem)=true∧(iv T s.params x).length≤s.pl.nt∧(s.rc.isEmpty=true∨s.ts=(List.range s.rc.length).map (s.pl.nt + ·)) then
  lB T P env s.pl F code 0 (st0 s.pl.nt (iv T s.params x)) fun e st=>match e with
   | .exit _=>none
   | _=>zu T P s.pl.nt s.rc (Au T s.rco (forget s.rfrz st)) fun st=>(yC s.ts (iv T s.params x) st).bind (rdR T s)
 else none
def S1.iu:S1 K→Bool
 | .pin _ _=>true
 | .newb _ _=>true
 | _=>false
def lZ:Nat→List (S1 K)→List Nat
 | _,[] => []
 | j,s :: r=>if s.iu=true then j :: lZ (j+1) r else lZ (j+1) r
end
variable {T:Tab E} {P:Program} {env:Env E}
theorem xV : ∀ {ss:List (S1 K)} {ds:List (DV E)} {x:tyS E ss},yV T ss ds=some x→iv T ss x=ds:=by
 intro ss
 induction ss with
 | nil =>
  intro ds x h
  cases ds with
  | nil=>rfl
  | cons d ds=>cases h
 | cons s r ih =>
  intro ds x h
  cases r with
  | nil =>
   cases ds with
   | nil=>cases h
   | cons d ds =>
    cases ds with
    | nil=>show [s.abs T x] = _; rw [S1.mG (T:=T) (s:=s) (d:=d) (x:=x) h]
    | cons d' ds=>cases h
  | cons s' r =>
   cases ds with
   | nil=>cases h
   | cons d ds =>
    change ((s.rd T d).bind fun x=>(yV T (s' :: r) ds).bind fun y=>some (x,y))=some x at h
    obtain ⟨y,hy,h⟩:=Option.bind_eq_some_iff.1 h
    obtain ⟨z,hz,h⟩:=Option.bind_eq_some_iff.1 h
    cases h
    show s.abs T y :: iv T (s' :: r) z = _
    rw [S1.mG hy,ih hz]
theorem IJ : ∀ {ss:List (List (S0 K))} {ds:List (List (DV E))} {x:tyP E ss},Iy T ss ds=some x→vX ss x=ds:=by
 intro ss
 induction ss with
 | nil =>
  intro ds x h
  cases ds with
  | nil=>rfl
  | cons d ds=>cases h
 | cons s r ih =>
  intro ds x h
  cases r with
  | nil =>
   cases ds with
   | nil=>cases h
   | cons d ds =>
    cases ds with
    | nil=>show [fO s x] = _; rw [lg (T:=T) (ss:=s) (ds:=d) (x:=x) h]
    | cons d' ds=>cases h
  | cons s' r =>
   cases ds with
   | nil=>cases h
   | cons d ds =>
    change ((rdL T s d).bind fun x=>(Iy T (s' :: r) ds).bind fun y=>some (x,y))=some x at h
    obtain ⟨y,hy,h⟩:=Option.bind_eq_some_iff.1 h
    obtain ⟨z,hz,h⟩:=Option.bind_eq_some_iff.1 h
    cases h
    show fO s y :: vX (s' :: r) z = _
    rw [lg hy,ih hz]
theorem SR.mG {s:SR K} {d:DV E} {x:s.ty E} (h:s.rd T d=some x):s.abs T x=d:=by
 cases s with
 | one s=>exact S1.mG h
 | tup ss =>
  obtain ⟨ds,h1,h2⟩:=Option.bind_eq_some_iff.1 h
  have:d = .tup ds:=by
   unfold Kq at h1
   split at h1
   ·cases h1; rfl
   ·cases h1
  rw [this]
  exact congrArg _ (xV h2)
theorem Gk {s:Spec K} {res:Res E} {x:s.R E} (h:rdR T s res=some x):pd T s x=res:=by
 obtain ⟨v,pins⟩:=res
 obtain ⟨ps,ret,pp,pl,rf,ts,rc⟩:=s
 cases pp with
 | nil =>
  cases pins with
  | nil =>
   have:=SR.mG (T:=T) (s:=ret) (d:=v) (x:=x) h
   show Res.mk (ret.abs T x) [] = _
   rw [this]
  | cons p q=>cases h
 | cons p q =>
  obtain ⟨y,hy,h⟩:=Option.bind_eq_some_iff.1 h
  obtain ⟨z,hz,h⟩:=Option.bind_eq_some_iff.1 h
  cases h
  show Res.mk (ret.abs T y) (vX (p :: q) z) = _
  rw [SR.mG hy,IJ hz]
theorem DA {w:World} {Y:Nat→Prop} {b0:Nat} {s:S0 K} {d:DV E} {v:Value} {b:List Nat} (h:pY T w Y b0 d v b):pY T w Y b0 (Hm s d) v b:=by
 have nils : ∀ {v:Value} {b:List Nat},pY T w Y b0 (.nils:DV E) v b→v = .slice none 0 0∧b = []∧v.oneCell'=true:=by
  intro v b h
  rcases h with ⟨h,h1,_⟩ | ⟨h,_⟩
  ·cases h with
   | sh hr hs=>cases hr; exact ⟨rfl,rfl,h1⟩
  ·cases h
 unfold Hm
 split
 ·split
  ·obtain ⟨rfl,rfl,h1⟩:=nils h
   exact .inl ⟨.sh (.slcn _) rfl,h1,rfl⟩
  ·exact h
 ·split
  ·rename_i e k _
   obtain ⟨rfl,rfl,h1⟩:=nils h
   exact .inl ⟨.row (v := .slice none 0 0) (aP.mk' (kX w e (T.sz k)) (.nil k)),h1,rfl⟩
  ·exact h
 ·split
  ·rcases h with ⟨h,h1,_⟩ | ⟨h,_⟩
   ·cases h with
    | sh hr hs=>cases hr; exact .inr ⟨rfl,rfl, .inl rfl⟩
   ·cases h
  ·exact h
 ·split
  ·rename_i hp
   rcases h with ⟨h,h1,h2⟩ | ⟨h,h2⟩
   ·cases h with
    | junk v=>exact .inl ⟨.junk v,h1,rfl⟩
    | sh hr hs=>exact .inl ⟨.junk v,h1,rfl⟩
    | row hr=>simp [DV.plain] at hp
   ·rw [h] at hp; simp [DV.plain] at hp
  ·exact h
 ·exact h
theorem BF {w:World} {Y:Nat→Prop} {b0:Nat} {ds:List (DV E)} {vs:List Value} {bs:List Nat} (h:eZ (pY T w Y b0) ds vs bs) : ∀ (ss:List (S0 K)),eZ (pY T w Y b0) (BN ss ds) vs bs:=by
 induction h with
 | nil=>intro ss; cases ss <;> exact .nil
 | cons h t ih =>
  intro ss
  cases ss with
  | nil=>exact .cons h t
  | cons s ss=>exact .cons (DA h) (ih ss)
theorem Gm {w:World} {Y:Nat→Prop} {s:S1 K} {d:DV E} {v:Value} {b:List Nat} (h:Own T w Y d v b):Own T w Y (mu s d) v b:=by
 unfold mu
 split
 ·split
  ·cases h with
   | c h=>cases h with
    | sh hr hs=>cases hr; exact .c (.sh (.slcn _) rfl)
  ·exact h
 ·rename_i e k
  have nilrow:Own T w Y (.row e k []) (.slice none 0 0) [] := .c (.row (v := .slice none 0 0) (aP.mk' (kX w e (T.sz k)) (.nil k)))
  split
  ·cases h with
   | c h=>cases h with
    | sh hr hs=>cases hr; exact nilrow
  ·exact h
 ·split
  ·rename_i hs
   cases h with
   | c h=>cases h with
    | junk v=>exact .c (.junk v)
    | sh hr hs=>exact .c (.junk v)
    | row hr=>simp [DV.share,DV.lay,DV.plain] at hs
   | pin hp=>simp [DV.share,DV.lay,DV.plain] at hs
   | lend hp=>simp [DV.share,DV.lay,DV.plain] at hs
  ·exact h
 ·split
  ·cases h with
   | c h=>cases h with
    | sh hr hs=>simp [DV.share,DV.lay,DV.plain] at hs
   | pin hp =>
    obtain ⟨b,vs,bs,h1,h2,h3,h4⟩:=hp
    exact .pin ⟨b,vs,bs,h1,h2,BF h3 _,h4⟩
  ·exact h
 ·exact h
end Go.Vm
/- The abstract value machine: the theorem of a function. -/
namespace Go.Vm
open Go.Lib
set_option linter.unusedVariables false
variable {K:Type} {E:K→Type}
variable {T:Tab E} {P:Program} {env:Env E}
theorem wZ {w:World} {Y:Nat→Prop} {ds:List (DV E)} {vs:List Value} {bl:List Nat} (h:eZ (Own T w Y) ds vs bl) : ∀ (ss:List (S1 K)),eZ (Own T w Y) (rp ss ds) vs bl:=by
 induction h with
 | nil=>intro ss; cases ss <;> exact .nil
 | cons h t ih =>
  intro ss
  cases ss with
  | nil=>exact .cons h t
  | cons s ss=>exact .cons (Gm h) (ih ss)
theorem Ee {s:S1 K} {d:DV E} {t:TypeId} {cs:List (DV E)} (h:mu s d = .pin t cs) : ∃ cs0,d = .pin t cs0:=by
 unfold mu at h
 split at h
 ·split at h
  ·cases h
  ·exact ⟨_,h⟩
 ·split at h
  ·cases h
  ·exact ⟨_,h⟩
 ·split at h
  ·cases h
  ·exact ⟨_,h⟩
 ·split at h
  ·cases h; exact ⟨_,rfl⟩
  ·exact ⟨_,h⟩
 ·exact ⟨_,h⟩
theorem Ew (s:S1 K) (t:TypeId) (cs:List (DV E)) : ∃ cs',mu s (.pin t cs:DV E) = .pin t cs':=by
 unfold mu
 split
 ·exact ⟨_,rfl⟩
 ·exact ⟨_,rfl⟩
 ·exact ⟨cs,rfl⟩
 ·exact ⟨_,rfl⟩
 ·exact ⟨_,rfl⟩
theorem BQ {s:S1 K} {d:DV E} {t:TypeId} {cs:List (DV E)} (h:mu s d = .newb t cs):d = .newb t cs:=by
 unfold mu at h
 split at h
 ·split at h
  ·cases h
  ·exact h
 ·split at h
  ·cases h
  ·exact h
 ·split at h
  ·cases h
  ·exact h
 ·split at h
  ·cases h
  ·exact h
 ·exact h
theorem Bm (s:S1 K) (t:TypeId) (cs:List (DV E)):mu s (.newb t cs:DV E) = .newb t cs:=by
 unfold mu
 split <;> rfl
theorem lL {w:World} {Y:Nat→Prop} : ∀ (ss:List (S1 K)) (ds:List (DV E)) (vs:List Value) (ps:List (List (DV E))) (bl:List Nat),fW T w Y (rp ss ds) vs ps bl→fW T w Y ds vs ps bl
 | [],ds,vs,ps,bl,h=>by cases ds <;> exact h
 | s :: ss,[],vs,ps,bl,h=>h
 | s :: ss,d :: ds,vs,ps,bl,h=>by
  change fW T w Y (mu s d :: rp ss ds) vs ps bl at h
  generalize hd:mu s d=d' at h
  cases h with
  | skip hn h =>
   refine .skip (fun t cs=>⟨fun e => ?_,fun e => ?_⟩) (lL ss ds _ _ _ h)
   ·subst e
    obtain ⟨cs',hc⟩:=Ew s t cs
    exact (hn t cs').1 (by rw [← hd]; exact hc)
   ·subst e
    exact (hn t cs).2 (by rw [← hd]; exact Bm s t cs)
  | @pin t cs _ _ _ _ _ _ _ hb h =>
   obtain ⟨cs0,this⟩:=Ee hd
   rw [this]
   exact .pin hb (lL ss ds _ _ _ h)
  | lend hb h =>
   rw [BQ hd]
   exact .lend hb (lL ss ds _ _ _ h)
theorem xA (s:S1 K) (x:s.ty E):iu (s.abs T x)=s.iu:=by
 cases s with
 | a s=>cases s <;> rfl
 | _=>rfl
theorem vF : ∀ (ss:List (S1 K)) (x:tyS E ss) (j:Nat),gm j (iv T ss x)=lZ j ss:=by
 intro ss
 induction ss with
 | nil=>intro x j; rfl
 | cons s r ih =>
  intro x j
  cases r with
  | nil =>
   change gm j [s.abs T x] = _
   unfold gm lZ
   rw [show iu (s.abs T x)=s.iu from xA s x]
   rfl
  | cons s' r =>
   change gm j (s.abs T x.1 :: iv T (s' :: r) x.2) = _
   unfold gm lZ
   rw [xA,ih]
theorem pg {fk:K→Bool} : ∀ {ss:List (S0 K)} {x:tyL E ss},ss.all (S0.flat fk)=true→(fO ss x).all (DV.flat fk)=true
 | [],x,h=>rfl
 | s :: r,x,h=>by
  simp only [List.all_cons,Bool.and_eq_true] at h
  simp only [fO,List.all_cons,Bool.and_eq_true]
  refine ⟨?_,pg h.2⟩
  have h1:=h.1
  cases s <;> first | rfl | (simp [S0.flat] at h1; done) | (simpa [S0.abs,DV.flat,S0.flat] using h1)
theorem S1.oX {s:S1 K} {x:s.ty E} (h:s.flat T.fk=true):(s.abs T x).flat T.fk=true:=by
 cases s with
 | a s=>cases s <;> first | rfl | (simp [S1.flat,S0.flat] at h; done) | (simpa [S1.abs,S0.abs,DV.flat,S1.flat,S0.flat] using h)
 | _=>simp [S1.flat] at h
theorem BG : ∀ (ss:List (S1 K)) (x:tyS E ss),ss.all (S1.flat T.fk)=true→(iv T ss x).all (DV.flat T.fk)=true:=by
 intro ss
 induction ss with
 | nil=>intro x h; rfl
 | cons s r ih =>
  intro x h
  simp only [List.all_cons,Bool.and_eq_true] at h
  cases r with
  | nil =>
   change ([s.abs T x].all (DV.flat T.fk))=true
   simp only [List.all_cons,List.all_nil,Bool.and_true]
   exact S1.oX h.1
  | cons s' r =>
   change ((s.abs T x.1 :: iv T (s' :: r) x.2).all (DV.flat T.fk))=true
   simp only [List.all_cons,Bool.and_eq_true]
   have:=ih x.2 h.2
   simp only [List.all_eq_true] at this
   exact ⟨S1.oX h.1,by simpa [List.all_eq_true] using this⟩
theorem SR.oX {s:SR K} {x:s.ty E} (h:s.flat T.fk=true):tj T.fk (s.abs T x)=true:=by
 cases s with
 | tup ss=>exact BG ss x h
 | one s =>
  cases s with
  | agg ss=>exact pg (fk:=fun _=>false) h
  | a s=>cases s <;> first | rfl | (simp [SR.flat,S1.flat,S0.flat] at h; done) | (simpa [SR.abs,S1.abs,S0.abs,tj,DV.flat,SR.flat,S1.flat,S0.flat] using h)
  | _=>simp [SR.flat,S1.flat] at h
theorem Cm : ∀ (ss:List (List (S0 K))) (x:tyP E ss),(ss.all fun p=>p.all (S0.flat T.fk))=true → ∀ p∈vX ss x,p.all (DV.flat T.fk)=true:=by
 intro ss
 induction ss with
 | nil=>intro x h p hp; cases hp
 | cons s r ih =>
  intro x h p hp
  simp only [List.all_cons,Bool.and_eq_true] at h
  cases r with
  | nil =>
   change p ∈ [fO s x] at hp
   rcases List.mem_singleton.1 hp with rfl
   exact pg h.1
  | cons s' r =>
   change p∈fO s x.1 :: vX (s' :: r) x.2 at hp
   rcases List.mem_cons.1 hp with rfl | hp
   ·exact pg h.1
   ·exact ih x.2 h.2 p hp
theorem xJ {s:Spec K} {r:s.R E} (h:s.flat T=true):tj T.fk (pd T s r).v=true ∧ ∀ p∈(pd T s r).pins,p.all (DV.flat T.fk)=true:=by
 obtain ⟨ps,ret,pp,pl,rf,ts,rc⟩:=s
 simp only [Spec.flat,Bool.and_eq_true] at h
 cases pp with
 | nil=>exact ⟨SR.oX (x:=r) h.1,fun p hp=>by cases hp⟩
 | cons p q=>exact ⟨SR.oX (x:=r.1) h.1,Cm (p :: q) r.2 h.2⟩
theorem dz {f:FuncId} {fn:Func} {vs:Array Value} {w:World} (hf:P.funcs[f]? = some fn) (hb:fn.body.isSome=true) (hname:(fn.name == "runtime.NumGoroutine")=false):(callFunc f vs).run P w = .ok (.enter f vs) w:=by
 have:fn.body.isNone=false:=by cases h:fn.body <;> simp_all
 simp only [callFunc,Sem.run_bind,run_program,Result.andThen_ok,hf,hname,this,Bool.false_eq_true,if_false,Sem.run_pure]
theorem xf (a:Act) (P:Program) (w:World) : ∀ ts:List Nat,(List.mapM (m:=Sem) (fun (r:ResultVar)=>match r with
  | .tmp t=>pure (a.tmps.getD t undef)
  | .cell ad t=>do loadVar t (← asAddr (a.tmps.getD ad undef))) (ts.map ResultVar.tmp)).run P w = .ok (ts.map fun t=>a.tmps.getD t undef) w
 | []=>by simp
 | t :: ts=>by simp only [List.map_cons,List.mapM_cons,Sem.run_bind,Sem.run_pure,Result.andThen_ok,xf a P w ts]
theorem Inv.J3 {w0:World} {G:GP} {st:St E} {a:Act} {w:World} {g:Gh} (h:Inv T w0 G st a w g) (ds:List (DV E)) (us:List Value) (hl:ds.length=us.length)
  (hr : ∀ i (hi:i<ds.length) (hi':i<us.length),aB T w (free st.mem g) g ds[i] us[i] ∧ ∀ k j cs off,ds[i] ≠ .rptr k j cs off) :
  Inv T w0 G ⟨st.tmps ++ ds,st.mem⟩ { a with tmps:=a.tmps ++ us.toArray } w g:=by
 refine ⟨h.df,by simp [h.tl,hl],fun i hi => ?_,h.nn,h.nd,h.mm,h.bo,h.fr,fun i hi n j cs off he => ?_,h.hz⟩
 ·simp only [List.length_append] at hi
  by_cases hlt:i<st.tmps.length
  ·have e:(a.tmps ++ us.toArray).getD i undef=a.tmps.getD i undef:=by
    have:i<a.tmps.size:=by rw [h.tl]; exact hlt
    simp [Array.getElem?_append_left this]
   simp only [List.getElem_append_left hlt,e]
   exact h.tm i hlt
  ·have hle:st.tmps.length≤i:=by omega
   have hi2:i - st.tmps.length<us.length:=by omega
   have e:(a.tmps ++ us.toArray).getD i undef=us[i - st.tmps.length]:=by
    have h1:a.tmps.size≤i:=by rw [h.tl]; exact hle
    simp [Array.getElem?_append_right h1,h.tl,hi2]
   simp only [List.getElem_append_right hle,e]
   exact (hr _ (by omega) hi2).1
 ·simp only [List.length_append] at hi
  by_cases hlt:i<st.tmps.length
  ·rw [List.getElem_append_left hlt] at he
   exact h.rl i hlt n j cs off he
  ·rw [List.getElem_append_right (by omega)] at he
   exact absurd he ((hr _ (by omega) (by omega)).2 n j cs off)
theorem sJ {w0:World} {G:GP} {st:St E} {a:Act} {w:World} {g:Gh} (h:Inv T w0 G st a w g) {β:Type} {K:St E→Option β} {r:β} : ∀ (rc:List (Nat×Option TypeId)) (acc:List (DV E)) (us:List Value),acc.length=us.length →
  (∀ i (hi:i<acc.length) (hi':i<us.length),aB T w (free st.mem g) g acc[i] us[i] ∧ ∀ k j cs off,acc[i] ≠ .rptr k j cs off)→sc T P rc st acc K=some r →
  ∃ st2 us',Inv T w0 G st2 { a with tmps:=a.tmps ++ (us ++ us').toArray } w g∧K st2=some r∧us'.length=rc.length ∧
   (List.mapM (m:=Sem) (fun (r:ResultVar)=>match r with
  | .tmp t=>pure (a.tmps.getD t undef)
  | .cell ad t=>do loadVar t (← asAddr (a.tmps.getD ad undef))) (rc.map CG)).run P w = .ok us' w
 | [],acc,us,hl,hr,hK=>⟨_,[],by simpa using h.J3 acc us hl hr,hK,rfl,by simp⟩
 | (t,none) :: rc,acc,us,hl,hr,hK=>by
  simp only [sc] at hK
  split at hK
  ·cases hK
  rename_i hnr
  have hx:aB T w (free st.mem g) g (st.tmps.getD t .junk) (a.tmps.getD t undef):=h.ev (.tmp t)
  obtain ⟨st2,us',q1,q2,q3,q4⟩:=sJ h rc (acc ++ [st.tmps.getD t .junk]) (us ++ [a.tmps.getD t undef]) (by simp [hl]) (fun i hi hi'=>by
   by_cases hlt:i<acc.length
   ·rw [List.getElem_append_left hlt,List.getElem_append_left (by omega)]
    exact hr i hlt (by omega)
   ·have e:i=acc.length:=by simp at hi; omega
    subst e
    have e2:(us ++ [a.tmps.getD t undef])[acc.length]=a.tmps.getD t undef:=by rw [List.getElem_append_right (by omega)]; simp [hl]
    have e3:(acc ++ [st.tmps.getD t .junk])[acc.length]=st.tmps.getD t .junk:=by rw [List.getElem_append_right (by omega)]; simp
    rw [e2,e3]
    exact ⟨hx,fun k j cs off e=>by rw [e] at hnr; exact hnr rfl⟩) hK
  refine ⟨st2,_ :: us',by simpa using q1,q2,by simp [q3],?_⟩
  simp only [List.map_cons,List.mapM_cons,CG]
  rw [Sem.run_bind,Sem.run_pure]
  simp only [Result.andThen_ok,Sem.run_bind,q4,Sem.run_pure]
  simp
 | (ad,some ty) :: rc,acc,us,hl,hr,hK=>by
  simp only [sc] at hK
  obtain ⟨o,ho,hK⟩:=Cal.zo _ _ _ hK
  have hx:aB T w (free st.mem g) g (st.tmps.getD ad .junk) (a.tmps.getD ad undef):=h.ev (.tmp ad)
  obtain ⟨_,u,h2,h3,h4⟩:=wY h hx o ho
  obtain ⟨st2,us',q1,q2,q3,q4⟩:=sJ h rc (acc ++ [o.v]) (us ++ [u]) (by simp [hl]) (fun i hi hi'=>by
   by_cases hlt:i<acc.length
   ·rw [List.getElem_append_left hlt,List.getElem_append_left (by omega)]
    exact hr i hlt (by omega)
   ·have e:i=acc.length:=by simp at hi; omega
    subst e
    have e2:(us ++ [u])[acc.length]=u:=by rw [List.getElem_append_right (by omega)]; simp [hl]
    rw [e2]
    simpa using ⟨h3,h4⟩) hK
  refine ⟨st2,u :: us',by simpa using q1,q2,by simp [q3],?_⟩
  have hrun:(do loadVar ty (← asAddr (a.tmps.getD ad undef)):Sem Value).run P w = .ok u w:=by
   generalize a.tmps.getD ad undef=va at h2
   unfold Instr.loadAt Instr.sureAddr at h2
   split at h2
   ·simpa [asAddr] using h2
   ·simp at h2
  simp only [List.map_cons,List.mapM_cons,CG]
  rw [Sem.run_bind,hrun]
  simp only [Result.andThen_ok,Sem.run_bind,q4,Sem.run_pure]
theorem Bj {w0:World} {G:GP} {fn:Func} {s:Spec K} (hv:fn.results=s.vars) {st:St E} {a:Act} {w:World} {g:Gh} (h:Inv T w0 G st a w g) {β:Type} {K:St E→Option β} {r:β}
  (hrc:s.rc.isEmpty=true∨s.ts=(List.range s.rc.length).map (s.pl.nt + ·)) (hK:zu T P s.pl.nt s.rc st K=some r) :
  ∃ st2 us,Inv T w0 G st2 { a with tmps:=a.tmps ++ us } w g∧K st2=some r∧(us = #[]∨a.tmps.size=s.pl.nt)∧(results fn a.tmps).run P w = .ok (BC s.ts { a with tmps:=a.tmps ++ us }) w:=by
 unfold results
 rw [hv,Array.mapM_eq_mapM_toList]
 unfold Spec.vars
 unfold zu at hK
 have fin : ∀ vs:List Value,(match vs.toArray.toList with
   | [v]=>(pure v:Sem Value)
   | vs=>pure (Value.tuple vs.toArray)).run P w = .ok (match vs with | [v]=>v | vs => .tuple vs.toArray) w:=by
  intro vs
  match vs with
  | []=>rfl
  | [v]=>rfl
  | v :: v' :: vs=>simp
 cases hc:s.rc with
 | nil =>
  rw [hc] at hK
  simp only at hK
  refine ⟨st, #[],by simpa using h,hK, .inl rfl,?_⟩
  simp only [Sem.run_bind]
  have:=xf a P w s.ts
  rw [map_eq_pure_bind,Sem.run_bind]
  erw [this]
  simp only [Result.andThen_ok,Sem.run_pure]
  match s.ts with
  | []=>rfl
  | [t]=>simp [BC]
  | t :: t' :: ts=>simp [BC]
 | cons x rc =>
  rw [hc] at hK hrc
  simp only at hK
  have hts:=hrc.resolve_left (by simp)
  obtain ⟨hlen,hK⟩:=cu hK
  have hsz:a.tmps.size=s.pl.nt:=by rw [h.tl,hlen]
  obtain ⟨st2,us',q1,q2,q3,q4⟩:=sJ (P:=P) h (x :: rc) [] [] rfl (fun i hi=>by cases hi) hK
  refine ⟨st2,us'.toArray,by simpa using q1,q2, .inr hsz,?_⟩
  simp only [Sem.run_bind]
  rw [map_eq_pure_bind,Sem.run_bind]
  erw [q4]
  simp only [Result.andThen_ok,Sem.run_pure]
  have hval:(s.ts.map fun t=>(a.tmps ++ us'.toArray).getD t undef)=us':=by
   rw [hts,List.map_map]
   apply List.ext_getElem
   ·simp [q3]
   ·intro i h1 h2
    simp [hsz,h2]
  unfold BC
  rw [hts] at hval ⊢
  match us',q3,hval with
  | [],q3,_=>simp at q3
  | [u],q3,hval =>
   have:rc = []:=by simpa using q3.symm
   subst this
   simp at hval ⊢
   exact hval.symm
  | u :: u' :: us,q3,hval =>
   obtain ⟨y,rc',rfl⟩ : ∃ y rc',rc=y :: rc':=by cases rc with
    | nil=>simp at q3
    | cons y rc'=>exact ⟨y,rc',rfl⟩
   simp only [List.length_cons,List.range_succ_eq_map,List.map_cons] at hval ⊢
   rw [hval]
   simp
theorem nh {s:Spec K} {M:tyS E s.params→Option (s.R E)} {f:FuncId} {fn:Func} {code:Code} (hf:P.funcs[f]? = some fn) (hb:fn.body=some code) (hname:(fn.name == "runtime.NumGoroutine")=false)
  (hts:fn.results=s.vars) (hnt:fn.ntmps=s.pl.nt) (henv : ∀ f,Ctr T P f (env f)) (hm:P.follows .mixedOrders=true) (hk:mY (lZ 0 s.params) code=true)
  (hM : ∀ x r,M x=some r → ∃ F,o6 T P env s code F x=some r):Ctr T P f (ak T s M):=by
 intro ds
 unfold ak
 cases hx:yV T s.params (rp s.params ds) with
 | none=>intro r hr; cases hr
 | some x =>
  intro r hr w vs Y bl hown hnd hY hgl hgb
  haveI:tC T w ⟨(· ∈ bl),(zk w Y bl).hid⟩:=⟨hgl,hgb⟩
  have hds:=xV hx
  have hown':=wZ hown s.params
  rw [← hds] at hown'
  obtain ⟨F,hF⟩:=hM x r hr
  unfold o6 at hF
  obtain ⟨⟨hn,hlen,hrc⟩,hF⟩:=cu hF
  refine .inl ⟨dz hf (by rw [hb]; rfl) hname,calls_of_wp hf hb ?_⟩
  obtain ⟨g,hg⟩:=FT (nt:=s.pl.nt) hown' hnd hY hn hlen
  rw [hnt]
  obtain ⟨e,st',hK,hgo⟩:=HH (w0:=w) (G:=⟨(· ∈ bl),(zk w Y bl).hid⟩) (J:=lZ 0 s.params) henv hm code hk 0 _ _ _ _ hF
  refine wp_mono (hgo _ _ g hg) ?_
  rintro e' a' w' ⟨rfl,g',hi,hkeep⟩
  have fin:(zu T P s.pl.nt s.rc (Au T s.rco (forget s.rfrz st')) fun st=>(yC s.ts (iv T s.params x) st).bind (rdR T s))=some r→a'.defers = [] ∧ ∃ v,(results fn a'.tmps).run P w' = .ok v w' ∧ ∃ v' bl1 bl2,Ending.returned v=Ending.returned v'∧(bl1 ++ bl2).Nodup∧(∀ b∈bl1 ++ bl2,b<w'.heap.size∧(w.heap.size≤b∨b∈bl)) ∧
    tB T w' (fun b=>(Y b∨w.heap.size≤b∨b∈bl)∧b ∉ bl1 ++ bl2) vs.toList (pd T s r).v v' bl1 ∧
    fW T w' (fun b=>(Y b∨w.heap.size≤b∨b∈bl)∧b ∉ bl1 ++ bl2) ds vs.toList (pd T s r).pins bl2∧jD (· ∈ bl) w w' ∧
    (s.flat T=true→tj T.fk (pd T s r).v=true ∧ ∀ p∈(pd T s r).pins,p.all (DV.flat T.fk)=true):=by
   intro hK
   obtain ⟨g',hi'⟩:=yd s.rco (l8 hi s.rfrz)
   obtain ⟨st2,us,hi',hK,hsz,hres⟩:=Bj (P:=P) hts hi' hrc hK
   generalize ha2:({ a' with tmps:=a'.tmps ++ us }:Act)=a2 at hi' hres
   replace ha2:a2.tmps=a'.tmps ++ us:=by rw [← ha2]
   obtain ⟨res,h1,h2⟩:=Option.bind_eq_some_iff.1 hK
   have hget : ∀ i,i<s.pl.nt→a2.tmps.getD i undef=a'.tmps.getD i undef:=by
    intro i hi
    rw [ha2]
    rcases hsz with rfl | hsz
    ·simp
    ·simp [Array.getElem?_append_left (show i<a'.tmps.size by omega)]
   have hl:(iv T s.params x).length=vs.size:=by have:=zX hown'; simpa using this
   obtain ⟨bl1,bl2,q1,q2,q3,q4,q5⟩:=J2 hi' hl h1 (by
    intro i hi0
    rw [vF] at hi0
    have hk':=hkeep i hi0
    have hlt:i<vs.size:=by
     have : ∀ (ds:List (DV E)) (j i:Nat),i∈gm j ds→i<j+ds.length:=by
      intro ds
      induction ds with
      | nil=>intro j i h; cases h
      | cons d r ih =>
       intro j i h
       unfold gm at h
       simp only [List.length_cons]
       split at h
       ·rcases List.mem_cons.1 h with rfl | h
        ·omega
        ·have:=ih _ _ h; omega
       ·have:=ih _ _ h; omega
     have:=this (iv T s.params x) 0 i (by rw [vF]; exact hi0)
     omega
    rw [hget i (by omega),hk']
    simp [Array.getElem?_append_left hlt,hlt])
   rw [Gk h2]
   refine ⟨hi.df,_,hres,BC s.ts a2,bl1,bl2,rfl,q1,q2,q3,?_,q5,fun hf => ?_⟩
   ·rw [hds] at q4
    exact lL _ _ _ _ _ q4
   ·rw [← Gk h2]; exact xJ hf
  cases e with
  | exit j=>cases hK
  | norm=>exact fin hK
  | ret=>exact fin hK
end Go.Vm
/- The abstract value machine: functions one by one. -/
namespace Go.Vm
open Go.Lib
set_option linter.unusedVariables false
variable {K:Type} {E:K→Type}
def eW {α β γ:Type} (s:α ⊕ β) (f:α→γ) (g:β→γ):γ:=match s with
 | .inl a=>f a
 | .inr b=>g b
def yI:Env E:=fun _ _ => .bad
def el (f:FuncId) (C:List (DV E)→Con E) (env:Env E):Env E:=fun g=>if g=f then C else env g
theorem aq {T:Tab E} {P:Program} : ∀ f,Ctr T P f (yI (E:=E) f):=by
 intro f ds r hr
 cases hr
theorem ag {T:Tab E} {P:Program} {f:FuncId} {C:List (DV E)→Con E} {env:Env E} (h : ∀ g,Ctr T P g (env g)) (hc:Ctr T P f C) : ∀ g,Ctr T P g (el f C env g):=by
 intro g
 unfold el
 split
 ·rename_i e; subst e; exact hc
 ·exact h g
theorem uc (T:Tab E) (P:Program) (f:FuncId) (s:Spec K) {M:tyS E s.params→Option (s.R E)} (h : ∀ x,M x=none):Ctr T P f (ak T s M):=by
 intro ds
 unfold ak
 cases hx:yV T s.params (rp s.params ds) with
 | none=>intro r hr; cases hr
 | some x=>intro r hr; simp only [h] at hr; cases hr
end Go.Vm
/- Plain laws of the models: more fuel tells the same; what a model comes to. -/
namespace Go.Vm
set_option linter.unusedVariables false
structure Le {α:Type} (a b:Option α):Prop where
 le : ∀ r,a=some r→b=some r
theorem Le.refl {α:Type} (a:Option α):Le a a:=⟨fun _ h=>h⟩
theorem Le.bind {α β:Type} {a b:Option α} {f g:α→Option β} (h:Le a b) (hf : ∀ x,Le (f x) (g x)):Le (a.bind f) (b.bind g):=by
 refine ⟨fun r hr => ?_⟩
 obtain ⟨x,hx,hr⟩:=Option.bind_eq_some_iff.1 hr
 exact Option.bind_eq_some_iff.2 ⟨x,h.le x hx,(hf x).le r hr⟩
theorem Le.loop {X Y:Type} {f g:X→Option (X ⊕ Y)} (hf : ∀ x,Le (f x) (g x)) : ∀ {n m:Nat},n≤m → ∀ x,Le (bS f n x) (bS g m x)
 | 0,m,h,x=>⟨fun r hr=>by cases hr⟩
 | n+1,0,h,x=>by omega
 | n+1,m+1,h,x=>by
  unfold bS
  refine Le.bind (hf x) fun y => ?_
  cases y with
  | inl x'=>exact Le.loop hf (by omega) x'
  | inr y=>exact Le.refl _
theorem Le.eW {α β γ:Type} {s:α ⊕ β} {f f':α→Option γ} {g g':β→Option γ} (h : ∀ x,Le (f x) (f' x)) (h' : ∀ x,Le (g x) (g' x)):Le (Go.Vm.eW s f g) (Go.Vm.eW s f' g'):=by
 cases s with
 | inl a=>exact h a
 | inr b=>exact h' b
def ae {α:Type} (m:Nat→Option α) (r:α):Prop := ∃ N, ∀ F,N≤F→m F=some r
theorem ae.const {α:Type} {m:Option α} {r:α} (h:m=some r):ae (fun _=>m) r:=⟨0,fun _ _=>h⟩
theorem ae.ret {α:Type} (r:α):ae (fun _=>some r) r:=⟨0,fun _ _=>rfl⟩
theorem ae.of {α:Type} {m:Nat→Option α} {r:α} (h : ∀ F,m F=some r):ae m r:=⟨0,fun F _=>h F⟩
theorem ae.bind {α β:Type} {m:Nat→Option α} {k:Nat→α→Option β} {r:α} {s:β} (h:ae m r) (h':ae (fun F=>k F r) s):ae (fun F=>(m F).bind (k F)) s:=by
 obtain ⟨N,h⟩:=h
 obtain ⟨N',h'⟩:=h'
 refine ⟨max N N',fun F hF => ?_⟩
 show (m F).bind (k F) = _
 rw [h F (by omega),Option.bind_some]
 exact h' F (by omega)
theorem ae.congr {α:Type} {m m':Nat→Option α} {r:α} (h:ae m r) (e : ∀ F,m' F=m F):ae m' r:=by
 obtain ⟨N,h⟩:=h
 exact ⟨N,fun F hF=>(e F).trans (h F hF)⟩
theorem ae.mono {α:Type} {m:Nat→Option α} {r:α} (hm : ∀ F F',F≤F'→Le (m F) (m F')) (F:Nat) (h:m F=some r):ae m r:=⟨F,fun F' hF=>(hm F F' hF).le r h⟩
theorem ae.ex {α:Type} {m:Nat→Option α} {r:α} (h:ae m r) : ∃ F,m F=some r:=by
 obtain ⟨N,h⟩:=h
 exact ⟨N,h N (Nat.le_refl _)⟩
theorem ae.pos {α:Type} {c:Prop} [Decidable c] {m m':Nat→Option α} {r:α} (hc:c) (h:ae m r):ae (fun F=>if c then m F else m' F) r:=h.congr fun F=>by rw [if_pos hc]
theorem ae.neg {α:Type} {c:Prop} [Decidable c] {m m':Nat→Option α} {r:α} (hc : ¬ c) (h:ae m' r):ae (fun F=>if c then m F else m' F) r:=h.congr fun F=>by rw [if_neg hc]
theorem ae.eq {α:Type} {m:Nat→Option α} {r r':α} (h:ae m r) (e:r=r'):ae m r':=e ▸ h
def af {X Y:Type} (f:Nat→X→Option (X ⊕ Y)) (x:X) (y:Y):Prop := ∃ N, ∀ F n,N≤F→N≤n→bS (f F) n x=some y
theorem af.fin {X Y:Type} {f:Nat→X→Option (X ⊕ Y)} {x:X} {y:Y} (h:ae (fun F=>f F x) (.inr y)):af f x y:=by
 obtain ⟨N,h⟩:=h
 refine ⟨N+1,fun F n hF hn => ?_⟩
 obtain ⟨n,rfl⟩ : ∃ k,n=k+1:=⟨n - 1,by omega⟩
 unfold bS
 have h1:f F x=some (.inr y):=h F (by omega)
 rw [h1]
 rfl
theorem af.step {X Y:Type} {f:Nat→X→Option (X ⊕ Y)} {x x':X} {y:Y} (h:ae (fun F=>f F x) (.inl x')) (h':af f x' y):af f x y:=by
 obtain ⟨N,h⟩:=h
 obtain ⟨N',h'⟩:=h'
 refine ⟨max N N'+1,fun F n hF hn => ?_⟩
 obtain ⟨n,rfl⟩ : ∃ k,n=k+1:=⟨n - 1,by omega⟩
 unfold bS
 have h1:f F x=some (.inl x'):=h F (by omega)
 rw [h1,Option.bind_some]
 exact h' F n (by omega) (by omega)
theorem af.run {X Y:Type} {f:Nat→X→Option (X ⊕ Y)} {x:X} {y:Y} (h:af f x y):ae (fun F=>bS (f F) F x) y:=by
 obtain ⟨N,h⟩:=h
 exact ⟨N,fun F hF=>h F F hF hF⟩
theorem cC {α:Type} (c:Prop) [Decidable c] (a b:α):(if c then some a else some b)=some (if c then a else b):=by split <;> rfl
theorem cH {α β:Type} (c:Prop) [Decidable c] (a a':α) (b b':β):(if c then (a,b) else (a',b'))=(if c then a else a',if c then b else b'):=by split <;> rfl
theorem wrap64 (n:Int) (h : -9223372036854775808≤n) (h':n≤9223372036854775807):IntKind.i64.wrap n=n:=by
 simp only [IntKind.wrap,IntKind.signed,IntKind.bits]
 simp
 omega
end Go.Vm
/- The abstract value machine: contracts that are shown by hand. -/
namespace Go.Vm
open Go.Lib
set_option linter.unusedVariables false
variable {K:Type} {E:K→Type}
variable {T:Tab E} {P:Program}
def Comes (T:Tab E) (s:Spec K) (ds:List (DV E)) (r:s.R E) (w:World) (vs:List Value) (Y:Nat→Prop) (bl:List Nat) (e:Ending) (w':World):Prop :=
 ∃ v bl1 bl2,e = .returned v∧(bl1 ++ bl2).Nodup∧(∀ b∈bl1 ++ bl2,b<w'.heap.size∧(w.heap.size≤b∨b∈bl)) ∧
  tB T w' (fun b=>(Y b∨w.heap.size≤b∨b∈bl)∧b ∉ bl1 ++ bl2) vs (pd T s r).v v bl1 ∧
  fW T w' (fun b=>(Y b∨w.heap.size≤b∨b∈bl)∧b ∉ bl1 ++ bl2) ds vs (pd T s r).pins bl2∧jD (· ∈ bl) w w'
theorem js {s:Spec K} {M:tyS E s.params→Option (s.R E)} {f:FuncId}
  (h : ∀ x r,M x=some r → ∀ (w:World) (vs:Array Value) (Y:Nat→Prop) (bl:List Nat),eZ (Own T w Y) (iv T s.params x) vs.toList bl→bl.Nodup→(∀ b∈bl, ¬ Y b∧b<w.heap.size)→T.gl w→(∀ b∈bl,T.gb≤b) →
   B9 P f vs w (Comes T s (iv T s.params x) r w vs.toList Y bl)):Ctr T P f (ak T s M):=by
 intro ds
 unfold ak
 cases hx:yV T s.params (rp s.params ds) with
 | none=>intro r hr; cases hr
 | some x =>
  intro r hr w vs Y bl hown hnd hY hgl hgb
  have hds:=xV hx
  have hown':=wZ hown s.params
  rw [← hds] at hown'
  have hc:=h x r hr w vs Y bl hown' hnd hY hgl hgb
  have key : ∀ e w',Comes T s (iv T s.params x) r w vs.toList Y bl e w' → ∃ v bl1 bl2,e = .returned v∧(bl1 ++ bl2).Nodup∧(∀ b∈bl1 ++ bl2,b<w'.heap.size∧(w.heap.size≤b∨b∈bl)) ∧
    tB T w' (fun b=>(Y b∨w.heap.size≤b∨b∈bl)∧b ∉ bl1 ++ bl2) vs.toList (pd T s r).v v bl1 ∧
    fW T w' (fun b=>(Y b∨w.heap.size≤b∨b∈bl)∧b ∉ bl1 ++ bl2) ds vs.toList (pd T s r).pins bl2∧jD (· ∈ bl) w w' ∧
    (s.flat T=true→tj T.fk (pd T s r).v=true ∧ ∀ p∈(pd T s r).pins,p.all (DV.flat T.fk)=true):=by
   rintro e w' ⟨v,bl1,bl2,h1,h2,h3,h4,h5,h6⟩
   refine ⟨v,bl1,bl2,h1,h2,h3,h4,?_,h6,fun hf=>xJ hf⟩
   rw [hds] at h5
   exact lL _ _ _ _ _ h5
  rcases hc with ⟨h1,h2⟩ | ⟨v,w',h1,h2⟩
  ·exact .inl ⟨h1,h2.mono key⟩
  ·exact .inr ⟨v,w',h1,key _ _ h2⟩
theorem alloc_old (w:World) (o:Obj) (k:Nat) (hk:k<w.heap.size):(w.alloc o).heap[k]? = w.heap[k]? := heap_alloc_old w o k hk
end Go.Vm
