/- Part 3 of an abstract value machine: a framework of this session's own, in which functions of the program are run once and for all inputs. No condition. -/
import Derived.Test.YtihpjgcbmipdbaaGreatDoorV2
/- The abstract value machine: shapes of states; the run of a body. -/
namespace Go.Vm
open Go.Lib
set_option linter.unusedVariables false
variable {K:Type} {E:K→Type}
/-! ### shapes -/
inductive S0 (K:Type) where
 | int (k:IntKind) | bool | str | slc (k:K) | nilp | nili | nils | fn (f:FuncId) | ptr (n off:Nat) | rowp (n:Nat) | rowv (n:Nat) | row (e:TypeId) (k:K) | argp (j:Nat) | junk | arr (n:Nat) (k:K) | any (k:K)
inductive S1 (K:Type) where
 | a (s:S0 K) | agg (ss:List (S0 K)) | elt (k:K) | eptr (k:K) (off:Nat) | pin (t:TypeId) (ss:List (S0 K)) | newb (t:TypeId) (ss:List (S0 K)) | ifc (t:TypeId) (s:S0 K) | ifcA (t:TypeId) (ss:List (S0 K)) | shp (ss:List (S0 K)) | opt (ss:List (S0 K)) | fnc (f:FuncId) (sss:List (List (S0 K)))
inductive SB (K:Type) where
 | cells (t:TypeId) (ss:List (S0 K)) | row (e:TypeId) (k:K) | siter | arr (t:TypeId) (n:Nat) (k:K)
inductive It (K:Type) where
 | tmp (t:Nat) (s:S1 K) | box (n:Nat) (b:SB K)
structure SS (K:Type) where
 its:List (It K)
 frz:List Nat := []
 co:List (Co K) := []
variable (E) in
def S0.ty:S0 K→Type
 | .int _=>Int
 | .bool=>Bool
 | .str=>List UInt8
 | .slc k=>List (E k)
 | .rowv _=>Nat
 | .row _ k=>List (E k)
 | .arr _ k=>List (E k)
 | .any k=>E k
 | _=>Unit
variable (E) in
def tyL:List (S0 K)→Type
 | []=>Unit
 | s :: r=>s.ty E×tyL r
variable (E) in
def IL:List (List (S0 K))→Type
 | []=>Unit
 | ss :: r=>tyL E ss×IL r
variable (E) in
def S1.ty:S1 K→Type
 | .a s=>s.ty E
 | .agg ss | .pin _ ss | .newb _ ss | .ifcA _ ss | .shp ss=>tyL E ss
 | .opt ss=>Bool×tyL E ss
 | .fnc _ sss=>IL E sss
 | .elt k | .eptr k _=>E k
 | .ifc _ s=>s.ty E
variable (E) in
def SB.ty:SB K→Type
 | .cells _ ss=>tyL E ss
 | .row _ k=>List (E k)
 | .siter=>List UInt8×Nat
 | .arr _ _ k=>List (E k)
variable (E) in
def It.ty:It K→Type
 | .tmp _ s=>s.ty E
 | .box _ b=>b.ty E
variable (E) in
def tyI:List (It K)→Type
 | []=>Unit
 | i :: r=>i.ty E×tyI r
def S0.abs:(s:S0 K)→s.ty E→DV E
 | .int k,n => .int k n
 | .bool,b => .bool b
 | .str,s => .str s
 | .slc k,l => .slc k l
 | .nilp,_ => .nilp
 | .nili,_ => .nili
 | .nils,_ => .nils
 | .fn f,_ => .fn f []
 | .ptr n off,_ => .ptr n off
 | .rowp n,_ => .rowp n
 | .rowv n,b => .rowv n b
 | .row e k,l => .row e k l
 | .argp j,_ => .argp j
 | .junk,_ => .junk
 | .arr n k,l => .arr n k l
 | .any k,x => .any k x
def iV:(ss:List (S0 K))→tyL E ss→List (DV E)
 | [],_ => []
 | s :: r,x=>s.abs x.1 :: iV r x.2
def Eu:(sss:List (List (S0 K)))→IL E sss→List (DV E)
 | [],_ => []
 | ss :: r,x => .shp (iV ss x.1) :: Eu r x.2
section
variable (T:Tab E)
def S1.abs:(s:S1 K)→s.ty E→DV E
 | .a s,x=>s.abs x
 | .agg ss,x => .agg (iV ss x)
 | .elt k,x => .agg (T.enc k x)
 | .eptr k off,x => .eptr (T.enc k x) off
 | .pin t ss,x => .pin t (iV ss x)
 | .newb t ss,x => .newb t (iV ss x)
 | .ifc t s,x => .ifc t (s.abs x)
 | .ifcA t ss,x => .ifc t (.agg (iV ss x))
 | .shp ss,x => .shp (iV ss x)
 | .opt ss,x => .opt x.1 (iV ss x.2)
 | .fnc f sss,x => .fn f (Eu sss x)
def SB.abs:(s:SB K)→s.ty E→Box E
 | .cells t ss,x => .cells t (iV ss x)
 | .row e k,l => .row e k l
 | .siter,x => .siter x.1 x.2
 | .arr t n k,l => .arr t n k l
def It.abs:(i:It K)→i.ty E→St E→St E
 | .tmp t s,x,st=>⟨st.tmps.set t (s.abs T x),st.mem⟩
 | .box n b,x,st=>⟨st.tmps,(n,b.abs x) :: st.mem⟩
def kx (nt:Nat):(its:List (It K))→tyI E its→St E
 | [],_=>⟨List.replicate nt .junk,[]⟩
 | i :: r,x=>i.abs T x.1 (kx nt r x.2)
def LQ (k:IntKind) (d:DV E):Option (Int):=match d with
 | .int k' n=>if k'=k then some n else none
 | _=>none
def Ig (d:DV E):Option (Bool):=match d with
 | .bool b=>some b
 | _=>none
def La (d:DV E):Option (List UInt8):=match d with
 | .str s=>some s
 | _=>none
def LR (k:K) (d:DV E):Option (List (E k)):=match d with
 | .slc k' l=>nZ T k k' l
 | _=>none
def Hd (d:DV E):Option (Unit):=match d with
 | .nilp=>some ()
 | _=>none
def HL (d:DV E):Option (Unit):=match d with
 | .nili=>some ()
 | _=>none
def H3 (d:DV E):Option (Unit):=match d with
 | .nils=>some ()
 | _=>none
def gFn (f:FuncId) (d:DV E):Option (Unit):=match d with
 | .fn f' []=>if f'=f then some () else none
 | _=>none
def Ll (n off:Nat) (d:DV E):Option (Unit):=match d with
 | .ptr n' off'=>if n'=n∧off'=off then some () else none
 | _=>none
def Hy (n:Nat) (d:DV E):Option (Unit):=match d with
 | .rowp n'=>if n'=n then some () else none
 | _=>none
def G7 (n:Nat) (d:DV E):Option (Nat):=match d with
 | .rowv n' b=>if n'=n then some b else none
 | _=>none
def LY (e:TypeId) (k:K) (d:DV E):Option (List (E k)):=match d with
 | .row e' k' l=>if e'=e then nZ T k k' l else none
 | _=>none
def KX (n:Nat) (k:K) (d:DV E):Option (List (E k)):=match d with
 | .arr n' k' l=>if n'=n then nZ T k k' l else none
 | _=>none
def Hq (j:Nat) (d:DV E):Option (Unit):=match d with
 | .argp j'=>if j'=j then some () else none
 | _=>none
def IU (d:DV E):Option (Unit):=match d with
 | .junk=>some ()
 | _=>none
def KP (k k':K) (x:E k'):Option (E k) :=
 match T.deq k' k with
 | .isTrue h=>some (h ▸ x)
 | .isFalse _=>none
def LI (k:K) (d:DV E):Option (E k):=match d with
 | .any k' x=>KP T k k' x
 | _=>none
def S0.rd (s:S0 K) (d:DV E):Option (s.ty E) :=
 match s with
 | .int k=>LQ k d
 | .bool=>Ig d
 | .str=>La d
 | .slc k=>LR T k d
 | .nilp=>Hd d
 | .nili=>HL d
 | .nils=>H3 d
 | .fn f=>gFn f d
 | .ptr n off=>Ll n off d
 | .rowp n=>Hy n d
 | .rowv n=>G7 n d
 | .row e k=>LY T e k d
 | .argp j=>Hq j d
 | .junk=>IU d
 | .arr n k=>KX T n k d
 | .any k=>LI T k d
def rdL:(ss:List (S0 K))→List (DV E)→Option (tyL E ss)
 | [],[]=>some ()
 | s :: r,d :: ds=>(s.rd T d).bind fun x=>(rdL r ds).bind fun y=>some (x,y)
 | _,_=>none
def JH (d:DV E):Option (List (DV E)):=match d with
 | .agg cs=>some cs
 | _=>none
def KW (t:TypeId) (d:DV E):Option (List (DV E)):=match d with
 | .pin t' cs=>if t'=t then some cs else none
 | _=>none
def HE (t:TypeId) (d:DV E):Option (List (DV E)):=match d with
 | .newb t' cs=>if t'=t then some cs else none
 | _=>none
def I9 (t:TypeId) (d:DV E):Option (DV E):=match d with
 | .ifc t' d=>if t'=t then some d else none
 | _=>none
def JJ (d:DV E):Option (List (DV E)):=match d with
 | .shp cs=>some cs
 | _=>none
def LP (d:DV E):Option (Bool×List (DV E)):=match d with
 | .opt c cs=>some (c,cs)
 | _=>none
def F4:(sss:List (List (S0 K)))→List (DV E)→Option (IL E sss)
 | [],[]=>some ()
 | ss :: r,d :: ds=>((JJ d).bind (rdL T ss)).bind fun x=>(F4 r ds).bind fun y=>some (x,y)
 | _,_=>none
def LL (f:FuncId) (d:DV E):Option (List (DV E)):=match d with
 | .fn f' cs=>if f'=f then some cs else none
 | _=>none
def S1.rd (s:S1 K) (d:DV E):Option (s.ty E) :=
 match s with
 | .a s=>s.rd T d
 | .agg ss=>(JH d).bind (rdL T ss)
 | .pin t ss=>(KW t d).bind (rdL T ss)
 | .newb t ss=>(HE t d).bind (rdL T ss)
 | .ifc t s=>(I9 t d).bind (s.rd T)
 | .ifcA t ss=>(I9 t d).bind fun d=>(JH d).bind (rdL T ss)
 | .shp ss=>(JJ d).bind (rdL T ss)
 | .opt ss=>(LP d).bind fun q=>(rdL T ss q.2).bind fun x=>some (q.1,x)
 | .fnc f sss=>(LL f d).bind (F4 T sss)
 | _=>none
def SB.rd:(s:SB K)→Box E→Option (s.ty E)
 | .cells t ss, .cells t' cs=>if t'=t then rdL T ss cs else none
 | .row e k, .row e' k' l=>if e'=e then nZ T k k' l else none
 | .siter, .siter s pos=>some (s,pos)
 | .arr t n k, .arr t' n' k' l=>if t'=t∧n'=n then nZ T k k' l else none
 | _,_=>none
def It.rd (st:St E):(i:It K)→Option (i.ty E)
 | .tmp t s=>s.rd T (st.tmps.getD t .junk)
 | .box n b=>(look st.mem n).bind (b.rd T)
def rdI (st:St E):(its:List (It K))→Option (tyI E its)
 | []=>some ()
 | i :: r=>(i.rd T st).bind fun x=>(rdI st r).bind fun y=>some (x,y)
def mS:List (It K)→List Nat
 | [] => []
 | .tmp .. :: r=>mS r
 | .box n _ :: r=>n :: mS r
def rdS (nt:Nat) (ss:SS K) (st:St E):Option (tyI E ss.its) :=
 if st.tmps.length=nt∧nodupB (mS ss.its)=true then rdI T (A4 T ss.co (forget ss.frz st)) ss.its else none
inductive Ex where
 | norm | exit (i:Nat) | ret
 deriving DecidableEq
variable (E) in
def FG:Ex×SS K→List (Ex×SS K)→Type
 | x,[]=>tyI E x.2.its
 | x,y :: r=>tyI E x.2.its ⊕ FG y r
def qx (nt:Nat):(x:Ex×SS K)→(l:List (Ex×SS K))→Ex→St E→Option (FG E x l)
 | x,[],e,st=>if x.1=e then rdS T nt x.2 st else none
 | x,y :: r,e,st=>if x.1=e then (rdS T nt x.2 st).bind fun v=>some (.inl v) else (qx nt y r e st).bind fun v=>some (.inr v)
def mC {γ:Type} (nt:Nat):(x:Ex×SS K)→(l:List (Ex×SS K))→FG E x l→(Ex→St E→γ)→γ
 | x,[],v,k=>k x.1 (kx T nt x.2.its v)
 | x,y :: r,v,k=>match v with
  | .inl v=>k x.1 (kx T nt x.2.its v)
  | .inr v=>mC nt y r v k
end
def assoc {α:Type}:List (Nat×α)→Nat→Option α
 | [],_=>none
 | (k,a) :: r,n=>if k=n then some a else assoc r n
structure K0 (K:Type) where
 orc:Orc:={}
 nt:Nat
 joins:List (Nat×(Ex×SS K)×List (Ex×SS K)) := []
 loops:List (Nat×SS K×(Ex×SS K)×List (Ex×SS K)) := []
 frz:List (Nat×List Nat) := []
 cuts:List (Nat×List (Nat×SS K)) := []
 bjoins:List (Nat×(Ex×SS K)×List (Ex×SS K)) := []
 ends:List (Nat×SS K) := []
def vH (id:Nat) (e:Ex):Ex:=match e with
 | .exit j=>if j=id then .norm else .exit j
 | e=>e
def je:Code→Nat
 | .region id _ _=>id+1
 | .seq x y=>if je x=0 then je y else je x
 | .cond _ x y=>if je x=0 then je y else je x
 | .block _ b=>je b
 | .loop b=>je b
 | _=>0
def bh {X Y:Type} (f:X→Option (X ⊕ Y)):Nat→X→Option Y
 | 0,_=>none
 | n+1,x=>(f x).bind fun r=>match r with
  | .inl x'=>bh f n x'
  | .inr y=>some y
section
variable (T:Tab E) (P:Program) (env:Env E) (pl:K0 K) (F:Nat)
def Lh (q:Nat):Operand→Option ((Ex×SS K)×List (Ex×SS K))
 | .tmp t=>assoc pl.joins (t+100000 * q)
 | _=>none
def uF (ops:Array Oper) {β:Type}:List (Nat×SS K)→List Nat→St E→(St E→Option β)→Option β
 | [],l,st,k=>oE T P env pl.orc ops none l [] st k
 | (c,ss) :: r,l,st,k=>(oE T P env pl.orc ops none (l.take c) [] st (rdS T pl.nt ss)).bind fun x=>uF ops r (l.drop c) (kx T pl.nt ss.its x) k
def mE:Code→Nat→St E→{β:Type}→(Ex→St E→Option β)→Option β
 | .skip,_,st,_,k=>k .norm st
 | .region id ops draw,_,st,_,k =>
  if draw=true then
   if pS ops=true then
    match assoc pl.ends id with
    | none=>oE T P env pl.orc ops (some (Ca ops)) (List.range ops.size) [] (forget ((assoc pl.frz id).getD []) st) (k .norm)
    | some ss=>(oE T P env pl.orc ops (some (Ca ops)) (List.range ops.size) [] (forget ((assoc pl.frz id).getD []) st) (rdS T pl.nt ss)).bind fun x=>k .norm (kx T pl.nt ss.its x)
   else none
  else uF T P env pl ops ((assoc pl.cuts id).getD []) (List.range ops.size) (forget ((assoc pl.frz id).getD []) st) (k .norm)
 | .seq x y,l,st,_,k=>mE x l st fun e st'=>match e with
  | .norm=>mE y l st' k
  | e=>k e st'
 | .cond c x y,l,st,_,k =>
  match st.ev c with
  | .bool b =>
   match Lh pl (je (.seq x y)) c with
   | none=>if b=true then mE x l st k else mE y l st k
   | some (h,r)=>(if b=true then mE x l st (qx T pl.nt h r) else mE y l st (qx T pl.nt h r)).bind fun t=>mC T pl.nt h r t k
  | _=>none
 | .block id body,_,st,_,k =>
  match assoc pl.bjoins id with
  | none=>mE body id st fun e st'=>k (vH id e) st'
  | some (h,r)=>(mE body id st fun e st'=>qx T pl.nt h r (vH id e) st').bind fun t=>mC T pl.nt h r t k
 | .loop body,l,st,_,k =>
  match assoc pl.loops l with
  | none=>none
  | some (ss,h,r)=>(rdS T pl.nt ss st).bind fun x =>
   (bh (fun x=>mE body l (kx T pl.nt ss.its x) fun e st'=>match e with
    | .norm=>(rdS T pl.nt ss st').bind fun v=>some (Sum.inl v)
    | e=>(qx T pl.nt h r e st').bind fun v=>some (Sum.inr v)) F x).bind fun y=>mC T pl.nt h r y k
 | .exit id,_,st,_,k=>k (.exit id) st
 | .ret,_,st,_,k=>k .ret st
 | _,_,_,_,_=>none
end
end Go.Vm
/- The abstract value machine: the run of a body is sound. -/
namespace Go.Vm
open Go.Lib
set_option linter.unusedVariables false
variable {K:Type} {E:K→Type}
variable {T:Tab E} {P:Program}
/-! ### shapes are true -/
theorem cU {α:Type} {c:Prop} [Decidable c] {m:Option α} {x:α} (h:(if c then m else none)=some x):c∧m=some x:=by
 by_cases hc:c
 ·rw [if_pos hc] at h; exact ⟨hc,h⟩
 ·rw [if_neg hc] at h; cases h
theorem I4 {k:IntKind} {d:DV E} {x:Int} (h:LQ k d=some x):DV.int k x=d:=by
 unfold LQ at h
 split at h
 ·obtain ⟨e,h⟩:=cU h; cases h; subst e; rfl
 ·cases h
theorem GH {d:DV E} {x:Bool} (h:Ig d=some x):DV.bool x=d:=by
 unfold Ig at h
 split at h
 ·cases h; rfl
 ·cases h
theorem Jg {d:DV E} {x:List UInt8} (h:La d=some x):DV.str x=d:=by
 unfold La at h
 split at h
 ·cases h; rfl
 ·cases h
theorem Kv {k:K} {d:DV E} {x:List (E k)} (h:LR T k d=some x):DV.slc k x=d:=by
 unfold LR at h
 split at h
 ·obtain ⟨e,he⟩:=fA h; subst e; rw [he]
 ·cases h
theorem HR {d:DV E} {x:Unit} (h:Hd d=some x):DV.nilp=d:=by
 unfold Hd at h
 split at h
 ·cases h; rfl
 ·cases h
theorem Ip {d:DV E} {x:Unit} (h:HL d=some x):DV.nili=d:=by
 unfold HL at h
 split at h
 ·cases h; rfl
 ·cases h
theorem Hv {d:DV E} {x:Unit} (h:H3 d=some x):DV.nils=d:=by
 unfold H3 at h
 split at h
 ·cases h; rfl
 ·cases h
theorem KV {f:FuncId} {d:DV E} {x:Unit} (h:gFn f d=some x):DV.fn f []=d:=by
 unfold gFn at h
 split at h
 ·obtain ⟨e,h⟩:=cU h; cases h; subst e; rfl
 ·cases h
theorem Ju {n off:Nat} {d:DV E} {x:Unit} (h:Ll n off d=some x):DV.ptr n off=d:=by
 unfold Ll at h
 split at h
 ·obtain ⟨⟨e,e'⟩,h⟩:=cU h; subst e; subst e'; rfl
 ·cases h
theorem H5 {n:Nat} {d:DV E} {x:Unit} (h:Hy n d=some x):DV.rowp n=d:=by
 unfold Hy at h
 split at h
 ·obtain ⟨e,h⟩:=cU h; cases h; subst e; rfl
 ·cases h
theorem Ic {n:Nat} {d:DV E} {x:Nat} (h:G7 n d=some x):DV.rowv n x=d:=by
 unfold G7 at h
 split at h
 ·obtain ⟨e,h⟩:=cU h; cases h; subst e; rfl
 ·cases h
theorem Ka {e:TypeId} {k:K} {d:DV E} {x:List (E k)} (h:LY T e k d=some x):DV.row e k x=d:=by
 unfold LY at h
 split at h
 ·obtain ⟨e,h2⟩:=cU h; obtain ⟨e',he⟩:=fA h2; subst e; subst e'; rw [he]
 ·cases h
theorem Jb {n:Nat} {k:K} {d:DV E} {x:List (E k)} (h:KX T n k d=some x):DV.arr n k x=d:=by
 unfold KX at h
 split at h
 ·obtain ⟨e,h2⟩:=cU h; obtain ⟨e',he⟩:=fA h2; subst e; subst e'; rw [he]
 ·cases h
theorem Hn {j:Nat} {d:DV E} {x:Unit} (h:Hq j d=some x):DV.argp j=d:=by
 unfold Hq at h
 split at h
 ·obtain ⟨e,h⟩:=cU h; cases h; subst e; rfl
 ·cases h
theorem II {d:DV E} {x:Unit} (h:IU d=some x):DV.junk=d:=by
 unfold IU at h
 split at h
 ·cases h; rfl
 ·cases h
theorem Js {k:K} {d:DV E} {x:E k} (h:LI T k d=some x):DV.any k x=d:=by
 unfold LI at h
 split at h
 ·unfold KP at h
  split at h
  ·rename_i e _
   cases h
   subst e
   rfl
  ·cases h
 ·cases h
theorem S0.mR {s:S0 K} {d:DV E} {x:s.ty E} (h:s.rd T d=some x):s.abs x=d:=by
 cases s with
 | int k=>exact I4 h
 | bool=>exact GH h
 | str=>exact Jg h
 | slc k=>exact Kv h
 | nilp=>exact HR h
 | nili=>exact Ip h
 | nils=>exact Hv h
 | fn f=>exact KV h
 | ptr n off=>exact Ju h
 | rowp n=>exact H5 h
 | rowv n=>exact Ic h
 | row e k=>exact Ka h
 | argp j=>exact Hn h
 | junk=>exact II h
 | arr n k=>exact Jb h
 | any k=>exact Js h
theorem lq : ∀ {ss:List (S0 K)} {ds:List (DV E)} {x:tyL E ss},rdL T ss ds=some x→iV ss x=ds
 | [],[],x,h=>rfl
 | [],d :: ds,x,h=>by simp [rdL] at h
 | s :: r,[],x,h=>by simp [rdL] at h
 | s :: r,d :: ds,x,h=>by
  simp only [rdL] at h
  obtain ⟨y,hy,h⟩:=Option.bind_eq_some_iff.1 h
  obtain ⟨z,hz,h⟩:=Option.bind_eq_some_iff.1 h
  cases h
  simp only [iV,S0.mR hy,lq hz]
theorem Er {d:DV E} {x:List (DV E)} (h:JH d=some x):DV.agg x=d:=by
 unfold JH at h
 split at h
 ·cases h; rfl
 ·cases h
theorem J6 {t:TypeId} {d:DV E} {x:List (DV E)} (h:KW t d=some x):DV.pin t x=d:=by
 unfold KW at h
 split at h
 ·obtain ⟨e,h⟩:=cU h; cases h; subst e; rfl
 ·cases h
theorem GA {t:TypeId} {d:DV E} {x:List (DV E)} (h:HE t d=some x):DV.newb t x=d:=by
 unfold HE at h
 split at h
 ·obtain ⟨e,h⟩:=cU h; cases h; subst e; rfl
 ·cases h
theorem Ec {t:TypeId} {d x:DV E} (h:I9 t d=some x):DV.ifc t x=d:=by
 unfold I9 at h
 split at h
 ·obtain ⟨e,h⟩:=cU h; cases h; subst e; rfl
 ·cases h
theorem Ez {d:DV E} {x:List (DV E)} (h:JJ d=some x):DV.shp x=d:=by
 unfold JJ at h
 split at h
 ·cases h; rfl
 ·cases h
theorem Jc {d:DV E} {x:Bool×List (DV E)} (h:LP d=some x):DV.opt x.1 x.2=d:=by
 unfold LP at h
 split at h
 ·cases h; rfl
 ·cases h
theorem Ee : ∀ {sss:List (List (S0 K))} {ds:List (DV E)} {x:IL E sss},F4 T sss ds=some x→Eu sss x=ds
 | [],[],x,h=>rfl
 | [],d :: ds,x,h=>by simp [F4] at h
 | s :: r,[],x,h=>by simp [F4] at h
 | s :: r,d :: ds,x,h=>by
  simp only [F4] at h
  obtain ⟨y,hy,h⟩:=Option.bind_eq_some_iff.1 h
  obtain ⟨cs,h1,hy⟩:=Option.bind_eq_some_iff.1 hy
  obtain ⟨z,hz,h⟩:=Option.bind_eq_some_iff.1 h
  cases h
  simp only [Eu,lq hy,Ee hz,Ez h1]
theorem JA {f:FuncId} {d:DV E} {x:List (DV E)} (h:LL f d=some x):DV.fn f x=d:=by
 unfold LL at h
 split at h
 ·obtain ⟨e,h⟩:=cU h; cases h; subst e; rfl
 ·cases h
theorem S1.mR {s:S1 K} {d:DV E} {x:s.ty E} (h:s.rd T d=some x):s.abs T x=d:=by
 cases s with
 | a s=>exact S0.mR h
 | elt k=>cases h
 | eptr k off=>cases h
 | agg ss=>obtain ⟨cs,h1,h⟩:=Option.bind_eq_some_iff.1 h; rw [← Er h1]; exact congrArg _ (lq h)
 | pin t ss=>obtain ⟨cs,h1,h⟩:=Option.bind_eq_some_iff.1 h; rw [← J6 h1]; exact congrArg _ (lq h)
 | newb t ss=>obtain ⟨cs,h1,h⟩:=Option.bind_eq_some_iff.1 h; rw [← GA h1]; exact congrArg _ (lq h)
 | ifc t s=>obtain ⟨cs,h1,h⟩:=Option.bind_eq_some_iff.1 h; rw [← Ec h1]; exact congrArg _ (S0.mR h)
 | ifcA t ss =>
  obtain ⟨d',h1,h⟩:=Option.bind_eq_some_iff.1 h
  obtain ⟨cs,h2,h⟩:=Option.bind_eq_some_iff.1 h
  rw [← Ec h1, ← Er h2]
  exact congrArg (fun q=>DV.ifc _ (.agg q)) (lq h)
 | shp ss=>obtain ⟨cs,h1,h⟩:=Option.bind_eq_some_iff.1 h; rw [← Ez h1]; exact congrArg _ (lq h)
 | opt ss =>
  obtain ⟨q,h1,h⟩:=Option.bind_eq_some_iff.1 h
  obtain ⟨y,h2,h⟩:=Option.bind_eq_some_iff.1 h
  cases h
  rw [← Jc h1]
  exact congrArg (DV.opt q.1) (lq h2)
 | fnc f sss=>obtain ⟨cs,h1,h⟩:=Option.bind_eq_some_iff.1 h; rw [← JA h1]; exact congrArg _ (Ee h)
theorem SB.mR {s:SB K} {b:Box E} {x:s.ty E} (h:s.rd T b=some x):s.abs x=b:=by
 cases s <;> cases b <;> simp only [SB.rd] at h <;> first | (cases h; done) | skip
 case cells.cells=>obtain ⟨e,h⟩:=cU h; subst e; exact congrArg _ (lq h)
 case row.row =>
  obtain ⟨e,h⟩:=cU h
  subst e
  obtain ⟨e,he⟩:=fA h
  subst e
  rw [he]
  rfl
 case siter.siter=>cases h; rfl
 case arr.arr =>
  obtain ⟨⟨e,e'⟩,h⟩:=cU h
  subst e; subst e'
  obtain ⟨e,he⟩:=fA h
  subst e
  rw [he]
  rfl
theorem I8 {s:S1 K} {x:s.ty E} : ∀ n i cs off,s.abs T x ≠ .rptr n i cs off:=by
 intro n i cs off
 cases s with
 | a s=>cases s <;> simp [S1.abs,S0.abs]
 | _=>simp [S1.abs]
theorem Da {st:St E} : ∀ {its:List (It K)} {x:tyI E its},rdI T st its=some x →
  (kx T st.tmps.length its x).tmps.length=st.tmps.length∧names (kx T st.tmps.length its x).mem=mS its ∧
  (∀ i (hi:i<st.tmps.length) (hi':i<(kx T st.tmps.length its x).tmps.length),(kx T st.tmps.length its x).tmps[i] = .junk∨((kx T st.tmps.length its x).tmps[i]=st.tmps[i] ∧ ∀ n j cs off,st.tmps[i] ≠ .rptr n j cs off)) ∧
  ∀ n b,(n,b)∈(kx T st.tmps.length its x).mem→(n,b)∈st.mem
 | [],x,h=>⟨by simp [kx],rfl,fun i hi hi' => .inl (by simp [kx]),fun n b hm=>by simp [kx] at hm⟩
 | .tmp t s :: r,x,h=>by
  simp only [rdI,It.rd] at h
  obtain ⟨y,hy,h⟩:=Option.bind_eq_some_iff.1 h
  obtain ⟨z,hz,h⟩:=Option.bind_eq_some_iff.1 h
  cases h
  obtain ⟨h1,h2,h3,h4⟩:=Da hz
  refine ⟨by simp [kx,It.abs,h1],by simp [kx,It.abs,mS,h2],fun i hi hi' => ?_,fun n b hm=>h4 n b (by simpa [kx,It.abs] using hm)⟩
  simp only [kx,It.abs] at hi' ⊢
  by_cases hit:t=i
  ·subst hit
   simp only [List.getElem_set_self]
   have:=S1.mR hy
   rw [dU _ _ _ hi] at this
   refine .inr ⟨this,fun n j cs off e => ?_⟩
   rw [e] at this
   exact I8 n j cs off this
  ·simp only [List.getElem_set_ne hit]
   exact h3 i hi (by simpa using hi')
 | .box n b :: r,x,h=>by
  simp only [rdI,It.rd] at h
  obtain ⟨y,hy,h⟩:=Option.bind_eq_some_iff.1 h
  obtain ⟨z,hz,h⟩:=Option.bind_eq_some_iff.1 h
  cases h
  obtain ⟨b0,hl,hb⟩:=Option.bind_eq_some_iff.1 hy
  obtain ⟨h1,h2,h3,h4⟩:=Da hz
  refine ⟨h1,by simp only [kx,It.abs,names,List.map_cons,mS]; exact congrArg _ h2,h3,fun n' b' hm => ?_⟩
  simp only [kx,It.abs,List.mem_cons] at hm
  rcases hm with hm | hm
  ·cases hm
   rw [SB.mR hb]
   exact bE hl
  ·exact h4 _ _ hm
section
variable {w0:World} {G:GP}
theorem sZ {nt:Nat} {ss:SS K} {st:St E} {x:tyI E ss.its} (h:rdS T nt ss st=some x) {a:Act} {w:World} {g:Gh} (hi:Inv T w0 G st a w g) : ∃ g',Inv T w0 G (kx T nt ss.its x) a w g':=by
 unfold rdS at h
 split at h
 ·rename_i hc
  obtain ⟨hl,hn⟩:=hc
  have hf0:=mc hi ss.frz
  obtain ⟨g',hf⟩:=zt ss.co hf0
  have hlen:(A4 T ss.co (forget ss.frz st)).tmps.length=nt:=by
   rw [A5]
   unfold forget; split
   ·exact hl
   ·simpa using hl
  subst hlen
  obtain ⟨h1,h2,h3,h4⟩:=Da h
  refine ⟨g',hf.Mp ⟨h1,by rw [h2]; exact iP hn,fun i hi hi' => ?_,fun n b hm=>⟨b,h4 n b hm, .same b⟩⟩⟩
  rcases h3 i hi hi' with h5 | ⟨h5,h6⟩
  ·rw [h5]; exact .junk _
  ·rw [h5]; exact .same _ (fun n j cs off e=>absurd e (h6 n j cs off))
 ·cases h
theorem rm {nt:Nat} : ∀ {x:Ex×SS K} {l:List (Ex×SS K)} {e:Ex} {st:St E} {t:FG E x l},qx T nt x l e st=some t →
  ∃ st',(∀ (γ:Type) (k:Ex→St E→γ),mC T nt x l t k=k e st') ∧ ∀ a w g,Inv T w0 G st a w g → ∃ g',Inv T w0 G st' a w g'
 | x,[],e,st,t,h=>by
  simp only [qx] at h
  obtain ⟨he,h⟩:=cU h
  exact ⟨_,fun γ k=>by simp only [mC,he],fun a w g hi=>sZ h hi⟩
 | x,y :: r,e,st,t,h=>by
  simp only [qx] at h
  split at h
  ·rename_i he
   obtain ⟨v,hv,h⟩:=Option.bind_eq_some_iff.1 h
   cases h
   exact ⟨_,fun γ k=>by simp only [mC,he],fun a w g hi=>sZ hv hi⟩
  ·obtain ⟨v,hv,h⟩:=Option.bind_eq_some_iff.1 h
   cases h
   obtain ⟨st',h1,h2⟩:=rm hv
   exact ⟨st',fun γ k=>by simp only [mC]; exact h1 γ k,h2⟩
/-! ### the run -/
def Ex.ex:Ex→Exit
 | .norm => .normal
 | .exit i => .exit i
 | .ret => .ret
variable (T P w0 G) in
def EO (J:List Nat) (c:Code) (st:St E) (e:Ex) (st':St E):Prop :=
 ∀ a w g,Inv T w0 G st a w g→c.wp P (fun e' a' w'=>e'=e.ex ∧ ∃ g',Inv T w0 G st' a' w' g'∧lV J a a') a w
def Ci (J:List Nat) (o:Oper):Bool:=match o.dst with
 | some d => !J.contains d
 | none=>true
def nw (J:List Nat):Code→Bool
 | .region _ ops _=>ops.toList.all (Ci J)
 | .seq x y | .cond _ x y=>nw J x && nw J y
 | .block _ b | .loop b=>nw J b
 | _=>true
theorem tZ {J:List Nat} {ops:Array Oper} (h:ops.toList.all (Ci J)=true) (i:Nat) (o:Oper) (ho:ops[i]? = some o) (d:Nat) (hd:o.dst=some d):d ∉ J:=by
 have:=List.all_eq_true.1 h o (by simpa using Array.mem_of_getElem? ho)
 unfold Ci at this
 rw [hd] at this
 simpa using this
variable (P) in
def qZ (c:Code) (Q:Exit→Act→World→Prop) (a:Act) (w:World):Prop :=
 ∀ (b:Frame) (k:List Item) (cs:List Frame), ∃ e a' w',Q e a' w'∧Arrives P (lone (b.at a (.code c :: .inLoop c :: k)) cs w) b k cs e a' w'
theorem ze {c:Code} {Q:Exit→Act→World→Prop} {a:Act} {w:World} (h:qZ P c Q a w):(Code.loop c).wp P Q a w:=by
 intro b k cs
 obtain ⟨e,a',w',hq,harr⟩:=h b k cs
 exact ⟨e,a',w',hq, .of_steps (.one step_loop) harr⟩
theorem Bz {c:Code} {Q Q':Exit→Act→World→Prop} {a:Act} {w:World} (h:qZ P c Q a w) (hq : ∀ e a w,Q e a w→Q' e a w):qZ P c Q' a w :=
 fun b k cs=>let ⟨e,a',w',q,r⟩:=h b k cs; ⟨e,a',w',hq _ _ _ q,r⟩
theorem rG {c:Code} {Q:Exit→Act→World→Prop} {a:Act} {w:World} (h:c.wp P (Exit.then (qZ P c Q) Q) a w):qZ P c Q a w:=by
 intro b k cs
 obtain ⟨e,a₁,w₁,hq,harr⟩:=h b (.inLoop c :: k) cs
 cases e with
 | normal =>
  obtain ⟨e₂,a₂,w₂,hq₂,harr₂⟩:=hq b k cs
  exact ⟨e₂,a₂,w₂,hq₂, .of_steps (Steps.trans harr (.one step_inLoop)) harr₂⟩
 | exit id=>exact ⟨_,a₁,w₁,hq, .pass (x := .inLoop c) rfl (fun _ _ => .inl (by simp)) harr⟩
 | goto l=>exact ⟨_,a₁,w₁,hq, .pass (x := .inLoop c) rfl (fun _ _ => .inl (by simp)) harr⟩
 | ret=>exact ⟨_,a₁,w₁,hq, .pass (x := .inLoop c) rfl (fun _ _ => .inl (by simp)) harr⟩
 | panic ch=>exact ⟨_,a₁,w₁,hq, .pass (x := .inLoop c) rfl (fun _ _ => .inl (by simp)) harr⟩
 | outgrown=>exact ⟨_,a₁,w₁,hq, .pass (x := .inLoop c) rfl (fun _ _ => .inl (by simp)) harr⟩
theorem FY {st:St E} {a:Act} {w:World} {g:Gh} (h:Inv T w0 G st a w g) (n:Nat):Inv T w0 G st a { w with drawn:=n } g :=
 h.grow (w':={ w with drawn:=n }) ⟨rfl,rfl,rfl,Nat.le_refl _,fun _ _ _=>rfl⟩ none .junk undef (Rep.junk _).toT (fun _ _ _ _ e=>by cases e)
theorem tL {st:St E} {a:Act} {w:World} {g:Gh} (h:Inv T w0 G st a w g) {c:Operand} {b:Bool} (hc:st.ev c = .bool b):a.eval c = .bool b:=by
 have:=h.ev c
 rw [hc] at this
 exact jL this
variable {env:Env E} {pl:K0 K} {F:Nat} {J:List Nat}
theorem EG [hgl:ux T w0 G] (henv : ∀ f,Ctr T P f (env f)) {ops:Array Oper} (hJ : ∀ (i:Nat) (o:Oper),ops[i]? = some o → ∀ d,o.dst=some d→d ∉ J) {β:Type} : ∀ (cuts:List (Nat×SS K)) (l:List Nat) (st:St E) (k:St E→Option β) (r:β),
  uF T P env pl ops cuts l st k=some r → ∃ st',k st'=some r ∧ ∀ (Q:Exit→Act→World→Prop) (a:Act) (w:World) (g:Gh),Inv T w0 G st a w g →
   (∀ a' w' g',Inv T w0 G st' a' w' g'→lV J a a'→Q .normal a' w')→wpOps P ops Q l a w
 | [],l,st,k,r,h=>by
  obtain ⟨rs,st',h1,h2,h3,h4⟩:=ki _ _ _ _ _ (fun a ha=>by cases ha) h
  refine ⟨st',h3,fun Q a w g hi hn => ?_⟩
  rw [← h1, ← List.append_nil (rs.map (·.i))]
  exact zA (T:=T) (env:=env) (orc:=pl.orc) (w0:=w0) (G:=G) henv hJ rs _ st' a w g hi h2 [] fun a' w' g' hi' hk=>by simpa [wpOps] using hn a' w' g' hi' hk
 | (c,ss) :: cuts,l,st,k,r,h=>by
  simp only [uF] at h
  obtain ⟨x,hx,h⟩:=Option.bind_eq_some_iff.1 h
  obtain ⟨rs,st1,h1,h2,h3,h4⟩:=ki _ _ _ _ _ (fun a ha=>by cases ha) hx
  obtain ⟨st',hk,hw⟩:=EG henv hJ cuts (l.drop c) _ k r h
  refine ⟨st',hk,fun Q a w g hi hn => ?_⟩
  rw [← List.take_append_drop c l, ← h1]
  exact zA (T:=T) (env:=env) (orc:=pl.orc) (w0:=w0) (G:=G) henv hJ rs _ st1 a w g hi h2 _ fun a' w' g' hi' hkp=>by
   obtain ⟨g1,hi1⟩:=sZ h3 hi'
   exact hw Q a' w' g1 hi1 fun a2 w2 g2 hi2 hk2=>hn a2 w2 g2 hi2 (hkp.trans hk2)
theorem Gi [hgl:ux T w0 G] (henv : ∀ f,Ctr T P f (env f)) (hm:P.follows .mixedOrders=true) {β:Type} {id:Nat} {ops:Array Oper} {draw:Bool} {l:Nat} {st:St E} {k:Ex→St E→Option β} {r:β}
  (hJ:nw J (.region id ops draw)=true) (h:mE T P env pl F (.region id ops draw) l st k=some r) : ∃ e st',k e st'=some r∧EO T P w0 G J (.region id ops draw) st e st':=by
 simp only [mE] at h
 cases draw with
 | true =>
  simp only [if_true] at h
  split at h
  ·rename_i hb
   have key : ∀ {γ:Type} (K:St E→Option γ) (y:γ),oE T P env pl.orc ops (some (Ca ops)) (List.range ops.size) [] (forget ((assoc pl.frz id).getD []) st) K=some y →
     ∃ st',K st'=some y∧EO T P w0 G J (.region id ops true) st .norm st':=by
    intro γ K y h
    obtain ⟨rs,st',h1,h2,h3,h4⟩:=ki _ _ _ _ _ (fun a ha=>by cases ha) h
    refine ⟨st',h3,fun a w g hi=>wp_region_any hm ?_⟩
    refine LA (T:=T) (env:=env) (orc:=pl.orc) (w0:=w0) (G:=G) henv hb (tZ hJ) (st':=st') (a0:=a) (fun a w g hi hk=>⟨rfl,g,hi,hk⟩) _ _ rs _ a _ g (FY (mc hi _) _) (lV.refl J a) h2 ?_ (by simp) ?_ (h4 _ rfl).2 ?_
    ·rw [h1]; symm
     rw [List.filter_eq_self]
     intro j hj
     simp [List.mem_range.1 hj]
    ·intro i o e ho he hbi hl
     by_cases hi:i<ops.size
     ·simp [hi] at hl
     ·simp [Nat.le_of_not_lt hi] at hl
    ·have:=congrArg List.length h1
     simp at this
     omega
   split at h
   ·obtain ⟨st',h1,h2⟩:=key _ _ h
    exact ⟨.norm,st',h1,h2⟩
   ·rename_i ss _
    obtain ⟨x,hx,h⟩:=Option.bind_eq_some_iff.1 h
    obtain ⟨st',h1,h2⟩:=key _ _ hx
    refine ⟨.norm,_,h,fun a w g hi=>wp_mono (h2 a w g hi) ?_⟩
    rintro e' a' w' ⟨rfl,g',hi',hk'⟩
    obtain ⟨g1,hi1⟩:=sZ h1 hi'
    exact ⟨rfl,g1,hi1,hk'⟩
  ·cases h
 | false =>
  simp only [Bool.false_eq_true,if_false] at h
  obtain ⟨st',h3,hw⟩:=EG (w0:=w0) (G:=G) henv (tZ hJ) _ _ _ _ _ h
  exact ⟨.norm,st',h3,fun a w g hi=>wp_region (hw _ a w g (mc hi _) fun a w g hi hk=>⟨rfl,g,hi,hk⟩)⟩
theorem Ja [hgl:ux T w0 G] (henv : ∀ f,Ctr T P f (env f)) (hm:P.follows .mixedOrders=true) : ∀ (c:Code),nw J c=true → ∀ (l:Nat) (st:St E) (β:Type) (k:Ex→St E→Option β) (r:β),mE T P env pl F c l st k=some r →
  ∃ e st',k e st'=some r∧EO T P w0 G J c st e st':=by
 intro c
 induction c with
 | skip=>intro hJ l st β k r h; exact ⟨.norm,st,h,fun a w g hi=>wp_skip ⟨rfl,g,hi,lV.refl J a⟩⟩
 | region id ops draw=>intro hJ l st β k r h; exact Gi henv hm hJ h
 | seq x y ihx ihy =>
  intro hJ l st β k r h
  simp only [nw,Bool.and_eq_true] at hJ
  simp only [mE] at h
  obtain ⟨e,st1,hk,hg⟩:=ihx hJ.1 _ _ _ _ _ h
  cases e with
  | norm =>
   obtain ⟨e2,st2,hk2,hg2⟩:=ihy hJ.2 _ _ _ _ _ hk
   refine ⟨e2,st2,hk2,fun a w g hi=>wp_seq (wp_mono (hg a w g hi) ?_)⟩
   rintro e a' w' ⟨rfl,g',hi',hk'⟩
   exact wp_mono (hg2 a' w' g' hi') fun e a w ⟨h1,g2,h2,h3⟩=>⟨h1,g2,h2,hk'.trans h3⟩
  | exit j =>
   refine ⟨.exit j,st1,hk,fun a w g hi=>wp_seq (wp_mono (hg a w g hi) ?_)⟩
   rintro e a' w' ⟨rfl,g',hi',hk'⟩
   exact ⟨rfl,g',hi',hk'⟩
  | ret =>
   refine ⟨.ret,st1,hk,fun a w g hi=>wp_seq (wp_mono (hg a w g hi) ?_)⟩
   rintro e a' w' ⟨rfl,g',hi',hk'⟩
   exact ⟨rfl,g',hi',hk'⟩
 | cond c x y ihx ihy =>
  intro hJ l st β k r h
  simp only [nw,Bool.and_eq_true] at hJ
  simp only [mE] at h
  split at h
  ·rename_i b hb
   have hite : ∀ (β:Type) (k:Ex→St E→Option β) (r:β),(if b=true then mE T P env pl F x l st k else mE T P env pl F y l st k)=some r → ∃ e st',k e st'=some r∧EO T P w0 G J (.cond c x y) st e st':=by
    intro β k r h
    cases b with
    | true =>
     obtain ⟨e,st',h1,h2⟩:=ihx hJ.1 _ _ _ _ _ (by simpa using h)
     exact ⟨e,st',h1,fun a w g hi=>wp_cond_true (tL hi hb) (h2 a w g hi)⟩
    | false =>
     obtain ⟨e,st',h1,h2⟩:=ihy hJ.2 _ _ _ _ _ (by simpa using h)
     exact ⟨e,st',h1,fun a w g hi=>wp_cond_false (tL hi hb) (h2 a w g hi)⟩
   split at h
   ·exact hite _ _ _ h
   ·rename_i hd tl _
    obtain ⟨t,ht,h⟩:=Option.bind_eq_some_iff.1 h
    obtain ⟨e,st1,h1,h2⟩:=hite _ _ _ ht
    obtain ⟨st2,h3,h4⟩:=rm (w0:=w0) (G:=G) h1
    rw [h3] at h
    refine ⟨e,st2,h,fun a w g hi=>wp_mono (h2 a w g hi) ?_⟩
    rintro e' a' w' ⟨rfl,g',hi',hk'⟩
    obtain ⟨g1,hi1⟩:=h4 _ _ _ hi'
    exact ⟨rfl,g1,hi1,hk'⟩
  ·cases h
 | block id body ih =>
  intro hJ l st β k r h
  simp only [mE] at h
  have out : ∀ (e:Ex) (st1:St E),EO T P w0 G J body st e st1→EO T P w0 G J (.block id body) st (vH id e) st1:=by
   intro e st1 hg a w g hi
   refine wp_block (wp_mono (hg a w g hi) ?_)
   rintro e' a' w' ⟨rfl,g',hi',hk'⟩
   cases e with
   | norm=>exact ⟨rfl,g',hi',hk'⟩
   | ret=>exact ⟨rfl,g',hi',hk'⟩
   | exit j =>
    by_cases hj:j=id
    ·simp only [vH,hj,if_true,Ex.ex,Exit.inBlock]
     exact ⟨trivial,g',hi',hk'⟩
    ·simp only [vH,hj,if_false,Ex.ex,Exit.inBlock]
     exact ⟨trivial,g',hi',hk'⟩
  split at h
  ·obtain ⟨e,st1,hk,hg⟩:=ih hJ _ _ _ _ _ h
   exact ⟨vH id e,st1,hk,out e st1 hg⟩
  ·rename_i hd tl _
   obtain ⟨t,ht,h⟩:=Option.bind_eq_some_iff.1 h
   obtain ⟨e,st1,h1,h2⟩:=ih hJ _ _ _ _ _ ht
   obtain ⟨st2,h3,h4⟩:=rm (w0:=w0) (G:=G) h1
   rw [h3] at h
   refine ⟨vH id e,st2,h,fun a w g hi=>wp_mono (out e st1 h2 a w g hi) ?_⟩
   rintro e' a' w' ⟨rfl,g',hi',hk'⟩
   obtain ⟨g1,hi1⟩:=h4 _ _ _ hi'
   exact ⟨rfl,g1,hi1,hk'⟩
 | loop body ih =>
  intro hJ l st β k r h
  simp only [mE] at h
  split at h
  ·cases h
  ·rename_i ss hd tl _
   obtain ⟨x,hx,h⟩:=Option.bind_eq_some_iff.1 h
   obtain ⟨y,hy,h⟩:=Option.bind_eq_some_iff.1 h
   have key : ∀ (n:Nat) (x:tyI E ss.its) (y:FG E hd tl),bh (fun x=>mE T P env pl F body l (kx T pl.nt ss.its x) fun e st'=>match e with
     | .norm=>(rdS T pl.nt ss st').bind fun v=>some (Sum.inl v)
     | e=>(qx T pl.nt hd tl e st').bind fun v=>some (Sum.inr v)) n x=some y →
     ∃ e st',(∀ (γ:Type) (k:Ex→St E→γ),mC T pl.nt hd tl y k=k e st') ∧ ∀ a w g,Inv T w0 G (kx T pl.nt ss.its x) a w g→qZ P body (fun e' a' w'=>e'=e.ex ∧ ∃ g',Inv T w0 G st' a' w' g'∧lV J a a') a w:=by
    intro n
    induction n with
    | zero=>intro x y h; cases h
    | succ n ihn =>
     intro x y h
     simp only [bh] at h
     obtain ⟨q,hq,h⟩:=Option.bind_eq_some_iff.1 h
     obtain ⟨e1,st1,hk1,hg1⟩:=ih hJ _ _ _ _ _ hq
     have other:e1 ≠ .norm→((qx T pl.nt hd tl e1 st1).bind fun v=>some (Sum.inr v:tyI E ss.its ⊕ FG E hd tl))=some q → ∃ e st',(∀ (γ:Type) (k:Ex→St E→γ),mC T pl.nt hd tl y k=k e st') ∧ ∀ a w g,Inv T w0 G (kx T pl.nt ss.its x) a w g→qZ P body (fun e' a' w'=>e'=e.ex ∧ ∃ g',Inv T w0 G st' a' w' g'∧lV J a a') a w:=by
      intro hne hk
      obtain ⟨v,hv,hk⟩:=Option.bind_eq_some_iff.1 hk
      cases hk
      cases h
      obtain ⟨st2,h3,h4⟩:=rm (w0:=w0) (G:=G) hv
      refine ⟨e1,st2,h3,fun a w g hi=>rG (wp_mono (hg1 a w g hi) ?_)⟩
      rintro e' a' w' ⟨rfl,g',hi',hk'⟩
      obtain ⟨g1,hi1⟩:=h4 _ _ _ hi'
      cases e1 with
      | norm=>exact absurd rfl hne
      | exit j=>exact ⟨rfl,g1,hi1,hk'⟩
      | ret=>exact ⟨rfl,g1,hi1,hk'⟩
     cases e1 with
     | norm =>
      simp only at hk1
      obtain ⟨v,hv,hk1⟩:=Option.bind_eq_some_iff.1 hk1
      cases hk1
      obtain ⟨e,st',h1,h2⟩:=ihn v y h
      refine ⟨e,st',h1,fun a w g hi=>rG (wp_mono (hg1 a w g hi) ?_)⟩
      rintro e' a' w' ⟨rfl,g',hi',hk'⟩
      obtain ⟨g1,hi1⟩:=sZ hv hi'
      exact Bz (h2 a' w' g1 hi1) fun e a w ⟨q1,g2,q2,q3⟩=>⟨q1,g2,q2,hk'.trans q3⟩
     | exit j=>exact other (by simp) hk1
     | ret=>exact other (by simp) hk1
   obtain ⟨e,st',h1,h2⟩:=key F x y hy
   rw [h1] at h
   refine ⟨e,st',h,fun a w g hi => ?_⟩
   obtain ⟨g1,hi1⟩:=sZ hx hi
   exact ze (h2 a w g1 hi1)
 | exit id=>intro hJ l st β k r h; exact ⟨.exit id,st,h,fun a w g hi=>wp_exit ⟨rfl,g,hi,lV.refl J a⟩⟩
 | ret=>intro hJ l st β k r h; exact ⟨.ret,st,h,fun a w g hi=>wp_ret ⟨rfl,g,hi,lV.refl J a⟩⟩
 | _=>intro hJ l st β k r h; simp [mE] at h
end
end Go.Vm
/- The abstract value machine: how a function begins and ends. -/
namespace Go.Vm
open Go.Lib
set_option linter.unusedVariables false
variable {K:Type} {E:K→Type}
variable {T:Tab E} {P:Program}
/-! ### the beginning -/
def kD:DV E→DV E
 | .pin t cs => .newb t cs
 | .newb t cs=>match cs with
  | [d]=>d
  | cs => .newb t cs
 | d=>d
def st0 (nt:Nat) (ds:List (DV E)):St E :=
 ⟨(cd 1 [] (ds.map kD)).1 ++ List.replicate (nt - ds.length) .junk,(cd 1 [] (ds.map kD)).2⟩
/-! ### the end -/
def fu (mem:Mem E) (nm:List (Nat×Nat)) (d:DV E):DV E×List Nat :=
 match d with
 | .ptr n 0=>match assoc nm n with
  | some j=>(.argp j,[])
  | none=>match look mem n with
   | some (.cells t cs)=>(.newb t (cs.map (jk n mem)),n :: cs.flatMap (dE mem))
   | _=>(.junk,[])
 | .rowv _ _=>(.junk,[])
 | d=>(bS mem .give d,hT mem .give d)
def l7 (mem:Mem E) (tmps:List (DV E)):Nat→List (DV E)→Option (List (Nat×Nat)×List (List (DV E))×List Nat)
 | _,[]=>some ([],[],[])
 | j,d :: r=>match d with
  | .pin t _=>match tmps.getD j .junk with
   | .ptr n 0=>match look mem n with
    | some (.cells t' cs)=>if t'=t then (l7 mem tmps (j+1) r).bind fun q=>some ((n,j) :: q.1,cs.map (jk n mem) :: q.2.1,(n :: cs.flatMap (dE mem)) ++ q.2.2) else none
    | _=>none
   | _=>none
  | .newb _ _=>match tmps.getD j .junk with
   | .rowp n=>match look mem n with
    | some (.row e k l)=>(l7 mem tmps (j+1) r).bind fun q=>some (q.1,[.row e k l] :: q.2.1,n :: q.2.2)
    | _=>none
   | _=>none
  | _=>l7 mem tmps (j+1) r
def zU (ts:List Nat) (ds:List (DV E)) (st:St E):Option (Res E) :=
 (l7 st.mem st.tmps 0 ds).bind fun q =>
  if nodupB ((ts.flatMap fun t=>(fu st.mem q.1 (st.tmps.getD t .junk)).2) ++ q.2.2)=true then
   some ⟨match ts with
    | [t]=>(fu st.mem q.1 (st.tmps.getD t .junk)).1
    | ts => .tup (ts.map fun t=>(fu st.mem q.1 (st.tmps.getD t .junk)).1),q.2.1⟩
  else none
def tz (T:Tab E) (P:Program) {β:Type}:List (Nat×Option TypeId)→St E→List (DV E)→(St E→Option β)→Option β
 | [],st,acc,K=>K ⟨st.tmps ++ acc,st.mem⟩
 | (t,none) :: r,st,acc,K=>if (ct (st.tmps.getD t .junk)).isSome then none else tz T P r st (acc ++ [st.tmps.getD t .junk]) K
 | (ad,some ty) :: r,st,acc,K=>(yp T P ty (st.tmps.getD ad .junk) st.mem).run fun o=>tz T P r st (acc ++ [o.v]) K
def zp (T:Tab E) (P:Program) {β:Type} (nt:Nat) (rc:List (Nat×Option TypeId)) (st:St E) (K:St E→Option β):Option β:=match rc with
 | []=>K st
 | x :: r=>if st.tmps.length=nt then tz T P (x :: r) st [] K else none
section
variable {w:World} {Y:Nat→Prop} {bl:List Nat}
theorem JB {args:List Value} {d:DV E} {v:Value} {b:List Nat} (h:Own T w Y d v b):Ans T w Y args (kD d) v b:=by
 cases h with
 | pin h=>exact .newb h
 | lend h=>exact .c (.row h)
 | c h =>
  have:kD d=d:=by
   cases h with
   | sh hr hs=>cases d <;> first | rfl | (simp [DV.share,DV.lay,DV.plain] at hs; done)
   | _=>rfl
  rw [this]
  exact .c h
theorem Aa {t:TypeId} {cs:List (DV E)} {v:Value} {b:List Nat} (h:Own T w Y (.pin t cs) v b):mn T w Y t cs v b:=by
 cases h with
 | pin h=>exact h
 | c h=>cases h with
  | sh hr hs=>simp [DV.share,DV.lay,DV.plain] at hs
theorem Ba {R:DV E→Value→List Nat→Prop} {ds:List (DV E)} {vs:List Value} {bl:List Nat} (h:fC R ds vs bl):ds.length=vs.length:=by
 induction h with
 | nil=>rfl
 | cons _ _ ih=>simp [ih]
def Ad (w:World) (Y:Nat→Prop) (bl:List Nat):Gh:=⟨fun _=>undef,fun b=>b<w.heap.size ∧ ¬ Y b∧b ∉ bl⟩
theorem IX {nt:Nat} {ds:List (DV E)} {vs:Array Value} (h:fC (Own T w Y) ds vs.toList bl) (hnd:bl.Nodup) (hY : ∀ b∈bl, ¬ Y b∧b<w.heap.size) (hn:nodupB (names (st0 nt ds).mem)=true) (hlen:ds.length≤nt) :
  ∃ g:Gh,Inv T w ⟨(· ∈ bl),(Ad w Y bl).hid⟩ (st0 nt ds) { tmps:=vs ++ Array.replicate (nt - vs.size) undef,defers := [] } w g:=by
 have hl:=Ba h
 have ha:fC (Ans T w Y []) (ds.map kD) vs.toList bl:=h.map kD fun d v b hd=>JB hd
 obtain ⟨es,e1,e2,e3,e4,e5⟩:=sr [] ha 1
 have hmem:(st0 nt ds).mem=dQ es:=e1.symm
 have hnn:(bt es).Nodup:=by rw [nB, ← hmem]; exact iP hn
 have hnew:eP ([]:Mem E) es [] (bt es)=dQ es:=by
  have:gW ([]:Mem E) (bt es) = []:=by
   generalize bt es=l
   induction l with
   | nil=>rfl
   | cons x l ih=>exact ih
  unfold eP
  rw [this]
  simp [iy]
 have hblk:eD (dQ es) (fI (Ad w Y bl) es)=bl:=by
  have:=ke (g:=Ad w Y bl) (ks := []) (m:=([]:Mem E)) hnn (fun n hn=>hn)
  rw [hnew] at this
  rw [this,e2]
  have:gW ([]:Mem E) (bt es) = []:=by
   generalize bt es=l
   induction l with
   | nil=>rfl
   | cons x l ih=>exact ih
  rw [this]
  simp [eD]
 have hw:mr T w Y (free (dQ es) (fI (Ad w Y bl) es)):=by
  intro b hb hlt
  refine ⟨by rw [hblk]; exact fun hb'=>(hY b hb').1 hb,fun hh => ?_⟩
  exact hh.2.1 hb
 have hag:gA (fI (Ad w Y bl) es) es:=fun x hx=>mN hnn hx
 have e5:=e5 _ _ hw hag (fun j n u hj=>by simp at hj)
 refine ⟨fI (Ad w Y bl) es,rfl,?_,?_,?_,?_,?_,?_,jJ.refl _ _,?_,rfl,?_⟩
 ·simp [st0,e4,hl]
 ·intro i hi
  rw [hmem]
  by_cases hiv:i<vs.toList.length
  ·have hic:i<(cd 1 [] (ds.map kD)).1.length:=by rw [e4]; exact hiv
   have h1:(st0 nt ds).tmps[i]=(cd 1 [] (ds.map kD)).1[i]:=by simp [st0,List.getElem_append_left hic]
   have h2:(vs ++ Array.replicate (nt - vs.size) undef).getD i undef=vs.toList[i]:=by
    have:i<vs.size:=by simpa using hiv
    simp [Array.getElem?_append_left this,this]
   rw [h1,h2]
   exact .of1 (e5 i hic hiv).1
  ·have hic:(cd 1 [] (ds.map kD)).1.length≤i:=by rw [e4]; omega
   have h1:(st0 nt ds).tmps[i] = .junk:=by simp [st0,List.getElem_append_right hic]
   rw [h1]
   exact (Rep.junk _).toT
 ·rw [hmem]; rw [nB] at hnn; exact hnn
 ·rw [hmem,hblk]; exact hnd
 ·intro n bx hm
  rw [hmem] at hm ⊢
  obtain ⟨x,hx,he⟩:=List.mem_map.1 hm
  cases he
  have:=e3 _ _ hw hag x hx
  rw [← hag x hx] at this
  exact this
 ·rw [hmem,hblk]
  exact fun b hb=>⟨(hY b hb).2, .inr hb⟩
 ·intro i hi n j cs off he
  by_cases hiv:i<vs.toList.length
  ·have hic:i<(cd 1 [] (ds.map kD)).1.length:=by rw [e4]; exact hiv
   have h1:(st0 nt ds).tmps[i]=(cd 1 [] (ds.map kD)).1[i]:=by simp [st0,List.getElem_append_left hic]
   have:=(e5 i hic hiv).2
   rw [← h1,he] at this
   simp [DV.noR] at this
  ·have hic:(cd 1 [] (ds.map kD)).1.length≤i:=by rw [e4]; omega
   have h1:(st0 nt ds).tmps[i] = .junk:=by simp [st0,List.getElem_append_right hic]
   rw [h1] at he
   cases he
 ·rintro b ⟨h1,h2,h3⟩
  exact ⟨h1,h3⟩
end
end Go.Vm
/- The abstract value machine: functions keep their contracts. -/
namespace Go.Vm
open Go.Lib
set_option linter.unusedVariables false
variable {K:Type} {E:K→Type}
variable {T:Tab E} {P:Program}
section
variable {w0 w:World} {Y:Nat→Prop} {bl:List Nat} {st:St E} {a:Act} {g:Gh}
theorem xd {mem:Mem E} {nm:List (Nat×Nat)} {d:DV E} {n:Nat} (h:n∈(fu mem nm d).2):n∈names mem:=by
 unfold fu at h
 split at h
 ·rename_i m
  split at h
  ·cases h
  ·split at h
   ·rename_i t cs hl
    have:n∈hT mem .give (.ptr m 0:DV E):=by simpa [hT,hl] using h
    exact pZ this
   ·cases h
 ·cases h
 ·exact pZ (b := .give) (d:=d) h
theorem EN {α:Type} {l:List (Nat×α)} {n:Nat} {x:α} (h:assoc l n=some x):(n,x)∈l:=by
 induction l with
 | nil=>cases h
 | cons y l ih =>
  obtain ⟨k,b⟩:=y
  unfold assoc at h
  split at h
  ·rename_i e; cases h; subst e; exact List.mem_cons_self ..
  ·exact List.mem_cons_of_mem _ (ih h)
theorem CP {G:GP} (h:Inv T w0 G st a w g) {Y':Nat→Prop} (hY : ∀ b,free st.mem g b→Y' b) {args:List Value} {nm:List (Nat×Nat)}
  (hnm : ∀ n j,(n,j)∈nm→args[j]? = some (g n)) {d:DV E} {v:Value} (hd:aB T w (free st.mem g) g d v) :
  Ans T w Y' args (fu st.mem nm d).1 v ((fu st.mem nm d).2.flatMap (bk g)) ∧ ∀ ds,(fu st.mem nm d).1 ≠ .tup ds:=by
 have gen : ∀ d:DV E,aB T w (free st.mem g) g d v→(∀ n b,d ≠ .rowv n b)→(∀ n,d ≠ .ptr n 0)→Ans T w Y' args (bS st.mem .give d) v ((hT st.mem .give d).flatMap (bk g)) ∧ ∀ ds,bS st.mem .give d ≠ .tup ds:=by
  intro d hd h1 h2
  have ho:=uH h hY .give hd (fun n hn=>by
   unfold pC at hn
   split at hn
   ·simp at hn
   ·exact absurd rfl (h1 _ _)
   ·cases hn)
  have hnp0:iz (bS st.mem .give d)=false:=tC st.mem (d, .give) (by
    rintro (⟨n,t,cs,e,_⟩ | ⟨e,_⟩)
    ·exact absurd e (h2 n)
    ·cases e)
  have hnp : ∀ t cs,bS st.mem .give d ≠ .pin t cs∧bS st.mem .give d ≠ .newb t cs:=by
   intro t cs
   constructor <;> intro he <;> rw [he] at hnp0 <;> simp [iz] at hnp0
  clear hnp0
  generalize bS st.mem .give d=d' at ho hnp
  generalize (hT st.mem .give d).flatMap (bk g)=bb at ho
  refine ⟨?_,?_⟩
  ·cases ho with
   | c hc=>exact .c hc
   | pin hp=>exact absurd rfl (hnp _ _).1
   | lend hp=>exact absurd rfl (hnp _ _).2
  ·intro ds e
   subst e
   cases ho with
   | c hc=>cases hc with
    | sh _ hs=>simp [DV.share,DV.lay,DV.plain] at hs
 unfold fu
 split
 ·rename_i n
  split
  ·rename_i j hj
   obtain ⟨b,h1,h2⟩:=eO hd
   refine ⟨.argp ?_,fun ds e=>by cases e⟩
   rw [hnm n j (EN hj),h1,h2]
  ·have ho:=uH h hY .give hd (fun n hn=>by simp [pC] at hn)
   split
   ·rename_i t cs hl
    simp only [bS,hl,hT] at ho
    exact ⟨.newb (Aa ho),fun ds e=>by cases e⟩
   ·exact ⟨.c (.junk v),fun ds e=>by cases e⟩
 ·exact ⟨.c (.junk v),fun ds e=>by cases e⟩
 ·rename_i h1 h2
  exact gen d hd (fun n b e=>h2 n b e) (fun n e=>h1 n e)
theorem IZ {Y':Nat→Prop} {args:List Value} {d:DV E} {v:Value} {b:List Nat} (h:Ans T w Y' args d v b) (hn : ∀ ds,d ≠ .tup ds):ui T w Y' args d v b:=by
 cases d <;> first | exact h | exact absurd rfl (hn _)
theorem jP {mem:Mem E} {tmps:List (DV E)} : ∀ (ds:List (DV E)) (j:Nat) (q:List (Nat×Nat)×List (List (DV E))×List Nat),l7 mem tmps j ds=some q → ∀ n∈q.2.2,n∈names mem
 | [],j,q,h,n,hn=>by cases h; cases hn
 | d :: r,j,q,h,n,hn=>by
  unfold l7 at h
  split at h
  ·rename_i t _
   split at h
   ·rename_i m _
    split at h
    ·rename_i t' cs hl
     obtain ⟨_,h⟩:=cU h
     obtain ⟨q',h1,h2⟩:=Option.bind_eq_some_iff.1 h
     cases h2
     rcases List.mem_append.1 hn with hn | hn
     ·have:n∈hT mem .give (.ptr m 0:DV E):=by simpa [hT,hl] using hn
      exact pZ this
     ·exact jP r (j+1) q' h1 n hn
    ·cases h
   ·cases h
  ·split at h
   ·rename_i m _
    split at h
    ·rename_i e k l hl
     obtain ⟨q',h1,h2⟩:=Option.bind_eq_some_iff.1 h
     cases h2
     rcases List.mem_cons.1 hn with rfl | hn
     ·exact bO hl
     ·exact jP r (j+1) q' h1 n hn
    ·cases h
   ·cases h
  ·exact jP r (j+1) q h n hn
def gp:Nat→List (DV E)→List Nat
 | _,[] => []
 | j,d :: r=>if iz d=true then j :: gp (j+1) r else gp (j+1) r
theorem nk {G:GP} (h:Inv T w0 G st a w g) {Y':Nat→Prop} (hY : ∀ b,free st.mem g b→Y' b) :
  ∀ (ds:List (DV E)) (vs:List Value) (j:Nat) (q:List (Nat×Nat)×List (List (DV E))×List Nat),ds.length=vs.length→l7 st.mem st.tmps j ds=some q→(∀ i∈gp j ds, ∃ i',i=j+i'∧vs[i']? = some (a.tmps.getD i undef)) →
   gd T w Y' ds vs q.2.1 (q.2.2.flatMap (bk g)) ∧ ∀ n i,(n,i)∈q.1 → ∃ i',i=j+i'∧vs[i']? = some (g n)
 | [],[],j,q,_,h1,hk=>by cases h1; exact ⟨.nil,fun n i hm=>by cases hm⟩
 | [],_ :: _,_,_,hl,_,_=>by simp at hl
 | _ :: _,[],_,_,hl,_,_=>by simp at hl
 | d :: r,v :: vs,j,q,hl,h1,hk=>by
  have hl':r.length=vs.length:=by simpa using hl
  have hk' : ∀ i∈gp (j+1) r, ∃ i',i=(j+1)+i'∧vs[i']? = some (a.tmps.getD i undef):=by
   intro i hi
   have hi1:i∈gp j (d :: r):=by
    unfold gp; split
    ·exact List.mem_cons_of_mem _ hi
    ·exact hi
   obtain ⟨i',e,hv⟩:=hk i hi1
   have hge : ∀ (r:List (DV E)) (k i:Nat),i∈gp k r→k≤i:=by
    intro r
    induction r with
    | nil=>intro k i hi; cases hi
    | cons d r ih =>
     intro k i hi
     unfold gp at hi
     split at hi
     ·rcases List.mem_cons.1 hi with rfl | hi
      ·exact Nat.le_refl _
      ·have:=ih _ _ hi; omega
     ·have:=ih _ _ hi; omega
   have:=hge r (j+1) i hi
   cases i' with
   | zero=>omega
   | succ i'=>exact ⟨i',by omega,by simpa using hv⟩
  unfold l7 at h1
  split at h1
  ·rename_i t cs0
   split at h1
   ·rename_i n hn
    split at h1
    ·rename_i t' cs hlook
     obtain ⟨et,h1'⟩:=cU h1
     clear h1
     subst et
     obtain ⟨q',h2,h3⟩:=Option.bind_eq_some_iff.1 h1'
     cases h3
     obtain ⟨p1,p2⟩:=nk h hY r vs (j+1) q' hl' h2 hk'
     obtain ⟨i',e,hv⟩:=hk j (by unfold gp; simp [iz])
     have:i'=0:=by omega
     subst this
     simp only [List.getElem?_cons_zero,Option.some.injEq] at hv
     have hr:aB T w (free st.mem g) g (.ptr n 0) v:=by
      have:=h.ev (.tmp j)
      simp only [St.ev,Act.eval,hn] at this
      rw [hv]
      exact this
     have ho:=uH h hY .give hr (fun n hn=>by simp [pC] at hn)
     simp only [bS,hlook,hT] at ho
     obtain ⟨b,q1,q2⟩:=eO hr
     refine ⟨?_,?_⟩
     ·rw [List.flatMap_append]
      exact .pin (Aa ho) p1
     ·intro m i hm
      rcases List.mem_cons.1 hm with hm | hm
      ·cases hm
       exact ⟨0,rfl,by simp [q1,q2]⟩
      ·obtain ⟨i',e,hv⟩:=p2 m i hm
       exact ⟨i'+1,by omega,by simpa using hv⟩
    ·cases h1
   ·cases h1
  ·split at h1
   ·rename_i n hn
    split at h1
    ·rename_i e k l hlook
     obtain ⟨q',h2,h3⟩:=Option.bind_eq_some_iff.1 h1
     cases h3
     obtain ⟨p1,p2⟩:=nk h hY r vs (j+1) q' hl' h2 hk'
     obtain ⟨i',ei,hv⟩:=hk j (by unfold gp; simp [iz])
     have:i'=0:=by omega
     subst this
     simp only [List.getElem?_cons_zero,Option.some.injEq] at hv
     have hr:aB T w (free st.mem g) g (.rowp n) v:=by
      have:=h.ev (.tmp j)
      simp only [St.ev,Act.eval,hn] at this
      rw [hv]
      exact this
     have hvn:v=g n:=hr
     have hrow:aV T w (free st.mem g) e k l (g n):=h.mm n _ (bE hlook)
     refine ⟨?_,?_⟩
     ·rw [List.flatMap_cons,hvn]
      exact .lend (hrow.mono (fun b hb hlt=>⟨hY b hb,hlt,rfl⟩) fun _ _=>rfl) p1
     ·intro m i hm
      obtain ⟨i',ei,hv⟩:=p2 m i hm
      exact ⟨i'+1,by omega,by simpa using hv⟩
    ·cases h1
   ·cases h1
  ·rename_i hnp hnp2
   obtain ⟨p1,p2⟩:=nk h hY r vs (j+1) q hl' h1 hk'
   refine ⟨.skip (fun t cs=>⟨fun e=>hnp t cs e,fun e=>hnp2 t cs e⟩) p1,?_⟩
   intro m i hm
   obtain ⟨i',e,hv⟩:=p2 m i hm
   exact ⟨i'+1,by omega,by simpa using hv⟩
def Dz (ts:List Nat) (a:Act):Value:=match ts with
 | [t]=>a.tmps.getD t undef
 | ts => .tuple (ts.map fun t=>a.tmps.getD t undef).toArray
theorem Lp {vs:Array Value} {ds:List (DV E)} (h:Inv T w0 ⟨(· ∈ bl),(Ad w0 Y bl).hid⟩ st a w g) (hl:ds.length=vs.size) {ts:List Nat} {res:Res E} (hr:zU ts ds st=some res)
  (hk : ∀ i∈gp 0 ds,vs.toList[i]? = some (a.tmps.getD i undef)) :
  ∃ bl1 bl2,(bl1 ++ bl2).Nodup∧(∀ b∈bl1 ++ bl2,b<w.heap.size∧(w0.heap.size≤b∨b∈bl)) ∧
   ui T w (fun b=>(Y b∨w0.heap.size≤b∨b∈bl)∧b ∉ bl1 ++ bl2) vs.toList res.v (Dz ts a) bl1 ∧
   gd T w (fun b=>(Y b∨w0.heap.size≤b∨b∈bl)∧b ∉ bl1 ++ bl2) ds vs.toList res.pins bl2∧jJ (· ∈ bl) w0 w:=by
 unfold zU at hr
 obtain ⟨q,hq,hr⟩:=Option.bind_eq_some_iff.1 hr
 obtain ⟨hn,hr⟩:=cU hr
 cases hr
 obtain ⟨bl1,hbl1⟩ : ∃ bl1,bl1=(ts.flatMap fun t=>(fu st.mem q.1 (st.tmps.getD t .junk)).2).flatMap (bk g):=⟨_,rfl⟩
 obtain ⟨bl2,hbl2⟩ : ∃ bl2,bl2=q.2.2.flatMap (bk g):=⟨_,rfl⟩
 have hnm1 : ∀ n∈(ts.flatMap fun t=>(fu st.mem q.1 (st.tmps.getD t .junk)).2) ++ q.2.2,n∈names st.mem:=by
  intro n hn
  rcases List.mem_append.1 hn with hn | hn
  ·obtain ⟨t,_,hn⟩:=List.mem_flatMap.1 hn
   exact xd hn
  ·exact jP ds 0 q hq n hn
 have hb12:bl1 ++ bl2=((ts.flatMap fun t=>(fu st.mem q.1 (st.tmps.getD t .junk)).2) ++ q.2.2).flatMap (bk g):=by rw [hbl1,hbl2,List.flatMap_append]
 have hin : ∀ b∈bl1 ++ bl2,b∈eD st.mem g:=by
  intro b hb
  rw [hb12] at hb
  obtain ⟨n,h1,h2⟩:=List.mem_flatMap.1 hb
  exact aD.2 ⟨n,hnm1 n h1,by simpa [bk] using h2⟩
 have hY : ∀ b,free st.mem g b→(fun b=>(Y b∨w0.heap.size≤b∨b∈bl)∧b ∉ bl1 ++ bl2) b:=by
  intro b hf
  refine ⟨?_,fun hb=>hf.1 (hin b hb)⟩
  have h2:=hf.2
  rw [h.hz.1] at h2
  by_cases h3:w0.heap.size≤b
  ·exact .inr (.inl h3)
  by_cases h4:Y b
  ·exact .inl h4
  by_cases h5:b∈bl
  ·exact .inr (.inr h5)
  exact absurd ⟨by omega,h4,h5⟩ h2
 obtain ⟨hp,hnm⟩:=nk h hY ds vs.toList 0 q (by simpa using hl) hq (fun i hi=>⟨i,by omega,hk i hi⟩)
 have hnm' : ∀ n j,(n,j)∈q.1→vs.toList[j]? = some (g n):=by
  intro n j hm
  obtain ⟨i',e,hv⟩:=hnm n j hm
  have:j=i':=by omega
  subst this
  exact hv
 have hpart : ∀ t,Ans T w (fun b=>(Y b∨w0.heap.size≤b∨b∈bl)∧b ∉ bl1 ++ bl2) vs.toList (fu st.mem q.1 (st.tmps.getD t .junk)).1 (a.tmps.getD t undef) ((fu st.mem q.1 (st.tmps.getD t .junk)).2.flatMap (bk g)) ∧ ∀ ds,(fu st.mem q.1 (st.tmps.getD t .junk)).1 ≠ .tup ds :=
  fun t=>CP h hY hnm' (h.ev (.tmp t))
 refine ⟨bl1,bl2,?_,?_,?_,by rw [hbl2]; rw [hbl2] at hp; exact hp,h.fr⟩
 ·rw [hb12]
  exact ve h.nd h.nn (iP hn) hnm1
 ·intro b hb
  exact h.bo b (hin b hb)
 ·have many : ∀ ts:List Nat,fC (Ans T w (fun b=>(Y b∨w0.heap.size≤b∨b∈bl)∧b ∉ bl1 ++ bl2) vs.toList) (ts.map fun t=>(fu st.mem q.1 (st.tmps.getD t .junk)).1) (ts.map fun t=>a.tmps.getD t undef)
    ((ts.flatMap fun t=>(fu st.mem q.1 (st.tmps.getD t .junk)).2).flatMap (bk g)):=by
   intro ts
   induction ts with
   | nil=>exact .nil
   | cons t ts ih=>simp only [List.map_cons,List.flatMap_cons,List.flatMap_append]; exact .cons (hpart t).1 ih
  match ts,hbl1 with
  | [t],hbl1 =>
   simp only [Dz]
   refine IZ ?_ (hpart t).2
   rw [hbl1]
   simp only [List.flatMap_cons,List.flatMap_nil,List.append_nil]
   rw [← List.append_nil (List.flatMap (bk g) _)]
   simpa [hbl1,List.flatMap_append] using (hpart t).1
  | [],hbl1=>exact ⟨_,rfl,by simpa [hbl1] using many []⟩
  | t :: t' :: ts,hbl1=>exact ⟨_,rfl,by rw [hbl1]; simpa [hbl1] using many (t :: t' :: ts)⟩
end
end Go.Vm
/- The abstract value machine: from the run of a body to the function's contract. -/
namespace Go.Vm
open Go.Lib
set_option linter.unusedVariables false
variable {K:Type} {E:K→Type}
inductive SR (K:Type) where
 | one (s:S1 K) | tup (ss:List (S1 K))
variable (E) in
def tyS:List (S1 K)→Type
 | []=>Unit
 | [s]=>s.ty E
 | s :: r=>s.ty E×tyS r
variable (E) in
def tyP:List (List (S0 K))→Type
 | []=>Unit
 | [s]=>tyL E s
 | s :: r=>tyL E s×tyP r
variable (E) in
def SR.ty:SR K→Type
 | .one s=>s.ty E
 | .tup ss=>tyS E ss
structure Spec (K:Type) where
 params:List (S1 K)
 ret:SR K
 pins:List (List (S0 K)) := []
 pl:K0 K
 rfrz:List Nat := []
 ts:List Nat
 rc:List (Nat×Option TypeId) := []
 rco:List (Co K) := []
def D4:Nat×Option TypeId→ResultVar
 | (t,none) => .tmp t
 | (t,some ty) => .cell t ty
def Spec.vars (s:Spec K):Array ResultVar:=match s.rc with
 | []=>(s.ts.map ResultVar.tmp).toArray
 | rc=>(rc.map D4).toArray
variable (E) in
def Spec.R (s:Spec K):Type:=match s.pins with
 | []=>s.ret.ty E
 | p :: ps=>s.ret.ty E×tyP E (p :: ps)
section
variable (T:Tab E)
def ig:(ss:List (S1 K))→tyS E ss→List (DV E)
 | [],_ => []
 | [s],x => [s.abs T x]
 | s :: s' :: r,x=>s.abs T x.1 :: ig (s' :: r) x.2
def zq:(ss:List (S1 K))→List (DV E)→Option (tyS E ss)
 | [],[]=>some ()
 | [s],[d]=>s.rd T d
 | s :: s' :: r,d :: ds=>(s.rd T d).bind fun x=>(zq (s' :: r) ds).bind fun y=>some (x,y)
 | _,_=>none
def wi:(ss:List (List (S0 K)))→tyP E ss→List (List (DV E))
 | [],_ => []
 | [s],x => [iV s x]
 | s :: s' :: r,x=>iV s x.1 :: wi (s' :: r) x.2
def Jj:(ss:List (List (S0 K)))→List (List (DV E))→Option (tyP E ss)
 | [],[]=>some ()
 | [s],[d]=>rdL T s d
 | s :: s' :: r,d :: ds=>(rdL T s d).bind fun x=>(Jj (s' :: r) ds).bind fun y=>some (x,y)
 | _,_=>none
def SR.abs:(s:SR K)→s.ty E→DV E
 | .one s,x=>s.abs T x
 | .tup ss,x => .tup (ig T ss x)
def Mk (d:DV E):Option (List (DV E)):=match d with
 | .tup ds=>some ds
 | _=>none
def SR.rd:(s:SR K)→DV E→Option (s.ty E)
 | .one s,d=>s.rd T d
 | .tup ss,d=>(Mk d).bind (zq T ss)
def pj (s:Spec K):s.R E→Res E:=match s with
 | ⟨_,ret,[],_,_,_,_,_⟩=>fun x=>⟨ret.abs T x,[]⟩
 | ⟨_,ret,p :: ps,_,_,_,_,_⟩=>fun x=>⟨ret.abs T x.1,wi (p :: ps) x.2⟩
def rdR (s:Spec K) (res:Res E):Option (s.R E):=match s with
 | ⟨_,ret,[],_,_,_,_,_⟩=>match res.pins with
  | []=>ret.rd T res.v
  | _=>none
 | ⟨_,ret,p :: ps,_,_,_,_,_⟩=>(ret.rd T res.v).bind fun x=>(Jj T (p :: ps) res.pins).bind fun y=>some (x,y)
def HN (s:S0 K) (d:DV E):DV E :=
 match s with
 | .slc k=>match d with
  | .nils => .slc k []
  | d=>d
 | .row e k=>match d with
  | .nils => .row e k []
  | d=>d
 | .argp _=>match d with
  | .nilp => .argp 0
  | d=>d
 | .junk=>if d.plain=true then .junk else d
 | _=>d
def Ck:List (S0 K)→List (DV E)→List (DV E)
 | s :: ss,d :: ds=>HN s d :: Ck ss ds
 | _,ds=>ds
def mH (s:S1 K) (d:DV E):DV E :=
 match s with
 | .a (.slc k)=>match d with
  | .nils => .slc k []
  | d=>d
 | .a (.row e k)=>match d with
  | .nils => .row e k []
  | d=>d
 | .a .junk=>if d.share=true then .junk else d
 | .pin _ ss=>match d with
  | .pin t cs => .pin t (Ck ss cs)
  | d=>d
 | _=>d
def rA:List (S1 K)→List (DV E)→List (DV E)
 | s :: ss,d :: ds=>mH s d :: rA ss ds
 | _,ds=>ds
def S0.flat (fk:K→Bool):S0 K→Bool
 | .int _ | .bool | .str | .nilp | .nili | .nils | .argp _=>true
 | .row _ k=>fk k
 | .arr _ k=>fk k
 | _=>false
def S1.flat (fk:K→Bool):S1 K→Bool
 | .a s=>s.flat fk
 | _=>false
def SR.flat (fk:K→Bool):SR K→Bool
 | .one (.agg ss)=>ss.all (S0.flat fun _=>false)
 | .one s=>s.flat fk
 | .tup ss=>ss.all (S1.flat fk)
def Spec.flat (s:Spec K):Bool:=s.ret.flat T.fk && s.pins.all fun p=>p.all (S0.flat T.fk)
def ai (s:Spec K) (M:tyS E s.params→Option (s.R E)) (ds:List (DV E)):Con E :=
 match zq T s.params (rA s.params ds) with
 | some x=>⟨s.R E,M x,pj T s,s.flat T⟩
 | none => .bad
variable (P:Program) (env:Env E)
def od (s:Spec K) (code:Code) (F:Nat) (x:tyS E s.params):Option (s.R E) :=
 if nodupB (names (st0 s.pl.nt (ig T s.params x)).mem)=true∧(ig T s.params x).length≤s.pl.nt∧(s.rc.isEmpty=true∨s.ts=(List.range s.rc.length).map (s.pl.nt + ·)) then
  mE T P env s.pl F code 0 (st0 s.pl.nt (ig T s.params x)) fun e st=>match e with
   | .exit _=>none
   | _=>zp T P s.pl.nt s.rc (A4 T s.rco (forget s.rfrz st)) fun st=>(zU s.ts (ig T s.params x) st).bind (rdR T s)
 else none
def S1.iz:S1 K→Bool
 | .pin _ _=>true
 | .newb _ _=>true
 | _=>false
def mh:Nat→List (S1 K)→List Nat
 | _,[] => []
 | j,s :: r=>if s.iz=true then j :: mh (j+1) r else mh (j+1) r
end
variable {T:Tab E} {P:Program} {env:Env E}
theorem Aq : ∀ {ss:List (S1 K)} {ds:List (DV E)} {x:tyS E ss},zq T ss ds=some x→ig T ss x=ds:=by
 intro ss
 induction ss with
 | nil =>
  intro ds x h
  cases ds with
  | nil=>rfl
  | cons d ds=>cases h
 | cons s r ih =>
  intro ds x h
  cases r with
  | nil =>
   cases ds with
   | nil=>cases h
   | cons d ds =>
    cases ds with
    | nil=>show [s.abs T x] = _; rw [S1.mR (T:=T) (s:=s) (d:=d) (x:=x) h]
    | cons d' ds=>cases h
  | cons s' r =>
   cases ds with
   | nil=>cases h
   | cons d ds =>
    change ((s.rd T d).bind fun x=>(zq T (s' :: r) ds).bind fun y=>some (x,y))=some x at h
    obtain ⟨y,hy,h⟩:=Option.bind_eq_some_iff.1 h
    obtain ⟨z,hz,h⟩:=Option.bind_eq_some_iff.1 h
    cases h
    show s.abs T y :: ig T (s' :: r) z = _
    rw [S1.mR hy,ih hz]
theorem JC : ∀ {ss:List (List (S0 K))} {ds:List (List (DV E))} {x:tyP E ss},Jj T ss ds=some x→wi ss x=ds:=by
 intro ss
 induction ss with
 | nil =>
  intro ds x h
  cases ds with
  | nil=>rfl
  | cons d ds=>cases h
 | cons s r ih =>
  intro ds x h
  cases r with
  | nil =>
   cases ds with
   | nil=>cases h
   | cons d ds =>
    cases ds with
    | nil=>show [iV s x] = _; rw [lq (T:=T) (ss:=s) (ds:=d) (x:=x) h]
    | cons d' ds=>cases h
  | cons s' r =>
   cases ds with
   | nil=>cases h
   | cons d ds =>
    change ((rdL T s d).bind fun x=>(Jj T (s' :: r) ds).bind fun y=>some (x,y))=some x at h
    obtain ⟨y,hy,h⟩:=Option.bind_eq_some_iff.1 h
    obtain ⟨z,hz,h⟩:=Option.bind_eq_some_iff.1 h
    cases h
    show iV s y :: wi (s' :: r) z = _
    rw [lq hy,ih hz]
theorem SR.mR {s:SR K} {d:DV E} {x:s.ty E} (h:s.rd T d=some x):s.abs T x=d:=by
 cases s with
 | one s=>exact S1.mR h
 | tup ss =>
  obtain ⟨ds,h1,h2⟩:=Option.bind_eq_some_iff.1 h
  have:d = .tup ds:=by
   unfold Mk at h1
   split at h1
   ·cases h1; rfl
   ·cases h1
  rw [this]
  exact congrArg _ (Aq h2)
theorem GR {s:Spec K} {res:Res E} {x:s.R E} (h:rdR T s res=some x):pj T s x=res:=by
 obtain ⟨v,pins⟩:=res
 obtain ⟨ps,ret,pp,pl,rf,ts,rc⟩:=s
 cases pp with
 | nil =>
  cases pins with
  | nil =>
   have:=SR.mR (T:=T) (s:=ret) (d:=v) (x:=x) h
   show Res.mk (ret.abs T x) [] = _
   rw [this]
  | cons p q=>cases h
 | cons p q =>
  obtain ⟨y,hy,h⟩:=Option.bind_eq_some_iff.1 h
  obtain ⟨z,hz,h⟩:=Option.bind_eq_some_iff.1 h
  cases h
  show Res.mk (ret.abs T y) (wi (p :: q) z) = _
  rw [SR.mR hy,JC hz]
theorem FZ {w:World} {Y:Nat→Prop} {b0:Nat} {s:S0 K} {d:DV E} {v:Value} {b:List Nat} (h:qy T w Y b0 d v b):qy T w Y b0 (HN s d) v b:=by
 have nils : ∀ {v:Value} {b:List Nat},qy T w Y b0 (.nils:DV E) v b→v = .slice none 0 0∧b = []∧v.oneCell'=true:=by
  intro v b h
  rcases h with ⟨h,h1,_⟩ | ⟨h,_⟩
  ·cases h with
   | sh hr hs=>cases hr; exact ⟨rfl,rfl,h1⟩
  ·cases h
 unfold HN
 split
 ·split
  ·obtain ⟨rfl,rfl,h1⟩:=nils h
   exact .inl ⟨.sh (.slcn _) rfl,h1,rfl⟩
  ·exact h
 ·split
  ·rename_i e k _
   obtain ⟨rfl,rfl,h1⟩:=nils h
   exact .inl ⟨.row (v := .slice none 0 0) (aV.mk' (lj w e (T.sz k)) (.nil k)),h1,rfl⟩
  ·exact h
 ·split
  ·rcases h with ⟨h,h1,_⟩ | ⟨h,_⟩
   ·cases h with
    | sh hr hs=>cases hr; exact .inr ⟨rfl,rfl, .inl rfl⟩
   ·cases h
  ·exact h
 ·split
  ·rename_i hp
   rcases h with ⟨h,h1,h2⟩ | ⟨h,h2⟩
   ·cases h with
    | junk v=>exact .inl ⟨.junk v,h1,rfl⟩
    | sh hr hs=>exact .inl ⟨.junk v,h1,rfl⟩
    | row hr=>simp [DV.plain] at hp
   ·rw [h] at hp; simp [DV.plain] at hp
  ·exact h
 ·exact h
theorem Cj {w:World} {Y:Nat→Prop} {b0:Nat} {ds:List (DV E)} {vs:List Value} {bs:List Nat} (h:fC (qy T w Y b0) ds vs bs) : ∀ (ss:List (S0 K)),fC (qy T w Y b0) (Ck ss ds) vs bs:=by
 induction h with
 | nil=>intro ss; cases ss <;> exact .nil
 | cons h t ih =>
  intro ss
  cases ss with
  | nil=>exact .cons h t
  | cons s ss=>exact .cons (FZ h) (ih ss)
theorem HA {w:World} {Y:Nat→Prop} {s:S1 K} {d:DV E} {v:Value} {b:List Nat} (h:Own T w Y d v b):Own T w Y (mH s d) v b:=by
 unfold mH
 split
 ·split
  ·cases h with
   | c h=>cases h with
    | sh hr hs=>cases hr; exact .c (.sh (.slcn _) rfl)
  ·exact h
 ·rename_i e k
  have nilrow:Own T w Y (.row e k []) (.slice none 0 0) [] := .c (.row (v := .slice none 0 0) (aV.mk' (lj w e (T.sz k)) (.nil k)))
  split
  ·cases h with
   | c h=>cases h with
    | sh hr hs=>cases hr; exact nilrow
  ·exact h
 ·split
  ·rename_i hs
   cases h with
   | c h=>cases h with
    | junk v=>exact .c (.junk v)
    | sh hr hs=>exact .c (.junk v)
    | row hr=>simp [DV.share,DV.lay,DV.plain] at hs
   | pin hp=>simp [DV.share,DV.lay,DV.plain] at hs
   | lend hp=>simp [DV.share,DV.lay,DV.plain] at hs
  ·exact h
 ·split
  ·cases h with
   | c h=>cases h with
    | sh hr hs=>simp [DV.share,DV.lay,DV.plain] at hs
   | pin hp =>
    obtain ⟨b,vs,bs,h1,h2,h3,h4⟩:=hp
    exact .pin ⟨b,vs,bs,h1,h2,Cj h3 _,h4⟩
  ·exact h
 ·exact h
end Go.Vm
/- The abstract value machine: the theorem of a function. -/
namespace Go.Vm
open Go.Lib
set_option linter.unusedVariables false
variable {K:Type} {E:K→Type}
variable {T:Tab E} {P:Program} {env:Env E}
theorem xJ {w:World} {Y:Nat→Prop} {ds:List (DV E)} {vs:List Value} {bl:List Nat} (h:fC (Own T w Y) ds vs bl) : ∀ (ss:List (S1 K)),fC (Own T w Y) (rA ss ds) vs bl:=by
 induction h with
 | nil=>intro ss; cases ss <;> exact .nil
 | cons h t ih =>
  intro ss
  cases ss with
  | nil=>exact .cons h t
  | cons s ss=>exact .cons (HA h) (ih ss)
theorem Fj {s:S1 K} {d:DV E} {t:TypeId} {cs:List (DV E)} (h:mH s d = .pin t cs) : ∃ cs0,d = .pin t cs0:=by
 unfold mH at h
 split at h
 ·split at h
  ·cases h
  ·exact ⟨_,h⟩
 ·split at h
  ·cases h
  ·exact ⟨_,h⟩
 ·split at h
  ·cases h
  ·exact ⟨_,h⟩
 ·split at h
  ·cases h; exact ⟨_,rfl⟩
  ·exact ⟨_,h⟩
 ·exact ⟨_,h⟩
theorem E8 (s:S1 K) (t:TypeId) (cs:List (DV E)) : ∃ cs',mH s (.pin t cs:DV E) = .pin t cs':=by
 unfold mH
 split
 ·exact ⟨_,rfl⟩
 ·exact ⟨_,rfl⟩
 ·exact ⟨cs,rfl⟩
 ·exact ⟨_,rfl⟩
 ·exact ⟨_,rfl⟩
theorem Cl {s:S1 K} {d:DV E} {t:TypeId} {cs:List (DV E)} (h:mH s d = .newb t cs):d = .newb t cs:=by
 unfold mH at h
 split at h
 ·split at h
  ·cases h
  ·exact h
 ·split at h
  ·cases h
  ·exact h
 ·split at h
  ·cases h
  ·exact h
 ·split at h
  ·cases h
  ·exact h
 ·exact h
theorem DN (s:S1 K) (t:TypeId) (cs:List (DV E)):mH s (.newb t cs:DV E) = .newb t cs:=by
 unfold mH
 split <;> rfl
theorem lO {w:World} {Y:Nat→Prop} : ∀ (ss:List (S1 K)) (ds:List (DV E)) (vs:List Value) (ps:List (List (DV E))) (bl:List Nat),gd T w Y (rA ss ds) vs ps bl→gd T w Y ds vs ps bl
 | [],ds,vs,ps,bl,h=>by cases ds <;> exact h
 | s :: ss,[],vs,ps,bl,h=>h
 | s :: ss,d :: ds,vs,ps,bl,h=>by
  change gd T w Y (mH s d :: rA ss ds) vs ps bl at h
  generalize hd:mH s d=d' at h
  cases h with
  | skip hn h =>
   refine .skip (fun t cs=>⟨fun e => ?_,fun e => ?_⟩) (lO ss ds _ _ _ h)
   ·subst e
    obtain ⟨cs',hc⟩:=E8 s t cs
    exact (hn t cs').1 (by rw [← hd]; exact hc)
   ·subst e
    exact (hn t cs).2 (by rw [← hd]; exact DN s t cs)
  | @pin t cs _ _ _ _ _ _ _ hb h =>
   obtain ⟨cs0,this⟩:=Fj hd
   rw [this]
   exact .pin hb (lO ss ds _ _ _ h)
  | lend hb h =>
   rw [Cl hd]
   exact .lend hb (lO ss ds _ _ _ h)
theorem yR (s:S1 K) (x:s.ty E):iz (s.abs T x)=s.iz:=by
 cases s with
 | a s=>cases s <;> rfl
 | _=>rfl
theorem wQ : ∀ (ss:List (S1 K)) (x:tyS E ss) (j:Nat),gp j (ig T ss x)=mh j ss:=by
 intro ss
 induction ss with
 | nil=>intro x j; rfl
 | cons s r ih =>
  intro x j
  cases r with
  | nil =>
   change gp j [s.abs T x] = _
   unfold gp mh
   rw [show iz (s.abs T x)=s.iz from yR s x]
   rfl
  | cons s' r =>
   change gp j (s.abs T x.1 :: ig T (s' :: r) x.2) = _
   unfold gp mh
   rw [yR,ih]
theorem pT {fk:K→Bool} : ∀ {ss:List (S0 K)} {x:tyL E ss},ss.all (S0.flat fk)=true→(iV ss x).all (DV.flat fk)=true
 | [],x,h=>rfl
 | s :: r,x,h=>by
  simp only [List.all_cons,Bool.and_eq_true] at h
  simp only [iV,List.all_cons,Bool.and_eq_true]
  refine ⟨?_,pT h.2⟩
  have h1:=h.1
  cases s <;> first | rfl | (simp [S0.flat] at h1; done) | (simpa [S0.abs,DV.flat,S0.flat] using h1)
theorem S1.oZ {s:S1 K} {x:s.ty E} (h:s.flat T.fk=true):(s.abs T x).flat T.fk=true:=by
 cases s with
 | a s=>cases s <;> first | rfl | (simp [S1.flat,S0.flat] at h; done) | (simpa [S1.abs,S0.abs,DV.flat,S1.flat,S0.flat] using h)
 | _=>simp [S1.flat] at h
theorem DP : ∀ (ss:List (S1 K)) (x:tyS E ss),ss.all (S1.flat T.fk)=true→(ig T ss x).all (DV.flat T.fk)=true:=by
 intro ss
 induction ss with
 | nil=>intro x h; rfl
 | cons s r ih =>
  intro x h
  simp only [List.all_cons,Bool.and_eq_true] at h
  cases r with
  | nil =>
   change ([s.abs T x].all (DV.flat T.fk))=true
   simp only [List.all_cons,List.all_nil,Bool.and_true]
   exact S1.oZ h.1
  | cons s' r =>
   change ((s.abs T x.1 :: ig T (s' :: r) x.2).all (DV.flat T.fk))=true
   simp only [List.all_cons,Bool.and_eq_true]
   have:=ih x.2 h.2
   simp only [List.all_eq_true] at this
   exact ⟨S1.oZ h.1,by simpa [List.all_eq_true] using this⟩
theorem SR.oZ {s:SR K} {x:s.ty E} (h:s.flat T.fk=true):uc T.fk (s.abs T x)=true:=by
 cases s with
 | tup ss=>exact DP ss x h
 | one s =>
  cases s with
  | agg ss=>exact pT (fk:=fun _=>false) h
  | a s=>cases s <;> first | rfl | (simp [SR.flat,S1.flat,S0.flat] at h; done) | (simpa [SR.abs,S1.abs,S0.abs,uc,DV.flat,SR.flat,S1.flat,S0.flat] using h)
  | _=>simp [SR.flat,S1.flat] at h
theorem CE : ∀ (ss:List (List (S0 K))) (x:tyP E ss),(ss.all fun p=>p.all (S0.flat T.fk))=true → ∀ p∈wi ss x,p.all (DV.flat T.fk)=true:=by
 intro ss
 induction ss with
 | nil=>intro x h p hp; cases hp
 | cons s r ih =>
  intro x h p hp
  simp only [List.all_cons,Bool.and_eq_true] at h
  cases r with
  | nil =>
   change p ∈ [iV s x] at hp
   rcases List.mem_singleton.1 hp with rfl
   exact pT h.1
  | cons s' r =>
   change p∈iV s x.1 :: wi (s' :: r) x.2 at hp
   rcases List.mem_cons.1 hp with rfl | hp
   ·exact pT h.1
   ·exact ih x.2 h.2 p hp
theorem yu {s:Spec K} {r:s.R E} (h:s.flat T=true):uc T.fk (pj T s r).v=true ∧ ∀ p∈(pj T s r).pins,p.all (DV.flat T.fk)=true:=by
 obtain ⟨ps,ret,pp,pl,rf,ts,rc⟩:=s
 simp only [Spec.flat,Bool.and_eq_true] at h
 cases pp with
 | nil=>exact ⟨SR.oZ (x:=r) h.1,fun p hp=>by cases hp⟩
 | cons p q=>exact ⟨SR.oZ (x:=r.1) h.1,CE (p :: q) r.2 h.2⟩
theorem cA {f:FuncId} {fn:Func} {vs:Array Value} {w:World} (hf:P.funcs[f]? = some fn) (hb:fn.body.isSome=true) (hname:(fn.name == "runtime.NumGoroutine")=false):(callFunc f vs).run P w = .ok (.enter f vs) w:=by
 have:fn.body.isNone=false:=by cases h:fn.body <;> simp_all
 simp only [callFunc,Sem.run_bind,run_program,Result.andThen_ok,hf,hname,this,Bool.false_eq_true,if_false,Sem.run_pure]
theorem yx (a:Act) (P:Program) (w:World) : ∀ ts:List Nat,(List.mapM (m:=Sem) (fun (r:ResultVar)=>match r with
  | .tmp t=>pure (a.tmps.getD t undef)
  | .cell ad t=>do loadVar t (← asAddr (a.tmps.getD ad undef))) (ts.map ResultVar.tmp)).run P w = .ok (ts.map fun t=>a.tmps.getD t undef) w
 | []=>by simp
 | t :: ts=>by simp only [List.map_cons,List.mapM_cons,Sem.run_bind,Sem.run_pure,Result.andThen_ok,yx a P w ts]
theorem Inv.KS {w0:World} {G:GP} {st:St E} {a:Act} {w:World} {g:Gh} (h:Inv T w0 G st a w g) (ds:List (DV E)) (us:List Value) (hl:ds.length=us.length)
  (hr : ∀ i (hi:i<ds.length) (hi':i<us.length),aB T w (free st.mem g) g ds[i] us[i] ∧ ∀ k j cs off,ds[i] ≠ .rptr k j cs off) :
  Inv T w0 G ⟨st.tmps ++ ds,st.mem⟩ { a with tmps:=a.tmps ++ us.toArray } w g:=by
 refine ⟨h.df,by simp [h.tl,hl],fun i hi => ?_,h.nn,h.nd,h.mm,h.bo,h.fr,fun i hi n j cs off he => ?_,h.hz⟩
 ·simp only [List.length_append] at hi
  by_cases hlt:i<st.tmps.length
  ·have e:(a.tmps ++ us.toArray).getD i undef=a.tmps.getD i undef:=by
    have:i<a.tmps.size:=by rw [h.tl]; exact hlt
    simp [Array.getElem?_append_left this]
   simp only [List.getElem_append_left hlt,e]
   exact h.tm i hlt
  ·have hle:st.tmps.length≤i:=by omega
   have hi2:i - st.tmps.length<us.length:=by omega
   have e:(a.tmps ++ us.toArray).getD i undef=us[i - st.tmps.length]:=by
    have h1:a.tmps.size≤i:=by rw [h.tl]; exact hle
    simp [Array.getElem?_append_right h1,h.tl,hi2]
   simp only [List.getElem_append_right hle,e]
   exact (hr _ (by omega) hi2).1
 ·simp only [List.length_append] at hi
  by_cases hlt:i<st.tmps.length
  ·rw [List.getElem_append_left hlt] at he
   exact h.rl i hlt n j cs off he
  ·rw [List.getElem_append_right (by omega)] at he
   exact absurd he ((hr _ (by omega) (by omega)).2 n j cs off)
theorem sR {w0:World} {G:GP} {st:St E} {a:Act} {w:World} {g:Gh} (h:Inv T w0 G st a w g) {β:Type} {K:St E→Option β} {r:β} : ∀ (rc:List (Nat×Option TypeId)) (acc:List (DV E)) (us:List Value),acc.length=us.length →
  (∀ i (hi:i<acc.length) (hi':i<us.length),aB T w (free st.mem g) g acc[i] us[i] ∧ ∀ k j cs off,acc[i] ≠ .rptr k j cs off)→tz T P rc st acc K=some r →
  ∃ st2 us',Inv T w0 G st2 { a with tmps:=a.tmps ++ (us ++ us').toArray } w g∧K st2=some r∧us'.length=rc.length ∧
   (List.mapM (m:=Sem) (fun (r:ResultVar)=>match r with
  | .tmp t=>pure (a.tmps.getD t undef)
  | .cell ad t=>do loadVar t (← asAddr (a.tmps.getD ad undef))) (rc.map D4)).run P w = .ok us' w
 | [],acc,us,hl,hr,hK=>⟨_,[],by simpa using h.KS acc us hl hr,hK,rfl,by simp⟩
 | (t,none) :: rc,acc,us,hl,hr,hK=>by
  simp only [tz] at hK
  split at hK
  ·cases hK
  rename_i hnr
  have hx:aB T w (free st.mem g) g (st.tmps.getD t .junk) (a.tmps.getD t undef):=h.ev (.tmp t)
  obtain ⟨st2,us',q1,q2,q3,q4⟩:=sR h rc (acc ++ [st.tmps.getD t .junk]) (us ++ [a.tmps.getD t undef]) (by simp [hl]) (fun i hi hi'=>by
   by_cases hlt:i<acc.length
   ·rw [List.getElem_append_left hlt,List.getElem_append_left (by omega)]
    exact hr i hlt (by omega)
   ·have e:i=acc.length:=by simp at hi; omega
    subst e
    have e2:(us ++ [a.tmps.getD t undef])[acc.length]=a.tmps.getD t undef:=by rw [List.getElem_append_right (by omega)]; simp [hl]
    have e3:(acc ++ [st.tmps.getD t .junk])[acc.length]=st.tmps.getD t .junk:=by rw [List.getElem_append_right (by omega)]; simp
    rw [e2,e3]
    exact ⟨hx,fun k j cs off e=>by rw [e] at hnr; exact hnr rfl⟩) hK
  refine ⟨st2,_ :: us',by simpa using q1,q2,by simp [q3],?_⟩
  simp only [List.map_cons,List.mapM_cons,D4]
  rw [Sem.run_bind,Sem.run_pure]
  simp only [Result.andThen_ok,Sem.run_bind,q4,Sem.run_pure]
  simp
 | (ad,some ty) :: rc,acc,us,hl,hr,hK=>by
  simp only [tz] at hK
  obtain ⟨o,ho,hK⟩:=Cal.Al _ _ _ hK
  have hx:aB T w (free st.mem g) g (st.tmps.getD ad .junk) (a.tmps.getD ad undef):=h.ev (.tmp ad)
  obtain ⟨_,u,h2,h3,h4⟩:=xT h hx o ho
  obtain ⟨st2,us',q1,q2,q3,q4⟩:=sR h rc (acc ++ [o.v]) (us ++ [u]) (by simp [hl]) (fun i hi hi'=>by
   by_cases hlt:i<acc.length
   ·rw [List.getElem_append_left hlt,List.getElem_append_left (by omega)]
    exact hr i hlt (by omega)
   ·have e:i=acc.length:=by simp at hi; omega
    subst e
    have e2:(us ++ [u])[acc.length]=u:=by rw [List.getElem_append_right (by omega)]; simp [hl]
    rw [e2]
    simpa using ⟨h3,h4⟩) hK
  refine ⟨st2,u :: us',by simpa using q1,q2,by simp [q3],?_⟩
  have hrun:(do loadVar ty (← asAddr (a.tmps.getD ad undef)):Sem Value).run P w = .ok u w:=by
   generalize a.tmps.getD ad undef=va at h2
   unfold Instr.loadAt Instr.sureAddr at h2
   split at h2
   ·simpa [asAddr] using h2
   ·simp at h2
  simp only [List.map_cons,List.mapM_cons,D4]
  rw [Sem.run_bind,hrun]
  simp only [Result.andThen_ok,Sem.run_bind,q4,Sem.run_pure]
theorem CF {w0:World} {G:GP} {fn:Func} {s:Spec K} (hv:fn.results=s.vars) {st:St E} {a:Act} {w:World} {g:Gh} (h:Inv T w0 G st a w g) {β:Type} {K:St E→Option β} {r:β}
  (hrc:s.rc.isEmpty=true∨s.ts=(List.range s.rc.length).map (s.pl.nt + ·)) (hK:zp T P s.pl.nt s.rc st K=some r) :
  ∃ st2 us,Inv T w0 G st2 { a with tmps:=a.tmps ++ us } w g∧K st2=some r∧(us = #[]∨a.tmps.size=s.pl.nt)∧(results fn a.tmps).run P w = .ok (Dz s.ts { a with tmps:=a.tmps ++ us }) w:=by
 unfold results
 rw [hv,Array.mapM_eq_mapM_toList]
 unfold Spec.vars
 unfold zp at hK
 have fin : ∀ vs:List Value,(match vs.toArray.toList with
   | [v]=>(pure v:Sem Value)
   | vs=>pure (Value.tuple vs.toArray)).run P w = .ok (match vs with | [v]=>v | vs => .tuple vs.toArray) w:=by
  intro vs
  match vs with
  | []=>rfl
  | [v]=>rfl
  | v :: v' :: vs=>simp
 cases hc:s.rc with
 | nil =>
  rw [hc] at hK
  simp only at hK
  refine ⟨st, #[],by simpa using h,hK, .inl rfl,?_⟩
  simp only [Sem.run_bind]
  have:=yx a P w s.ts
  rw [map_eq_pure_bind,Sem.run_bind]
  erw [this]
  simp only [Result.andThen_ok,Sem.run_pure]
  match s.ts with
  | []=>rfl
  | [t]=>simp [Dz]
  | t :: t' :: ts=>simp [Dz]
 | cons x rc =>
  rw [hc] at hK hrc
  simp only at hK
  have hts:=hrc.resolve_left (by simp)
  obtain ⟨hlen,hK⟩:=cU hK
  have hsz:a.tmps.size=s.pl.nt:=by rw [h.tl,hlen]
  obtain ⟨st2,us',q1,q2,q3,q4⟩:=sR (P:=P) h (x :: rc) [] [] rfl (fun i hi=>by cases hi) hK
  refine ⟨st2,us'.toArray,by simpa using q1,q2, .inr hsz,?_⟩
  simp only [Sem.run_bind]
  rw [map_eq_pure_bind,Sem.run_bind]
  erw [q4]
  simp only [Result.andThen_ok,Sem.run_pure]
  have hval:(s.ts.map fun t=>(a.tmps ++ us'.toArray).getD t undef)=us':=by
   rw [hts,List.map_map]
   apply List.ext_getElem
   ·simp [q3]
   ·intro i h1 h2
    simp [hsz,h2]
  unfold Dz
  rw [hts] at hval ⊢
  match us',q3,hval with
  | [],q3,_=>simp at q3
  | [u],q3,hval =>
   have:rc = []:=by simpa using q3.symm
   subst this
   simp at hval ⊢
   exact hval.symm
  | u :: u' :: us,q3,hval =>
   obtain ⟨y,rc',rfl⟩ : ∃ y rc',rc=y :: rc':=by cases rc with
    | nil=>simp at q3
    | cons y rc'=>exact ⟨y,rc',rfl⟩
   simp only [List.length_cons,List.range_succ_eq_map,List.map_cons] at hval ⊢
   rw [hval]
   simp
theorem mu {s:Spec K} {M:tyS E s.params→Option (s.R E)} {f:FuncId} {fn:Func} {code:Code} (hf:P.funcs[f]? = some fn) (hb:fn.body=some code) (hname:(fn.name == "runtime.NumGoroutine")=false)
  (hts:fn.results=s.vars) (hnt:fn.ntmps=s.pl.nt) (henv : ∀ f,Ctr T P f (env f)) (hm:P.follows .mixedOrders=true) (hk:nw (mh 0 s.params) code=true)
  (hM : ∀ x r,M x=some r → ∃ F,od T P env s code F x=some r):Ctr T P f (ai T s M):=by
 intro ds
 unfold ai
 cases hx:zq T s.params (rA s.params ds) with
 | none=>intro r hr; cases hr
 | some x =>
  intro r hr w vs Y bl hown hnd hY hgl hgb
  haveI:ux T w ⟨(· ∈ bl),(Ad w Y bl).hid⟩:=⟨hgl,hgb⟩
  have hds:=Aq hx
  have hown':=xJ hown s.params
  rw [← hds] at hown'
  obtain ⟨F,hF⟩:=hM x r hr
  unfold od at hF
  obtain ⟨⟨hn,hlen,hrc⟩,hF⟩:=cU hF
  refine .inl ⟨cA hf (by rw [hb]; rfl) hname,calls_of_wp hf hb ?_⟩
  obtain ⟨g,hg⟩:=IX (nt:=s.pl.nt) hown' hnd hY hn hlen
  rw [hnt]
  obtain ⟨e,st',hK,hgo⟩:=Ja (w0:=w) (G:=⟨(· ∈ bl),(Ad w Y bl).hid⟩) (J:=mh 0 s.params) henv hm code hk 0 _ _ _ _ hF
  refine wp_mono (hgo _ _ g hg) ?_
  rintro e' a' w' ⟨rfl,g',hi,hkeep⟩
  have fin:(zp T P s.pl.nt s.rc (A4 T s.rco (forget s.rfrz st')) fun st=>(zU s.ts (ig T s.params x) st).bind (rdR T s))=some r→a'.defers = [] ∧ ∃ v,(results fn a'.tmps).run P w' = .ok v w' ∧ ∃ v' bl1 bl2,Ending.returned v=Ending.returned v'∧(bl1 ++ bl2).Nodup∧(∀ b∈bl1 ++ bl2,b<w'.heap.size∧(w.heap.size≤b∨b∈bl)) ∧
    ui T w' (fun b=>(Y b∨w.heap.size≤b∨b∈bl)∧b ∉ bl1 ++ bl2) vs.toList (pj T s r).v v' bl1 ∧
    gd T w' (fun b=>(Y b∨w.heap.size≤b∨b∈bl)∧b ∉ bl1 ++ bl2) ds vs.toList (pj T s r).pins bl2∧jJ (· ∈ bl) w w' ∧
    (s.flat T=true→uc T.fk (pj T s r).v=true ∧ ∀ p∈(pj T s r).pins,p.all (DV.flat T.fk)=true):=by
   intro hK
   obtain ⟨g',hi'⟩:=zt s.rco (mc hi s.rfrz)
   obtain ⟨st2,us,hi',hK,hsz,hres⟩:=CF (P:=P) hts hi' hrc hK
   generalize ha2:({ a' with tmps:=a'.tmps ++ us }:Act)=a2 at hi' hres
   replace ha2:a2.tmps=a'.tmps ++ us:=by rw [← ha2]
   obtain ⟨res,h1,h2⟩:=Option.bind_eq_some_iff.1 hK
   have hget : ∀ i,i<s.pl.nt→a2.tmps.getD i undef=a'.tmps.getD i undef:=by
    intro i hi
    rw [ha2]
    rcases hsz with rfl | hsz
    ·simp
    ·simp [Array.getElem?_append_left (show i<a'.tmps.size by omega)]
   have hl:(ig T s.params x).length=vs.size:=by have:=Ba hown'; simpa using this
   obtain ⟨bl1,bl2,q1,q2,q3,q4,q5⟩:=Lp hi' hl h1 (by
    intro i hi0
    rw [wQ] at hi0
    have hk':=hkeep i hi0
    have hlt:i<vs.size:=by
     have : ∀ (ds:List (DV E)) (j i:Nat),i∈gp j ds→i<j+ds.length:=by
      intro ds
      induction ds with
      | nil=>intro j i h; cases h
      | cons d r ih =>
       intro j i h
       unfold gp at h
       simp only [List.length_cons]
       split at h
       ·rcases List.mem_cons.1 h with rfl | h
        ·omega
        ·have:=ih _ _ h; omega
       ·have:=ih _ _ h; omega
     have:=this (ig T s.params x) 0 i (by rw [wQ]; exact hi0)
     omega
    rw [hget i (by omega),hk']
    simp [Array.getElem?_append_left hlt,hlt])
   rw [GR h2]
   refine ⟨hi.df,_,hres,Dz s.ts a2,bl1,bl2,rfl,q1,q2,q3,?_,q5,fun hf => ?_⟩
   ·rw [hds] at q4
    exact lO _ _ _ _ _ q4
   ·rw [← GR h2]; exact yu hf
  cases e with
  | exit j=>cases hK
  | norm=>exact fin hK
  | ret=>exact fin hK
end Go.Vm
/- The abstract value machine: functions one by one. -/
namespace Go.Vm
open Go.Lib
set_option linter.unusedVariables false
variable {K:Type} {E:K→Type}
def fc {α β γ:Type} (s:α ⊕ β) (f:α→γ) (g:β→γ):γ:=match s with
 | .inl a=>f a
 | .inr b=>g b
def xu:Env E:=fun _ _ => .bad
def dP (f:FuncId) (C:List (DV E)→Con E) (env:Env E):Env E:=fun g=>if g=f then C else env g
theorem al {T:Tab E} {P:Program} : ∀ f,Ctr T P f (xu (E:=E) f):=by
 intro f ds r hr
 cases hr
theorem ag {T:Tab E} {P:Program} {f:FuncId} {C:List (DV E)→Con E} {env:Env E} (h : ∀ g,Ctr T P g (env g)) (hc:Ctr T P f C) : ∀ g,Ctr T P g (dP f C env g):=by
 intro g
 unfold dP
 split
 ·rename_i e; subst e; exact hc
 ·exact h g
theorem rR (T:Tab E) (P:Program) (f:FuncId) (s:Spec K) {M:tyS E s.params→Option (s.R E)} (h : ∀ x,M x=none):Ctr T P f (ai T s M):=by
 intro ds
 unfold ai
 cases hx:zq T s.params (rA s.params ds) with
 | none=>intro r hr; cases hr
 | some x=>intro r hr; simp only [h] at hr; cases hr
end Go.Vm
/- Plain laws of the models: more fuel tells the same; what a model comes to. -/
namespace Go.Vm
set_option linter.unusedVariables false
structure Le {α:Type} (a b:Option α):Prop where
 le : ∀ r,a=some r→b=some r
theorem Le.refl {α:Type} (a:Option α):Le a a:=⟨fun _ h=>h⟩
theorem Le.bind {α β:Type} {a b:Option α} {f g:α→Option β} (h:Le a b) (hf : ∀ x,Le (f x) (g x)):Le (a.bind f) (b.bind g):=by
 refine ⟨fun r hr => ?_⟩
 obtain ⟨x,hx,hr⟩:=Option.bind_eq_some_iff.1 hr
 exact Option.bind_eq_some_iff.2 ⟨x,h.le x hx,(hf x).le r hr⟩
theorem Le.loop {X Y:Type} {f g:X→Option (X ⊕ Y)} (hf : ∀ x,Le (f x) (g x)) : ∀ {n m:Nat},n≤m → ∀ x,Le (bh f n x) (bh g m x)
 | 0,m,h,x=>⟨fun r hr=>by cases hr⟩
 | n+1,0,h,x=>by omega
 | n+1,m+1,h,x=>by
  unfold bh
  refine Le.bind (hf x) fun y => ?_
  cases y with
  | inl x'=>exact Le.loop hf (by omega) x'
  | inr y=>exact Le.refl _
theorem Le.fc {α β γ:Type} {s:α ⊕ β} {f f':α→Option γ} {g g':β→Option γ} (h : ∀ x,Le (f x) (f' x)) (h' : ∀ x,Le (g x) (g' x)):Le (Go.Vm.fc s f g) (Go.Vm.fc s f' g'):=by
 cases s with
 | inl a=>exact h a
 | inr b=>exact h' b
def ae {α:Type} (m:Nat→Option α) (r:α):Prop := ∃ N, ∀ F,N≤F→m F=some r
theorem ae.const {α:Type} {m:Option α} {r:α} (h:m=some r):ae (fun _=>m) r:=⟨0,fun _ _=>h⟩
theorem ae.ret {α:Type} (r:α):ae (fun _=>some r) r:=⟨0,fun _ _=>rfl⟩
theorem ae.of {α:Type} {m:Nat→Option α} {r:α} (h : ∀ F,m F=some r):ae m r:=⟨0,fun F _=>h F⟩
theorem ae.bind {α β:Type} {m:Nat→Option α} {k:Nat→α→Option β} {r:α} {s:β} (h:ae m r) (h':ae (fun F=>k F r) s):ae (fun F=>(m F).bind (k F)) s:=by
 obtain ⟨N,h⟩:=h
 obtain ⟨N',h'⟩:=h'
 refine ⟨max N N',fun F hF => ?_⟩
 show (m F).bind (k F) = _
 rw [h F (by omega),Option.bind_some]
 exact h' F (by omega)
theorem ae.congr {α:Type} {m m':Nat→Option α} {r:α} (h:ae m r) (e : ∀ F,m' F=m F):ae m' r:=by
 obtain ⟨N,h⟩:=h
 exact ⟨N,fun F hF=>(e F).trans (h F hF)⟩
theorem ae.mono {α:Type} {m:Nat→Option α} {r:α} (hm : ∀ F F',F≤F'→Le (m F) (m F')) (F:Nat) (h:m F=some r):ae m r:=⟨F,fun F' hF=>(hm F F' hF).le r h⟩
theorem ae.ex {α:Type} {m:Nat→Option α} {r:α} (h:ae m r) : ∃ F,m F=some r:=by
 obtain ⟨N,h⟩:=h
 exact ⟨N,h N (Nat.le_refl _)⟩
theorem ae.pos {α:Type} {c:Prop} [Decidable c] {m m':Nat→Option α} {r:α} (hc:c) (h:ae m r):ae (fun F=>if c then m F else m' F) r:=h.congr fun F=>by rw [if_pos hc]
theorem ae.neg {α:Type} {c:Prop} [Decidable c] {m m':Nat→Option α} {r:α} (hc : ¬ c) (h:ae m' r):ae (fun F=>if c then m F else m' F) r:=h.congr fun F=>by rw [if_neg hc]
theorem ae.eq {α:Type} {m:Nat→Option α} {r r':α} (h:ae m r) (e:r=r'):ae m r':=e ▸ h
def af {X Y:Type} (f:Nat→X→Option (X ⊕ Y)) (x:X) (y:Y):Prop := ∃ N, ∀ F n,N≤F→N≤n→bh (f F) n x=some y
theorem af.fin {X Y:Type} {f:Nat→X→Option (X ⊕ Y)} {x:X} {y:Y} (h:ae (fun F=>f F x) (.inr y)):af f x y:=by
 obtain ⟨N,h⟩:=h
 refine ⟨N+1,fun F n hF hn => ?_⟩
 obtain ⟨n,rfl⟩ : ∃ k,n=k+1:=⟨n - 1,by omega⟩
 unfold bh
 have h1:f F x=some (.inr y):=h F (by omega)
 rw [h1]
 rfl
theorem af.step {X Y:Type} {f:Nat→X→Option (X ⊕ Y)} {x x':X} {y:Y} (h:ae (fun F=>f F x) (.inl x')) (h':af f x' y):af f x y:=by
 obtain ⟨N,h⟩:=h
 obtain ⟨N',h'⟩:=h'
 refine ⟨max N N'+1,fun F n hF hn => ?_⟩
 obtain ⟨n,rfl⟩ : ∃ k,n=k+1:=⟨n - 1,by omega⟩
 unfold bh
 have h1:f F x=some (.inl x'):=h F (by omega)
 rw [h1,Option.bind_some]
 exact h' F n (by omega) (by omega)
theorem af.run {X Y:Type} {f:Nat→X→Option (X ⊕ Y)} {x:X} {y:Y} (h:af f x y):ae (fun F=>bh (f F) F x) y:=by
 obtain ⟨N,h⟩:=h
 exact ⟨N,fun F hF=>h F F hF hF⟩
theorem sd {α β:Type} {c:Prop} [Decidable c] (a b:Option α) (f:α→Option β):(if c then a else b).bind f=if c then a.bind f else b.bind f:=by split <;> rfl
theorem b7 {α:Type} (c:Prop) [Decidable c] (a b:α):(if c then some a else some b)=some (if c then a else b):=by split <;> rfl
theorem bZ {α β:Type} (c:Prop) [Decidable c] (a a':α) (b b':β):(if c then (a,b) else (a',b'))=(if c then a else a',if c then b else b'):=by split <;> rfl
theorem wrap64 (n:Int) (h : -9223372036854775808≤n) (h':n≤9223372036854775807):IntKind.i64.wrap n=n:=by
 simp only [IntKind.wrap,IntKind.signed,IntKind.bits]
 simp
 omega
end Go.Vm
/- The abstract value machine: contracts that are shown by hand. -/
namespace Go.Vm
open Go.Lib
set_option linter.unusedVariables false
variable {K:Type} {E:K→Type}
variable {T:Tab E} {P:Program}
def Comes (T:Tab E) (s:Spec K) (ds:List (DV E)) (r:s.R E) (w:World) (vs:List Value) (Y:Nat→Prop) (bl:List Nat) (e:Ending) (w':World):Prop :=
 ∃ v bl1 bl2,e = .returned v∧(bl1 ++ bl2).Nodup∧(∀ b∈bl1 ++ bl2,b<w'.heap.size∧(w.heap.size≤b∨b∈bl)) ∧
  ui T w' (fun b=>(Y b∨w.heap.size≤b∨b∈bl)∧b ∉ bl1 ++ bl2) vs (pj T s r).v v bl1 ∧
  gd T w' (fun b=>(Y b∨w.heap.size≤b∨b∈bl)∧b ∉ bl1 ++ bl2) ds vs (pj T s r).pins bl2∧jJ (· ∈ bl) w w'
theorem gD {s:Spec K} {M:tyS E s.params→Option (s.R E)} {f:FuncId}
  (h : ∀ x r,M x=some r → ∀ (w:World) (vs:Array Value) (Y:Nat→Prop) (bl:List Nat),fC (Own T w Y) (ig T s.params x) vs.toList bl→bl.Nodup→(∀ b∈bl, ¬ Y b∧b<w.heap.size)→T.gl w→(∀ b∈bl,T.gb≤b) →
   Cn P f vs w (Comes T s (ig T s.params x) r w vs.toList Y bl)):Ctr T P f (ai T s M):=by
 intro ds
 unfold ai
 cases hx:zq T s.params (rA s.params ds) with
 | none=>intro r hr; cases hr
 | some x =>
  intro r hr w vs Y bl hown hnd hY hgl hgb
  have hds:=Aq hx
  have hown':=xJ hown s.params
  rw [← hds] at hown'
  have hc:=h x r hr w vs Y bl hown' hnd hY hgl hgb
  have key : ∀ e w',Comes T s (ig T s.params x) r w vs.toList Y bl e w' → ∃ v bl1 bl2,e = .returned v∧(bl1 ++ bl2).Nodup∧(∀ b∈bl1 ++ bl2,b<w'.heap.size∧(w.heap.size≤b∨b∈bl)) ∧
    ui T w' (fun b=>(Y b∨w.heap.size≤b∨b∈bl)∧b ∉ bl1 ++ bl2) vs.toList (pj T s r).v v bl1 ∧
    gd T w' (fun b=>(Y b∨w.heap.size≤b∨b∈bl)∧b ∉ bl1 ++ bl2) ds vs.toList (pj T s r).pins bl2∧jJ (· ∈ bl) w w' ∧
    (s.flat T=true→uc T.fk (pj T s r).v=true ∧ ∀ p∈(pj T s r).pins,p.all (DV.flat T.fk)=true):=by
   rintro e w' ⟨v,bl1,bl2,h1,h2,h3,h4,h5,h6⟩
   refine ⟨v,bl1,bl2,h1,h2,h3,h4,?_,h6,fun hf=>yu hf⟩
   rw [hds] at h5
   exact lO _ _ _ _ _ h5
  rcases hc with ⟨h1,h2⟩ | ⟨v,w',h1,h2⟩
  ·exact .inl ⟨h1,h2.mono key⟩
  ·exact .inr ⟨v,w',h1,key _ _ h2⟩
theorem alloc_old (w:World) (o:Obj) (k:Nat) (hk:k<w.heap.size):(w.alloc o).heap[k]? = w.heap[k]? := heap_alloc_old w o k hk
end Go.Vm
