import Derived.Test.YtihpjgcbmipdbaaGreatDoorV2
set_option linter.unusedVariables false
namespace Go.Vm
open Go.Lib
variable {K:Type} {E:K→Type}
inductive S0 (K:Type) where
 | int (k:IntKind) | bool | str | slc (k:K) | nilp | nili | nils | fn (f:FuncId) | ptr (n off:Nat) | rowp (n:Nat) | rowv (n:Nat) | row (e:TypeId) (k:K) | argp (j:Nat) | junk | arr (n:Nat) (k:K) | any (k:K)
inductive S1 (K:Type) where
 | a (s:S0 K) | agg (ss:List (S0 K)) | elt (k:K) | eptr (k:K) (off:Nat) | pin (t:TypeId) (ss:List (S0 K)) | newb (t:TypeId) (ss:List (S0 K)) | ifc (t:TypeId) (s:S0 K) | ifcA (t:TypeId) (ss:List (S0 K)) | shp (ss:List (S0 K)) | opt (ss:List (S0 K)) | fnc (f:FuncId) (sss:List (List (S0 K)))
inductive SB (K:Type) where
 | cells (t:TypeId) (ss:List (S0 K)) | row (e:TypeId) (k:K) | siter | arr (t:TypeId) (n:Nat) (k:K)
inductive It (K:Type) where
 | tmp (t:Nat) (s:S1 K) | box (n:Nat) (b:SB K)
structure SS (K:Type) where
 its:List (It K)
 frz:List Nat := []
 co:List (Co K) := []
variable (E) in
def S0.ty:S0 K→Type
 | .int _=>Int
 | .bool=>Bool
 | .str=>List UInt8
 | .slc k=>List (E k)
 | .rowv _=>Nat
 | .row _ k=>List (E k)
 | .arr _ k=>List (E k)
 | .any k=>E k
 | _=>Unit
variable (E) in
def tyL:List (S0 K)→Type
 | []=>Unit
 | s :: r=>s.ty E×tyL r
variable (E) in
def Qm:List (List (S0 K))→Type
 | []=>Unit
 | ss :: r=>tyL E ss×Qm r
variable (E) in
def S1.ty:S1 K→Type
 | .a s=>s.ty E
 | .agg ss | .pin _ ss | .newb _ ss | .ifcA _ ss | .shp ss=>tyL E ss
 | .opt ss=>Bool×tyL E ss
 | .fnc _ sss=>Qm E sss
 | .elt k | .eptr k _=>E k
 | .ifc _ s=>s.ty E
variable (E) in
def SB.ty:SB K→Type
 | .cells _ ss=>tyL E ss
 | .row _ k=>List (E k)
 | .siter=>List UInt8×Nat
 | .arr _ _ k=>List (E k)
variable (E) in
def It.ty:It K→Type
 | .tmp _ s=>s.ty E
 | .box _ b=>b.ty E
variable (E) in
def tyI:List (It K)→Type
 | []=>Unit
 | i :: r=>i.ty E×tyI r
def S0.abs:(s:S0 K)→s.ty E→DV E
 | .int k,n => .int k n
 | .bool,b => .bool b
 | .str,s => .str s
 | .slc k,l => .slc k l
 | .nilp,_ => .nilp
 | .nili,_ => .nili
 | .nils,_ => .nils
 | .fn f,_ => .fn f []
 | .ptr n off,_ => .ptr n off
 | .rowp n,_ => .rowp n
 | .rowv n,b => .rowv n b
 | .row e k,l => .row e k l
 | .argp j,_ => .argp j
 | .junk,_ => .junk
 | .arr n k,l => .arr n k l
 | .any k,x => .any k x
def kv:(ss:List (S0 K))→tyL E ss→List (DV E)
 | [],_ => []
 | s :: r,x=>s.abs x.1 :: kv r x.2
def Kx:(sss:List (List (S0 K)))→Qm E sss→List (DV E)
 | [],_ => []
 | ss :: r,x => .shp (kv ss x.1) :: Kx r x.2
section
variable (T:Tab E)
def S1.abs:(s:S1 K)→s.ty E→DV E
 | .a s,x=>s.abs x
 | .agg ss,x => .agg (kv ss x)
 | .elt k,x => .agg (T.enc k x)
 | .eptr k off,x => .eptr (T.enc k x) off
 | .pin t ss,x => .pin t (kv ss x)
 | .newb t ss,x => .newb t (kv ss x)
 | .ifc t s,x => .ifc t (s.abs x)
 | .ifcA t ss,x => .ifc t (.agg (kv ss x))
 | .shp ss,x => .shp (kv ss x)
 | .opt ss,x => .opt x.1 (kv ss x.2)
 | .fnc f sss,x => .fn f (Kx sss x)
def SB.abs:(s:SB K)→s.ty E→Box E
 | .cells t ss,x => .cells t (kv ss x)
 | .row e k,l => .row e k l
 | .siter,x => .siter x.1 x.2
 | .arr t n k,l => .arr t n k l
def It.abs:(i:It K)→i.ty E→St E→St E
 | .tmp t s,x,st=>⟨st.tmps.set t (s.abs T x),st.mem⟩
 | .box n b,x,st=>⟨st.tmps,(n,b.abs x) :: st.mem⟩
def mn (nt:Nat):(its:List (It K))→tyI E its→St E
 | [],_=>⟨List.replicate nt .junk,[]⟩
 | i :: r,x=>i.abs T x.1 (mn nt r x.2)
def Ul (k:IntKind) (d:DV E):Option (Int):=match d with
 | .int k' n=>if k'=k then some n else none
 | _=>none
def Pj (d:DV E):Option (Bool):=match d with
 | .bool b=>some b
 | _=>none
def Ui (d:DV E):Option (List UInt8):=match d with
 | .str s=>some s
 | _=>none
def UY (k:K) (d:DV E):Option (List (E k)):=match d with
 | .slc k' l=>qZ T k k' l
 | _=>none
def Pp (d:DV E):Option (Unit):=match d with
 | .nilp=>some ()
 | _=>none
def NK (d:DV E):Option (Unit):=match d with
 | .nili=>some ()
 | _=>none
def Pt (d:DV E):Option (Unit):=match d with
 | .nils=>some ()
 | _=>none
def gFn (f:FuncId) (d:DV E):Option (Unit):=match d with
 | .fn f' []=>if f'=f then some () else none
 | _=>none
def T0 (n off:Nat) (d:DV E):Option (Unit):=match d with
 | .ptr n' off'=>if n'=n∧off'=off then some () else none
 | _=>none
def Oq (n:Nat) (d:DV E):Option (Unit):=match d with
 | .rowp n'=>if n'=n then some () else none
 | _=>none
def OA (n:Nat) (d:DV E):Option (Nat):=match d with
 | .rowv n' b=>if n'=n then some b else none
 | _=>none
def UE (e:TypeId) (k:K) (d:DV E):Option (List (E k)):=match d with
 | .row e' k' l=>if e'=e then qZ T k k' l else none
 | _=>none
def T4 (n:Nat) (k:K) (d:DV E):Option (List (E k)):=match d with
 | .arr n' k' l=>if n'=n then qZ T k k' l else none
 | _=>none
def Pe (j:Nat) (d:DV E):Option (Unit):=match d with
 | .argp j'=>if j'=j then some () else none
 | _=>none
def Oc (d:DV E):Option (Unit):=match d with
 | .junk=>some ()
 | _=>none
def Tp (k k':K) (x:E k'):Option (E k) :=
 match T.deq k' k with
 | .isTrue h=>some (h ▸ x)
 | .isFalse _=>none
def UX (k:K) (d:DV E):Option (E k):=match d with
 | .any k' x=>Tp T k k' x
 | _=>none
def S0.rd (s:S0 K) (d:DV E):Option (s.ty E) :=
 match s with
 | .int k=>Ul k d
 | .bool=>Pj d
 | .str=>Ui d
 | .slc k=>UY T k d
 | .nilp=>Pp d
 | .nili=>NK d
 | .nils=>Pt d
 | .fn f=>gFn f d
 | .ptr n off=>T0 n off d
 | .rowp n=>Oq n d
 | .rowv n=>OA n d
 | .row e k=>UE T e k d
 | .argp j=>Pe j d
 | .junk=>Oc d
 | .arr n k=>T4 T n k d
 | .any k=>UX T k d
def rdL:(ss:List (S0 K))→List (DV E)→Option (tyL E ss)
 | [],[]=>some ()
 | s :: r,d :: ds=>(s.rd T d).bind fun x=>(rdL r ds).bind fun y=>some (x,y)
 | _,_=>none
def Rg (d:DV E):Option (List (DV E)):=match d with
 | .agg cs=>some cs
 | _=>none
def Ug (t:TypeId) (d:DV E):Option (List (DV E)):=match d with
 | .pin t' cs=>if t'=t then some cs else none
 | _=>none
def Oh (t:TypeId) (d:DV E):Option (List (DV E)):=match d with
 | .newb t' cs=>if t'=t then some cs else none
 | _=>none
def RX (t:TypeId) (d:DV E):Option (DV E):=match d with
 | .ifc t' d=>if t'=t then some d else none
 | _=>none
def RB (d:DV E):Option (List (DV E)):=match d with
 | .shp cs=>some cs
 | _=>none
def TX (d:DV E):Option (Bool×List (DV E)):=match d with
 | .opt c cs=>some (c,cs)
 | _=>none
def LV:(sss:List (List (S0 K)))→List (DV E)→Option (Qm E sss)
 | [],[]=>some ()
 | ss :: r,d :: ds=>((RB d).bind (rdL T ss)).bind fun x=>(LV r ds).bind fun y=>some (x,y)
 | _,_=>none
def Uz (f:FuncId) (d:DV E):Option (List (DV E)):=match d with
 | .fn f' cs=>if f'=f then some cs else none
 | _=>none
def S1.rd (s:S1 K) (d:DV E):Option (s.ty E) :=
 match s with
 | .a s=>s.rd T d
 | .agg ss=>(Rg d).bind (rdL T ss)
 | .pin t ss=>(Ug t d).bind (rdL T ss)
 | .newb t ss=>(Oh t d).bind (rdL T ss)
 | .ifc t s=>(RX t d).bind (s.rd T)
 | .ifcA t ss=>(RX t d).bind fun d=>(Rg d).bind (rdL T ss)
 | .shp ss=>(RB d).bind (rdL T ss)
 | .opt ss=>(TX d).bind fun q=>(rdL T ss q.2).bind fun x=>some (q.1,x)
 | .fnc f sss=>(Uz f d).bind (LV T sss)
 | _=>none
def SB.rd:(s:SB K)→Box E→Option (s.ty E)
 | .cells t ss, .cells t' cs=>if t'=t then rdL T ss cs else none
 | .row e k, .row e' k' l=>if e'=e then qZ T k k' l else none
 | .siter, .siter s pos=>some (s,pos)
 | .arr t n k, .arr t' n' k' l=>if t'=t∧n'=n then qZ T k k' l else none
 | _,_=>none
def It.rd (st:St E):(i:It K)→Option (i.ty E)
 | .tmp t s=>s.rd T (st.tmps.getD t .junk)
 | .box n b=>(look st.mem n).bind (b.rd T)
def rdI (st:St E):(its:List (It K))→Option (tyI E its)
 | []=>some ()
 | i :: r=>(i.rd T st).bind fun x=>(rdI st r).bind fun y=>some (x,y)
def pI:List (It K)→List Nat
 | [] => []
 | .tmp .. :: r=>pI r
 | .box n _ :: r=>n :: pI r
def rdS (nt:Nat) (ss:SS K) (st:St E):Option (tyI E ss.its) :=
 if st.tmps.length=nt∧nodupB (pI ss.its)=true then rdI T (GY T ss.co (forget ss.frz st)) ss.its else none
inductive Ex where
 | norm | exit (i:Nat) | ret
 deriving DecidableEq
variable (E) in
def Ml:Ex×SS K→List (Ex×SS K)→Type
 | x,[]=>tyI E x.2.its
 | x,y :: r=>tyI E x.2.its ⊕ Ml y r
def uF (nt:Nat):(x:Ex×SS K)→(l:List (Ex×SS K))→Ex→St E→Option (Ml E x l)
 | x,[],e,st=>if x.1=e then rdS T nt x.2 st else none
 | x,y :: r,e,st=>if x.1=e then (rdS T nt x.2 st).bind fun v=>some (.inl v) else (uF nt y r e st).bind fun v=>some (.inr v)
def oN {γ:Type} (nt:Nat):(x:Ex×SS K)→(l:List (Ex×SS K))→Ml E x l→(Ex→St E→γ)→γ
 | x,[],v,k=>k x.1 (mn T nt x.2.its v)
 | x,y :: r,v,k=>match v with
  | .inl v=>k x.1 (mn T nt x.2.its v)
  | .inr v=>oN nt y r v k
end
def assoc {α:Type}:List (Nat×α)→Nat→Option α
 | [],_=>none
 | (k,a) :: r,n=>if k=n then some a else assoc r n
structure UF (K:Type) where
 orc:Orc:={}
 nt:Nat
 joins:List (Nat×(Ex×SS K)×List (Ex×SS K)) := []
 loops:List (Nat×SS K×(Ex×SS K)×List (Ex×SS K)) := []
 frz:List (Nat×List Nat) := []
 cuts:List (Nat×List (Nat×SS K)) := []
 bjoins:List (Nat×(Ex×SS K)×List (Ex×SS K)) := []
 ends:List (Nat×SS K) := []
def AE (id:Nat) (e:Ex):Ex:=match e with
 | .exit j=>if j=id then .norm else .exit j
 | e=>e
def kM:Code→Nat
 | .region id _ _=>id+1
 | .seq x y=>if kM x=0 then kM y else kM x
 | .cond _ x y=>if kM x=0 then kM y else kM x
 | .block _ b=>kM b
 | .loop b=>kM b
 | _=>0
def aV {X Y:Type} (f:X→Option (X ⊕ Y)):Nat→X→Option Y
 | 0,_=>none
 | n+1,x=>(f x).bind fun r=>match r with
  | .inl x'=>aV f n x'
  | .inr y=>some y
section
variable (T:Tab E) (P:Program) (env:Env E) (pl:UF K) (F:Nat)
def Uh (q:Nat):Operand→Option ((Ex×SS K)×List (Ex×SS K))
 | .tmp t=>assoc pl.joins (t+100000 * q)
 | _=>none
def zO (ops:Array Oper) {β:Type}:List (Nat×SS K)→List Nat→St E→(St E→Option β)→Option β
 | [],l,st,k=>r9 T P env pl.orc ops none l [] st k
 | (c,ss) :: r,l,st,k=>(r9 T P env pl.orc ops none (l.take c) [] st (rdS T pl.nt ss)).bind fun x=>zO ops r (l.drop c) (mn T pl.nt ss.its x) k
def oM:Code→Nat→St E→{β:Type}→(Ex→St E→Option β)→Option β
 | .skip,_,st,_,k=>k .norm st
 | .region id ops draw,_,st,_,k =>
  if draw=true then
   if tD ops=true then
    match assoc pl.ends id with
    | none=>r9 T P env pl.orc ops (some (FU ops)) (List.range ops.size) [] (forget ((assoc pl.frz id).getD []) st) (k .norm)
    | some ss=>(r9 T P env pl.orc ops (some (FU ops)) (List.range ops.size) [] (forget ((assoc pl.frz id).getD []) st) (rdS T pl.nt ss)).bind fun x=>k .norm (mn T pl.nt ss.its x)
   else none
  else zO T P env pl ops ((assoc pl.cuts id).getD []) (List.range ops.size) (forget ((assoc pl.frz id).getD []) st) (k .norm)
 | .seq x y,l,st,_,k=>oM x l st fun e st'=>match e with
  | .norm=>oM y l st' k
  | e=>k e st'
 | .cond c x y,l,st,_,k =>
  match st.ev c with
  | .bool b =>
   match Uh pl (kM (.seq x y)) c with
   | none=>if b=true then oM x l st k else oM y l st k
   | some (h,r)=>(if b=true then oM x l st (uF T pl.nt h r) else oM y l st (uF T pl.nt h r)).bind fun t=>oN T pl.nt h r t k
  | _=>none
 | .block id body,_,st,_,k =>
  match assoc pl.bjoins id with
  | none=>oM body id st fun e st'=>k (AE id e) st'
  | some (h,r)=>(oM body id st fun e st'=>uF T pl.nt h r (AE id e) st').bind fun t=>oN T pl.nt h r t k
 | .loop body,l,st,_,k =>
  match assoc pl.loops l with
  | none=>none
  | some (ss,h,r)=>(rdS T pl.nt ss st).bind fun x =>
   (aV (fun x=>oM body l (mn T pl.nt ss.its x) fun e st'=>match e with
    | .norm=>(rdS T pl.nt ss st').bind fun v=>some (Sum.inl v)
    | e=>(uF T pl.nt h r e st').bind fun v=>some (Sum.inr v)) F x).bind fun y=>oN T pl.nt h r y k
 | .exit id,_,st,_,k=>k (.exit id) st
 | .ret,_,st,_,k=>k .ret st
 | _,_,_,_,_=>none
end
end Go.Vm
namespace Go.Vm
open Go.Lib
variable {K:Type} {E:K→Type}
variable {T:Tab E} {P:Program}
theorem dI {α:Type} {c:Prop} [Decidable c] {m:Option α} {x:α} (h:(if c then m else none)=some x):c∧m=some x:=by
 by_cases hc:c
 ·rw [if_pos hc] at h; exact ⟨hc,h⟩
 ·rw [if_neg hc] at h; cases h
theorem R0 {k:IntKind} {d:DV E} {x:Int} (h:Ul k d=some x):DV.int k x=d:=by
 unfold Ul at h;split at h
 ·obtain ⟨e,h⟩:=dI h; cases h; subst e; rfl
 ·cases h
theorem Od {d:DV E} {x:Bool} (h:Pj d=some x):DV.bool x=d:=by
 unfold Pj at h;split at h
 ·cases h; rfl
 ·cases h
theorem Q0 {d:DV E} {x:List UInt8} (h:Ui d=some x):DV.str x=d:=by
 unfold Ui at h;split at h
 ·cases h; rfl
 ·cases h
theorem Q3 {k:K} {d:DV E} {x:List (E k)} (h:UY T k d=some x):DV.slc k x=d:=by
 unfold UY at h;split at h
 ·obtain ⟨e,he⟩:=gW h; subst e; rw [he]
 ·cases h
theorem OV {d:DV E} {x:Unit} (h:Pp d=some x):DV.nilp=d:=by
 unfold Pp at h;split at h
 ·cases h; rfl
 ·cases h
theorem Pa {d:DV E} {x:Unit} (h:NK d=some x):DV.nili=d:=by
 unfold NK at h;split at h
 ·cases h; rfl
 ·cases h
theorem P6 {d:DV E} {x:Unit} (h:Pt d=some x):DV.nils=d:=by
 unfold Pt at h;split at h
 ·cases h; rfl
 ·cases h
theorem UL {f:FuncId} {d:DV E} {x:Unit} (h:gFn f d=some x):DV.fn f []=d:=by
 unfold gFn at h;split at h
 ·obtain ⟨e,h⟩:=dI h; cases h; subst e; rfl
 ·cases h
theorem Sq {n off:Nat} {d:DV E} {x:Unit} (h:T0 n off d=some x):DV.ptr n off=d:=by
 unfold T0 at h;split at h
 ·obtain ⟨⟨e,e'⟩,h⟩:=dI h; subst e; subst e'; rfl
 ·cases h
theorem NV {n:Nat} {d:DV E} {x:Unit} (h:Oq n d=some x):DV.rowp n=d:=by
 unfold Oq at h;split at h
 ·obtain ⟨e,h⟩:=dI h; cases h; subst e; rfl
 ·cases h
theorem Ob {n:Nat} {d:DV E} {x:Nat} (h:OA n d=some x):DV.rowv n x=d:=by
 unfold OA at h;split at h
 ·obtain ⟨e,h⟩:=dI h; cases h; subst e; rfl
 ·cases h
theorem Rf {e:TypeId} {k:K} {d:DV E} {x:List (E k)} (h:UE T e k d=some x):DV.row e k x=d:=by
 unfold UE at h;split at h
 ·obtain ⟨e,h2⟩:=dI h; obtain ⟨e',he⟩:=gW h2; subst e; subst e'; rw [he]
 ·cases h
theorem Sh {n:Nat} {k:K} {d:DV E} {x:List (E k)} (h:T4 T n k d=some x):DV.arr n k x=d:=by
 unfold T4 at h;split at h
 ·obtain ⟨e,h2⟩:=dI h; obtain ⟨e',he⟩:=gW h2; subst e; subst e'; rw [he]
 ·cases h
theorem Qj {j:Nat} {d:DV E} {x:Unit} (h:Pe j d=some x):DV.argp j=d:=by
 unfold Pe at h;split at h
 ·obtain ⟨e,h⟩:=dI h; cases h; subst e; rfl
 ·cases h
theorem Pb {d:DV E} {x:Unit} (h:Oc d=some x):DV.junk=d:=by
 unfold Oc at h;split at h
 ·cases h; rfl
 ·cases h
theorem Rw {k:K} {d:DV E} {x:E k} (h:UX T k d=some x):DV.any k x=d:=by
 unfold UX at h;split at h
 ·unfold Tp at h
  split at h
  ·rename_i e _
   cases h;subst e;rfl
  ·cases h
 ·cases h
theorem S0.pJ {s:S0 K} {d:DV E} {x:s.ty E} (h:s.rd T d=some x):s.abs x=d:=by
 cases s with
 | int k=>exact R0 h
 | bool=>exact Od h
 | str=>exact Q0 h
 | slc k=>exact Q3 h
 | nilp=>exact OV h
 | nili=>exact Pa h
 | nils=>exact P6 h
 | fn f=>exact UL h
 | ptr n off=>exact Sq h
 | rowp n=>exact NV h
 | rowv n=>exact Ob h
 | row e k=>exact Rf h
 | argp j=>exact Qj h
 | junk=>exact Pb h
 | arr n k=>exact Sh h
 | any k=>exact Rw h
theorem nT : ∀ {ss:List (S0 K)} {ds:List (DV E)} {x:tyL E ss},rdL T ss ds=some x→kv ss x=ds
 | [],[],x,h=>rfl
 | [],d :: ds,x,h=>by simp [rdL] at h
 | s :: r,[],x,h=>by simp [rdL] at h
 | s :: r,d :: ds,x,h=>by
  simp only [rdL] at h;obtain ⟨y,hy,h⟩:=Option.bind_eq_some_iff.1 h;obtain ⟨z,hz,h⟩:=Option.bind_eq_some_iff.1 h;cases h;simp only [kv,S0.pJ hy,nT hz]
theorem J8 {d:DV E} {x:List (DV E)} (h:Rg d=some x):DV.agg x=d:=by
 unfold Rg at h;split at h
 ·cases h; rfl
 ·cases h
theorem Re {t:TypeId} {d:DV E} {x:List (DV E)} (h:Ug t d=some x):DV.pin t x=d:=by
 unfold Ug at h;split at h
 ·obtain ⟨e,h⟩:=dI h; cases h; subst e; rfl
 ·cases h
theorem Py {t:TypeId} {d:DV E} {x:List (DV E)} (h:Oh t d=some x):DV.newb t x=d:=by
 unfold Oh at h;split at h
 ·obtain ⟨e,h⟩:=dI h; cases h; subst e; rfl
 ·cases h
theorem KA {t:TypeId} {d x:DV E} (h:RX t d=some x):DV.ifc t x=d:=by
 unfold RX at h;split at h
 ·obtain ⟨e,h⟩:=dI h; cases h; subst e; rfl
 ·cases h
theorem Kg {d:DV E} {x:List (DV E)} (h:RB d=some x):DV.shp x=d:=by
 unfold RB at h;split at h
 ·cases h; rfl
 ·cases h
theorem RF {d:DV E} {x:Bool×List (DV E)} (h:TX d=some x):DV.opt x.1 x.2=d:=by
 unfold TX at h;split at h
 ·cases h; rfl
 ·cases h
theorem Ku : ∀ {sss:List (List (S0 K))} {ds:List (DV E)} {x:Qm E sss},LV T sss ds=some x→Kx sss x=ds
 | [],[],x,h=>rfl
 | [],d :: ds,x,h=>by simp [LV] at h
 | s :: r,[],x,h=>by simp [LV] at h
 | s :: r,d :: ds,x,h=>by
  simp only [LV] at h;obtain ⟨y,hy,h⟩:=Option.bind_eq_some_iff.1 h;obtain ⟨cs,h1,hy⟩:=Option.bind_eq_some_iff.1 hy;obtain ⟨z,hz,h⟩:=Option.bind_eq_some_iff.1 h;cases h;simp only [Kx,nT hy,Ku hz,Kg h1]
theorem R1 {f:FuncId} {d:DV E} {x:List (DV E)} (h:Uz f d=some x):DV.fn f x=d:=by
 unfold Uz at h;split at h
 ·obtain ⟨e,h⟩:=dI h; cases h; subst e; rfl
 ·cases h
theorem S1.pJ {s:S1 K} {d:DV E} {x:s.ty E} (h:s.rd T d=some x):s.abs T x=d:=by
 cases s with
 | a s=>exact S0.pJ h
 | elt k=>cases h
 | eptr k off=>cases h
 | agg ss=>obtain ⟨cs,h1,h⟩:=Option.bind_eq_some_iff.1 h; rw [← J8 h1]; exact congrArg _ (nT h)
 | pin t ss=>obtain ⟨cs,h1,h⟩:=Option.bind_eq_some_iff.1 h; rw [← Re h1]; exact congrArg _ (nT h)
 | newb t ss=>obtain ⟨cs,h1,h⟩:=Option.bind_eq_some_iff.1 h; rw [← Py h1]; exact congrArg _ (nT h)
 | ifc t s=>obtain ⟨cs,h1,h⟩:=Option.bind_eq_some_iff.1 h; rw [← KA h1]; exact congrArg _ (S0.pJ h)
 | ifcA t ss =>
  obtain ⟨d',h1,h⟩:=Option.bind_eq_some_iff.1 h;obtain ⟨cs,h2,h⟩:=Option.bind_eq_some_iff.1 h;rw [← KA h1, ← J8 h2];exact congrArg (fun q=>DV.ifc _ (.agg q)) (nT h)
 | shp ss=>obtain ⟨cs,h1,h⟩:=Option.bind_eq_some_iff.1 h; rw [← Kg h1]; exact congrArg _ (nT h)
 | opt ss =>
  obtain ⟨q,h1,h⟩:=Option.bind_eq_some_iff.1 h;obtain ⟨y,h2,h⟩:=Option.bind_eq_some_iff.1 h;cases h;rw [← RF h1];exact congrArg (DV.opt q.1) (nT h2)
 | fnc f sss=>obtain ⟨cs,h1,h⟩:=Option.bind_eq_some_iff.1 h; rw [← R1 h1]; exact congrArg _ (Ku h)
theorem SB.pJ {s:SB K} {b:Box E} {x:s.ty E} (h:s.rd T b=some x):s.abs x=b:=by
 cases s <;> cases b <;> simp only [SB.rd] at h <;> first | (cases h; done) | skip
 case cells.cells=>obtain ⟨e,h⟩:=dI h; subst e; exact congrArg _ (nT h)
 case row.row =>
  obtain ⟨e,h⟩:=dI h;subst e;obtain ⟨e,he⟩:=gW h;subst e;rw [he];rfl
 case siter.siter=>cases h; rfl
 case arr.arr =>
  obtain ⟨⟨e,e'⟩,h⟩:=dI h;subst e; subst e';obtain ⟨e,he⟩:=gW h;subst e;rw [he];rfl
theorem RQ {s:S1 K} {x:s.ty E} : ∀ n i cs off,s.abs T x ≠ .rptr n i cs off:=by
 intro n i cs off;cases s with
 | a s=>cases s <;> simp [S1.abs,S0.abs]
 | _=>simp [S1.abs]
theorem Ip {st:St E} : ∀ {its:List (It K)} {x:tyI E its},rdI T st its=some x →
  (mn T st.tmps.length its x).tmps.length=st.tmps.length∧names (mn T st.tmps.length its x).mem=pI its ∧
  (∀ i (hi:i<st.tmps.length) (bj:i<(mn T st.tmps.length its x).tmps.length),(mn T st.tmps.length its x).tmps[i] = .junk∨((mn T st.tmps.length its x).tmps[i]=st.tmps[i] ∧ ∀ n j cs off,st.tmps[i] ≠ .rptr n j cs off)) ∧
  ∀ n b,(n,b)∈(mn T st.tmps.length its x).mem→(n,b)∈st.mem
 | [],x,h=>⟨by simp [mn],rfl,fun i hi bj => .inl (by simp [mn]),fun n b hm=>by simp [mn] at hm⟩
 | .tmp t s :: r,x,h=>by
  simp only [rdI,It.rd] at h;obtain ⟨y,hy,h⟩:=Option.bind_eq_some_iff.1 h;obtain ⟨z,hz,h⟩:=Option.bind_eq_some_iff.1 h;cases h;obtain ⟨h1,h2,h3,h4⟩:=Ip hz;refine ⟨by simp [mn,It.abs,h1],by simp [mn,It.abs,pI,h2],fun i hi bj => ?_,fun n b hm=>h4 n b (by simpa [mn,It.abs] using hm)⟩;simp only [mn,It.abs] at bj ⊢
  by_cases hit:t=i
  ·subst hit
   simp only [List.getElem_set_self];have:=S1.pJ hy;rw [eX _ _ _ hi] at this;refine .inr ⟨this,fun n j cs off e => ?_⟩;rw [e] at this;exact RQ n j cs off this
  ·simp only [List.getElem_set_ne hit]
   exact h3 i hi (by simpa using bj)
 | .box n b :: r,x,h=>by
  simp only [rdI,It.rd] at h;obtain ⟨y,hy,h⟩:=Option.bind_eq_some_iff.1 h;obtain ⟨z,hz,h⟩:=Option.bind_eq_some_iff.1 h;cases h;obtain ⟨b0,hl,hb⟩:=Option.bind_eq_some_iff.1 hy;obtain ⟨h1,h2,h3,h4⟩:=Ip hz;refine ⟨h1,by simp only [mn,It.abs,names,List.map_cons,pI]; exact congrArg _ h2,h3,fun n' b' hm => ?_⟩;simp only [mn,It.abs,List.mem_cons] at hm;rcases hm with hm | hm
  ·cases hm
   rw [SB.pJ hb];exact bR hl
  ·exact h4 _ _ hm
section
variable {w0:World} {G:GP}
theorem yb {nt:Nat} {ss:SS K} {st:St E} {x:tyI E ss.its} (h:rdS T nt ss st=some x) {a:Act} {w:World} {g:Gh} (hi:Inv T w0 G st a w g) : ∃ g',Inv T w0 G (mn T nt ss.its x) a w g':=by
 unfold rdS at h;split at h
 ·rename_i hc
  obtain ⟨hl,hn⟩:=hc;have hf0:=oz hi ss.frz;obtain ⟨g',hf⟩:=Fv ss.co hf0;have hlen:(GY T ss.co (forget ss.frz st)).tmps.length=nt:=by
   rw [GD];unfold forget; split
   ·exact hl
   ·simpa using hl
  subst hlen;obtain ⟨h1,h2,h3,h4⟩:=Ip h;refine ⟨g',hf.VW ⟨h1,by rw [h2]; exact kp hn,fun i hi bj => ?_,fun n b hm=>⟨b,h4 n b hm, .same b⟩⟩⟩;rcases h3 i hi bj with h5 | ⟨h5,h6⟩
  ·rw [h5]; exact .junk _
  ·rw [h5]; exact .same _ (fun n j cs off e=>absurd e (h6 n j cs off))
 ·cases h
theorem w8 {nt:Nat} : ∀ {x:Ex×SS K} {l:List (Ex×SS K)} {e:Ex} {st:St E} {t:Ml E x l},uF T nt x l e st=some t →
  ∃ st',(∀ (γ:Type) (k:Ex→St E→γ),oN T nt x l t k=k e st') ∧ ∀ a w g,Inv T w0 G st a w g → ∃ g',Inv T w0 G st' a w g'
 | x,[],e,st,t,h=>by
  simp only [uF] at h;obtain ⟨he,h⟩:=dI h;exact ⟨_,fun γ k=>by simp only [oN,he],fun a w g hi=>yb h hi⟩
 | x,y :: r,e,st,t,h=>by
  simp only [uF] at h;split at h
  ·rename_i he
   obtain ⟨v,hv,h⟩:=Option.bind_eq_some_iff.1 h;cases h;exact ⟨_,fun γ k=>by simp only [oN,he],fun a w g hi=>yb hv hi⟩
  ·obtain ⟨v,hv,h⟩:=Option.bind_eq_some_iff.1 h
   cases h;obtain ⟨st',h1,h2⟩:=w8 hv;exact ⟨st',fun γ k=>by simp only [oN]; exact h1 γ k,h2⟩
def Ex.ex:Ex→Exit
 | .norm => .normal
 | .exit i => .exit i
 | .ret => .ret
variable (T P w0 G) in
def Nc (J:List Nat) (c:Code) (st:St E) (e:Ex) (st':St E):Prop :=
 ∀ a w g,Inv T w0 G st a w g→c.wp P (fun e' a' w'=>e'=e.ex ∧ ∃ g',Inv T w0 G st' a' w' g'∧oj J a a') a w
def Ic (J:List Nat) (o:Oper):Bool:=match o.dst with
 | some d => !J.contains d
 | none=>true
def qq (J:List Nat):Code→Bool
 | .region _ ops _=>ops.toList.all (Ic J)
 | .seq x y | .cond _ x y=>qq J x && qq J y
 | .block _ b | .loop b=>qq J b
 | _=>true
theorem zh {J:List Nat} {ops:Array Oper} (h:ops.toList.all (Ic J)=true) (i:Nat) (o:Oper) (ho:ops[i]? = some o) (d:Nat) (hd:o.dst=some d):d ∉ J:=by
 have:=List.all_eq_true.1 h o (by simpa using Array.mem_of_getElem? ho);unfold Ic at this;rw [hd] at this;simpa using this
variable (P) in
def uX (c:Code) (Q:Exit→Act→World→Prop) (a:Act) (w:World):Prop :=
 ∀ (b:Frame) (k:List Item) (cs:List Frame), ∃ e a' w',Q e a' w'∧Arrives P (lone (b.at a (.code c :: .inLoop c :: k)) cs w) b k cs e a' w'
theorem EA {c:Code} {Q:Exit→Act→World→Prop} {a:Act} {w:World} (h:uX P c Q a w):(Code.loop c).wp P Q a w:=by
 intro b k cs;obtain ⟨e,a',w',hq,o8⟩:=h b k cs;exact ⟨e,a',w',hq, .of_steps (.one step_loop) o8⟩
theorem F2 {c:Code} {Q Q':Exit→Act→World→Prop} {a:Act} {w:World} (h:uX P c Q a w) (hq : ∀ e a w,Q e a w→Q' e a w):uX P c Q' a w :=
 fun b k cs=>let ⟨e,a',w',q,r⟩:=h b k cs; ⟨e,a',w',hq _ _ _ q,r⟩
theorem wS {c:Code} {Q:Exit→Act→World→Prop} {a:Act} {w:World} (h:c.wp P (Exit.then (uX P c Q) Q) a w):uX P c Q a w:=by
 intro b k cs;obtain ⟨e,a₁,w₁,hq,o8⟩:=h b (.inLoop c :: k) cs;cases e with
 | normal =>
  obtain ⟨e₂,a₂,w₂,hq₂,harr₂⟩:=hq b k cs;exact ⟨e₂,a₂,w₂,hq₂, .of_steps (Steps.trans o8 (.one step_inLoop)) harr₂⟩
 | exit id=>exact ⟨_,a₁,w₁,hq, .pass (x := .inLoop c) rfl (fun _ _ => .inl (by simp)) o8⟩
 | goto l=>exact ⟨_,a₁,w₁,hq, .pass (x := .inLoop c) rfl (fun _ _ => .inl (by simp)) o8⟩
 | ret=>exact ⟨_,a₁,w₁,hq, .pass (x := .inLoop c) rfl (fun _ _ => .inl (by simp)) o8⟩
 | panic ch=>exact ⟨_,a₁,w₁,hq, .pass (x := .inLoop c) rfl (fun _ _ => .inl (by simp)) o8⟩
 | outgrown=>exact ⟨_,a₁,w₁,hq, .pass (x := .inLoop c) rfl (fun _ _ => .inl (by simp)) o8⟩
theorem Nk {st:St E} {a:Act} {w:World} {g:Gh} (h:Inv T w0 G st a w g) (n:Nat):Inv T w0 G st a { w with drawn:=n } g :=
 h.grow (w':={ w with drawn:=n }) ⟨rfl,rfl,rfl,Nat.le_refl _,fun _ _ _=>rfl⟩ none .junk undef (Rep.junk _).toT (fun _ _ _ _ e=>by cases e)
theorem y7 {st:St E} {a:Act} {w:World} {g:Gh} (h:Inv T w0 G st a w g) {c:Operand} {b:Bool} (hc:st.ev c = .bool b):a.eval c = .bool b:=by
 have:=h.ev c;rw [hc] at this;exact lu this
variable {env:Env E} {pl:UF K} {F:Nat} {J:List Nat}
theorem KQ [FI:zp T w0 G] (oc : ∀ f,Ctr T P f (env f)) {ops:Array Oper} (hJ : ∀ (i:Nat) (o:Oper),ops[i]? = some o → ∀ d,o.dst=some d→d ∉ J) {β:Type} : ∀ (cuts:List (Nat×SS K)) (l:List Nat) (st:St E) (k:St E→Option β) (r:β),
  zO T P env pl ops cuts l st k=some r → ∃ st',k st'=some r ∧ ∀ (Q:Exit→Act→World→Prop) (a:Act) (w:World) (g:Gh),Inv T w0 G st a w g →
   (∀ a' w' g',Inv T w0 G st' a' w' g'→oj J a a'→Q .normal a' w')→wpOps P ops Q l a w
 | [],l,st,k,r,h=>by
  obtain ⟨rs,st',h1,h2,h3,h4⟩:=lZ _ _ _ _ _ (fun a ha=>by cases ha) h;refine ⟨st',h3,fun Q a w g hi hn => ?_⟩;rw [← h1, ← List.append_nil (rs.map (·.i))];exact E9 (T:=T) (env:=env) (orc:=pl.orc) (w0:=w0) (G:=G) oc hJ rs _ st' a w g hi h2 [] fun a' w' g' bj hk=>by simpa [wpOps] using hn a' w' g' bj hk
 | (c,ss) :: cuts,l,st,k,r,h=>by
  simp only [zO] at h;obtain ⟨x,hx,h⟩:=Option.bind_eq_some_iff.1 h;obtain ⟨rs,st1,h1,h2,h3,h4⟩:=lZ _ _ _ _ _ (fun a ha=>by cases ha) hx;obtain ⟨st',hk,hw⟩:=KQ oc hJ cuts (l.drop c) _ k r h;refine ⟨st',hk,fun Q a w g hi hn => ?_⟩;rw [← List.take_append_drop c l, ← h1];exact E9 (T:=T) (env:=env) (orc:=pl.orc) (w0:=w0) (G:=G) oc hJ rs _ st1 a w g hi h2 _ fun a' w' g' bj hkp=>by
   obtain ⟨g1,FJ⟩:=yb h3 bj;exact hw Q a' w' g1 FJ fun a2 w2 g2 XA tj=>hn a2 w2 g2 XA (hkp.trans tj)
theorem Mo [FI:zp T w0 G] (oc : ∀ f,Ctr T P f (env f)) (hm:P.follows .mixedOrders=true) {β:Type} {id:Nat} {ops:Array Oper} {draw:Bool} {l:Nat} {st:St E} {k:Ex→St E→Option β} {r:β}
  (hJ:qq J (.region id ops draw)=true) (h:oM T P env pl F (.region id ops draw) l st k=some r) : ∃ e st',k e st'=some r∧Nc T P w0 G J (.region id ops draw) st e st':=by
 simp only [oM] at h;cases draw with
 | true =>
  simp only [if_true] at h;split at h
  ·rename_i hb
   have key : ∀ {γ:Type} (K:St E→Option γ) (y:γ),r9 T P env pl.orc ops (some (FU ops)) (List.range ops.size) [] (forget ((assoc pl.frz id).getD []) st) K=some y →
     ∃ st',K st'=some y∧Nc T P w0 G J (.region id ops true) st .norm st':=by
    intro γ K y h;obtain ⟨rs,st',h1,h2,h3,h4⟩:=lZ _ _ _ _ _ (fun a ha=>by cases ha) h;refine ⟨st',h3,fun a w g hi=>wp_region_any hm ?_⟩;refine TO (T:=T) (env:=env) (orc:=pl.orc) (w0:=w0) (G:=G) oc hb (zh hJ) (st':=st') (a0:=a) (fun a w g hi hk=>⟨rfl,g,hi,hk⟩) _ _ rs _ a _ g (Nk (oz hi _) _) (oj.refl J a) h2 ?_ (by simp) ?_ (h4 _ rfl).2 ?_
    ·rw [h1]; symm
     rw [List.filter_eq_self];intro j hj;simp [List.mem_range.1 hj]
    ·intro i o e ho he Yt hl
     by_cases hi:i<ops.size
     ·simp [hi] at hl
     ·simp [Nat.le_of_not_lt hi] at hl
    ·have:=congrArg List.length h1
     simp at this;omega
   split at h
   ·obtain ⟨st',h1,h2⟩:=key _ _ h
    exact ⟨.norm,st',h1,h2⟩
   ·rename_i ss _
    obtain ⟨x,hx,h⟩:=Option.bind_eq_some_iff.1 h;obtain ⟨st',h1,h2⟩:=key _ _ hx;refine ⟨.norm,_,h,fun a w g hi=>wp_mono (h2 a w g hi) ?_⟩
    rintro e' a' w' ⟨rfl,g',bj,yp⟩
    obtain ⟨g1,FJ⟩:=yb h1 bj;exact ⟨rfl,g1,FJ,yp⟩
  ·cases h
 | false =>
  simp only [abq,if_false] at h;obtain ⟨st',h3,hw⟩:=KQ (w0:=w0) (G:=G) oc (zh hJ) _ _ _ _ _ h;exact ⟨.norm,st',h3,fun a w g hi=>wp_region (hw _ a w g (oz hi _) fun a w g hi hk=>⟨rfl,g,hi,hk⟩)⟩
theorem RE [FI:zp T w0 G] (oc : ∀ f,Ctr T P f (env f)) (hm:P.follows .mixedOrders=true) : ∀ (c:Code),qq J c=true → ∀ (l:Nat) (st:St E) (β:Type) (k:Ex→St E→Option β) (r:β),oM T P env pl F c l st k=some r →
  ∃ e st',k e st'=some r∧Nc T P w0 G J c st e st':=by
 intro c;induction c with
 | skip=>intro hJ l st β k r h; exact ⟨.norm,st,h,fun a w g hi=>wp_skip ⟨rfl,g,hi,oj.refl J a⟩⟩
 | region id ops draw=>intro hJ l st β k r h; exact Mo oc hm hJ h
 | seq x y ihx ihy =>
  intro hJ l st β k r h;simp only [qq,abv] at hJ;simp only [oM] at h;obtain ⟨e,st1,hk,hg⟩:=ihx hJ.1 _ _ _ _ _ h;cases e with
  | norm =>
   obtain ⟨e2,st2,tj,SX⟩:=ihy hJ.2 _ _ _ _ _ hk;refine ⟨e2,st2,tj,fun a w g hi=>wp_seq (wp_mono (hg a w g hi) ?_)⟩
   rintro e a' w' ⟨rfl,g',bj,yp⟩
   exact wp_mono (SX a' w' g' bj) fun e a w ⟨h1,g2,h2,h3⟩=>⟨h1,g2,h2,yp.trans h3⟩
  | exit j =>
   refine ⟨.exit j,st1,hk,fun a w g hi=>wp_seq (wp_mono (hg a w g hi) ?_)⟩
   rintro e a' w' ⟨rfl,g',bj,yp⟩
   exact ⟨rfl,g',bj,yp⟩
  | ret =>
   refine ⟨.ret,st1,hk,fun a w g hi=>wp_seq (wp_mono (hg a w g hi) ?_)⟩
   rintro e a' w' ⟨rfl,g',bj,yp⟩
   exact ⟨rfl,g',bj,yp⟩
 | cond c x y ihx ihy =>
  intro hJ l st β k r h;simp only [qq,abv] at hJ;simp only [oM] at h;split at h
  ·rename_i b hb
   have W4 : ∀ (β:Type) (k:Ex→St E→Option β) (r:β),(if b=true then oM T P env pl F x l st k else oM T P env pl F y l st k)=some r → ∃ e st',k e st'=some r∧Nc T P w0 G J (.cond c x y) st e st':=by
    intro β k r h;cases b with
    | true =>
     obtain ⟨e,st',h1,h2⟩:=ihx hJ.1 _ _ _ _ _ (by simpa using h);exact ⟨e,st',h1,fun a w g hi=>wp_cond_true (y7 hi hb) (h2 a w g hi)⟩
    | false =>
     obtain ⟨e,st',h1,h2⟩:=ihy hJ.2 _ _ _ _ _ (by simpa using h);exact ⟨e,st',h1,fun a w g hi=>wp_cond_false (y7 hi hb) (h2 a w g hi)⟩
   split at h
   ·exact W4 _ _ _ h
   ·rename_i hd tl _
    obtain ⟨t,ht,h⟩:=Option.bind_eq_some_iff.1 h;obtain ⟨e,st1,h1,h2⟩:=W4 _ _ _ ht;obtain ⟨st2,h3,h4⟩:=w8 (w0:=w0) (G:=G) h1;rw [h3] at h;refine ⟨e,st2,h,fun a w g hi=>wp_mono (h2 a w g hi) ?_⟩
    rintro e' a' w' ⟨rfl,g',bj,yp⟩
    obtain ⟨g1,FJ⟩:=h4 _ _ _ bj;exact ⟨rfl,g1,FJ,yp⟩
  ·cases h
 | block id body ih =>
  intro hJ l st β k r h;simp only [oM] at h;have out : ∀ (e:Ex) (st1:St E),Nc T P w0 G J body st e st1→Nc T P w0 G J (.block id body) st (AE id e) st1:=by
   intro e st1 hg a w g hi;refine wp_block (wp_mono (hg a w g hi) ?_)
   rintro e' a' w' ⟨rfl,g',bj,yp⟩
   cases e with
   | norm=>exact ⟨rfl,g',bj,yp⟩
   | ret=>exact ⟨rfl,g',bj,yp⟩
   | exit j =>
    by_cases hj:j=id
    ·simp only [AE,hj,if_true,Ex.ex,Exit.inBlock]
     exact ⟨trivial,g',bj,yp⟩
    ·simp only [AE,hj,if_false,Ex.ex,Exit.inBlock]
     exact ⟨trivial,g',bj,yp⟩
  split at h
  ·obtain ⟨e,st1,hk,hg⟩:=ih hJ _ _ _ _ _ h
   exact ⟨AE id e,st1,hk,out e st1 hg⟩
  ·rename_i hd tl _
   obtain ⟨t,ht,h⟩:=Option.bind_eq_some_iff.1 h;obtain ⟨e,st1,h1,h2⟩:=ih hJ _ _ _ _ _ ht;obtain ⟨st2,h3,h4⟩:=w8 (w0:=w0) (G:=G) h1;rw [h3] at h;refine ⟨AE id e,st2,h,fun a w g hi=>wp_mono (out e st1 h2 a w g hi) ?_⟩
   rintro e' a' w' ⟨rfl,g',bj,yp⟩
   obtain ⟨g1,FJ⟩:=h4 _ _ _ bj;exact ⟨rfl,g1,FJ,yp⟩
 | loop body ih =>
  intro hJ l st β k r h;simp only [oM] at h;split at h
  ·cases h
  ·rename_i ss hd tl _
   obtain ⟨x,hx,h⟩:=Option.bind_eq_some_iff.1 h;obtain ⟨y,hy,h⟩:=Option.bind_eq_some_iff.1 h;have key : ∀ (n:Nat) (x:tyI E ss.its) (y:Ml E hd tl),aV (fun x=>oM T P env pl F body l (mn T pl.nt ss.its x) fun e st'=>match e with
     | .norm=>(rdS T pl.nt ss st').bind fun v=>some (Sum.inl v)
     | e=>(uF T pl.nt hd tl e st').bind fun v=>some (Sum.inr v)) n x=some y →
     ∃ e st',(∀ (γ:Type) (k:Ex→St E→γ),oN T pl.nt hd tl y k=k e st') ∧ ∀ a w g,Inv T w0 G (mn T pl.nt ss.its x) a w g→uX P body (fun e' a' w'=>e'=e.ex ∧ ∃ g',Inv T w0 G st' a' w' g'∧oj J a a') a w:=by
    intro n;induction n with
    | zero=>intro x y h; cases h
    | succ n ihn =>
     intro x y h;simp only [aV] at h;obtain ⟨q,hq,h⟩:=Option.bind_eq_some_iff.1 h;obtain ⟨e1,st1,uU,Zw⟩:=ih hJ _ _ _ _ _ hq;have other:e1 ≠ .norm→((uF T pl.nt hd tl e1 st1).bind fun v=>some (Sum.inr v:tyI E ss.its ⊕ Ml E hd tl))=some q → ∃ e st',(∀ (γ:Type) (k:Ex→St E→γ),oN T pl.nt hd tl y k=k e st') ∧ ∀ a w g,Inv T w0 G (mn T pl.nt ss.its x) a w g→uX P body (fun e' a' w'=>e'=e.ex ∧ ∃ g',Inv T w0 G st' a' w' g'∧oj J a a') a w:=by
      intro ib hk;obtain ⟨v,hv,hk⟩:=Option.bind_eq_some_iff.1 hk;cases hk;cases h;obtain ⟨st2,h3,h4⟩:=w8 (w0:=w0) (G:=G) hv;refine ⟨e1,st2,h3,fun a w g hi=>wS (wp_mono (Zw a w g hi) ?_)⟩
      rintro e' a' w' ⟨rfl,g',bj,yp⟩
      obtain ⟨g1,FJ⟩:=h4 _ _ _ bj;cases e1 with
      | norm=>exact absurd rfl ib
      | exit j=>exact ⟨rfl,g1,FJ,yp⟩
      | ret=>exact ⟨rfl,g1,FJ,yp⟩
     cases e1 with
     | norm =>
      simp only at uU;obtain ⟨v,hv,uU⟩:=Option.bind_eq_some_iff.1 uU;cases uU;obtain ⟨e,st',h1,h2⟩:=ihn v y h;refine ⟨e,st',h1,fun a w g hi=>wS (wp_mono (Zw a w g hi) ?_)⟩
      rintro e' a' w' ⟨rfl,g',bj,yp⟩
      obtain ⟨g1,FJ⟩:=yb hv bj;exact F2 (h2 a' w' g1 FJ) fun e a w ⟨q1,g2,q2,q3⟩=>⟨q1,g2,q2,yp.trans q3⟩
     | exit j=>exact other (by simp) uU
     | ret=>exact other (by simp) uU
   obtain ⟨e,st',h1,h2⟩:=key F x y hy;rw [h1] at h;refine ⟨e,st',h,fun a w g hi => ?_⟩;obtain ⟨g1,FJ⟩:=yb hx hi;exact EA (h2 a w g1 FJ)
 | exit id=>intro hJ l st β k r h; exact ⟨.exit id,st,h,fun a w g hi=>wp_exit ⟨rfl,g,hi,oj.refl J a⟩⟩
 | ret=>intro hJ l st β k r h; exact ⟨.ret,st,h,fun a w g hi=>wp_ret ⟨rfl,g,hi,oj.refl J a⟩⟩
 | _=>intro hJ l st β k r h; simp [oM] at h
end
end Go.Vm
namespace Go.Vm
open Go.Lib
variable {K:Type} {E:K→Type}
variable {T:Tab E} {P:Program}
def mo:DV E→DV E
 | .pin t cs => .newb t cs
 | .newb t cs=>match cs with
  | [d]=>d
  | cs => .newb t cs
 | d=>d
def st0 (nt:Nat) (ds:List (DV E)):St E :=
 ⟨(cH 1 [] (ds.map mo)).1 ++ List.replicate (nt - ds.length) .junk,(cH 1 [] (ds.map mo)).2⟩
def gP (mem:Mem E) (nm:List (Nat×Nat)) (d:DV E):DV E×List Nat :=
 match d with
 | .ptr n 0=>match assoc nm n with
  | some j=>(.argp j,[])
  | none=>match look mem n with
   | some (.cells t cs)=>(.newb t (cs.map (kZ n mem)),n :: cs.flatMap (ez mem))
   | _=>(.junk,[])
 | .rowv _ _=>(.junk,[])
 | d=>(cn mem .give d,jJ mem .give d)
def ov (mem:Mem E) (tmps:List (DV E)):Nat→List (DV E)→Option (List (Nat×Nat)×List (List (DV E))×List Nat)
 | _,[]=>some ([],[],[])
 | j,d :: r=>match d with
  | .pin t _=>match tmps.getD j .junk with
   | .ptr n 0=>match look mem n with
    | some (.cells t' cs)=>if t'=t then (ov mem tmps (j+1) r).bind fun q=>some ((n,j) :: q.1,cs.map (kZ n mem) :: q.2.1,(n :: cs.flatMap (ez mem)) ++ q.2.2) else none
    | _=>none
   | _=>none
  | .newb _ _=>match tmps.getD j .junk with
   | .rowp n=>match look mem n with
    | some (.row e k l)=>(ov mem tmps (j+1) r).bind fun q=>some (q.1,[.row e k l] :: q.2.1,n :: q.2.2)
    | _=>none
   | _=>none
  | _=>ov mem tmps (j+1) r
def Fx (ts:List Nat) (ds:List (DV E)) (st:St E):Option (Res E) :=
 (ov st.mem st.tmps 0 ds).bind fun q =>
  if nodupB ((ts.flatMap fun t=>(gP st.mem q.1 (st.tmps.getD t .junk)).2) ++ q.2.2)=true then
   some ⟨match ts with
    | [t]=>(gP st.mem q.1 (st.tmps.getD t .junk)).1
    | ts => .tup (ts.map fun t=>(gP st.mem q.1 (st.tmps.getD t .junk)).1),q.2.1⟩
  else none
def xx (T:Tab E) (P:Program) {β:Type}:List (Nat×Option TypeId)→St E→List (DV E)→(St E→Option β)→Option β
 | [],st,acc,K=>K ⟨st.tmps ++ acc,st.mem⟩
 | (t,none) :: r,st,acc,K=>if (cL (st.tmps.getD t .junk)).isSome then none else xx T P r st (acc ++ [st.tmps.getD t .junk]) K
 | (ad,some ty) :: r,st,acc,K=>(CT T P ty (st.tmps.getD ad .junk) st.mem).run fun o=>xx T P r st (acc ++ [o.v]) K
def Ee (T:Tab E) (P:Program) {β:Type} (nt:Nat) (rc:List (Nat×Option TypeId)) (st:St E) (K:St E→Option β):Option β:=match rc with
 | []=>K st
 | x :: r=>if st.tmps.length=nt then xx T P (x :: r) st [] K else none
section
variable {w:World} {Y:Nat→Prop} {bl:List Nat}
theorem Q4 {args:List Value} {d:DV E} {v:Value} {b:List Nat} (h:Own T w Y d v b):Ans T w Y args (mo d) v b:=by
 cases h with
 | pin h=>exact .newb h
 | lend h=>exact .c (.row h)
 | c h =>
  have:mo d=d:=by
   cases h with
   | sh hr hs=>cases d <;> first | rfl | (simp [DV.share,DV.lay,DV.plain] at hs; done)
   | _=>rfl
  rw [this];exact .c h
theorem Ew {t:TypeId} {cs:List (DV E)} {v:Value} {b:List Nat} (h:Own T w Y (.pin t cs) v b):oZ T w Y t cs v b:=by
 cases h with
 | pin h=>exact h
 | c h=>cases h with
  | sh hr hs=>simp [DV.share,DV.lay,DV.plain] at hs
theorem Ha {R:DV E→Value→List Nat→Prop} {ds:List (DV E)} {vs:List Value} {bl:List Nat} (h:hT R ds vs bl):ds.length=vs.length:=by
 induction h with
 | nil=>rfl
 | cons _ _ ih=>simp [ih]
def Fi (w:World) (Y:Nat→Prop) (bl:List Nat):Gh:=⟨fun _=>undef,fun b=>b<w.heap.size ∧ ¬ Y b∧b ∉ bl⟩
theorem N6 {nt:Nat} {ds:List (DV E)} {vs:Array Value} (h:hT (Own T w Y) ds vs.toList bl) (vD:bl.Nodup) (hY : ∀ b∈bl, ¬ Y b∧b<w.heap.size) (hn:nodupB (names (st0 nt ds).mem)=true) (hlen:ds.length≤nt) :
  ∃ g:Gh,Inv T w ⟨(· ∈ bl),(Fi w Y bl).hid⟩ (st0 nt ds) { tmps:=vs ++ Array.replicate (nt - vs.size) undef,defers := [] } w g:=by
 have hl:=Ha h;have ha:hT (Ans T w Y []) (ds.map mo) vs.toList bl:=h.map mo fun d v b hd=>Q4 hd
 obtain ⟨es,e1,e2,e3,e4,e5⟩:=wa [] ha 1;have rY:(st0 nt ds).mem=eU es:=e1.symm;have QT:(bL es).Nodup:=by rw [ql, ← rY]; exact kp hn
 have vC:gn ([]:Mem E) es [] (bL es)=eU es:=by
  have:jx ([]:Mem E) (bL es) = []:=by
   generalize bL es=l;induction l with
   | nil=>rfl
   | cons x l ih=>exact ih
  unfold gn;rw [this];simp [jX]
 have hblk:fH (eU es) (ic (Fi w Y bl) es)=bl:=by
  have:=l6 (g:=Fi w Y bl) (ks := []) (m:=([]:Mem E)) QT (fun n hn=>hn);rw [vC] at this;rw [this,e2];have:jx ([]:Mem E) (bL es) = []:=by
   generalize bL es=l;induction l with
   | nil=>rfl
   | cons x l ih=>exact ih
  rw [this];simp [fH]
 have hw:oP T w Y (free (eU es) (ic (Fi w Y bl) es)):=by
  intro b hb aM;refine ⟨by rw [hblk]; exact fun pL=>(hY b pL).1 hb,fun hh => ?_⟩;exact hh.2.1 hb
 have W5:ja (ic (Fi w Y bl) es) es:=fun x hx=>po QT hx
 have e5:=e5 _ _ hw W5 (fun j n u hj=>by simp at hj);refine ⟨ic (Fi w Y bl) es,rfl,?_,?_,?_,?_,?_,?_,lp.refl _ _,?_,rfl,?_⟩
 ·simp [st0,e4,hl]
 ·intro i hi
  rw [rY];by_cases VO:i<vs.toList.length
  ·have J1:i<(cH 1 [] (ds.map mo)).1.length:=by rw [e4]; exact VO
   have h1:(st0 nt ds).tmps[i]=(cH 1 [] (ds.map mo)).1[i]:=by simp [st0,List.getElem_append_left J1]
   have h2:(vs ++ Array.replicate (nt - vs.size) undef).getD i undef=vs.toList[i]:=by
    have:i<vs.size:=by simpa using VO
    simp [Array.getElem?_append_left this,this]
   rw [h1,h2];exact .of1 (e5 i J1 VO).1
  ·have J1:(cH 1 [] (ds.map mo)).1.length≤i:=by rw [e4]; omega
   have h1:(st0 nt ds).tmps[i] = .junk:=by simp [st0,List.getElem_append_right J1]
   rw [h1];exact (Rep.junk _).toT
 ·rw [rY]; rw [ql] at QT; exact QT
 ·rw [rY,hblk]; exact vD
 ·intro n bx hm
  rw [rY] at hm ⊢
  obtain ⟨x,hx,he⟩:=List.mem_map.1 hm;cases he;have:=e3 _ _ hw W5 x hx;rw [← W5 x hx] at this;exact this
 ·rw [rY,hblk]
  exact fun b hb=>⟨(hY b hb).2, .inr hb⟩
 ·intro i hi n j cs off he
  by_cases VO:i<vs.toList.length
  ·have J1:i<(cH 1 [] (ds.map mo)).1.length:=by rw [e4]; exact VO
   have h1:(st0 nt ds).tmps[i]=(cH 1 [] (ds.map mo)).1[i]:=by simp [st0,List.getElem_append_left J1]
   have:=(e5 i J1 VO).2;rw [← h1,he] at this;simp [DV.noR] at this
  ·have J1:(cH 1 [] (ds.map mo)).1.length≤i:=by rw [e4]; omega
   have h1:(st0 nt ds).tmps[i] = .junk:=by simp [st0,List.getElem_append_right J1]
   rw [h1] at he;cases he
 ·rintro b ⟨h1,h2,h3⟩
  exact ⟨h1,h3⟩
end
end Go.Vm
namespace Go.Vm
open Go.Lib
variable {K:Type} {E:K→Type}
variable {T:Tab E} {P:Program}
section
variable {w0 w:World} {Y:Nat→Prop} {bl:List Nat} {st:St E} {a:Act} {g:Gh}
theorem B6 {mem:Mem E} {nm:List (Nat×Nat)} {d:DV E} {n:Nat} (h:n∈(gP mem nm d).2):n∈names mem:=by
 unfold gP at h;split at h
 ·rename_i m
  split at h
  ·cases h
  ·split at h
   ·rename_i t cs hl
    have:n∈jJ mem .give (.ptr m 0:DV E):=by simpa [jJ,hl] using h
    exact tC this
   ·cases h
 ·cases h
 ·exact tC (b := .give) (d:=d) h
theorem Mi {α:Type} {l:List (Nat×α)} {n:Nat} {x:α} (h:assoc l n=some x):(n,x)∈l:=by
 induction l with
 | nil=>cases h
 | cons y l ih =>
  obtain ⟨k,b⟩:=y;unfold assoc at h;split at h
  ·rename_i e; cases h; subst e; exact List.mem_cons_self ..
  ·exact List.mem_cons_of_mem _ (ih h)
theorem ID {G:GP} (h:Inv T w0 G st a w g) {Y':Nat→Prop} (hY : ∀ b,free st.mem g b→Y' b) {args:List Value} {nm:List (Nat×Nat)}
  (yk : ∀ n j,(n,j)∈nm→args[j]? = some (g n)) {d:DV E} {v:Value} (hd:aD T w (free st.mem g) g d v) :
  Ans T w Y' args (gP st.mem nm d).1 v ((gP st.mem nm d).2.flatMap (bk g)) ∧ ∀ ds,(gP st.mem nm d).1 ≠ .tup ds:=by
 have gen : ∀ d:DV E,aD T w (free st.mem g) g d v→(∀ n b,d ≠ .rowv n b)→(∀ n,d ≠ .ptr n 0)→Ans T w Y' args (cn st.mem .give d) v ((jJ st.mem .give d).flatMap (bk g)) ∧ ∀ ds,cn st.mem .give d ≠ .tup ds:=by
  intro d hd h1 h2;have ho:=zQ h hY .give hd (fun n hn=>by
   unfold sG at hn;split at hn
   ·simp at hn
   ·exact absurd rfl (h1 _ _)
   ·cases hn)
  have Vf:jN (cn st.mem .give d)=false:=yJ st.mem (d, .give) (by
    rintro (⟨n,t,cs,e,_⟩ | ⟨e,_⟩)
    ·exact absurd e (h2 n)
    ·cases e)
  have W6 : ∀ t cs,cn st.mem .give d ≠ .pin t cs∧cn st.mem .give d ≠ .newb t cs:=by
   intro t cs;constructor <;> intro he <;> rw [he] at Vf <;> simp [jN] at Vf
  clear Vf;generalize cn st.mem .give d=d' at ho W6;generalize (jJ st.mem .give d).flatMap (bk g)=bb at ho;refine ⟨?_,?_⟩
  ·cases ho with
   | c hc=>exact .c hc
   | pin hp=>exact absurd rfl (W6 _ _).1
   | lend hp=>exact absurd rfl (W6 _ _).2
  ·intro ds e
   subst e;cases ho with
   | c hc=>cases hc with
    | sh _ hs=>simp [DV.share,DV.lay,DV.plain] at hs
 unfold gP;split
 ·rename_i n
  split
  ·rename_i j hj
   obtain ⟨b,h1,h2⟩:=gk hd;refine ⟨.argp ?_,fun ds e=>by cases e⟩;rw [yk n j (Mi hj),h1,h2]
  ·have ho:=zQ h hY .give hd (fun n hn=>by simp [sG] at hn)
   split
   ·rename_i t cs hl
    simp only [cn,hl,jJ] at ho;exact ⟨.newb (Ew ho),fun ds e=>by cases e⟩
   ·exact ⟨.c (.junk v),fun ds e=>by cases e⟩
 ·exact ⟨.c (.junk v),fun ds e=>by cases e⟩
 ·rename_i h1 h2
  exact gen d hd (fun n b e=>h2 n b e) (fun n e=>h1 n e)
theorem Rl {Y':Nat→Prop} {args:List Value} {d:DV E} {v:Value} {b:List Nat} (h:Ans T w Y' args d v b) (hn : ∀ ds,d ≠ .tup ds):zx T w Y' args d v b:=by
 cases d <;> first | exact h | exact absurd rfl (hn _)
theorem lJ {mem:Mem E} {tmps:List (DV E)} : ∀ (ds:List (DV E)) (j:Nat) (q:List (Nat×Nat)×List (List (DV E))×List Nat),ov mem tmps j ds=some q → ∀ n∈q.2.2,n∈names mem
 | [],j,q,h,n,hn=>by cases h; cases hn
 | d :: r,j,q,h,n,hn=>by
  unfold ov at h;split at h
  ·rename_i t _
   split at h
   ·rename_i m _
    split at h
    ·rename_i t' cs hl
     obtain ⟨_,h⟩:=dI h;obtain ⟨q',h1,h2⟩:=Option.bind_eq_some_iff.1 h;cases h2;rcases List.mem_append.1 hn with hn | hn
     ·have:n∈jJ mem .give (.ptr m 0:DV E):=by simpa [jJ,hl] using hn
      exact tC this
     ·exact lJ r (j+1) q' h1 n hn
    ·cases h
   ·cases h
  ·split at h
   ·rename_i m _
    split at h
    ·rename_i e k l hl
     obtain ⟨q',h1,h2⟩:=Option.bind_eq_some_iff.1 h;cases h2;rcases List.mem_cons.1 hn with rfl | hn
     ·exact b9 hl
     ·exact lJ r (j+1) q' h1 n hn
    ·cases h
   ·cases h
  ·exact lJ r (j+1) q h n hn
def iN:Nat→List (DV E)→List Nat
 | _,[] => []
 | j,d :: r=>if jN d=true then j :: iN (j+1) r else iN (j+1) r
theorem pT {G:GP} (h:Inv T w0 G st a w g) {Y':Nat→Prop} (hY : ∀ b,free st.mem g b→Y' b) :
  ∀ (ds:List (DV E)) (vs:List Value) (j:Nat) (q:List (Nat×Nat)×List (List (DV E))×List Nat),ds.length=vs.length→ov st.mem st.tmps j ds=some q→(∀ i∈iN j ds, ∃ i',i=j+i'∧vs[i']? = some (a.tmps.getD i undef)) →
   iH T w Y' ds vs q.2.1 (q.2.2.flatMap (bk g)) ∧ ∀ n i,(n,i)∈q.1 → ∃ i',i=j+i'∧vs[i']? = some (g n)
 | [],[],j,q,_,h1,hk=>by cases h1; exact ⟨.nil,fun n i hm=>by cases hm⟩
 | [],_ :: _,_,_,hl,_,_=>by simp at hl
 | _ :: _,[],_,_,hl,_,_=>by simp at hl
 | d :: r,v :: vs,j,q,hl,h1,hk=>by
  have zW:r.length=vs.length:=by simpa using hl
  have yp : ∀ i∈iN (j+1) r, ∃ i',i=(j+1)+i'∧vs[i']? = some (a.tmps.getD i undef):=by
   intro i hi;have FJ:i∈iN j (d :: r):=by
    unfold iN; split
    ·exact List.mem_cons_of_mem _ hi
    ·exact hi
   obtain ⟨i',e,hv⟩:=hk i FJ;have Tx : ∀ (r:List (DV E)) (k i:Nat),i∈iN k r→k≤i:=by
    intro r;induction r with
    | nil=>intro k i hi; cases hi
    | cons d r ih =>
     intro k i hi;unfold iN at hi;split at hi
     ·rcases List.mem_cons.1 hi with rfl | hi
      ·exact Nat.le_refl _
      ·have:=ih _ _ hi; omega
     ·have:=ih _ _ hi; omega
   have:=Tx r (j+1) i hi;cases i' with
   | zero=>omega
   | succ i'=>exact ⟨i',by omega,by simpa using hv⟩
  unfold ov at h1;split at h1
  ·rename_i t cs0
   split at h1
   ·rename_i n hn
    split at h1
    ·rename_i t' cs dt
     obtain ⟨et,ND⟩:=dI h1;clear h1;subst et;obtain ⟨q',h2,h3⟩:=Option.bind_eq_some_iff.1 ND;cases h3;obtain ⟨p1,p2⟩:=pT h hY r vs (j+1) q' zW h2 yp;obtain ⟨i',e,hv⟩:=hk j (by unfold iN; simp [jN]);have:i'=0:=by omega
     subst this;simp only [List.getElem?_cons_zero,Option.some.injEq] at hv;have hr:aD T w (free st.mem g) g (.ptr n 0) v:=by
      have:=h.ev (.tmp j);simp only [St.ev,Act.eval,hn] at this;rw [hv];exact this
     have ho:=zQ h hY .give hr (fun n hn=>by simp [sG] at hn);simp only [cn,dt,jJ] at ho;obtain ⟨b,q1,q2⟩:=gk hr;refine ⟨?_,?_⟩
     ·rw [List.flatMap_append]
      exact .pin (Ew ho) p1
     ·intro m i hm
      rcases List.mem_cons.1 hm with hm | hm
      ·cases hm
       exact ⟨0,rfl,by simp [q1,q2]⟩
      ·obtain ⟨i',e,hv⟩:=p2 m i hm
       exact ⟨i'+1,by omega,by simpa using hv⟩
    ·cases h1
   ·cases h1
  ·split at h1
   ·rename_i n hn
    split at h1
    ·rename_i e k l dt
     obtain ⟨q',h2,h3⟩:=Option.bind_eq_some_iff.1 h1;cases h3;obtain ⟨p1,p2⟩:=pT h hY r vs (j+1) q' zW h2 yp;obtain ⟨i',ei,hv⟩:=hk j (by unfold iN; simp [jN]);have:i'=0:=by omega
     subst this;simp only [List.getElem?_cons_zero,Option.some.injEq] at hv;have hr:aD T w (free st.mem g) g (.rowp n) v:=by
      have:=h.ev (.tmp j);simp only [St.ev,Act.eval,hn] at this;rw [hv];exact this
     have WJ:v=g n:=hr;have mg:aW T w (free st.mem g) e k l (g n):=h.mm n _ (bR dt);refine ⟨?_,?_⟩
     ·rw [List.flatMap_cons,WJ]
      exact .lend (mg.mono (fun b hb aM=>⟨hY b hb,aM,rfl⟩) fun _ _=>rfl) p1
     ·intro m i hm
      obtain ⟨i',ei,hv⟩:=p2 m i hm;exact ⟨i'+1,by omega,by simpa using hv⟩
    ·cases h1
   ·cases h1
  ·rename_i W6 Yz
   obtain ⟨p1,p2⟩:=pT h hY r vs (j+1) q zW h1 yp;refine ⟨.skip (fun t cs=>⟨fun e=>W6 t cs e,fun e=>Yz t cs e⟩) p1,?_⟩;intro m i hm;obtain ⟨i',e,hv⟩:=p2 m i hm;exact ⟨i'+1,by omega,by simpa using hv⟩
def Ig (ts:List Nat) (a:Act):Value:=match ts with
 | [t]=>a.tmps.getD t undef
 | ts => .tuple (ts.map fun t=>a.tmps.getD t undef).toArray
theorem UW {vs:Array Value} {ds:List (DV E)} (h:Inv T w0 ⟨(· ∈ bl),(Fi w0 Y bl).hid⟩ st a w g) (hl:ds.length=vs.size) {ts:List Nat} {res:Res E} (hr:Fx ts ds st=some res)
  (hk : ∀ i∈iN 0 ds,vs.toList[i]? = some (a.tmps.getD i undef)) :
  ∃ bl1 bl2,(bl1 ++ bl2).Nodup∧(∀ b∈bl1 ++ bl2,b<w.heap.size∧(w0.heap.size≤b∨b∈bl)) ∧
   zx T w (fun b=>(Y b∨w0.heap.size≤b∨b∈bl)∧b ∉ bl1 ++ bl2) vs.toList res.v (Ig ts a) bl1 ∧
   iH T w (fun b=>(Y b∨w0.heap.size≤b∨b∈bl)∧b ∉ bl1 ++ bl2) ds vs.toList res.pins bl2∧lp (· ∈ bl) w0 w:=by
 unfold Fx at hr;obtain ⟨q,hq,hr⟩:=Option.bind_eq_some_iff.1 hr;obtain ⟨hn,hr⟩:=dI hr;cases hr;obtain ⟨bl1,CB⟩ : ∃ bl1,bl1=(ts.flatMap fun t=>(gP st.mem q.1 (st.tmps.getD t .junk)).2).flatMap (bk g):=⟨_,rfl⟩
 obtain ⟨bl2,Vg⟩ : ∃ bl2,bl2=q.2.2.flatMap (bk g):=⟨_,rfl⟩
 have W7 : ∀ n∈(ts.flatMap fun t=>(gP st.mem q.1 (st.tmps.getD t .junk)).2) ++ q.2.2,n∈names st.mem:=by
  intro n hn;rcases List.mem_append.1 hn with hn | hn
  ·obtain ⟨t,_,hn⟩:=List.mem_flatMap.1 hn
   exact B6 hn
  ·exact lJ ds 0 q hq n hn
 have W8:bl1 ++ bl2=((ts.flatMap fun t=>(gP st.mem q.1 (st.tmps.getD t .junk)).2) ++ q.2.2).flatMap (bk g):=by rw [CB,Vg,List.flatMap_append]
 have FE : ∀ b∈bl1 ++ bl2,b∈fH st.mem g:=by
  intro b hb;rw [W8] at hb;obtain ⟨n,h1,h2⟩:=List.mem_flatMap.1 hb;exact aE.2 ⟨n,W7 n h1,by simpa [bk] using h2⟩
 have hY : ∀ b,free st.mem g b→(fun b=>(Y b∨w0.heap.size≤b∨b∈bl)∧b ∉ bl1 ++ bl2) b:=by
  intro b hf;refine ⟨?_,fun hb=>hf.1 (FE b hb)⟩;have h2:=hf.2;rw [h.hz.1] at h2;by_cases h3:w0.heap.size≤b
  ·exact .inr (.inl h3)
  by_cases h4:Y b
  ·exact .inl h4
  by_cases h5:b∈bl
  ·exact .inr (.inr h5)
  exact absurd ⟨by omega,h4,h5⟩ h2
 obtain ⟨hp,yk⟩:=pT h hY ds vs.toList 0 q (by simpa using hl) hq (fun i hi=>⟨i,by omega,hk i hi⟩);have Vh : ∀ n j,(n,j)∈q.1→vs.toList[j]? = some (g n):=by
  intro n j hm;obtain ⟨i',e,hv⟩:=yk n j hm;have:j=i':=by omega
  subst this;exact hv
 have QD : ∀ t,Ans T w (fun b=>(Y b∨w0.heap.size≤b∨b∈bl)∧b ∉ bl1 ++ bl2) vs.toList (gP st.mem q.1 (st.tmps.getD t .junk)).1 (a.tmps.getD t undef) ((gP st.mem q.1 (st.tmps.getD t .junk)).2.flatMap (bk g)) ∧ ∀ ds,(gP st.mem q.1 (st.tmps.getD t .junk)).1 ≠ .tup ds :=
  fun t=>ID h hY Vh (h.ev (.tmp t))
 refine ⟨bl1,bl2,?_,?_,?_,by rw [Vg]; rw [Vg] at hp; exact hp,h.fr⟩
 ·rw [W8]
  exact Bu h.nd h.nn (kp hn) W7
 ·intro b hb
  exact h.bo b (FE b hb)
 ·have many : ∀ ts:List Nat,hT (Ans T w (fun b=>(Y b∨w0.heap.size≤b∨b∈bl)∧b ∉ bl1 ++ bl2) vs.toList) (ts.map fun t=>(gP st.mem q.1 (st.tmps.getD t .junk)).1) (ts.map fun t=>a.tmps.getD t undef)
    ((ts.flatMap fun t=>(gP st.mem q.1 (st.tmps.getD t .junk)).2).flatMap (bk g)):=by
   intro ts;induction ts with
   | nil=>exact .nil
   | cons t ts ih=>simp only [List.map_cons,List.flatMap_cons,List.flatMap_append]; exact .cons (QD t).1 ih
  match ts,CB with
  | [t],CB =>
   simp only [Ig];refine Rl ?_ (QD t).2;rw [CB];simp only [List.flatMap_cons,List.flatMap_nil,List.append_nil];rw [← List.append_nil (List.flatMap (bk g) _)];simpa [CB,List.flatMap_append] using (QD t).1
  | [],CB=>exact ⟨_,rfl,by simpa [CB] using many []⟩
  | t :: t' :: ts,CB=>exact ⟨_,rfl,by rw [CB]; simpa [CB] using many (t :: t' :: ts)⟩
end
end Go.Vm
namespace Go.Vm
open Go.Lib
variable {K:Type} {E:K→Type}
inductive SR (K:Type) where
 | one (s:S1 K) | tup (ss:List (S1 K))
variable (E) in
def tyS:List (S1 K)→Type
 | []=>Unit
 | [s]=>s.ty E
 | s :: r=>s.ty E×tyS r
variable (E) in
def tyP:List (List (S0 K))→Type
 | []=>Unit
 | [s]=>tyL E s
 | s :: r=>tyL E s×tyP r
variable (E) in
def SR.ty:SR K→Type
 | .one s=>s.ty E
 | .tup ss=>tyS E ss
structure Spec (K:Type) where
 params:List (S1 K)
 ret:SR K
 pins:List (List (S0 K)) := []
 pl:UF K
 rfrz:List Nat := []
 ts:List Nat
 rc:List (Nat×Option TypeId) := []
 rco:List (Co K) := []
def Kq:Nat×Option TypeId→ResultVar
 | (t,none) => .tmp t
 | (t,some ty) => .cell t ty
def Spec.vars (s:Spec K):Array ResultVar:=match s.rc with
 | []=>(s.ts.map ResultVar.tmp).toArray
 | rc=>(rc.map Kq).toArray
variable (E) in
def Spec.R (s:Spec K):Type:=match s.pins with
 | []=>s.ret.ty E
 | p :: ps=>s.ret.ty E×tyP E (p :: ps)
section
variable (T:Tab E)
def kr:(ss:List (S1 K))→tyS E ss→List (DV E)
 | [],_ => []
 | [s],x => [s.abs T x]
 | s :: s' :: r,x=>s.abs T x.1 :: kr (s' :: r) x.2
def EO:(ss:List (S1 K))→List (DV E)→Option (tyS E ss)
 | [],[]=>some ()
 | [s],[d]=>s.rd T d
 | s :: s' :: r,d :: ds=>(s.rd T d).bind fun x=>(EO (s' :: r) ds).bind fun y=>some (x,y)
 | _,_=>none
def Br:(ss:List (List (S0 K)))→tyP E ss→List (List (DV E))
 | [],_ => []
 | [s],x => [kv s x]
 | s :: s' :: r,x=>kv s x.1 :: Br (s' :: r) x.2
def RW:(ss:List (List (S0 K)))→List (List (DV E))→Option (tyP E ss)
 | [],[]=>some ()
 | [s],[d]=>rdL T s d
 | s :: s' :: r,d :: ds=>(rdL T s d).bind fun x=>(RW (s' :: r) ds).bind fun y=>some (x,y)
 | _,_=>none
def SR.abs:(s:SR K)→s.ty E→DV E
 | .one s,x=>s.abs T x
 | .tup ss,x => .tup (kr T ss x)
def Wn (d:DV E):Option (List (DV E)):=match d with
 | .tup ds=>some ds
 | _=>none
def SR.rd:(s:SR K)→DV E→Option (s.ty E)
 | .one s,d=>s.rd T d
 | .tup ss,d=>(Wn d).bind (EO T ss)
def r5 (s:Spec K):s.R E→Res E:=match s with
 | ⟨_,ret,[],_,_,_,_,_⟩=>fun x=>⟨ret.abs T x,[]⟩
 | ⟨_,ret,p :: ps,_,_,_,_,_⟩=>fun x=>⟨ret.abs T x.1,Br (p :: ps) x.2⟩
def rdR (s:Spec K) (res:Res E):Option (s.R E):=match s with
 | ⟨_,ret,[],_,_,_,_,_⟩=>match res.pins with
  | []=>ret.rd T res.v
  | _=>none
 | ⟨_,ret,p :: ps,_,_,_,_,_⟩=>(ret.rd T res.v).bind fun x=>(RW T (p :: ps) res.pins).bind fun y=>some (x,y)
def OX (s:S0 K) (d:DV E):DV E :=
 match s with
 | .slc k=>match d with
  | .nils => .slc k []
  | d=>d
 | .row e k=>match d with
  | .nils => .row e k []
  | d=>d
 | .argp _=>match d with
  | .nilp => .argp 0
  | d=>d
 | .junk=>if d.plain=true then .junk else d
 | _=>d
def H7:List (S0 K)→List (DV E)→List (DV E)
 | s :: ss,d :: ds=>OX s d :: H7 ss ds
 | _,ds=>ds
def pf (s:S1 K) (d:DV E):DV E :=
 match s with
 | .a (.slc k)=>match d with
  | .nils => .slc k []
  | d=>d
 | .a (.row e k)=>match d with
  | .nils => .row e k []
  | d=>d
 | .a .junk=>if d.share=true then .junk else d
 | .pin _ ss=>match d with
  | .pin t cs => .pin t (H7 ss cs)
  | d=>d
 | _=>d
def wA:List (S1 K)→List (DV E)→List (DV E)
 | s :: ss,d :: ds=>pf s d :: wA ss ds
 | _,ds=>ds
def S0.flat (fk:K→Bool):S0 K→Bool
 | .int _ | .bool | .str | .nilp | .nili | .nils | .argp _=>true
 | .row _ k=>fk k
 | .arr _ k=>fk k
 | _=>false
def S1.flat (fk:K→Bool):S1 K→Bool
 | .a s=>s.flat fk
 | _=>false
def SR.flat (fk:K→Bool):SR K→Bool
 | .one (.agg ss)=>ss.all (S0.flat fun _=>false)
 | .one s=>s.flat fk
 | .tup ss=>ss.all (S1.flat fk)
def Spec.flat (s:Spec K):Bool:=s.ret.flat T.fk && s.pins.all fun p=>p.all (S0.flat T.fk)
def ah (s:Spec K) (M:tyS E s.params→Option (s.R E)) (ds:List (DV E)):Con E :=
 match EO T s.params (wA s.params ds) with
 | some x=>⟨s.R E,M x,r5 T s,s.flat T⟩
 | none => .bad
variable (P:Program) (env:Env E)
def re (s:Spec K) (code:Code) (F:Nat) (x:tyS E s.params):Option (s.R E) :=
 if nodupB (names (st0 s.pl.nt (kr T s.params x)).mem)=true∧(kr T s.params x).length≤s.pl.nt∧(s.rc.isEmpty=true∨s.ts=(List.range s.rc.length).map (s.pl.nt + ·)) then
  oM T P env s.pl F code 0 (st0 s.pl.nt (kr T s.params x)) fun e st=>match e with
   | .exit _=>none
   | _=>Ee T P s.pl.nt s.rc (GY T s.rco (forget s.rfrz st)) fun st=>(Fx s.ts (kr T s.params x) st).bind (rdR T s)
 else none
def S1.jN:S1 K→Bool
 | .pin _ _=>true
 | .newb _ _=>true
 | _=>false
def ou:Nat→List (S1 K)→List Nat
 | _,[] => []
 | j,s :: r=>if s.jN=true then j :: ou (j+1) r else ou (j+1) r
end
variable {T:Tab E} {P:Program} {env:Env E}
theorem Eo : ∀ {ss:List (S1 K)} {ds:List (DV E)} {x:tyS E ss},EO T ss ds=some x→kr T ss x=ds:=by
 intro ss;induction ss with
 | nil =>
  intro ds x h;cases ds with
  | nil=>rfl
  | cons d ds=>cases h
 | cons s r ih =>
  intro ds x h;cases r with
  | nil =>
   cases ds with
   | nil=>cases h
   | cons d ds =>
    cases ds with
    | nil=>show [s.abs T x] = _; rw [S1.pJ (T:=T) (s:=s) (d:=d) (x:=x) h]
    | cons d' ds=>cases h
  | cons s' r =>
   cases ds with
   | nil=>cases h
   | cons d ds =>
    change ((s.rd T d).bind fun x=>(EO T (s' :: r) ds).bind fun y=>some (x,y))=some x at h;obtain ⟨y,hy,h⟩:=Option.bind_eq_some_iff.1 h;obtain ⟨z,hz,h⟩:=Option.bind_eq_some_iff.1 h;cases h;show s.abs T y :: kr T (s' :: r) z = _;rw [S1.pJ hy,ih hz]
theorem R5 : ∀ {ss:List (List (S0 K))} {ds:List (List (DV E))} {x:tyP E ss},RW T ss ds=some x→Br ss x=ds:=by
 intro ss;induction ss with
 | nil =>
  intro ds x h;cases ds with
  | nil=>rfl
  | cons d ds=>cases h
 | cons s r ih =>
  intro ds x h;cases r with
  | nil =>
   cases ds with
   | nil=>cases h
   | cons d ds =>
    cases ds with
    | nil=>show [kv s x] = _; rw [nT (T:=T) (ss:=s) (ds:=d) (x:=x) h]
    | cons d' ds=>cases h
  | cons s' r =>
   cases ds with
   | nil=>cases h
   | cons d ds =>
    change ((rdL T s d).bind fun x=>(RW T (s' :: r) ds).bind fun y=>some (x,y))=some x at h;obtain ⟨y,hy,h⟩:=Option.bind_eq_some_iff.1 h;obtain ⟨z,hz,h⟩:=Option.bind_eq_some_iff.1 h;cases h;show kv s y :: Br (s' :: r) z = _;rw [nT hy,ih hz]
theorem SR.pJ {s:SR K} {d:DV E} {x:s.ty E} (h:s.rd T d=some x):s.abs T x=d:=by
 cases s with
 | one s=>exact S1.pJ h
 | tup ss =>
  obtain ⟨ds,h1,h2⟩:=Option.bind_eq_some_iff.1 h;have:d = .tup ds:=by
   unfold Wn at h1;split at h1
   ·cases h1; rfl
   ·cases h1
  rw [this];exact congrArg _ (Eo h2)
theorem P2 {s:Spec K} {res:Res E} {x:s.R E} (h:rdR T s res=some x):r5 T s x=res:=by
 obtain ⟨v,pins⟩:=res;obtain ⟨ps,ret,pp,pl,rf,ts,rc⟩:=s;cases pp with
 | nil =>
  cases pins with
  | nil =>
   have:=SR.pJ (T:=T) (s:=ret) (d:=v) (x:=x) h;show Res.mk (ret.abs T x) [] = _;rw [this]
  | cons p q=>cases h
 | cons p q =>
  obtain ⟨y,hy,h⟩:=Option.bind_eq_some_iff.1 h;obtain ⟨z,hz,h⟩:=Option.bind_eq_some_iff.1 h;cases h;show Res.mk (ret.abs T y) (Br (p :: q) z) = _;rw [SR.pJ hy,R5 hz]
theorem Ng {w:World} {Y:Nat→Prop} {b0:Nat} {s:S0 K} {d:DV E} {v:Value} {b:List Nat} (h:uL T w Y b0 d v b):uL T w Y b0 (OX s d) v b:=by
 have nils : ∀ {v:Value} {b:List Nat},uL T w Y b0 (.nils:DV E) v b→v = .slice none 0 0∧b = []∧v.oneCell'=true:=by
  intro v b h;rcases h with ⟨h,h1,_⟩ | ⟨h,_⟩
  ·cases h with
   | sh hr hs=>cases hr; exact ⟨rfl,rfl,h1⟩
  ·cases h
 unfold OX;split
 ·split
  ·obtain ⟨rfl,rfl,h1⟩:=nils h
   exact .inl ⟨.sh (.slcn _) rfl,h1,rfl⟩
  ·exact h
 ·split
  ·rename_i e k _
   obtain ⟨rfl,rfl,h1⟩:=nils h;exact .inl ⟨.row (v := .slice none 0 0) (aW.mk' (nh w e (T.sz k)) (.nil k)),h1,rfl⟩
  ·exact h
 ·split
  ·rcases h with ⟨h,h1,_⟩ | ⟨h,_⟩
   ·cases h with
    | sh hr hs=>cases hr; exact .inr ⟨rfl,rfl, .inl rfl⟩
   ·cases h
  ·exact h
 ·split
  ·rename_i hp
   rcases h with ⟨h,h1,h2⟩ | ⟨h,h2⟩
   ·cases h with
    | junk v=>exact .inl ⟨.junk v,h1,rfl⟩
    | sh hr hs=>exact .inl ⟨.junk v,h1,rfl⟩
    | row hr=>simp [DV.plain] at hp
   ·rw [h] at hp; simp [DV.plain] at hp
  ·exact h
 ·exact h
theorem Ja {w:World} {Y:Nat→Prop} {b0:Nat} {ds:List (DV E)} {vs:List Value} {bs:List Nat} (h:hT (uL T w Y b0) ds vs bs) : ∀ (ss:List (S0 K)),hT (uL T w Y b0) (H7 ss ds) vs bs:=by
 induction h with
 | nil=>intro ss; cases ss <;> exact .nil
 | cons h t ih =>
  intro ss;cases ss with
  | nil=>exact .cons h t
  | cons s ss=>exact .cons (Ng h) (ih ss)
theorem PH {w:World} {Y:Nat→Prop} {s:S1 K} {d:DV E} {v:Value} {b:List Nat} (h:Own T w Y d v b):Own T w Y (pf s d) v b:=by
 unfold pf;split
 ·split
  ·cases h with
   | c h=>cases h with
    | sh hr hs=>cases hr; exact .c (.sh (.slcn _) rfl)
  ·exact h
 ·rename_i e k
  have nilrow:Own T w Y (.row e k []) (.slice none 0 0) [] := .c (.row (v := .slice none 0 0) (aW.mk' (nh w e (T.sz k)) (.nil k)));split
  ·cases h with
   | c h=>cases h with
    | sh hr hs=>cases hr; exact nilrow
  ·exact h
 ·split
  ·rename_i hs
   cases h with
   | c h=>cases h with
    | junk v=>exact .c (.junk v)
    | sh hr hs=>exact .c (.junk v)
    | row hr=>simp [DV.share,DV.lay,DV.plain] at hs
   | pin hp=>simp [DV.share,DV.lay,DV.plain] at hs
   | lend hp=>simp [DV.share,DV.lay,DV.plain] at hs
  ·exact h
 ·split
  ·cases h with
   | c h=>cases h with
    | sh hr hs=>simp [DV.share,DV.lay,DV.plain] at hs
   | pin hp =>
    obtain ⟨b,vs,bs,h1,h2,h3,h4⟩:=hp;exact .pin ⟨b,vs,bs,h1,h2,Ja h3 _,h4⟩
  ·exact h
 ·exact h
end Go.Vm
namespace Go.Vm
open Go.Lib
variable {K:Type} {E:K→Type}
variable {T:Tab E} {P:Program} {env:Env E}
theorem Dm {w:World} {Y:Nat→Prop} {ds:List (DV E)} {vs:List Value} {bl:List Nat} (h:hT (Own T w Y) ds vs bl) : ∀ (ss:List (S1 K)),hT (Own T w Y) (wA ss ds) vs bl:=by
 induction h with
 | nil=>intro ss; cases ss <;> exact .nil
 | cons h t ih =>
  intro ss;cases ss with
  | nil=>exact .cons h t
  | cons s ss=>exact .cons (PH h) (ih ss)
theorem LW {s:S1 K} {d:DV E} {t:TypeId} {cs:List (DV E)} (h:pf s d = .pin t cs) : ∃ cs0,d = .pin t cs0:=by
 unfold pf at h;split at h
 ·split at h
  ·cases h
  ·exact ⟨_,h⟩
 ·split at h
  ·cases h
  ·exact ⟨_,h⟩
 ·split at h
  ·cases h
  ·exact ⟨_,h⟩
 ·split at h
  ·cases h; exact ⟨_,rfl⟩
  ·exact ⟨_,h⟩
 ·exact ⟨_,h⟩
theorem M3 (s:S1 K) (t:TypeId) (cs:List (DV E)) : ∃ cs',pf s (.pin t cs:DV E) = .pin t cs':=by
 unfold pf;split
 ·exact ⟨_,rfl⟩
 ·exact ⟨_,rfl⟩
 ·exact ⟨cs,rfl⟩
 ·exact ⟨_,rfl⟩
 ·exact ⟨_,rfl⟩
theorem JD {s:S1 K} {d:DV E} {t:TypeId} {cs:List (DV E)} (h:pf s d = .newb t cs):d = .newb t cs:=by
 unfold pf at h;split at h
 ·split at h
  ·cases h
  ·exact h
 ·split at h
  ·cases h
  ·exact h
 ·split at h
  ·cases h
  ·exact h
 ·split at h
  ·cases h
  ·exact h
 ·exact h
theorem IX (s:S1 K) (t:TypeId) (cs:List (DV E)):pf s (.newb t cs:DV E) = .newb t cs:=by
 unfold pf;split <;> rfl
theorem nO {w:World} {Y:Nat→Prop} : ∀ (ss:List (S1 K)) (ds:List (DV E)) (vs:List Value) (ps:List (List (DV E))) (bl:List Nat),iH T w Y (wA ss ds) vs ps bl→iH T w Y ds vs ps bl
 | [],ds,vs,ps,bl,h=>by cases ds <;> exact h
 | s :: ss,[],vs,ps,bl,h=>h
 | s :: ss,d :: ds,vs,ps,bl,h=>by
  change iH T w Y (pf s d :: wA ss ds) vs ps bl at h;generalize hd:pf s d=d' at h;cases h with
  | skip hn h =>
   refine .skip (fun t cs=>⟨fun e => ?_,fun e => ?_⟩) (nO ss ds _ _ _ h)
   ·subst e
    obtain ⟨cs',hc⟩:=M3 s t cs;exact (hn t cs').1 (by rw [← hd]; exact hc)
   ·subst e
    exact (hn t cs).2 (by rw [← hd]; exact IX s t cs)
  | @pin t cs _ _ _ _ _ _ _ hb h =>
   obtain ⟨cs0,this⟩:=LW hd;rw [this];exact .pin hb (nO ss ds _ _ _ h)
  | lend hb h =>
   rw [JD hd];exact .lend hb (nO ss ds _ _ _ h)
theorem DQ (s:S1 K) (x:s.ty E):jN (s.abs T x)=s.jN:=by
 cases s with
 | a s=>cases s <;> rfl
 | _=>rfl
theorem zX : ∀ (ss:List (S1 K)) (x:tyS E ss) (j:Nat),iN j (kr T ss x)=ou j ss:=by
 intro ss;induction ss with
 | nil=>intro x j; rfl
 | cons s r ih =>
  intro x j;cases r with
  | nil =>
   change iN j [s.abs T x] = _;unfold iN ou;rw [show jN (s.abs T x)=s.jN from DQ s x];rfl
  | cons s' r =>
   change iN j (s.abs T x.1 :: kr T (s' :: r) x.2) = _;unfold iN ou;rw [DQ,ih]
theorem tE {fk:K→Bool} : ∀ {ss:List (S0 K)} {x:tyL E ss},ss.all (S0.flat fk)=true→(kv ss x).all (DV.flat fk)=true
 | [],x,h=>rfl
 | s :: r,x,h=>by
  simp only [List.all_cons,abv] at h;simp only [kv,List.all_cons,abv];refine ⟨?_,tE h.2⟩;have h1:=h.1;cases s <;> first | rfl | (simp [S0.flat] at h1; done) | (simpa [S0.abs,DV.flat,S0.flat] using h1)
theorem S1.sV {s:S1 K} {x:s.ty E} (h:s.flat T.fk=true):(s.abs T x).flat T.fk=true:=by
 cases s with
 | a s=>cases s <;> first | rfl | (simp [S1.flat,S0.flat] at h; done) | (simpa [S1.abs,S0.abs,DV.flat,S1.flat,S0.flat] using h)
 | _=>simp [S1.flat] at h
theorem IE : ∀ (ss:List (S1 K)) (x:tyS E ss),ss.all (S1.flat T.fk)=true→(kr T ss x).all (DV.flat T.fk)=true:=by
 intro ss;induction ss with
 | nil=>intro x h; rfl
 | cons s r ih =>
  intro x h;simp only [List.all_cons,abv] at h;cases r with
  | nil =>
   change ([s.abs T x].all (DV.flat T.fk))=true;simp only [List.all_cons,List.all_nil,Bool.and_true];exact S1.sV h.1
  | cons s' r =>
   change ((s.abs T x.1 :: kr T (s' :: r) x.2).all (DV.flat T.fk))=true;simp only [List.all_cons,abv];have:=ih x.2 h.2;simp only [List.all_eq_true] at this;exact ⟨S1.sV h.1,by simpa [List.all_eq_true] using this⟩
theorem SR.sV {s:SR K} {x:s.ty E} (h:s.flat T.fk=true):yw T.fk (s.abs T x)=true:=by
 cases s with
 | tup ss=>exact IE ss x h
 | one s =>
  cases s with
  | agg ss=>exact tE (fk:=fun _=>false) h
  | a s=>cases s <;> first | rfl | (simp [SR.flat,S1.flat,S0.flat] at h; done) | (simpa [SR.abs,S1.abs,S0.abs,yw,DV.flat,SR.flat,S1.flat,S0.flat] using h)
  | _=>simp [SR.flat,S1.flat] at h
theorem I8 : ∀ (ss:List (List (S0 K))) (x:tyP E ss),(ss.all fun p=>p.all (S0.flat T.fk))=true → ∀ p∈Br ss x,p.all (DV.flat T.fk)=true:=by
 intro ss;induction ss with
 | nil=>intro x h p hp; cases hp
 | cons s r ih =>
  intro x h p hp;simp only [List.all_cons,abv] at h;cases r with
  | nil =>
   change p ∈ [kv s x] at hp;rcases List.mem_singleton.1 hp with rfl
   exact tE h.1
  | cons s' r =>
   change p∈kv s x.1 :: Br (s' :: r) x.2 at hp;rcases List.mem_cons.1 hp with rfl | hp
   ·exact tE h.1
   ·exact ih x.2 h.2 p hp
theorem Db {s:Spec K} {r:s.R E} (h:s.flat T=true):yw T.fk (r5 T s r).v=true ∧ ∀ p∈(r5 T s r).pins,p.all (DV.flat T.fk)=true:=by
 obtain ⟨ps,ret,pp,pl,rf,ts,rc⟩:=s;simp only [Spec.flat,abv] at h;cases pp with
 | nil=>exact ⟨SR.sV (x:=r) h.1,fun p hp=>by cases hp⟩
 | cons p q=>exact ⟨SR.sV (x:=r.1) h.1,I8 (p :: q) r.2 h.2⟩
theorem fI {f:FuncId} {fn:Func} {vs:Array Value} {w:World} (hf:P.funcs[f]? = some fn) (hb:fn.body.isSome=true) (jm:(fn.name == "runtime.NumGoroutine")=false):(callFunc f vs).run P w = .ok (.enter f vs) w:=by
 have:fn.body.isNone=false:=by cases h:fn.body <;> simp_all
 simp only [callFunc,Sem.run_bind,run_program,Result.andThen_ok,hf,jm,this,abq,if_false,Sem.run_pure]
theorem DB (a:Act) (P:Program) (w:World) : ∀ ts:List Nat,(List.mapM (m:=Sem) (fun (r:ResultVar)=>match r with
  | .tmp t=>pure (a.tmps.getD t undef)
  | .cell ad t=>do loadVar t (← asAddr (a.tmps.getD ad undef))) (ts.map ResultVar.tmp)).run P w = .ok (ts.map fun t=>a.tmps.getD t undef) w
 | []=>by simp
 | t :: ts=>by simp only [List.map_cons,List.mapM_cons,Sem.run_bind,Sem.run_pure,Result.andThen_ok,DB a P w ts]
theorem Inv.Ux {w0:World} {G:GP} {st:St E} {a:Act} {w:World} {g:Gh} (h:Inv T w0 G st a w g) (ds:List (DV E)) (us:List Value) (hl:ds.length=us.length)
  (hr : ∀ i (hi:i<ds.length) (bj:i<us.length),aD T w (free st.mem g) g ds[i] us[i] ∧ ∀ k j cs off,ds[i] ≠ .rptr k j cs off) :
  Inv T w0 G ⟨st.tmps ++ ds,st.mem⟩ { a with tmps:=a.tmps ++ us.toArray } w g:=by
 refine ⟨h.df,by simp [h.tl,hl],fun i hi => ?_,h.nn,h.nd,h.mm,h.bo,h.fr,fun i hi n j cs off he => ?_,h.hz⟩
 ·simp only [abr] at hi
  by_cases aM:i<st.tmps.length
  ·have e:(a.tmps ++ us.toArray).getD i undef=a.tmps.getD i undef:=by
    have:i<a.tmps.size:=by rw [h.tl]; exact aM
    simp [Array.getElem?_append_left this]
   simp only [List.getElem_append_left aM,e];exact h.tm i aM
  ·have hle:st.tmps.length≤i:=by omega
   have XA:i - st.tmps.length<us.length:=by omega
   have e:(a.tmps ++ us.toArray).getD i undef=us[i - st.tmps.length]:=by
    have h1:a.tmps.size≤i:=by rw [h.tl]; exact hle
    simp [Array.getElem?_append_right h1,h.tl,XA]
   simp only [List.getElem_append_right hle,e];exact (hr _ (by omega) XA).1
 ·simp only [abr] at hi
  by_cases aM:i<st.tmps.length
  ·rw [List.getElem_append_left aM] at he
   exact h.rl i aM n j cs off he
  ·rw [List.getElem_append_right (by omega)] at he
   exact absurd he ((hr _ (by omega) (by omega)).2 n j cs off)
theorem xR {w0:World} {G:GP} {st:St E} {a:Act} {w:World} {g:Gh} (h:Inv T w0 G st a w g) {β:Type} {K:St E→Option β} {r:β} : ∀ (rc:List (Nat×Option TypeId)) (acc:List (DV E)) (us:List Value),acc.length=us.length →
  (∀ i (hi:i<acc.length) (bj:i<us.length),aD T w (free st.mem g) g acc[i] us[i] ∧ ∀ k j cs off,acc[i] ≠ .rptr k j cs off)→xx T P rc st acc K=some r →
  ∃ st2 us',Inv T w0 G st2 { a with tmps:=a.tmps ++ (us ++ us').toArray } w g∧K st2=some r∧us'.length=rc.length ∧
   (List.mapM (m:=Sem) (fun (r:ResultVar)=>match r with
  | .tmp t=>pure (a.tmps.getD t undef)
  | .cell ad t=>do loadVar t (← asAddr (a.tmps.getD ad undef))) (rc.map Kq)).run P w = .ok us' w
 | [],acc,us,hl,hr,hK=>⟨_,[],by simpa using h.Ux acc us hl hr,hK,rfl,by simp⟩
 | (t,none) :: rc,acc,us,hl,hr,hK=>by
  simp only [xx] at hK;split at hK
  ·cases hK
  rename_i Zx;have hx:aD T w (free st.mem g) g (st.tmps.getD t .junk) (a.tmps.getD t undef):=h.ev (.tmp t);obtain ⟨st2,us',q1,q2,q3,q4⟩:=xR h rc (acc ++ [st.tmps.getD t .junk]) (us ++ [a.tmps.getD t undef]) (by simp [hl]) (fun i hi bj=>by
   by_cases aM:i<acc.length
   ·rw [List.getElem_append_left aM,List.getElem_append_left (by omega)]
    exact hr i aM (by omega)
   ·have e:i=acc.length:=by simp at hi; omega
    subst e;have e2:(us ++ [a.tmps.getD t undef])[acc.length]=a.tmps.getD t undef:=by rw [List.getElem_append_right (by omega)]; simp [hl]
    have e3:(acc ++ [st.tmps.getD t .junk])[acc.length]=st.tmps.getD t .junk:=by rw [List.getElem_append_right (by omega)]; simp
    rw [e2,e3];exact ⟨hx,fun k j cs off e=>by rw [e] at Zx; exact Zx rfl⟩) hK
  refine ⟨st2,_ :: us',by simpa using q1,q2,by simp [q3],?_⟩;simp only [List.map_cons,List.mapM_cons,Kq];rw [Sem.run_bind,Sem.run_pure];simp only [Result.andThen_ok,Sem.run_bind,q4,Sem.run_pure];simp
 | (ad,some ty) :: rc,acc,us,hl,hr,hK=>by
  simp only [xx] at hK;obtain ⟨o,ho,hK⟩:=Cal.Ea _ _ _ hK;have hx:aD T w (free st.mem g) g (st.tmps.getD ad .junk) (a.tmps.getD ad undef):=h.ev (.tmp ad);obtain ⟨_,u,h2,h3,h4⟩:=CJ h hx o ho;obtain ⟨st2,us',q1,q2,q3,q4⟩:=xR h rc (acc ++ [o.v]) (us ++ [u]) (by simp [hl]) (fun i hi bj=>by
   by_cases aM:i<acc.length
   ·rw [List.getElem_append_left aM,List.getElem_append_left (by omega)]
    exact hr i aM (by omega)
   ·have e:i=acc.length:=by simp at hi; omega
    subst e;have e2:(us ++ [u])[acc.length]=u:=by rw [List.getElem_append_right (by omega)]; simp [hl]
    rw [e2];simpa using ⟨h3,h4⟩) hK
  refine ⟨st2,u :: us',by simpa using q1,q2,by simp [q3],?_⟩;have jM:(do loadVar ty (← asAddr (a.tmps.getD ad undef)):Sem Value).run P w = .ok u w:=by
   generalize a.tmps.getD ad undef=va at h2;unfold Instr.loadAt Instr.sureAddr at h2;split at h2
   ·simpa [asAddr] using h2
   ·simp at h2
  simp only [List.map_cons,List.mapM_cons,Kq];rw [Sem.run_bind,jM];simp only [Result.andThen_ok,Sem.run_bind,q4,Sem.run_pure]
theorem IG {w0:World} {G:GP} {fn:Func} {s:Spec K} (hv:fn.results=s.vars) {st:St E} {a:Act} {w:World} {g:Gh} (h:Inv T w0 G st a w g) {β:Type} {K:St E→Option β} {r:β}
  (XB:s.rc.isEmpty=true∨s.ts=(List.range s.rc.length).map (s.pl.nt + ·)) (hK:Ee T P s.pl.nt s.rc st K=some r) :
  ∃ st2 us,Inv T w0 G st2 { a with tmps:=a.tmps ++ us } w g∧K st2=some r∧(us = #[]∨a.tmps.size=s.pl.nt)∧(results fn a.tmps).run P w = .ok (Ig s.ts { a with tmps:=a.tmps ++ us }) w:=by
 unfold results;rw [hv,Array.mapM_eq_mapM_toList];unfold Spec.vars;unfold Ee at hK;have fin : ∀ vs:List Value,(match vs.toArray.toList with
   | [v]=>(pure v:Sem Value)
   | vs=>pure (Value.tuple vs.toArray)).run P w = .ok (match vs with | [v]=>v | vs => .tuple vs.toArray) w:=by
  intro vs
  match vs with
  | []=>rfl
  | [v]=>rfl
  | v :: v' :: vs=>simp
 cases hc:s.rc with
 | nil =>
  rw [hc] at hK;simp only at hK;refine ⟨st, #[],by simpa using h,hK, .inl rfl,?_⟩;simp only [Sem.run_bind];have:=DB a P w s.ts;rw [map_eq_pure_bind,Sem.run_bind]
  erw [this]
  simp only [Result.andThen_ok,Sem.run_pure]
  match s.ts with
  | []=>rfl
  | [t]=>simp [Ig]
  | t :: t' :: ts=>simp [Ig]
 | cons x rc =>
  rw [hc] at hK XB;simp only at hK;have TG:=XB.resolve_left (by simp);obtain ⟨hlen,hK⟩:=dI hK;have mh:a.tmps.size=s.pl.nt:=by rw [h.tl,hlen]
  obtain ⟨st2,us',q1,q2,q3,q4⟩:=xR (P:=P) h (x :: rc) [] [] rfl (fun i hi=>by cases hi) hK;refine ⟨st2,us'.toArray,by simpa using q1,q2, .inr mh,?_⟩;simp only [Sem.run_bind];rw [map_eq_pure_bind,Sem.run_bind]
  erw [q4]
  simp only [Result.andThen_ok,Sem.run_pure];have o7:(s.ts.map fun t=>(a.tmps ++ us'.toArray).getD t undef)=us':=by
   rw [TG,List.map_map];apply List.ext_getElem
   ·simp [q3]
   ·intro i h1 h2
    simp [mh,h2]
  unfold Ig;rw [TG] at o7 ⊢
  match us',q3,o7 with
  | [],q3,_=>simp at q3
  | [u],q3,o7 =>
   have:rc = []:=by simpa using q3.symm
   subst this;simp at o7 ⊢
   exact o7.symm
  | u :: u' :: us,q3,o7 =>
   obtain ⟨y,rc',rfl⟩ : ∃ y rc',rc=y :: rc':=by cases rc with
    | nil=>simp at q3
    | cons y rc'=>exact ⟨y,rc',rfl⟩
   simp only [abp,List.range_succ_eq_map,List.map_cons] at o7 ⊢
   rw [o7];simp
theorem oQ {s:Spec K} {M:tyS E s.params→Option (s.R E)} {f:FuncId} {fn:Func} {code:Code} (hf:P.funcs[f]? = some fn) (hb:fn.body=some code) (jm:(fn.name == "runtime.NumGoroutine")=false)
  (TG:fn.results=s.vars) (YA:fn.ntmps=s.pl.nt) (oc : ∀ f,Ctr T P f (env f)) (hm:P.follows .mixedOrders=true) (hk:qq (ou 0 s.params) code=true)
  (hM : ∀ x r,M x=some r → ∃ F,re T P env s code F x=some r):Ctr T P f (ah T s M):=by
 intro ds;unfold ah;cases hx:EO T s.params (wA s.params ds) with
 | none=>intro r hr; cases hr
 | some x =>
  intro r hr w vs Y bl dC vD hY FI Vi
  haveI:zp T w ⟨(· ∈ bl),(Fi w Y bl).hid⟩:=⟨FI,Vi⟩
  have FK:=Eo hx;have D4:=Dm dC s.params;rw [← FK] at D4;obtain ⟨F,hF⟩:=hM x r hr;unfold re at hF;obtain ⟨⟨hn,hlen,XB⟩,hF⟩:=dI hF;refine .inl ⟨fI hf (by rw [hb]; rfl) jm,calls_of_wp hf hb ?_⟩;obtain ⟨g,hg⟩:=N6 (nt:=s.pl.nt) D4 vD hY hn hlen;rw [YA];obtain ⟨e,st',hK,Xy⟩:=RE (w0:=w) (G:=⟨(· ∈ bl),(Fi w Y bl).hid⟩) (J:=ou 0 s.params) oc hm code hk 0 _ _ _ _ hF;refine wp_mono (Xy _ _ g hg) ?_
  rintro e' a' w' ⟨rfl,g',hi,K8⟩
  have fin:(Ee T P s.pl.nt s.rc (GY T s.rco (forget s.rfrz st')) fun st=>(Fx s.ts (kr T s.params x) st).bind (rdR T s))=some r→a'.defers = [] ∧ ∃ v,(results fn a'.tmps).run P w' = .ok v w' ∧ ∃ v' bl1 bl2,Ending.returned v=Ending.returned v'∧(bl1 ++ bl2).Nodup∧(∀ b∈bl1 ++ bl2,b<w'.heap.size∧(w.heap.size≤b∨b∈bl)) ∧
    zx T w' (fun b=>(Y b∨w.heap.size≤b∨b∈bl)∧b ∉ bl1 ++ bl2) vs.toList (r5 T s r).v v' bl1 ∧
    iH T w' (fun b=>(Y b∨w.heap.size≤b∨b∈bl)∧b ∉ bl1 ++ bl2) ds vs.toList (r5 T s r).pins bl2∧lp (· ∈ bl) w w' ∧
    (s.flat T=true→yw T.fk (r5 T s r).v=true ∧ ∀ p∈(r5 T s r).pins,p.all (DV.flat T.fk)=true):=by
   intro hK;obtain ⟨g',bj⟩:=Fv s.rco (oz hi s.rfrz);obtain ⟨st2,us,bj,hK,mh,Nt⟩:=IG (P:=P) TG bj XB hK;generalize YB:({ a' with tmps:=a'.tmps ++ us }:Act)=a2 at bj Nt
   replace YB:a2.tmps=a'.tmps ++ us:=by rw [← YB]
   obtain ⟨res,h1,h2⟩:=Option.bind_eq_some_iff.1 hK;have tn : ∀ i,i<s.pl.nt→a2.tmps.getD i undef=a'.tmps.getD i undef:=by
    intro i hi;rw [YB];rcases mh with rfl | mh
    ·simp
    ·simp [Array.getElem?_append_left (show i<a'.tmps.size by omega)]
   have hl:(kr T s.params x).length=vs.size:=by have:=Ha D4; simpa using this
   obtain ⟨bl1,bl2,q1,q2,q3,q4,q5⟩:=UW bj hl h1 (by
    intro i tY;rw [zX] at tY;have yp:=K8 i tY;have aM:i<vs.size:=by
     have : ∀ (ds:List (DV E)) (j i:Nat),i∈iN j ds→i<j+ds.length:=by
      intro ds;induction ds with
      | nil=>intro j i h; cases h
      | cons d r ih =>
       intro j i h;unfold iN at h;simp only [abp];split at h
       ·rcases List.mem_cons.1 h with rfl | h
        ·omega
        ·have:=ih _ _ h; omega
       ·have:=ih _ _ h; omega
     have:=this (kr T s.params x) 0 i (by rw [zX]; exact tY);omega
    rw [tn i (by omega),yp];simp [Array.getElem?_append_left aM,aM])
   rw [P2 h2];refine ⟨hi.df,_,Nt,Ig s.ts a2,bl1,bl2,rfl,q1,q2,q3,?_,q5,fun hf => ?_⟩
   ·rw [FK] at q4
    exact nO _ _ _ _ _ q4
   ·rw [← P2 h2]; exact Db hf
  cases e with
  | exit j=>cases hK
  | norm=>exact fin hK
  | ret=>exact fin hK
end Go.Vm
namespace Go.Vm
open Go.Lib
variable {K:Type} {E:K→Type}
def cg {α β γ:Type} (s:α ⊕ β) (f:α→γ) (g:β→γ):γ:=match s with
 | .inl a=>f a
 | .inr b=>g b
def Ch:Env E:=fun _ _ => .bad
def eW (f:FuncId) (C:List (DV E)→Con E) (env:Env E):Env E:=fun g=>if g=f then C else env g
theorem ai {T:Tab E} {P:Program} : ∀ f,Ctr T P f (Ch (E:=E) f):=by
 intro f ds r hr;cases hr
theorem ag {T:Tab E} {P:Program} {f:FuncId} {C:List (DV E)→Con E} {env:Env E} (h : ∀ g,Ctr T P g (env g)) (hc:Ctr T P f C) : ∀ g,Ctr T P g (eW f C env g):=by
 intro g;unfold eW;split
 ·rename_i e; subst e; exact hc
 ·exact h g
theorem wq (T:Tab E) (P:Program) (f:FuncId) (s:Spec K) {M:tyS E s.params→Option (s.R E)} (h : ∀ x,M x=none):Ctr T P f (ah T s M):=by
 intro ds;unfold ah;cases hx:EO T s.params (wA s.params ds) with
 | none=>intro r hr; cases hr
 | some x=>intro r hr; simp only [h] at hr; cases hr
end Go.Vm
namespace Go.Vm
structure Le {α:Type} (a b:Option α):Prop where
 le : ∀ r,a=some r→b=some r
theorem Le.refl {α:Type} (a:Option α):Le a a:=⟨fun _ h=>h⟩
theorem Le.bind {α β:Type} {a b:Option α} {f g:α→Option β} (h:Le a b) (hf : ∀ x,Le (f x) (g x)):Le (a.bind f) (b.bind g):=by
 refine ⟨fun r hr => ?_⟩;obtain ⟨x,hx,hr⟩:=Option.bind_eq_some_iff.1 hr;exact Option.bind_eq_some_iff.2 ⟨x,h.le x hx,(hf x).le r hr⟩
theorem Le.loop {X Y:Type} {f g:X→Option (X ⊕ Y)} (hf : ∀ x,Le (f x) (g x)) : ∀ {n m:Nat},n≤m → ∀ x,Le (aV f n x) (aV g m x)
 | 0,m,h,x=>⟨fun r hr=>by cases hr⟩
 | n+1,0,h,x=>by omega
 | n+1,m+1,h,x=>by
  unfold aV;refine Le.bind (hf x) fun y => ?_
  cases y with
  | inl x'=>exact Le.loop hf (by omega) x'
  | inr y=>exact Le.refl _
theorem Le.cg {α β γ:Type} {s:α ⊕ β} {f f':α→Option γ} {g g':β→Option γ} (h : ∀ x,Le (f x) (f' x)) (h' : ∀ x,Le (g x) (g' x)):Le (Go.Vm.cg s f g) (Go.Vm.cg s f' g'):=by
 cases s with
 | inl a=>exact h a
 | inr b=>exact h' b
def ae {α:Type} (m:Nat→Option α) (r:α):Prop := ∃ N, ∀ F,N≤F→m F=some r
theorem ae.const {α:Type} {m:Option α} {r:α} (h:m=some r):ae (fun _=>m) r:=⟨0,fun _ _=>h⟩
theorem ae.ret {α:Type} (r:α):ae (fun _=>some r) r:=⟨0,fun _ _=>rfl⟩
theorem ae.of {α:Type} {m:Nat→Option α} {r:α} (h : ∀ F,m F=some r):ae m r:=⟨0,fun F _=>h F⟩
theorem ae.bind {α β:Type} {m:Nat→Option α} {k:Nat→α→Option β} {r:α} {s:β} (h:ae m r) (h':ae (fun F=>k F r) s):ae (fun F=>(m F).bind (k F)) s:=by
 obtain ⟨N,h⟩:=h;obtain ⟨N',h'⟩:=h';refine ⟨max N N',fun F hF => ?_⟩;show (m F).bind (k F) = _;rw [h F (by omega),abo];exact h' F (by omega)
theorem ae.congr {α:Type} {m m':Nat→Option α} {r:α} (h:ae m r) (e : ∀ F,m' F=m F):ae m' r:=by
 obtain ⟨N,h⟩:=h;exact ⟨N,fun F hF=>(e F).trans (h F hF)⟩
theorem ae.mono {α:Type} {m:Nat→Option α} {r:α} (hm : ∀ F F',F≤F'→Le (m F) (m F')) (F:Nat) (h:m F=some r):ae m r:=⟨F,fun F' hF=>(hm F F' hF).le r h⟩
theorem ae.ex {α:Type} {m:Nat→Option α} {r:α} (h:ae m r) : ∃ F,m F=some r:=by
 obtain ⟨N,h⟩:=h;exact ⟨N,h N (Nat.le_refl _)⟩
theorem ae.pos {α:Type} {c:Prop} [Decidable c] {m m':Nat→Option α} {r:α} (hc:c) (h:ae m r):ae (fun F=>if c then m F else m' F) r:=h.congr fun F=>by rw [if_pos hc]
theorem ae.neg {α:Type} {c:Prop} [Decidable c] {m m':Nat→Option α} {r:α} (hc : ¬ c) (h:ae m' r):ae (fun F=>if c then m F else m' F) r:=h.congr fun F=>by rw [if_neg hc]
theorem ae.eq {α:Type} {m:Nat→Option α} {r r':α} (h:ae m r) (e:r=r'):ae m r':=e ▸ h
def af {X Y:Type} (f:Nat→X→Option (X ⊕ Y)) (x:X) (y:Y):Prop := ∃ N, ∀ F n,N≤F→N≤n→aV (f F) n x=some y
theorem af.fin {X Y:Type} {f:Nat→X→Option (X ⊕ Y)} {x:X} {y:Y} (h:ae (fun F=>f F x) (.inr y)):af f x y:=by
 obtain ⟨N,h⟩:=h;refine ⟨N+1,fun F n hF hn => ?_⟩;obtain ⟨n,rfl⟩ : ∃ k,n=k+1:=⟨n - 1,by omega⟩
 unfold aV;have h1:f F x=some (.inr y):=h F (by omega);rw [h1];rfl
theorem af.step {X Y:Type} {f:Nat→X→Option (X ⊕ Y)} {x x':X} {y:Y} (h:ae (fun F=>f F x) (.inl x')) (h':af f x' y):af f x y:=by
 obtain ⟨N,h⟩:=h;obtain ⟨N',h'⟩:=h';refine ⟨max N N'+1,fun F n hF hn => ?_⟩;obtain ⟨n,rfl⟩ : ∃ k,n=k+1:=⟨n - 1,by omega⟩
 unfold aV;have h1:f F x=some (.inl x'):=h F (by omega);rw [h1,abo];exact h' F n (by omega) (by omega)
theorem af.run {X Y:Type} {f:Nat→X→Option (X ⊕ Y)} {x:X} {y:Y} (h:af f x y):ae (fun F=>aV (f F) F x) y:=by
 obtain ⟨N,h⟩:=h;exact ⟨N,fun F hF=>h F F hF hF⟩
theorem xj {α β:Type} {c:Prop} [Decidable c] (a b:Option α) (f:α→Option β):(if c then a else b).bind f=if c then a.bind f else b.bind f:=by split <;> rfl
theorem cC {α:Type} (c:Prop) [Decidable c] (a b:α):(if c then some a else some b)=some (if c then a else b):=by split <;> rfl
theorem cB {α β:Type} (c:Prop) [Decidable c] (a a':α) (b b':β):(if c then (a,b) else (a',b'))=(if c then a else a',if c then b else b'):=by split <;> rfl
theorem wrap64 (n:Int) (h : -9223372036854775808≤n) (h':n≤9223372036854775807):IntKind.i64.wrap n=n:=by
 simp only [IntKind.wrap,IntKind.signed,IntKind.bits];simp;omega
end Go.Vm
namespace Go.Vm
open Go.Lib
variable {K:Type} {E:K→Type}
variable {T:Tab E} {P:Program}
def Comes (T:Tab E) (s:Spec K) (ds:List (DV E)) (r:s.R E) (w:World) (vs:List Value) (Y:Nat→Prop) (bl:List Nat) (e:Ending) (w':World):Prop :=
 ∃ v bl1 bl2,e = .returned v∧(bl1 ++ bl2).Nodup∧(∀ b∈bl1 ++ bl2,b<w'.heap.size∧(w.heap.size≤b∨b∈bl)) ∧
  zx T w' (fun b=>(Y b∨w.heap.size≤b∨b∈bl)∧b ∉ bl1 ++ bl2) vs (r5 T s r).v v bl1 ∧
  iH T w' (fun b=>(Y b∨w.heap.size≤b∨b∈bl)∧b ∉ bl1 ++ bl2) ds vs (r5 T s r).pins bl2∧lp (· ∈ bl) w w'
theorem nC {s:Spec K} {M:tyS E s.params→Option (s.R E)} {f:FuncId}
  (h : ∀ x r,M x=some r → ∀ (w:World) (vs:Array Value) (Y:Nat→Prop) (bl:List Nat),hT (Own T w Y) (kr T s.params x) vs.toList bl→bl.Nodup→(∀ b∈bl, ¬ Y b∧b<w.heap.size)→T.gl w→(∀ b∈bl,T.gb≤b) →
   IU P f vs w (Comes T s (kr T s.params x) r w vs.toList Y bl)):Ctr T P f (ah T s M):=by
 intro ds;unfold ah;cases hx:EO T s.params (wA s.params ds) with
 | none=>intro r hr; cases hr
 | some x =>
  intro r hr w vs Y bl dC vD hY FI Vi;have FK:=Eo hx;have D4:=Dm dC s.params;rw [← FK] at D4;have hc:=h x r hr w vs Y bl D4 vD hY FI Vi;have key : ∀ e w',Comes T s (kr T s.params x) r w vs.toList Y bl e w' → ∃ v bl1 bl2,e = .returned v∧(bl1 ++ bl2).Nodup∧(∀ b∈bl1 ++ bl2,b<w'.heap.size∧(w.heap.size≤b∨b∈bl)) ∧
    zx T w' (fun b=>(Y b∨w.heap.size≤b∨b∈bl)∧b ∉ bl1 ++ bl2) vs.toList (r5 T s r).v v bl1 ∧
    iH T w' (fun b=>(Y b∨w.heap.size≤b∨b∈bl)∧b ∉ bl1 ++ bl2) ds vs.toList (r5 T s r).pins bl2∧lp (· ∈ bl) w w' ∧
    (s.flat T=true→yw T.fk (r5 T s r).v=true ∧ ∀ p∈(r5 T s r).pins,p.all (DV.flat T.fk)=true):=by
   rintro e w' ⟨v,bl1,bl2,h1,h2,h3,h4,h5,h6⟩
   refine ⟨v,bl1,bl2,h1,h2,h3,h4,?_,h6,fun hf=>Db hf⟩;rw [FK] at h5;exact nO _ _ _ _ _ h5
  rcases hc with ⟨h1,h2⟩ | ⟨v,w',h1,h2⟩
  ·exact .inl ⟨h1,h2.mono key⟩
  ·exact .inr ⟨v,w',h1,key _ _ h2⟩
theorem alloc_old (w:World) (o:Obj) (k:Nat) (hk:k<w.heap.size):(w.alloc o).heap[k]? = w.heap[k]? := heap_alloc_old w o k hk
end Go.Vm
