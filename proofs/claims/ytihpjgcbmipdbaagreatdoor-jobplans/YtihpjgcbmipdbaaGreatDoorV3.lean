import Derived.Test.YtihpjgcbmipdbaaGreatDoorV2
set_option linter.unusedVariables false
namespace Go.Vm
open Go.Lib
variable {K:Type} {E:K->Type}
inductive S0 (K:Type) where
 | int (k:IntKind) | bool | str | slc (k:K) | nilp | nili | nils | fn (f:FuncId) | ptr (n off:Nat) | rowp (n:Nat) | rowv (n:Nat) | row (e:TypeId) (k:K) | argp (j:Nat) | junk | arr (n:Nat) (k:K) | any (k:K)
inductive S1 (K:Type) where
 | a (s:S0 K) | agg (ss:List (S0 K)) | elt (k:K) | eptr (k:K) (off:Nat) | pin (t:TypeId) (ss:List (S0 K)) | newb (t:TypeId) (ss:List (S0 K)) | ifc (t:TypeId) (s:S0 K) | ifcA (t:TypeId) (ss:List (S0 K)) | shp (ss:List (S0 K)) | opt (ss:List (S0 K)) | fnc (f:FuncId) (sss:List (List (S0 K)))
inductive SB (K:Type) where
 | cells (t:TypeId) (ss:List (S0 K)) | row (e:TypeId) (k:K) | siter | arr (t:TypeId) (n:Nat) (k:K)
inductive It (K:Type) where
 | tmp (t:Nat) (s:S1 K) | box (n:Nat) (b:SB K)
structure SS (K:Type) where
 its:List (It K)
 frz:List Nat:=[]
 co:List (Co K):=[]
variable (E) in
def S0.ty:S0 K->Type
 | .int _=>Int
 | .bool=>Bool
 | .str=>List UInt8
 | .slc k=>List (E k)
 | .rowv _=>Nat
 | .row _ k=>List (E k)
 | .arr _ k=>List (E k)
 | .any k=>E k
 | _=>Unit
variable (E) in
def tyL:List (S0 K)->Type
 | []=>Unit
 | s::r=>s.ty E×tyL r
variable (E) in
def P2:List (List (S0 K))->Type
 | []=>Unit
 | ss::r=>tyL E ss×P2 r
variable (E) in
def S1.ty:S1 K->Type
 | .a s=>s.ty E
 | .agg ss | .pin _ ss | .newb _ ss | .ifcA _ ss | .shp ss=>tyL E ss
 | .opt ss=>Bool×tyL E ss
 | .fnc _ sss=>P2 E sss
 | .elt k | .eptr k _=>E k
 | .ifc _ s=>s.ty E
variable (E) in
def SB.ty:SB K->Type
 | .cells _ ss=>tyL E ss
 | .row _ k=>List (E k)
 | .siter=>List UInt8×Nat
 | .arr _ _ k=>List (E k)
variable (E) in
def It.ty:It K->Type
 | .tmp _ s=>s.ty E
 | .box _ b=>b.ty E
variable (E) in
def tyI:List (It K)->Type
 | []=>Unit
 | i::r=>i.ty E×tyI r
def S0.abs:(s:S0 K)->s.ty E->DV E
 | .int k,n => .int k n
 | .bool,b => .bool b
 | .str,s => .str s
 | .slc k,l => .slc k l
 | .nilp,_ => .nilp
 | .nili,_ => .nili
 | .nils,_ => .nils
 | .fn f,_ => .fn f []
 | .ptr n off,_ => .ptr n off
 | .rowp n,_ => .rowp n
 | .rowv n,b => .rowv n b
 | .row e k,l => .row e k l
 | .argp j,_ => .argp j
 | .junk,_ => .junk
 | .arr n k,l => .arr n k l
 | .any k,x => .any k x
def kO:(ss:List (S0 K))->tyL E ss->List (DV E)
 | [],_ => []
 | s::r,x=>s.abs x.1::kO r x.2
def Lk:(sss:List (List (S0 K)))->P2 E sss->List (DV E)
 | [],_ => []
 | ss::r,x => .shp (kO ss x.1)::Lk r x.2
section
variable (T:Tab E)
def S1.abs:(s:S1 K)->s.ty E->DV E
 | .a s,x=>s.abs x
 | .agg ss,x => .agg (kO ss x)
 | .elt k,x => .agg (T.enc k x)
 | .eptr k off,x => .eptr (T.enc k x) off
 | .pin t ss,x => .pin t (kO ss x)
 | .newb t ss,x => .newb t (kO ss x)
 | .ifc t s,x => .ifc t (s.abs x)
 | .ifcA t ss,x => .ifc t (.agg (kO ss x))
 | .shp ss,x => .shp (kO ss x)
 | .opt ss,x => .opt x.1 (kO ss x.2)
 | .fnc f sss,x => .fn f (Lk sss x)
def SB.abs:(s:SB K)->s.ty E->Box E
 | .cells t ss,x => .cells t (kO ss x)
 | .row e k,l => .row e k l
 | .siter,x => .siter x.1 x.2
 | .arr t n k,l => .arr t n k l
def It.abs:(i:It K)->i.ty E->St E->St E
 | .tmp t s,x,st=>⟨st.tmps.set t (s.abs T x),st.mem⟩
 | .box n b,x,st=>⟨st.tmps,(n,b.abs x)::st.mem⟩
def nA (nt:Nat):(its:List (It K))->tyI E its->St E
 | [],_=>⟨List.replicate nt .junk,[]⟩
 | i::r,x=>i.abs T x.1 (nA nt r x.2)
def VH (k:IntKind) (d:DV E):Option (Int):=match d with
 | .int k' n=>if k'=k then some n else none
 | _=>none
def Re (d:DV E):Option (Bool):=match d with
 | .bool b=>some b
 | _=>none
def VG (d:DV E):Option (List UInt8):=match d with
 | .str s=>some s
 | _=>none
def VC (k:K) (d:DV E):Option (List (E k)):=match d with
 | .slc k' l=>sd T k k' l
 | _=>none
def QQ (d:DV E):Option (Unit):=match d with
 | .nilp=>some ()
 | _=>none
def Pb (d:DV E):Option (Unit):=match d with
 | .nili=>some ()
 | _=>none
def QB (d:DV E):Option (Unit):=match d with
 | .nils=>some ()
 | _=>none
def gFn (f:FuncId) (d:DV E):Option (Unit):=match d with
 | .fn f' []=>if f'=f then some () else none
 | _=>none
def Wf (n off:Nat) (d:DV E):Option (Unit):=match d with
 | .ptr n' off'=>if n'=n/\off'=off then some () else none
 | _=>none
def QW (n:Nat) (d:DV E):Option (Unit):=match d with
 | .rowp n'=>if n'=n then some () else none
 | _=>none
def Pw (n:Nat) (d:DV E):Option (Nat):=match d with
 | .rowv n' b=>if n'=n then some b else none
 | _=>none
def VQ (e:TypeId) (k:K) (d:DV E):Option (List (E k)):=match d with
 | .row e' k' l=>if e'=e then sd T k k' l else none
 | _=>none
def VR (n:Nat) (k:K) (d:DV E):Option (List (E k)):=match d with
 | .arr n' k' l=>if n'=n then sd T k k' l else none
 | _=>none
def Qd (j:Nat) (d:DV E):Option (Unit):=match d with
 | .argp j'=>if j'=j then some () else none
 | _=>none
def PH (d:DV E):Option (Unit):=match d with
 | .junk=>some ()
 | _=>none
def Ug (k k':K) (x:E k'):Option (E k) :=
 match T.deq k' k with
 | .isTrue h=>some (h ▸ x)
 | .isFalse _=>none
def VD (k:K) (d:DV E):Option (E k):=match d with
 | .any k' x=>Ug T k k' x
 | _=>none
def S0.rd (s:S0 K) (d:DV E):Option (s.ty E) :=
 match s with
 | .int k=>VH k d
 | .bool=>Re d
 | .str=>VG d
 | .slc k=>VC T k d
 | .nilp=>QQ d
 | .nili=>Pb d
 | .nils=>QB d
 | .fn f=>gFn f d
 | .ptr n off=>Wf n off d
 | .rowp n=>QW n d
 | .rowv n=>Pw n d
 | .row e k=>VQ T e k d
 | .argp j=>Qd j d
 | .junk=>PH d
 | .arr n k=>VR T n k d
 | .any k=>VD T k d
def rdL:(ss:List (S0 K))->List (DV E)->Option (tyL E ss)
 | [],[]=>some ()
 | s::r,d::ds=>(s.rd T d).bind fun x=>(rdL r ds).bind fun y=>some (x,y)
 | _,_=>none
def Sx (d:DV E):Option (List (DV E)):=match d with
 | .agg cs=>some cs
 | _=>none
def Vb (t:TypeId) (d:DV E):Option (List (DV E)):=match d with
 | .pin t' cs=>if t'=t then some cs else none
 | _=>none
def Qv (t:TypeId) (d:DV E):Option (List (DV E)):=match d with
 | .newb t' cs=>if t'=t then some cs else none
 | _=>none
def Sb (t:TypeId) (d:DV E):Option (DV E):=match d with
 | .ifc t' d=>if t'=t then some d else none
 | _=>none
def TE (d:DV E):Option (List (DV E)):=match d with
 | .shp cs=>some cs
 | _=>none
def U6 (d:DV E):Option (Bool×List (DV E)):=match d with
 | .opt c cs=>some (c,cs)
 | _=>none
def NV:(sss:List (List (S0 K)))->List (DV E)->Option (P2 E sss)
 | [],[]=>some ()
 | ss::r,d::ds=>((TE d).bind (rdL T ss)).bind fun x=>(NV r ds).bind fun y=>some (x,y)
 | _,_=>none
def Vn (f:FuncId) (d:DV E):Option (List (DV E)):=match d with
 | .fn f' cs=>if f'=f then some cs else none
 | _=>none
def S1.rd (s:S1 K) (d:DV E):Option (s.ty E) :=
 match s with
 | .a s=>s.rd T d
 | .agg ss=>(Sx d).bind (rdL T ss)
 | .pin t ss=>(Vb t d).bind (rdL T ss)
 | .newb t ss=>(Qv t d).bind (rdL T ss)
 | .ifc t s=>(Sb t d).bind (s.rd T)
 | .ifcA t ss=>(Sb t d).bind fun d=>(Sx d).bind (rdL T ss)
 | .shp ss=>(TE d).bind (rdL T ss)
 | .opt ss=>(U6 d).bind fun q=>(rdL T ss q.2).bind fun x=>some (q.1,x)
 | .fnc f sss=>(Vn f d).bind (NV T sss)
 | _=>none
def SB.rd:(s:SB K)->Box E->Option (s.ty E)
 | .cells t ss,.cells t' cs=>if t'=t then rdL T ss cs else none
 | .row e k,.row e' k' l=>if e'=e then sd T k k' l else none
 | .siter,.siter s pos=>some (s,pos)
 | .arr t n k,.arr t' n' k' l=>if t'=t/\n'=n then sd T k k' l else none
 | _,_=>none
def It.rd (st:St E):(i:It K)->Option (i.ty E)
 | .tmp t s=>s.rd T (st.tmps.getD t .junk)
 | .box n b=>(look st.mem n).bind (b.rd T)
def rdI (st:St E):(its:List (It K))->Option (tyI E its)
 | []=>some ()
 | i::r=>(i.rd T st).bind fun x=>(rdI st r).bind fun y=>some (x,y)
def qG:List (It K)->List Nat
 | [] => []
 | .tmp .. :: r=>qG r
 | .box n _::r=>n::qG r
def rdS (nt:Nat) (ss:SS K) (st:St E):Option (tyI E ss.its) :=
 if st.tmps.length=nt/\nodupB (qG ss.its)=true then rdI T (Iw T ss.co (forget ss.frz st)) ss.its else none
inductive Ex where
 | norm | exit (i:Nat) | ret
 deriving DecidableEq
variable (E) in
def Nq:Ex×SS K->List (Ex×SS K)->Type
 | x,[]=>tyI E x.2.its
 | x,y::r=>tyI E x.2.its ⊕ Nq y r
def vF (nt:Nat):(x:Ex×SS K)->(l:List (Ex×SS K))->Ex->St E->Option (Nq E x l)
 | x,[],e,st=>if x.1=e then rdS T nt x.2 st else none
 | x,y::r,e,st=>if x.1=e then (rdS T nt x.2 st).bind fun v=>some (.inl v) else (vF nt y r e st).bind fun v=>some (.inr v)
def pW {γ:Type} (nt:Nat):(x:Ex×SS K)->(l:List (Ex×SS K))->Nq E x l->(Ex->St E->γ)->γ
 | x,[],v,k=>k x.1 (nA T nt x.2.its v)
 | x,y::r,v,k=>match v with
  | .inl v=>k x.1 (nA T nt x.2.its v)
  | .inr v=>pW nt y r v k
end
def assoc {α:Type}:List (Nat×α)->Nat->Option α
 | [],_=>none
 | (k,a)::r,n=>if k=n then some a else assoc r n
structure VM (K:Type) where
 orc:Orc:={}
 nt:Nat
 joins:List (Nat×(Ex×SS K)×List (Ex×SS K)):=[]
 loops:List (Nat×SS K×(Ex×SS K)×List (Ex×SS K)):=[]
 frz:List (Nat×List Nat):=[]
 cuts:List (Nat×List (Nat×SS K)):=[]
 bjoins:List (Nat×(Ex×SS K)×List (Ex×SS K)):=[]
 ends:List (Nat×SS K):=[]
def Ca (id:Nat) (e:Ex):Ex:=match e with
 | .exit j=>if j=id then .norm else .exit j
 | e=>e
def ll:Code->Nat
 | .region id _ _=>id+1
 | .seq x y=>if ll x=0 then ll y else ll x
 | .cond _ x y=>if ll x=0 then ll y else ll x
 | .block _ b=>ll b
 | .loop b=>ll b
 | _=>0
def bf {X Y:Type} (f:X->Option (X ⊕ Y)):Nat->X->Option Y
 | 0,_=>none
 | n+1,x=>(f x).bind fun r=>match r with
  | .inl x'=>bf f n x'
  | .inr y=>some y
section
variable (T:Tab E) (P:Program) (env:Env E) (pl:VM K) (F:Nat)
def VO (q:Nat):Operand->Option ((Ex×SS K)×List (Ex×SS K))
 | .tmp t=>assoc pl.joins (t+100000*q)
 | _=>none
def Ah (ops:Array Oper) {β:Type}:List (Nat×SS K)->List Nat->St E->(St E->Option β)->Option β
 | [],l,st,k=>uq T P env pl.orc ops none l [] st k
 | (c,ss)::r,l,st,k=>(uq T P env pl.orc ops none (l.take c) [] st (rdS T pl.nt ss)).bind fun x=>Ah ops r (l.drop c) (nA T pl.nt ss.its x) k
def pZ:Code->Nat->St E->{β:Type}->(Ex->St E->Option β)->Option β
 | .skip,_,st,_,k=>k .norm st
 | .region id ops draw,_,st,_,k =>
  if draw=true then
   if uO ops=true then
    match assoc pl.ends id with
    | none=>uq T P env pl.orc ops (some (HM ops)) (List.range ops.size) [] (forget ((assoc pl.frz id).getD []) st) (k .norm)
    | some ss=>(uq T P env pl.orc ops (some (HM ops)) (List.range ops.size) [] (forget ((assoc pl.frz id).getD []) st) (rdS T pl.nt ss)).bind fun x=>k .norm (nA T pl.nt ss.its x)
   else none
  else Ah T P env pl ops ((assoc pl.cuts id).getD []) (List.range ops.size) (forget ((assoc pl.frz id).getD []) st) (k .norm)
 | .seq x y,l,st,_,k=>pZ x l st fun e st'=>match e with
  | .norm=>pZ y l st' k
  | e=>k e st'
 | .cond c x y,l,st,_,k =>
  match st.ev c with
  | .bool b =>
   match VO pl (ll (.seq x y)) c with
   | none=>if b=true then pZ x l st k else pZ y l st k
   | some (h,r)=>(if b=true then pZ x l st (vF T pl.nt h r) else pZ y l st (vF T pl.nt h r)).bind fun t=>pW T pl.nt h r t k
  | _=>none
 | .block id body,_,st,_,k =>
  match assoc pl.bjoins id with
  | none=>pZ body id st fun e st'=>k (Ca id e) st'
  | some (h,r)=>(pZ body id st fun e st'=>vF T pl.nt h r (Ca id e) st').bind fun t=>pW T pl.nt h r t k
 | .loop body,l,st,_,k =>
  match assoc pl.loops l with
  | none=>none
  | some (ss,h,r)=>(rdS T pl.nt ss st).bind fun x =>
   (bf (fun x=>pZ body l (nA T pl.nt ss.its x) fun e st'=>match e with
    | .norm=>(rdS T pl.nt ss st').bind fun v=>some (Sum.inl v)
    | e=>(vF T pl.nt h r e st').bind fun v=>some (Sum.inr v)) F x).bind fun y=>pW T pl.nt h r y k
 | .exit id,_,st,_,k=>k (.exit id) st
 | .ret,_,st,_,k=>k .ret st
 | _,_,_,_,_=>none
end
end Go.Vm
namespace Go.Vm
open Go.Lib
variable {K:Type} {E:K->Type}
variable {T:Tab E} {P:Program}
theorem dP {α:Type} {c:Prop} [Decidable c] {m:Option α} {x:α} (h:(if c then m else none)=some x):c/\m=some x:=by
 by_cases hc:c
 ·rw[if_pos hc] at h; exact ⟨hc,h⟩
 ·rw[if_neg hc] at h; cases h
theorem R7 {k:IntKind} {d:DV E} {x:Int} (h:VH k d=some x):DV.int k x=d:=by
 unfold VH at h;split at h
 ·obtain ⟨e,h⟩:=dP h; cases h; subst e; rfl
 ·cases h
theorem PU {d:DV E} {x:Bool} (h:Re d=some x):DV.bool x=d:=by
 unfold Re at h;split at h
 ·cases h; rfl
 ·cases h
theorem Ta {d:DV E} {x:List UInt8} (h:VG d=some x):DV.str x=d:=by
 unfold VG at h;split at h
 ·cases h; rfl
 ·cases h
theorem Sj {k:K} {d:DV E} {x:List (E k)} (h:VC T k d=some x):DV.slc k x=d:=by
 unfold VC at h;split at h
 ·obtain ⟨e,he⟩:=ia h; subst e; rw[he]
 ·cases h
theorem PK {d:DV E} {x:Unit} (h:QQ d=some x):DV.nilp=d:=by
 unfold QQ at h;split at h
 ·cases h; rfl
 ·cases h
theorem PQ {d:DV E} {x:Unit} (h:Pb d=some x):DV.nili=d:=by
 unfold Pb at h;split at h
 ·cases h; rfl
 ·cases h
theorem QC {d:DV E} {x:Unit} (h:QB d=some x):DV.nils=d:=by
 unfold QB at h;split at h
 ·cases h; rfl
 ·cases h
theorem VE {f:FuncId} {d:DV E} {x:Unit} (h:gFn f d=some x):DV.fn f []=d:=by
 unfold gFn at h;split at h
 ·obtain ⟨e,h⟩:=dP h; cases h; subst e; rfl
 ·cases h
theorem Sn {n off:Nat} {d:DV E} {x:Unit} (h:Wf n off d=some x):DV.ptr n off=d:=by
 unfold Wf at h;split at h
 ·obtain ⟨⟨e,e'⟩,h⟩:=dP h; subst e; subst e'; rfl
 ·cases h
theorem Pg {n:Nat} {d:DV E} {x:Unit} (h:QW n d=some x):DV.rowp n=d:=by
 unfold QW at h;split at h
 ·obtain ⟨e,h⟩:=dP h; cases h; subst e; rfl
 ·cases h
theorem Pd {n:Nat} {d:DV E} {x:Nat} (h:Pw n d=some x):DV.rowv n x=d:=by
 unfold Pw at h;split at h
 ·obtain ⟨e,h⟩:=dP h; cases h; subst e; rfl
 ·cases h
theorem RZ {e:TypeId} {k:K} {d:DV E} {x:List (E k)} (h:VQ T e k d=some x):DV.row e k x=d:=by
 unfold VQ at h;split at h
 ·obtain ⟨e,h2⟩:=dP h; obtain ⟨e',he⟩:=ia h2; subst e; subst e'; rw[he]
 ·cases h
theorem SU {n:Nat} {k:K} {d:DV E} {x:List (E k)} (h:VR T n k d=some x):DV.arr n k x=d:=by
 unfold VR at h;split at h
 ·obtain ⟨e,h2⟩:=dP h; obtain ⟨e',he⟩:=ia h2; subst e; subst e'; rw[he]
 ·cases h
theorem Rk {j:Nat} {d:DV E} {x:Unit} (h:Qd j d=some x):DV.argp j=d:=by
 unfold Qd at h;split at h
 ·obtain ⟨e,h⟩:=dP h; cases h; subst e; rfl
 ·cases h
theorem Pv {d:DV E} {x:Unit} (h:PH d=some x):DV.junk=d:=by
 unfold PH at h;split at h
 ·cases h; rfl
 ·cases h
theorem S8 {k:K} {d:DV E} {x:E k} (h:VD T k d=some x):DV.any k x=d:=by
 unfold VD at h;split at h
 ·unfold Ug at h
  split at h
  ·rename_i e _
   cases h;subst e;rfl
  ·cases h
 ·cases h
theorem S0.qp {s:S0 K} {d:DV E} {x:s.ty E} (h:s.rd T d=some x):s.abs x=d:=by
 cases s with
 | int k=>exact R7 h
 | bool=>exact PU h
 | str=>exact Ta h
 | slc k=>exact Sj h
 | nilp=>exact PK h
 | nili=>exact PQ h
 | nils=>exact QC h
 | fn f=>exact VE h
 | ptr n off=>exact Sn h
 | rowp n=>exact Pg h
 | rowv n=>exact Pd h
 | row e k=>exact RZ h
 | argp j=>exact Rk h
 | junk=>exact Pv h
 | arr n k=>exact SU h
 | any k=>exact S8 h
theorem oF:∀ {ss:List (S0 K)} {ds:List (DV E)} {x:tyL E ss},rdL T ss ds=some x->kO ss x=ds
 | [],[],x,h=>rfl
 | [],d::ds,x,h=>by simp[rdL] at h
 | s::r,[],x,h=>by simp[rdL] at h
 | s::r,d::ds,x,h=>by
  simp only[rdL] at h;obtain ⟨y,hy,h⟩:=adk.1 h;obtain ⟨z,hz,h⟩:=adk.1 h;cases h;simp only[kO,S0.qp hy,oF hz]
theorem LW {d:DV E} {x:List (DV E)} (h:Sx d=some x):DV.agg x=d:=by
 unfold Sx at h;split at h
 ·cases h; rfl
 ·cases h
theorem R6 {t:TypeId} {d:DV E} {x:List (DV E)} (h:Vb t d=some x):DV.pin t x=d:=by
 unfold Vb at h;split at h
 ·obtain ⟨e,h⟩:=dP h; cases h; subst e; rfl
 ·cases h
theorem Rc {t:TypeId} {d:DV E} {x:List (DV E)} (h:Qv t d=some x):DV.newb t x=d:=by
 unfold Qv at h;split at h
 ·obtain ⟨e,h⟩:=dP h; cases h; subst e; rfl
 ·cases h
theorem LO {t:TypeId} {d x:DV E} (h:Sb t d=some x):DV.ifc t x=d:=by
 unfold Sb at h;split at h
 ·obtain ⟨e,h⟩:=dP h; cases h; subst e; rfl
 ·cases h
theorem Lx {d:DV E} {x:List (DV E)} (h:TE d=some x):DV.shp x=d:=by
 unfold TE at h;split at h
 ·cases h; rfl
 ·cases h
theorem Sp {d:DV E} {x:Bool×List (DV E)} (h:U6 d=some x):DV.opt x.1 x.2=d:=by
 unfold U6 at h;split at h
 ·cases h; rfl
 ·cases h
theorem LG:∀ {sss:List (List (S0 K))} {ds:List (DV E)} {x:P2 E sss},NV T sss ds=some x->Lk sss x=ds
 | [],[],x,h=>rfl
 | [],d::ds,x,h=>by simp[NV] at h
 | s::r,[],x,h=>by simp[NV] at h
 | s::r,d::ds,x,h=>by
  simp only[NV] at h;obtain ⟨y,hy,h⟩:=adk.1 h;obtain ⟨cs,h1,hy⟩:=adk.1 hy;obtain ⟨z,hz,h⟩:=adk.1 h;cases h;simp only[Lk,oF hy,LG hz,Lx h1]
theorem R5 {f:FuncId} {d:DV E} {x:List (DV E)} (h:Vn f d=some x):DV.fn f x=d:=by
 unfold Vn at h;split at h
 ·obtain ⟨e,h⟩:=dP h; cases h; subst e; rfl
 ·cases h
theorem S1.qp {s:S1 K} {d:DV E} {x:s.ty E} (h:s.rd T d=some x):s.abs T x=d:=by
 cases s with
 | a s=>exact S0.qp h
 | elt k=>cases h
 | eptr k off=>cases h
 | agg ss=>obtain ⟨cs,h1,h⟩:=adk.1 h; rw[<-LW h1]; exact congrArg _ (oF h)
 | pin t ss=>obtain ⟨cs,h1,h⟩:=adk.1 h; rw[<-R6 h1]; exact congrArg _ (oF h)
 | newb t ss=>obtain ⟨cs,h1,h⟩:=adk.1 h; rw[<-Rc h1]; exact congrArg _ (oF h)
 | ifc t s=>obtain ⟨cs,h1,h⟩:=adk.1 h; rw[<-LO h1]; exact congrArg _ (S0.qp h)
 | ifcA t ss =>
  obtain ⟨d',h1,h⟩:=adk.1 h;obtain ⟨cs,h2,h⟩:=adk.1 h;rw[<-LO h1,<-LW h2];exact congrArg (fun q=>DV.ifc _ (.agg q)) (oF h)
 | shp ss=>obtain ⟨cs,h1,h⟩:=adk.1 h; rw[<-Lx h1]; exact congrArg _ (oF h)
 | opt ss =>
  obtain ⟨q,h1,h⟩:=adk.1 h;obtain ⟨y,h2,h⟩:=adk.1 h;cases h;rw[<-Sp h1];exact congrArg (DV.opt q.1) (oF h2)
 | fnc f sss=>obtain ⟨cs,h1,h⟩:=adk.1 h; rw[<-R5 h1]; exact congrArg _ (LG h)
theorem SB.qp {s:SB K} {b:Box E} {x:s.ty E} (h:s.rd T b=some x):s.abs x=b:=by
 cases s <;> cases b <;> simp only[SB.rd] at h <;> first | (cases h; done) | skip
 case cells.cells=>obtain ⟨e,h⟩:=dP h; subst e; exact congrArg _ (oF h)
 case row.row =>
  obtain ⟨e,h⟩:=dP h;subst e;obtain ⟨e,he⟩:=ia h;subst e;rw[he];rfl
 case siter.siter=>cases h; rfl
 case arr.arr =>
  obtain ⟨⟨e,e'⟩,h⟩:=dP h;subst e; subst e';obtain ⟨e,he⟩:=ia h;subst e;rw[he];rfl
theorem Sz {s:S1 K} {x:s.ty E}:∀ n i cs off,s.abs T x ≠ .rptr n i cs off:=by
 intro n i cs off;cases s with
 | a s=>cases s <;> simp[S1.abs,S0.abs]
 | _=>simp[S1.abs]
theorem Jq {st:St E}:∀ {its:List (It K)} {x:tyI E its},rdI T st its=some x ->
  (nA T st.tmps.length its x).tmps.length=st.tmps.length/\names (nA T st.tmps.length its x).mem=qG its /\
  (∀ i (hi:i<st.tmps.length) (bq:i<(nA T st.tmps.length its x).tmps.length),(nA T st.tmps.length its x).tmps[i] = .junk\/((nA T st.tmps.length its x).tmps[i]=st.tmps[i] /\ ∀ n j cs off,st.tmps[i] ≠ .rptr n j cs off)) /\
  ∀ n b,(n,b)∈(nA T st.tmps.length its x).mem->(n,b)∈st.mem
 | [],x,h=>⟨by simp[nA],rfl,fun i hi bq => .inl (by simp[nA]),fun n b hm=>by simp[nA] at hm⟩
 | .tmp t s::r,x,h=>by
  simp only[rdI,It.rd] at h;obtain ⟨y,hy,h⟩:=adk.1 h;obtain ⟨z,hz,h⟩:=adk.1 h;cases h;obtain ⟨h1,h2,h3,h4⟩:=Jq hz;refine ⟨by simp[nA,It.abs,h1],by simp[nA,It.abs,qG,h2],fun i hi bq => ?_,fun n b hm=>h4 n b (by simpa[nA,It.abs] using hm)⟩;simp only[nA,It.abs] at bq ⊢
  by_cases hit:t=i
  ·subst hit
   simp only[List.getElem_set_self];have:=S1.qp hy;rw[fB _ _ _ hi] at this;refine .inr ⟨this,fun n j cs off e => ?_⟩;rw[e] at this;exact Sz n j cs off this
  ·simp only[List.getElem_set_ne hit]
   exact h3 i hi (by simpa using bq)
 | .box n b::r,x,h=>by
  simp only[rdI,It.rd] at h;obtain ⟨y,hy,h⟩:=adk.1 h;obtain ⟨z,hz,h⟩:=adk.1 h;cases h;obtain ⟨b0,hl,hb⟩:=adk.1 hy;obtain ⟨h1,h2,h3,h4⟩:=Jq hz;refine ⟨h1,by simp only[nA,It.abs,names,List.map_cons,qG]; exact congrArg _ h2,h3,fun n' b' hm => ?_⟩;simp only[nA,It.abs,List.mem_cons] at hm;rcases hm with hm | hm
  ·cases hm
   rw[SB.qp hb];exact cd hl
  ·exact h4 _ _ hm
section
variable {w0:World} {G:GP}
theorem yK {nt:Nat} {ss:SS K} {st:St E} {x:tyI E ss.its} (h:rdS T nt ss st=some x) {a:Act} {w:World} {g:Gh} (hi:Inv T w0 G st a w g):∃ g',Inv T w0 G (nA T nt ss.its x) a w g':=by
 unfold rdS at h;split at h
 ·rename_i hc
  obtain ⟨hl,hn⟩:=hc;have hf0:=pK hi ss.frz;obtain ⟨g',hf⟩:=FR ss.co hf0;have hlen:(Iw T ss.co (forget ss.frz st)).tmps.length=nt:=by
   rw[Im];unfold forget; split
   ·exact hl
   ·simpa using hl
  subst hlen;obtain ⟨h1,h2,h3,h4⟩:=Jq h;refine ⟨g',hf.XP ⟨h1,by rw[h2]; exact kG hn,fun i hi bq => ?_,fun n b hm=>⟨b,h4 n b hm,.same b⟩⟩⟩;rcases h3 i hi bq with h5 | ⟨h5,h6⟩
  ·rw[h5]; exact .junk _
  ·rw[h5]; exact .same _ (fun n j cs off e=>absurd e (h6 n j cs off))
 ·cases h
theorem wY {nt:Nat}:∀ {x:Ex×SS K} {l:List (Ex×SS K)} {e:Ex} {st:St E} {t:Nq E x l},vF T nt x l e st=some t ->
  ∃ st',(∀ (γ:Type) (k:Ex->St E->γ),pW T nt x l t k=k e st') /\ ∀ a w g,Inv T w0 G st a w g -> ∃ g',Inv T w0 G st' a w g'
 | x,[],e,st,t,h=>by
  simp only[vF] at h;obtain ⟨he,h⟩:=dP h;exact ⟨_,fun γ k=>by simp only[pW,he],fun a w g hi=>yK h hi⟩
 | x,y::r,e,st,t,h=>by
  simp only[vF] at h;split at h
  ·rename_i he
   obtain ⟨v,hv,h⟩:=adk.1 h;cases h;exact ⟨_,fun γ k=>by simp only[pW,he],fun a w g hi=>yK hv hi⟩
  ·obtain ⟨v,hv,h⟩:=adk.1 h
   cases h;obtain ⟨st',h1,h2⟩:=wY hv;exact ⟨st',fun γ k=>by simp only[pW]; exact h1 γ k,h2⟩
def Ex.ex:Ex->Exit
 | .norm => .normal
 | .exit i => .exit i
 | .ret => .ret
variable (T P w0 G) in
def M6 (J:List Nat) (c:Code) (st:St E) (e:Ex) (st':St E):Prop :=
 ∀ a w g,Inv T w0 G st a w g->c.wp P (fun e' a' w'=>e'=e.ex /\ ∃ g',Inv T w0 G st' a' w' g'/\pq J a a') a w
def Kq (J:List Nat) (o:Oper):Bool:=match o.dst with
 | some d => !J.contains d
 | none=>true
def r7 (J:List Nat):Code->Bool
 | .region _ ops _=>ops.toList.all (Kq J)
 | .seq x y | .cond _ x y=>r7 J x&&r7 J y
 | .block _ b | .loop b=>r7 J b
 | _=>true
theorem zr {J:List Nat} {ops:Array Oper} (h:ops.toList.all (Kq J)=true) (i:Nat) (o:Oper) (ho:ops[i]? = some o) (d:Nat) (hd:o.dst=some d):d ∉ J:=by
 have:=List.all_eq_true.1 h o (by simpa using Array.mem_of_getElem? ho);unfold Kq at this;rw[hd] at this;simpa using this
variable (P) in
def wx (c:Code) (Q:Exit->Act->World->Prop) (a:Act) (w:World):Prop :=
 ∀ (b:Frame) (k:List Item) (cs:List Frame),∃ e a' w',Q e a' w'/\Arrives P (lone (b.at a (.code c :: .inLoop c::k)) cs w) b k cs e a' w'
theorem Fc {c:Code} {Q:Exit->Act->World->Prop} {a:Act} {w:World} (h:wx P c Q a w):(Code.loop c).wp P Q a w:=by
 intro b k cs;obtain ⟨e,a',w',hq,qg⟩:=h b k cs;exact ⟨e,a',w',hq,.of_steps (.one step_loop) qg⟩
theorem G4 {c:Code} {Q Q':Exit->Act->World->Prop} {a:Act} {w:World} (h:wx P c Q a w) (hq:∀ e a w,Q e a w->Q' e a w):wx P c Q' a w :=
 fun b k cs=>let ⟨e,a',w',q,r⟩:=h b k cs; ⟨e,a',w',hq _ _ _ q,r⟩
theorem xX {c:Code} {Q:Exit->Act->World->Prop} {a:Act} {w:World} (h:c.wp P (Exit.then (wx P c Q) Q) a w):wx P c Q a w:=by
 intro b k cs;obtain ⟨e,a₁,w₁,hq,qg⟩:=h b (.inLoop c::k) cs;cases e with
 | normal =>
  obtain ⟨e₂,a₂,w₂,hq₂,harr₂⟩:=hq b k cs;exact ⟨e₂,a₂,w₂,hq₂,.of_steps (Steps.trans qg (.one step_inLoop)) harr₂⟩
 | exit id=>exact ⟨_,a₁,w₁,hq,.pass (x := .inLoop c) rfl (fun _ _ => .inl (by simp)) qg⟩
 | goto l=>exact ⟨_,a₁,w₁,hq,.pass (x := .inLoop c) rfl (fun _ _ => .inl (by simp)) qg⟩
 | ret=>exact ⟨_,a₁,w₁,hq,.pass (x := .inLoop c) rfl (fun _ _ => .inl (by simp)) qg⟩
 | panic ch=>exact ⟨_,a₁,w₁,hq,.pass (x := .inLoop c) rfl (fun _ _ => .inl (by simp)) qg⟩
 | outgrown=>exact ⟨_,a₁,w₁,hq,.pass (x := .inLoop c) rfl (fun _ _ => .inl (by simp)) qg⟩
theorem Mw {st:St E} {a:Act} {w:World} {g:Gh} (h:Inv T w0 G st a w g) (n:Nat):Inv T w0 G st a { w with drawn:=n } g :=
 h.grow (w':={ w with drawn:=n }) ⟨rfl,rfl,rfl,Nat.le_refl _,fun _ _ _=>rfl⟩ none .junk undef (Rep.junk _).toT (fun _ _ _ _ e=>by cases e)
theorem zz {st:St E} {a:Act} {w:World} {g:Gh} (h:Inv T w0 G st a w g) {c:Operand} {b:Bool} (hc:st.ev c = .bool b):a.eval c = .bool b:=by
 have:=h.ev c;rw[hc] at this;exact lX this
variable {env:Env E} {pl:VM K} {F:Nat} {J:List Nat}
theorem Lw [Ad:zT T w0 G] (o7:∀ f,Ctr T P f (env f)) {ops:Array Oper} (hJ:∀ (i:Nat) (o:Oper),ops[i]? = some o -> ∀ d,o.dst=some d->d ∉ J) {β:Type}:∀ (cuts:List (Nat×SS K)) (l:List Nat) (st:St E) (k:St E->Option β) (r:β),
  Ah T P env pl ops cuts l st k=some r -> ∃ st',k st'=some r /\ ∀ (Q:Exit->Act->World->Prop) (a:Act) (w:World) (g:Gh),Inv T w0 G st a w g ->
   (∀ a' w' g',Inv T w0 G st' a' w' g'->pq J a a'->Q .normal a' w')->wpOps P ops Q l a w
 | [],l,st,k,r,h=>by
  obtain ⟨rs,st',h1,h2,h3,h4⟩:=mN _ _ _ _ _ (fun a ha=>by cases ha) h;refine ⟨st',h3,fun Q a w g hi hn => ?_⟩;rw[<-h1,<-List.append_nil (rs.map (·.i))];exact E0 (T:=T) (env:=env) (orc:=pl.orc) (w0:=w0) (G:=G) o7 hJ rs _ st' a w g hi h2 [] fun a' w' g' bq hk=>by simpa[wpOps] using hn a' w' g' bq hk
 | (c,ss)::cuts,l,st,k,r,h=>by
  simp only[Ah] at h;obtain ⟨x,hx,h⟩:=adk.1 h;obtain ⟨rs,st1,h1,h2,h3,h4⟩:=mN _ _ _ _ _ (fun a ha=>by cases ha) hx;obtain ⟨st',hk,hw⟩:=Lw o7 hJ cuts (l.drop c) _ k r h;refine ⟨st',hk,fun Q a w g hi hn => ?_⟩;rw[<-List.take_append_drop c l,<-h1];exact E0 (T:=T) (env:=env) (orc:=pl.orc) (w0:=w0) (G:=G) o7 hJ rs _ st1 a w g hi h2 _ fun a' w' g' bq hkp=>by
   obtain ⟨g1,GU⟩:=yK h3 bq;exact hw Q a' w' g1 GU fun a2 w2 g2 YY uw=>hn a2 w2 g2 YY (hkp.trans uw)
theorem MO [Ad:zT T w0 G] (o7:∀ f,Ctr T P f (env f)) (hm:P.follows .mixedOrders=true) {β:Type} {id:Nat} {ops:Array Oper} {draw:Bool} {l:Nat} {st:St E} {k:Ex->St E->Option β} {r:β}
  (hJ:r7 J (.region id ops draw)=true) (h:pZ T P env pl F (.region id ops draw) l st k=some r):∃ e st',k e st'=some r/\M6 T P w0 G J (.region id ops draw) st e st':=by
 simp only[pZ] at h;cases draw with
 | true =>
  simp only[if_true] at h;split at h
  ·rename_i hb
   have key:∀ {γ:Type} (K:St E->Option γ) (y:γ),uq T P env pl.orc ops (some (HM ops)) (List.range ops.size) [] (forget ((assoc pl.frz id).getD []) st) K=some y ->
     ∃ st',K st'=some y/\M6 T P w0 G J (.region id ops true) st .norm st':=by
    intro γ K y h;obtain ⟨rs,st',h1,h2,h3,h4⟩:=mN _ _ _ _ _ (fun a ha=>by cases ha) h;refine ⟨st',h3,fun a w g hi=>wp_region_any hm ?_⟩;refine VP (T:=T) (env:=env) (orc:=pl.orc) (w0:=w0) (G:=G) o7 hb (zr hJ) (st':=st') (a0:=a) (fun a w g hi hk=>⟨rfl,g,hi,hk⟩) _ _ rs _ a _ g (Mw (pK hi _) _) (pq.refl J a) h2 ?_ (by simp) ?_ (h4 _ rfl).2 ?_
    ·rw[h1]; symm
     rw[List.filter_eq_self];intro j hj;simp[List.mem_range.1 hj]
    ·intro i o e ho he ZS hl
     by_cases hi:i<ops.size
     ·simp[hi] at hl
     ·simp[Nat.le_of_not_lt hi] at hl
    ·have:=congrArg List.length h1
     simp at this;omega
   split at h
   ·obtain ⟨st',h1,h2⟩:=key _ _ h
    exact ⟨.norm,st',h1,h2⟩
   ·rename_i ss _
    obtain ⟨x,hx,h⟩:=adk.1 h;obtain ⟨st',h1,h2⟩:=key _ _ hx;refine ⟨.norm,_,h,fun a w g hi=>wp_mono (h2 a w g hi) ?_⟩
    rintro e' a' w' ⟨rfl,g',bq,yX⟩
    obtain ⟨g1,GU⟩:=yK h1 bq;exact ⟨rfl,g1,GU,yX⟩
  ·cases h
 | false =>
  simp only[ade,if_false] at h;obtain ⟨st',h3,hw⟩:=Lw (w0:=w0) (G:=G) o7 (zr hJ) _ _ _ _ _ h;exact ⟨.norm,st',h3,fun a w g hi=>wp_region (hw _ a w g (pK hi _) fun a w g hi hk=>⟨rfl,g,hi,hk⟩)⟩
theorem TD [Ad:zT T w0 G] (o7:∀ f,Ctr T P f (env f)) (hm:P.follows .mixedOrders=true):∀ (c:Code),r7 J c=true -> ∀ (l:Nat) (st:St E) (β:Type) (k:Ex->St E->Option β) (r:β),pZ T P env pl F c l st k=some r ->
  ∃ e st',k e st'=some r/\M6 T P w0 G J c st e st':=by
 intro c;induction c with
 | skip=>intro hJ l st β k r h; exact ⟨.norm,st,h,fun a w g hi=>wp_skip ⟨rfl,g,hi,pq.refl J a⟩⟩
 | region id ops draw=>intro hJ l st β k r h; exact MO o7 hm hJ h
 | seq x y ihx ihy =>
  intro hJ l st β k r h;simp only[r7,adi] at hJ;simp only[pZ] at h;obtain ⟨e,st1,hk,hg⟩:=ihx hJ.1 _ _ _ _ _ h;cases e with
  | norm =>
   obtain ⟨e2,st2,uw,T0⟩:=ihy hJ.2 _ _ _ _ _ hk;refine ⟨e2,st2,uw,fun a w g hi=>wp_seq (wp_mono (hg a w g hi) ?_)⟩
   rintro e a' w' ⟨rfl,g',bq,yX⟩
   exact wp_mono (T0 a' w' g' bq) fun e a w ⟨h1,g2,h2,h3⟩=>⟨h1,g2,h2,yX.trans h3⟩
  | exit j =>
   refine ⟨.exit j,st1,hk,fun a w g hi=>wp_seq (wp_mono (hg a w g hi) ?_)⟩
   rintro e a' w' ⟨rfl,g',bq,yX⟩
   exact ⟨rfl,g',bq,yX⟩
  | ret =>
   refine ⟨.ret,st1,hk,fun a w g hi=>wp_seq (wp_mono (hg a w g hi) ?_)⟩
   rintro e a' w' ⟨rfl,g',bq,yX⟩
   exact ⟨rfl,g',bq,yX⟩
 | cond c x y ihx ihy =>
  intro hJ l st β k r h;simp only[r7,adi] at hJ;simp only[pZ] at h;split at h
  ·rename_i b hb
   have Ym:∀ (β:Type) (k:Ex->St E->Option β) (r:β),(if b=true then pZ T P env pl F x l st k else pZ T P env pl F y l st k)=some r -> ∃ e st',k e st'=some r/\M6 T P w0 G J (.cond c x y) st e st':=by
    intro β k r h;cases b with
    | true =>
     obtain ⟨e,st',h1,h2⟩:=ihx hJ.1 _ _ _ _ _ (by simpa using h);exact ⟨e,st',h1,fun a w g hi=>wp_cond_true (zz hi hb) (h2 a w g hi)⟩
    | false =>
     obtain ⟨e,st',h1,h2⟩:=ihy hJ.2 _ _ _ _ _ (by simpa using h);exact ⟨e,st',h1,fun a w g hi=>wp_cond_false (zz hi hb) (h2 a w g hi)⟩
   split at h
   ·exact Ym _ _ _ h
   ·rename_i hd tl _
    obtain ⟨t,ht,h⟩:=adk.1 h;obtain ⟨e,st1,h1,h2⟩:=Ym _ _ _ ht;obtain ⟨st2,h3,h4⟩:=wY (w0:=w0) (G:=G) h1;rw[h3] at h;refine ⟨e,st2,h,fun a w g hi=>wp_mono (h2 a w g hi) ?_⟩
    rintro e' a' w' ⟨rfl,g',bq,yX⟩
    obtain ⟨g1,GU⟩:=h4 _ _ _ bq;exact ⟨rfl,g1,GU,yX⟩
  ·cases h
 | block id body ih =>
  intro hJ l st β k r h;simp only[pZ] at h;have out:∀ (e:Ex) (st1:St E),M6 T P w0 G J body st e st1->M6 T P w0 G J (.block id body) st (Ca id e) st1:=by
   intro e st1 hg a w g hi;refine wp_block (wp_mono (hg a w g hi) ?_)
   rintro e' a' w' ⟨rfl,g',bq,yX⟩
   cases e with
   | norm=>exact ⟨rfl,g',bq,yX⟩
   | ret=>exact ⟨rfl,g',bq,yX⟩
   | exit j =>
    by_cases hj:j=id
    ·simp only[Ca,hj,if_true,Ex.ex,Exit.inBlock]
     exact ⟨trivial,g',bq,yX⟩
    ·simp only[Ca,hj,if_false,Ex.ex,Exit.inBlock]
     exact ⟨trivial,g',bq,yX⟩
  split at h
  ·obtain ⟨e,st1,hk,hg⟩:=ih hJ _ _ _ _ _ h
   exact ⟨Ca id e,st1,hk,out e st1 hg⟩
  ·rename_i hd tl _
   obtain ⟨t,ht,h⟩:=adk.1 h;obtain ⟨e,st1,h1,h2⟩:=ih hJ _ _ _ _ _ ht;obtain ⟨st2,h3,h4⟩:=wY (w0:=w0) (G:=G) h1;rw[h3] at h;refine ⟨Ca id e,st2,h,fun a w g hi=>wp_mono (out e st1 h2 a w g hi) ?_⟩
   rintro e' a' w' ⟨rfl,g',bq,yX⟩
   obtain ⟨g1,GU⟩:=h4 _ _ _ bq;exact ⟨rfl,g1,GU,yX⟩
 | loop body ih =>
  intro hJ l st β k r h;simp only[pZ] at h;split at h
  ·cases h
  ·rename_i ss hd tl _
   obtain ⟨x,hx,h⟩:=adk.1 h;obtain ⟨y,hy,h⟩:=adk.1 h;have key:∀ (n:Nat) (x:tyI E ss.its) (y:Nq E hd tl),bf (fun x=>pZ T P env pl F body l (nA T pl.nt ss.its x) fun e st'=>match e with
     | .norm=>(rdS T pl.nt ss st').bind fun v=>some (Sum.inl v)
     | e=>(vF T pl.nt hd tl e st').bind fun v=>some (Sum.inr v)) n x=some y ->
     ∃ e st',(∀ (γ:Type) (k:Ex->St E->γ),pW T pl.nt hd tl y k=k e st') /\ ∀ a w g,Inv T w0 G (nA T pl.nt ss.its x) a w g->wx P body (fun e' a' w'=>e'=e.ex /\ ∃ g',Inv T w0 G st' a' w' g'/\pq J a a') a w:=by
    intro n;induction n with
    | zero=>intro x y h; cases h
    | succ n ihn =>
     intro x y h;simp only[bf] at h;obtain ⟨q,hq,h⟩:=adk.1 h;obtain ⟨e1,st1,vM,hg1⟩:=ih hJ _ _ _ _ _ hq;have other:e1 ≠ .norm->((vF T pl.nt hd tl e1 st1).bind fun v=>some (Sum.inr v:tyI E ss.its ⊕ Nq E hd tl))=some q -> ∃ e st',(∀ (γ:Type) (k:Ex->St E->γ),pW T pl.nt hd tl y k=k e st') /\ ∀ a w g,Inv T w0 G (nA T pl.nt ss.its x) a w g->wx P body (fun e' a' w'=>e'=e.ex /\ ∃ g',Inv T w0 G st' a' w' g'/\pq J a a') a w:=by
      intro iv hk;obtain ⟨v,hv,hk⟩:=adk.1 hk;cases hk;cases h;obtain ⟨st2,h3,h4⟩:=wY (w0:=w0) (G:=G) hv;refine ⟨e1,st2,h3,fun a w g hi=>xX (wp_mono (hg1 a w g hi) ?_)⟩
      rintro e' a' w' ⟨rfl,g',bq,yX⟩
      obtain ⟨g1,GU⟩:=h4 _ _ _ bq;cases e1 with
      | norm=>exact absurd rfl iv
      | exit j=>exact ⟨rfl,g1,GU,yX⟩
      | ret=>exact ⟨rfl,g1,GU,yX⟩
     cases e1 with
     | norm =>
      simp only at vM;obtain ⟨v,hv,vM⟩:=adk.1 vM;cases vM;obtain ⟨e,st',h1,h2⟩:=ihn v y h;refine ⟨e,st',h1,fun a w g hi=>xX (wp_mono (hg1 a w g hi) ?_)⟩
      rintro e' a' w' ⟨rfl,g',bq,yX⟩
      obtain ⟨g1,GU⟩:=yK hv bq;exact G4 (h2 a' w' g1 GU) fun e a w ⟨q1,g2,q2,q3⟩=>⟨q1,g2,q2,yX.trans q3⟩
     | exit j=>exact other (by simp) vM
     | ret=>exact other (by simp) vM
   obtain ⟨e,st',h1,h2⟩:=key F x y hy;rw[h1] at h;refine ⟨e,st',h,fun a w g hi => ?_⟩;obtain ⟨g1,GU⟩:=yK hx hi;exact Fc (h2 a w g1 GU)
 | exit id=>intro hJ l st β k r h; exact ⟨.exit id,st,h,fun a w g hi=>wp_exit ⟨rfl,g,hi,pq.refl J a⟩⟩
 | ret=>intro hJ l st β k r h; exact ⟨.ret,st,h,fun a w g hi=>wp_ret ⟨rfl,g,hi,pq.refl J a⟩⟩
 | _=>intro hJ l st β k r h; simp[pZ] at h
end
end Go.Vm
namespace Go.Vm
open Go.Lib
variable {K:Type} {E:K->Type}
variable {T:Tab E} {P:Program}
def ni:DV E->DV E
 | .pin t cs => .newb t cs
 | .newb t cs=>match cs with
  | [d]=>d
  | cs => .newb t cs
 | d=>d
def st0 (nt:Nat) (ds:List (DV E)):St E :=
 ⟨(cM 1 [] (ds.map ni)).1++List.replicate (nt-ds.length) .junk,(cM 1 [] (ds.map ni)).2⟩
def gR (mem:Mem E) (nm:List (Nat×Nat)) (d:DV E):DV E×List Nat :=
 match d with
 | .ptr n 0=>match assoc nm n with
  | some j=>(.argp j,[])
  | none=>match look mem n with
   | some (.cells t cs)=>(.newb t (cs.map (lx n mem)),n::cs.flatMap (eP mem))
   | _=>(.junk,[])
 | .rowv _ _=>(.junk,[])
 | d=>(cC mem .give d,jV mem .give d)
def pF (mem:Mem E) (tmps:List (DV E)):Nat->List (DV E)->Option (List (Nat×Nat)×List (List (DV E))×List Nat)
 | _,[]=>some ([],[],[])
 | j,d::r=>match d with
  | .pin t _=>match tmps.getD j .junk with
   | .ptr n 0=>match look mem n with
    | some (.cells t' cs)=>if t'=t then (pF mem tmps (j+1) r).bind fun q=>some ((n,j)::q.1,cs.map (lx n mem)::q.2.1,(n::cs.flatMap (eP mem))++q.2.2) else none
    | _=>none
   | _=>none
  | .newb _ _=>match tmps.getD j .junk with
   | .rowp n=>match look mem n with
    | some (.row e k l)=>(pF mem tmps (j+1) r).bind fun q=>some (q.1,[.row e k l]::q.2.1,n::q.2.2)
    | _=>none
   | _=>none
  | _=>pF mem tmps (j+1) r
def Fj (ts:List Nat) (ds:List (DV E)) (st:St E):Option (Res E) :=
 (pF st.mem st.tmps 0 ds).bind fun q =>
  if nodupB ((ts.flatMap fun t=>(gR st.mem q.1 (st.tmps.getD t .junk)).2)++q.2.2)=true then
   some ⟨match ts with
    | [t]=>(gR st.mem q.1 (st.tmps.getD t .junk)).1
    | ts => .tup (ts.map fun t=>(gR st.mem q.1 (st.tmps.getD t .junk)).1),q.2.1⟩
  else none
def yE (T:Tab E) (P:Program) {β:Type}:List (Nat×Option TypeId)->St E->List (DV E)->(St E->Option β)->Option β
 | [],st,acc,K=>K ⟨st.tmps++acc,st.mem⟩
 | (t,none)::r,st,acc,K=>if (cZ (st.tmps.getD t .junk)).isSome then none else yE T P r st (acc++[st.tmps.getD t .junk]) K
 | (ad,some ty)::r,st,acc,K=>(DK T P ty (st.tmps.getD ad .junk) st.mem).run fun o=>yE T P r st (acc++[o.v]) K
def Gs (T:Tab E) (P:Program) {β:Type} (nt:Nat) (rc:List (Nat×Option TypeId)) (st:St E) (K:St E->Option β):Option β:=match rc with
 | []=>K st
 | x::r=>if st.tmps.length=nt then yE T P (x::r) st [] K else none
section
variable {w:World} {Y:Nat->Prop} {bl:List Nat}
theorem Tc {args:List Value} {d:DV E} {v:Value} {b:List Nat} (h:Own T w Y d v b):Ans T w Y args (ni d) v b:=by
 cases h with
 | pin h=>exact .newb h
 | lend h=>exact .c (.row h)
 | c h =>
  have:ni d=d:=by
   cases h with
   | sh hr hs=>cases d <;> first | rfl | (simp[DV.share,DV.lay,DV.plain] at hs; done)
   | _=>rfl
  rw[this];exact .c h
theorem F3 {t:TypeId} {cs:List (DV E)} {v:Value} {b:List Nat} (h:Own T w Y (.pin t cs) v b):pR T w Y t cs v b:=by
 cases h with
 | pin h=>exact h
 | c h=>cases h with
  | sh hr hs=>simp[DV.share,DV.lay,DV.plain] at hs
theorem Ix {R:DV E->Value->List Nat->Prop} {ds:List (DV E)} {vs:List Value} {bl:List Nat} (h:ig R ds vs bl):ds.length=vs.length:=by
 induction h with
 | nil=>rfl
 | cons _ _ ih=>simp[ih]
def FB (w:World) (Y:Nat->Prop) (bl:List Nat):Gh:=⟨fun _=>undef,fun b=>b<w.heap.size /\ ¬ Y b/\b ∉ bl⟩
theorem Po {nt:Nat} {ds:List (DV E)} {vs:Array Value} (h:ig (Own T w Y) ds vs.toList bl) (vO:bl.Nodup) (hY:∀ b∈bl,¬ Y b/\b<w.heap.size) (hn:nodupB (names (st0 nt ds).mem)=true) (hlen:ds.length<=nt) :
  ∃ g:Gh,Inv T w ⟨(· ∈ bl),(FB w Y bl).hid⟩ (st0 nt ds) { tmps:=vs++Array.replicate (nt-vs.size) undef,defers:=[] } w g:=by
 have hl:=Ix h;have ha:ig (Ans T w Y []) (ds.map ni) vs.toList bl:=h.map ni fun d v b hd=>Tc hd
 obtain ⟨es,e1,e2,e3,e4,e5⟩:=xI [] ha 1;have qH:(st0 nt ds).mem=fp es:=e1.symm;have RU:(bQ es).Nodup:=by rw[ry,<-qH]; exact kG hn
 have yW:gx ([]:Mem E) es [] (bQ es)=fp es:=by
  have:jO ([]:Mem E) (bQ es)=[]:=by
   generalize bQ es=l;induction l with
   | nil=>rfl
   | cons x l ih=>exact ih
  unfold gx;rw[this];simp[dI]
 have hblk:fv (fp es) (il (FB w Y bl) es)=bl:=by
  have:=mL (g:=FB w Y bl) (ks:=[]) (m:=([]:Mem E)) RU (fun n hn=>hn);rw[yW] at this;rw[this,e2];have:jO ([]:Mem E) (bQ es)=[]:=by
   generalize bQ es=l;induction l with
   | nil=>rfl
   | cons x l ih=>exact ih
  rw[this];simp[fv]
 have hw:pN T w Y (free (fp es) (il (FB w Y bl) es)):=by
  intro b hb aH;refine ⟨by rw[hblk]; exact fun qI=>(hY b qI).1 hb,fun hh => ?_⟩;exact hh.2.1 hb
 have ZY:jh (il (FB w Y bl) es) es:=fun x hx=>qt RU hx
 have e5:=e5 _ _ hw ZY (fun j n u hj=>by simp at hj);refine ⟨il (FB w Y bl) es,rfl,?_,?_,?_,?_,?_,?_,l6.refl _ _,?_,rfl,?_⟩
 ·simp[st0,e4,hl]
 ·intro i hi
  rw[qH];by_cases Xe:i<vs.toList.length
  ·have K8:i<(cM 1 [] (ds.map ni)).1.length:=by rw[e4]; exact Xe
   have h1:(st0 nt ds).tmps[i]=(cM 1 [] (ds.map ni)).1[i]:=by simp[st0,List.getElem_append_left K8]
   have h2:(vs++Array.replicate (nt-vs.size) undef).getD i undef=vs.toList[i]:=by
    have:i<vs.size:=by simpa using Xe
    simp[Array.getElem?_append_left this,this]
   rw[h1,h2];exact .of1 (e5 i K8 Xe).1
  ·have K8:(cM 1 [] (ds.map ni)).1.length<=i:=by rw[e4]; omega
   have h1:(st0 nt ds).tmps[i] = .junk:=by simp[st0,List.getElem_append_right K8]
   rw[h1];exact (Rep.junk _).toT
 ·rw[qH]; rw[ry] at RU; exact RU
 ·rw[qH,hblk]; exact vO
 ·intro n bx hm
  rw[qH] at hm ⊢
  obtain ⟨x,hx,he⟩:=List.mem_map.1 hm;cases he;have:=e3 _ _ hw ZY x hx;rw[<-ZY x hx] at this;exact this
 ·rw[qH,hblk]
  exact fun b hb=>⟨(hY b hb).2,.inr hb⟩
 ·intro i hi n j cs off he
  by_cases Xe:i<vs.toList.length
  ·have K8:i<(cM 1 [] (ds.map ni)).1.length:=by rw[e4]; exact Xe
   have h1:(st0 nt ds).tmps[i]=(cM 1 [] (ds.map ni)).1[i]:=by simp[st0,List.getElem_append_left K8]
   have:=(e5 i K8 Xe).2;rw[<-h1,he] at this;simp[DV.noR] at this
  ·have K8:(cM 1 [] (ds.map ni)).1.length<=i:=by rw[e4]; omega
   have h1:(st0 nt ds).tmps[i] = .junk:=by simp[st0,List.getElem_append_right K8]
   rw[h1] at he;cases he
 ·rintro b ⟨h1,h2,h3⟩
  exact ⟨h1,h3⟩
end
end Go.Vm
namespace Go.Vm
open Go.Lib
variable {K:Type} {E:K->Type}
variable {T:Tab E} {P:Program}
section
variable {w0 w:World} {Y:Nat->Prop} {bl:List Nat} {st:St E} {a:Act} {g:Gh}
theorem C0 {mem:Mem E} {nm:List (Nat×Nat)} {d:DV E} {n:Nat} (h:n∈(gR mem nm d).2):n∈names mem:=by
 unfold gR at h;split at h
 ·rename_i m
  split at h
  ·cases h
  ·split at h
   ·rename_i t cs hl
    have:n∈jV mem .give (.ptr m 0:DV E):=by simpa[jV,hl] using h
    exact uY this
   ·cases h
 ·cases h
 ·exact uY (b := .give) (d:=d) h
theorem NI {α:Type} {l:List (Nat×α)} {n:Nat} {x:α} (h:assoc l n=some x):(n,x)∈l:=by
 induction l with
 | nil=>cases h
 | cons y l ih =>
  obtain ⟨k,b⟩:=y;unfold assoc at h;split at h
  ·rename_i e; cases h; subst e; exact adn ..
  ·exact adm _ (ih h)
theorem KL {G:GP} (h:Inv T w0 G st a w g) {Y':Nat->Prop} (hY:∀ b,free st.mem g b->Y' b) {args:List Value} {nm:List (Nat×Nat)}
  (zF:∀ n j,(n,j)∈nm->args[j]? = some (g n)) {d:DV E} {v:Value} (hd:aD T w (free st.mem g) g d v) :
  Ans T w Y' args (gR st.mem nm d).1 v ((gR st.mem nm d).2.flatMap (bk g)) /\ ∀ ds,(gR st.mem nm d).1 ≠ .tup ds:=by
 have gen:∀ d:DV E,aD T w (free st.mem g) g d v->(∀ n b,d ≠ .rowv n b)->(∀ n,d ≠ .ptr n 0)->Ans T w Y' args (cC st.mem .give d) v ((jV st.mem .give d).flatMap (bk g)) /\ ∀ ds,cC st.mem .give d ≠ .tup ds:=by
  intro d hd h1 h2;have ho:=Al h hY .give hd (fun n hn=>by
   unfold tG at hn;split at hn
   ·simp at hn
   ·exact absurd rfl (h1 _ _)
   ·cases hn)
  have WA:j5 (cC st.mem .give d)=false:=zw st.mem (d,.give) (by
    rintro (⟨n,t,cs,e,_⟩ | ⟨e,_⟩)
    ·exact absurd e (h2 n)
    ·cases e)
  have Yn:∀ t cs,cC st.mem .give d ≠ .pin t cs/\cC st.mem .give d ≠ .newb t cs:=by
   intro t cs;constructor <;> intro he <;> rw[he] at WA <;> simp[j5] at WA
  clear WA;generalize cC st.mem .give d=d' at ho Yn;generalize (jV st.mem .give d).flatMap (bk g)=bb at ho;refine ⟨?_,?_⟩
  ·cases ho with
   | c hc=>exact .c hc
   | pin hp=>exact absurd rfl (Yn _ _).1
   | lend hp=>exact absurd rfl (Yn _ _).2
  ·intro ds e
   subst e;cases ho with
   | c hc=>cases hc with
    | sh _ hs=>simp[DV.share,DV.lay,DV.plain] at hs
 unfold gR;split
 ·rename_i n
  split
  ·rename_i j hj
   obtain ⟨b,h1,h2⟩:=gp hd;refine ⟨.argp ?_,fun ds e=>by cases e⟩;rw[zF n j (NI hj),h1,h2]
  ·have ho:=Al h hY .give hd (fun n hn=>by simp[tG] at hn)
   split
   ·rename_i t cs hl
    simp only[cC,hl,jV] at ho;exact ⟨.newb (F3 ho),fun ds e=>by cases e⟩
   ·exact ⟨.c (.junk v),fun ds e=>by cases e⟩
 ·exact ⟨.c (.junk v),fun ds e=>by cases e⟩
 ·rename_i h1 h2
  exact gen d hd (fun n b e=>h2 n b e) (fun n e=>h1 n e)
theorem Si {Y':Nat->Prop} {args:List Value} {d:DV E} {v:Value} {b:List Nat} (h:Ans T w Y' args d v b) (hn:∀ ds,d ≠ .tup ds):zK T w Y' args d v b:=by
 cases d <;> first | exact h | exact absurd rfl (hn _)
theorem mg {mem:Mem E} {tmps:List (DV E)}:∀ (ds:List (DV E)) (j:Nat) (q:List (Nat×Nat)×List (List (DV E))×List Nat),pF mem tmps j ds=some q -> ∀ n∈q.2.2,n∈names mem
 | [],j,q,h,n,hn=>by cases h; cases hn
 | d::r,j,q,h,n,hn=>by
  unfold pF at h;split at h
  ·rename_i t _
   split at h
   ·rename_i m _
    split at h
    ·rename_i t' cs hl
     obtain ⟨_,h⟩:=dP h;obtain ⟨q',h1,h2⟩:=adk.1 h;cases h2;rcases List.mem_append.1 hn with hn | hn
     ·have:n∈jV mem .give (.ptr m 0:DV E):=by simpa[jV,hl] using hn
      exact uY this
     ·exact mg r (j+1) q' h1 n hn
    ·cases h
   ·cases h
  ·split at h
   ·rename_i m _
    split at h
    ·rename_i e k l hl
     obtain ⟨q',h1,h2⟩:=adk.1 h;cases h2;rcases List.mem_cons.1 hn with rfl | hn
     ·exact cu hl
     ·exact mg r (j+1) q' h1 n hn
    ·cases h
   ·cases h
  ·exact mg r (j+1) q h n hn
def jb:Nat->List (DV E)->List Nat
 | _,[] => []
 | j,d::r=>if j5 d=true then j::jb (j+1) r else jb (j+1) r
theorem qY {G:GP} (h:Inv T w0 G st a w g) {Y':Nat->Prop} (hY:∀ b,free st.mem g b->Y' b) :
  ∀ (ds:List (DV E)) (vs:List Value) (j:Nat) (q:List (Nat×Nat)×List (List (DV E))×List Nat),ds.length=vs.length->pF st.mem st.tmps j ds=some q->(∀ i∈jb j ds,∃ i',i=j+i'/\vs[i']? = some (a.tmps.getD i undef)) ->
   iP T w Y' ds vs q.2.1 (q.2.2.flatMap (bk g)) /\ ∀ n i,(n,i)∈q.1 -> ∃ i',i=j+i'/\vs[i']? = some (g n)
 | [],[],j,q,_,h1,hk=>by cases h1; exact ⟨.nil,fun n i hm=>by cases hm⟩
 | [],_ :: _,_,_,hl,_,_=>by simp at hl
 | _ :: _,[],_,_,hl,_,_=>by simp at hl
 | d::r,v::vs,j,q,hl,h1,hk=>by
  have Av:r.length=vs.length:=by simpa using hl
  have yX:∀ i∈jb (j+1) r,∃ i',i=(j+1)+i'/\vs[i']? = some (a.tmps.getD i undef):=by
   intro i hi;have GU:i∈jb j (d::r):=by
    unfold jb; split
    ·exact adm _ hi
    ·exact hi
   obtain ⟨i',e,hv⟩:=hk i GU;have Wl:∀ (r:List (DV E)) (k i:Nat),i∈jb k r->k<=i:=by
    intro r;induction r with
    | nil=>intro k i hi; cases hi
    | cons d r ih =>
     intro k i hi;unfold jb at hi;split at hi
     ·rcases List.mem_cons.1 hi with rfl | hi
      ·exact Nat.le_refl _
      ·have:=ih _ _ hi; omega
     ·have:=ih _ _ hi; omega
   have:=Wl r (j+1) i hi;cases i' with
   | zero=>omega
   | succ i'=>exact ⟨i',by omega,by simpa using hv⟩
  unfold pF at h1;split at h1
  ·rename_i t cs0
   split at h1
   ·rename_i n hn
    split at h1
    ·rename_i t' cs dE
     obtain ⟨et,CO⟩:=dP h1;clear h1;subst et;obtain ⟨q',h2,h3⟩:=adk.1 CO;cases h3;obtain ⟨p1,p2⟩:=qY h hY r vs (j+1) q' Av h2 yX;obtain ⟨i',e,hv⟩:=hk j (by unfold jb; simp[j5]);have:i'=0:=by omega
     subst this;simp only[List.getElem?_cons_zero,Option.some.injEq] at hv;have hr:aD T w (free st.mem g) g (.ptr n 0) v:=by
      have:=h.ev (.tmp j);simp only[St.ev,Act.eval,hn] at this;rw[hv];exact this
     have ho:=Al h hY .give hr (fun n hn=>by simp[tG] at hn);simp only[cC,dE,jV] at ho;obtain ⟨b,q1,q2⟩:=gp hr;refine ⟨?_,?_⟩
     ·rw[List.flatMap_append]
      exact .pin (F3 ho) p1
     ·intro m i hm
      rcases List.mem_cons.1 hm with hm | hm
      ·cases hm
       exact ⟨0,rfl,by simp[q1,q2]⟩
      ·obtain ⟨i',e,hv⟩:=p2 m i hm
       exact ⟨i'+1,by omega,by simpa using hv⟩
    ·cases h1
   ·cases h1
  ·split at h1
   ·rename_i n hn
    split at h1
    ·rename_i e k l dE
     obtain ⟨q',h2,h3⟩:=adk.1 h1;cases h3;obtain ⟨p1,p2⟩:=qY h hY r vs (j+1) q' Av h2 yX;obtain ⟨i',ei,hv⟩:=hk j (by unfold jb; simp[j5]);have:i'=0:=by omega
     subst this;simp only[List.getElem?_cons_zero,Option.some.injEq] at hv;have hr:aD T w (free st.mem g) g (.rowp n) v:=by
      have:=h.ev (.tmp j);simp only[St.ev,Act.eval,hn] at this;rw[hv];exact this
     have X2:v=g n:=hr;have mZ:bc T w (free st.mem g) e k l (g n):=h.mm n _ (cd dE);refine ⟨?_,?_⟩
     ·rw[List.flatMap_cons,X2]
      exact .lend (mZ.mono (fun b hb aH=>⟨hY b hb,aH,rfl⟩) fun _ _=>rfl) p1
     ·intro m i hm
      obtain ⟨i',ei,hv⟩:=p2 m i hm;exact ⟨i'+1,by omega,by simpa using hv⟩
    ·cases h1
   ·cases h1
  ·rename_i Yn ZZ
   obtain ⟨p1,p2⟩:=qY h hY r vs (j+1) q Av h1 yX;refine ⟨.skip (fun t cs=>⟨fun e=>Yn t cs e,fun e=>ZZ t cs e⟩) p1,?_⟩;intro m i hm;obtain ⟨i',e,hv⟩:=p2 m i hm;exact ⟨i'+1,by omega,by simpa using hv⟩
def Js (ts:List Nat) (a:Act):Value:=match ts with
 | [t]=>a.tmps.getD t undef
 | ts => .tuple (ts.map fun t=>a.tmps.getD t undef).toArray
theorem U4 {vs:Array Value} {ds:List (DV E)} (h:Inv T w0 ⟨(· ∈ bl),(FB w0 Y bl).hid⟩ st a w g) (hl:ds.length=vs.size) {ts:List Nat} {res:Res E} (hr:Fj ts ds st=some res)
  (hk:∀ i∈jb 0 ds,vs.toList[i]? = some (a.tmps.getD i undef)) :
  ∃ bl1 bl2,(bl1++bl2).Nodup/\(∀ b∈bl1++bl2,b<w.heap.size/\(w0.heap.size<=b\/b∈bl)) /\
   zK T w (fun b=>(Y b\/w0.heap.size<=b\/b∈bl)/\b ∉ bl1++bl2) vs.toList res.v (Js ts a) bl1 /\
   iP T w (fun b=>(Y b\/w0.heap.size<=b\/b∈bl)/\b ∉ bl1++bl2) ds vs.toList res.pins bl2/\l6 (· ∈ bl) w0 w:=by
 unfold Fj at hr;obtain ⟨q,hq,hr⟩:=adk.1 hr;obtain ⟨hn,hr⟩:=dP hr;cases hr;obtain ⟨bl1,Du⟩:∃ bl1,bl1=(ts.flatMap fun t=>(gR st.mem q.1 (st.tmps.getD t .junk)).2).flatMap (bk g):=⟨_,rfl⟩
 obtain ⟨bl2,WC⟩:∃ bl2,bl2=q.2.2.flatMap (bk g):=⟨_,rfl⟩
 have Yo:∀ n∈(ts.flatMap fun t=>(gR st.mem q.1 (st.tmps.getD t .junk)).2)++q.2.2,n∈names st.mem:=by
  intro n hn;rcases List.mem_append.1 hn with hn | hn
  ·obtain ⟨t,_,hn⟩:=List.mem_flatMap.1 hn
   exact C0 hn
  ·exact mg ds 0 q hq n hn
 have Yp:bl1++bl2=((ts.flatMap fun t=>(gR st.mem q.1 (st.tmps.getD t .junk)).2)++q.2.2).flatMap (bk g):=by rw[Du,WC,List.flatMap_append]
 have GR:∀ b∈bl1++bl2,b∈fv st.mem g:=by
  intro b hb;rw[Yp] at hb;obtain ⟨n,h1,h2⟩:=List.mem_flatMap.1 hb;exact aF.2 ⟨n,Yo n h1,by simpa[bk] using h2⟩
 have hY:∀ b,free st.mem g b->(fun b=>(Y b\/w0.heap.size<=b\/b∈bl)/\b ∉ bl1++bl2) b:=by
  intro b hf;refine ⟨?_,fun hb=>hf.1 (GR b hb)⟩;have h2:=hf.2;rw[h.hz.1] at h2;by_cases h3:w0.heap.size<=b
  ·exact .inr (.inl h3)
  by_cases h4:Y b
  ·exact .inl h4
  by_cases h5:b∈bl
  ·exact .inr (.inr h5)
  exact absurd ⟨by omega,h4,h5⟩ h2
 obtain ⟨hp,zF⟩:=qY h hY ds vs.toList 0 q (by simpa using hl) hq (fun i hi=>⟨i,by omega,hk i hi⟩);have WE:∀ n j,(n,j)∈q.1->vs.toList[j]? = some (g n):=by
  intro n j hm;obtain ⟨i',e,hv⟩:=zF n j hm;have:j=i':=by omega
  subst this;exact hv
 have RC:∀ t,Ans T w (fun b=>(Y b\/w0.heap.size<=b\/b∈bl)/\b ∉ bl1++bl2) vs.toList (gR st.mem q.1 (st.tmps.getD t .junk)).1 (a.tmps.getD t undef) ((gR st.mem q.1 (st.tmps.getD t .junk)).2.flatMap (bk g)) /\ ∀ ds,(gR st.mem q.1 (st.tmps.getD t .junk)).1 ≠ .tup ds :=
  fun t=>KL h hY WE (h.ev (.tmp t))
 refine ⟨bl1,bl2,?_,?_,?_,by rw[WC]; rw[WC] at hp; exact hp,h.fr⟩
 ·rw[Yp]
  exact AW h.nd h.nn (kG hn) Yo
 ·intro b hb
  exact h.bo b (GR b hb)
 ·have many:∀ ts:List Nat,ig (Ans T w (fun b=>(Y b\/w0.heap.size<=b\/b∈bl)/\b ∉ bl1++bl2) vs.toList) (ts.map fun t=>(gR st.mem q.1 (st.tmps.getD t .junk)).1) (ts.map fun t=>a.tmps.getD t undef)
    ((ts.flatMap fun t=>(gR st.mem q.1 (st.tmps.getD t .junk)).2).flatMap (bk g)):=by
   intro ts;induction ts with
   | nil=>exact .nil
   | cons t ts ih=>simp only[List.map_cons,List.flatMap_cons,List.flatMap_append]; exact .cons (RC t).1 ih
  match ts,Du with
  | [t],Du =>
   simp only[Js];refine Si ?_ (RC t).2;rw[Du];simp only[List.flatMap_cons,List.flatMap_nil,List.append_nil];rw[<-List.append_nil (List.flatMap (bk g) _)];simpa[Du,List.flatMap_append] using (RC t).1
  | [],Du=>exact ⟨_,rfl,by simpa[Du] using many []⟩
  | t::t'::ts,Du=>exact ⟨_,rfl,by rw[Du]; simpa[Du] using many (t::t'::ts)⟩
end
end Go.Vm
namespace Go.Vm
open Go.Lib
variable {K:Type} {E:K->Type}
inductive SR (K:Type) where
 | one (s:S1 K) | tup (ss:List (S1 K))
variable (E) in
def tyS:List (S1 K)->Type
 | []=>Unit
 | [s]=>s.ty E
 | s::r=>s.ty E×tyS r
variable (E) in
def tyP:List (List (S0 K))->Type
 | []=>Unit
 | [s]=>tyL E s
 | s::r=>tyL E s×tyP r
variable (E) in
def SR.ty:SR K->Type
 | .one s=>s.ty E
 | .tup ss=>tyS E ss
structure Spec (K:Type) where
 params:List (S1 K)
 ret:SR K
 pins:List (List (S0 K)):=[]
 pl:VM K
 rfrz:List Nat:=[]
 ts:List Nat
 rc:List (Nat×Option TypeId):=[]
 rco:List (Co K):=[]
def Mf:Nat×Option TypeId->ResultVar
 | (t,none) => .tmp t
 | (t,some ty) => .cell t ty
def Spec.vars (s:Spec K):Array ResultVar:=match s.rc with
 | []=>(s.ts.map ResultVar.tmp).toArray
 | rc=>(rc.map Mf).toArray
variable (E) in
def Spec.R (s:Spec K):Type:=match s.pins with
 | []=>s.ret.ty E
 | p::ps=>s.ret.ty E×tyP E (p::ps)
section
variable (T:Tab E)
def kN:(ss:List (S1 K))->tyS E ss->List (DV E)
 | [],_ => []
 | [s],x => [s.abs T x]
 | s::s'::r,x=>s.abs T x.1::kN (s'::r) x.2
def E4:(ss:List (S1 K))->List (DV E)->Option (tyS E ss)
 | [],[]=>some ()
 | [s],[d]=>s.rd T d
 | s::s'::r,d::ds=>(s.rd T d).bind fun x=>(E4 (s'::r) ds).bind fun y=>some (x,y)
 | _,_=>none
def CG:(ss:List (List (S0 K)))->tyP E ss->List (List (DV E))
 | [],_ => []
 | [s],x => [kO s x]
 | s::s'::r,x=>kO s x.1::CG (s'::r) x.2
def R1:(ss:List (List (S0 K)))->List (List (DV E))->Option (tyP E ss)
 | [],[]=>some ()
 | [s],[d]=>rdL T s d
 | s::s'::r,d::ds=>(rdL T s d).bind fun x=>(R1 (s'::r) ds).bind fun y=>some (x,y)
 | _,_=>none
def SR.abs:(s:SR K)->s.ty E->DV E
 | .one s,x=>s.abs T x
 | .tup ss,x => .tup (kN T ss x)
def XT (d:DV E):Option (List (DV E)):=match d with
 | .tup ds=>some ds
 | _=>none
def SR.rd:(s:SR K)->DV E->Option (s.ty E)
 | .one s,d=>s.rd T d
 | .tup ss,d=>(XT d).bind (E4 T ss)
def ug (s:Spec K):s.R E->Res E:=match s with
 | ⟨_,ret,[],_,_,_,_,_⟩=>fun x=>⟨ret.abs T x,[]⟩
 | ⟨_,ret,p::ps,_,_,_,_,_⟩=>fun x=>⟨ret.abs T x.1,CG (p::ps) x.2⟩
def rdR (s:Spec K) (res:Res E):Option (s.R E):=match s with
 | ⟨_,ret,[],_,_,_,_,_⟩=>match res.pins with
  | []=>ret.rd T res.v
  | _=>none
 | ⟨_,ret,p::ps,_,_,_,_,_⟩=>(ret.rd T res.v).bind fun x=>(R1 T (p::ps) res.pins).bind fun y=>some (x,y)
def QD (s:S0 K) (d:DV E):DV E :=
 match s with
 | .slc k=>match d with
  | .nils => .slc k []
  | d=>d
 | .row e k=>match d with
  | .nils => .row e k []
  | d=>d
 | .argp _=>match d with
  | .nilp => .argp 0
  | d=>d
 | .junk=>if d.plain=true then .junk else d
 | _=>d
def Ks:List (S0 K)->List (DV E)->List (DV E)
 | s::ss,d::ds=>QD s d::Ks ss ds
 | _,ds=>ds
def qm (s:S1 K) (d:DV E):DV E :=
 match s with
 | .a (.slc k)=>match d with
  | .nils => .slc k []
  | d=>d
 | .a (.row e k)=>match d with
  | .nils => .row e k []
  | d=>d
 | .a .junk=>if d.share=true then .junk else d
 | .pin _ ss=>match d with
  | .pin t cs => .pin t (Ks ss cs)
  | d=>d
 | _=>d
def yf:List (S1 K)->List (DV E)->List (DV E)
 | s::ss,d::ds=>qm s d::yf ss ds
 | _,ds=>ds
def S0.flat (fk:K->Bool):S0 K->Bool
 | .int _ | .bool | .str | .nilp | .nili | .nils | .argp _=>true
 | .row _ k=>fk k
 | .arr _ k=>fk k
 | _=>false
def S1.flat (fk:K->Bool):S1 K->Bool
 | .a s=>s.flat fk
 | _=>false
def SR.flat (fk:K->Bool):SR K->Bool
 | .one (.agg ss)=>ss.all (S0.flat fun _=>false)
 | .one s=>s.flat fk
 | .tup ss=>ss.all (S1.flat fk)
def Spec.flat (s:Spec K):Bool:=s.ret.flat T.fk&&s.pins.all fun p=>p.all (S0.flat T.fk)
def ai (s:Spec K) (M:tyS E s.params->Option (s.R E)) (ds:List (DV E)):Con E :=
 match E4 T s.params (yf s.params ds) with
 | some x=>⟨s.R E,M x,ug T s,s.flat T⟩
 | none => .bad
variable (P:Program) (env:Env E)
def sc (s:Spec K) (code:Code) (F:Nat) (x:tyS E s.params):Option (s.R E) :=
 if nodupB (names (st0 s.pl.nt (kN T s.params x)).mem)=true/\(kN T s.params x).length<=s.pl.nt/\(s.rc.isEmpty=true\/s.ts=(List.range s.rc.length).map (s.pl.nt + ·)) then
  pZ T P env s.pl F code 0 (st0 s.pl.nt (kN T s.params x)) fun e st=>match e with
   | .exit _=>none
   | _=>Gs T P s.pl.nt s.rc (Iw T s.rco (forget s.rfrz st)) fun st=>(Fj s.ts (kN T s.params x) st).bind (rdR T s)
 else none
def S1.j5:S1 K->Bool
 | .pin _ _=>true
 | .newb _ _=>true
 | _=>false
def pH:Nat->List (S1 K)->List Nat
 | _,[] => []
 | j,s::r=>if s.j5=true then j::pH (j+1) r else pH (j+1) r
end
variable {T:Tab E} {P:Program} {env:Env E}
theorem Ff:∀ {ss:List (S1 K)} {ds:List (DV E)} {x:tyS E ss},E4 T ss ds=some x->kN T ss x=ds:=by
 intro ss;induction ss with
 | nil =>
  intro ds x h;cases ds with
  | nil=>rfl
  | cons d ds=>cases h
 | cons s r ih =>
  intro ds x h;cases r with
  | nil =>
   cases ds with
   | nil=>cases h
   | cons d ds =>
    cases ds with
    | nil=>show [s.abs T x] = _; rw[S1.qp (T:=T) (s:=s) (d:=d) (x:=x) h]
    | cons d' ds=>cases h
  | cons s' r =>
   cases ds with
   | nil=>cases h
   | cons d ds =>
    change ((s.rd T d).bind fun x=>(E4 T (s'::r) ds).bind fun y=>some (x,y))=some x at h;obtain ⟨y,hy,h⟩:=adk.1 h;obtain ⟨z,hz,h⟩:=adk.1 h;cases h;show s.abs T y::kN T (s'::r) z = _;rw[S1.qp hy,ih hz]
theorem Sl:∀ {ss:List (List (S0 K))} {ds:List (List (DV E))} {x:tyP E ss},R1 T ss ds=some x->CG ss x=ds:=by
 intro ss;induction ss with
 | nil =>
  intro ds x h;cases ds with
  | nil=>rfl
  | cons d ds=>cases h
 | cons s r ih =>
  intro ds x h;cases r with
  | nil =>
   cases ds with
   | nil=>cases h
   | cons d ds =>
    cases ds with
    | nil=>show [kO s x] = _; rw[oF (T:=T) (ss:=s) (ds:=d) (x:=x) h]
    | cons d' ds=>cases h
  | cons s' r =>
   cases ds with
   | nil=>cases h
   | cons d ds =>
    change ((rdL T s d).bind fun x=>(R1 T (s'::r) ds).bind fun y=>some (x,y))=some x at h;obtain ⟨y,hy,h⟩:=adk.1 h;obtain ⟨z,hz,h⟩:=adk.1 h;cases h;show kO s y::CG (s'::r) z = _;rw[oF hy,ih hz]
theorem SR.qp {s:SR K} {d:DV E} {x:s.ty E} (h:s.rd T d=some x):s.abs T x=d:=by
 cases s with
 | one s=>exact S1.qp h
 | tup ss =>
  obtain ⟨ds,h1,h2⟩:=adk.1 h;have:d = .tup ds:=by
   unfold XT at h1;split at h1
   ·cases h1; rfl
   ·cases h1
  rw[this];exact congrArg _ (Ff h2)
theorem PV {s:Spec K} {res:Res E} {x:s.R E} (h:rdR T s res=some x):ug T s x=res:=by
 obtain ⟨v,pins⟩:=res;obtain ⟨ps,ret,pp,pl,rf,ts,rc⟩:=s;cases pp with
 | nil =>
  cases pins with
  | nil =>
   have:=SR.qp (T:=T) (s:=ret) (d:=v) (x:=x) h;show Res.mk (ret.abs T x) [] = _;rw[this]
  | cons p q=>cases h
 | cons p q =>
  obtain ⟨y,hy,h⟩:=adk.1 h;obtain ⟨z,hz,h⟩:=adk.1 h;cases h;show Res.mk (ret.abs T y) (CG (p::q) z) = _;rw[SR.qp hy,Sl hz]
theorem Nf {w:World} {Y:Nat->Prop} {b0:Nat} {s:S0 K} {d:DV E} {v:Value} {b:List Nat} (h:vK T w Y b0 d v b):vK T w Y b0 (QD s d) v b:=by
 have nils:∀ {v:Value} {b:List Nat},vK T w Y b0 (.nils:DV E) v b->v = .slice none 0 0/\b=[]/\v.oneCell'=true:=by
  intro v b h;rcases h with ⟨h,h1,_⟩ | ⟨h,_⟩
  ·cases h with
   | sh hr hs=>cases hr; exact ⟨rfl,rfl,h1⟩
  ·cases h
 unfold QD;split
 ·split
  ·obtain ⟨rfl,rfl,h1⟩:=nils h
   exact .inl ⟨.sh (.slcn _) rfl,h1,rfl⟩
  ·exact h
 ·split
  ·rename_i e k _
   obtain ⟨rfl,rfl,h1⟩:=nils h;exact .inl ⟨.row (v := .slice none 0 0) (bc.mk' (ou w e (T.sz k)) (.nil k)),h1,rfl⟩
  ·exact h
 ·split
  ·rcases h with ⟨h,h1,_⟩ | ⟨h,_⟩
   ·cases h with
    | sh hr hs=>cases hr; exact .inr ⟨rfl,rfl,.inl rfl⟩
   ·cases h
  ·exact h
 ·split
  ·rename_i hp
   rcases h with ⟨h,h1,h2⟩ | ⟨h,h2⟩
   ·cases h with
    | junk v=>exact .inl ⟨.junk v,h1,rfl⟩
    | sh hr hs=>exact .inl ⟨.junk v,h1,rfl⟩
    | row hr=>simp[DV.plain] at hp
   ·rw[h] at hp; simp[DV.plain] at hp
  ·exact h
 ·exact h
theorem Kn {w:World} {Y:Nat->Prop} {b0:Nat} {ds:List (DV E)} {vs:List Value} {bs:List Nat} (h:ig (vK T w Y b0) ds vs bs):∀ (ss:List (S0 K)),ig (vK T w Y b0) (Ks ss ds) vs bs:=by
 induction h with
 | nil=>intro ss; cases ss <;> exact .nil
 | cons h t ih =>
  intro ss;cases ss with
  | nil=>exact .cons h t
  | cons s ss=>exact .cons (Nf h) (ih ss)
theorem OW {w:World} {Y:Nat->Prop} {s:S1 K} {d:DV E} {v:Value} {b:List Nat} (h:Own T w Y d v b):Own T w Y (qm s d) v b:=by
 unfold qm;split
 ·split
  ·cases h with
   | c h=>cases h with
    | sh hr hs=>cases hr; exact .c (.sh (.slcn _) rfl)
  ·exact h
 ·rename_i e k
  have nilrow:Own T w Y (.row e k []) (.slice none 0 0) [] := .c (.row (v := .slice none 0 0) (bc.mk' (ou w e (T.sz k)) (.nil k)));split
  ·cases h with
   | c h=>cases h with
    | sh hr hs=>cases hr; exact nilrow
  ·exact h
 ·split
  ·rename_i hs
   cases h with
   | c h=>cases h with
    | junk v=>exact .c (.junk v)
    | sh hr hs=>exact .c (.junk v)
    | row hr=>simp[DV.share,DV.lay,DV.plain] at hs
   | pin hp=>simp[DV.share,DV.lay,DV.plain] at hs
   | lend hp=>simp[DV.share,DV.lay,DV.plain] at hs
  ·exact h
 ·split
  ·cases h with
   | c h=>cases h with
    | sh hr hs=>simp[DV.share,DV.lay,DV.plain] at hs
   | pin hp =>
    obtain ⟨b,vs,bs,h1,h2,h3,h4⟩:=hp;exact .pin ⟨b,vs,bs,h1,h2,Kn h3 _,h4⟩
  ·exact h
 ·exact h
end Go.Vm
namespace Go.Vm
open Go.Lib
variable {K:Type} {E:K->Type}
variable {T:Tab E} {P:Program} {env:Env E}
theorem Ew {w:World} {Y:Nat->Prop} {ds:List (DV E)} {vs:List Value} {bl:List Nat} (h:ig (Own T w Y) ds vs bl):∀ (ss:List (S1 K)),ig (Own T w Y) (yf ss ds) vs bl:=by
 induction h with
 | nil=>intro ss; cases ss <;> exact .nil
 | cons h t ih =>
  intro ss;cases ss with
  | nil=>exact .cons h t
  | cons s ss=>exact .cons (OW h) (ih ss)
theorem MY {s:S1 K} {d:DV E} {t:TypeId} {cs:List (DV E)} (h:qm s d = .pin t cs):∃ cs0,d = .pin t cs0:=by
 unfold qm at h;split at h
 ·split at h
  ·cases h
  ·exact ⟨_,h⟩
 ·split at h
  ·cases h
  ·exact ⟨_,h⟩
 ·split at h
  ·cases h
  ·exact ⟨_,h⟩
 ·split at h
  ·cases h; exact ⟨_,rfl⟩
  ·exact ⟨_,h⟩
 ·exact ⟨_,h⟩
theorem Oh (s:S1 K) (t:TypeId) (cs:List (DV E)):∃ cs',qm s (.pin t cs:DV E) = .pin t cs':=by
 unfold qm;split
 ·exact ⟨_,rfl⟩
 ·exact ⟨_,rfl⟩
 ·exact ⟨cs,rfl⟩
 ·exact ⟨_,rfl⟩
 ·exact ⟨_,rfl⟩
theorem Ko {s:S1 K} {d:DV E} {t:TypeId} {cs:List (DV E)} (h:qm s d = .newb t cs):d = .newb t cs:=by
 unfold qm at h;split at h
 ·split at h
  ·cases h
  ·exact h
 ·split at h
  ·cases h
  ·exact h
 ·split at h
  ·cases h
  ·exact h
 ·split at h
  ·cases h
  ·exact h
 ·exact h
theorem J3 (s:S1 K) (t:TypeId) (cs:List (DV E)):qm s (.newb t cs:DV E) = .newb t cs:=by
 unfold qm;split <;> rfl
theorem oN {w:World} {Y:Nat->Prop}:∀ (ss:List (S1 K)) (ds:List (DV E)) (vs:List Value) (ps:List (List (DV E))) (bl:List Nat),iP T w Y (yf ss ds) vs ps bl->iP T w Y ds vs ps bl
 | [],ds,vs,ps,bl,h=>by cases ds <;> exact h
 | s::ss,[],vs,ps,bl,h=>h
 | s::ss,d::ds,vs,ps,bl,h=>by
  change iP T w Y (qm s d::yf ss ds) vs ps bl at h;generalize hd:qm s d=d' at h;cases h with
  | skip hn h =>
   refine .skip (fun t cs=>⟨fun e => ?_,fun e => ?_⟩) (oN ss ds _ _ _ h)
   ·subst e
    obtain ⟨cs',hc⟩:=Oh s t cs;exact (hn t cs').1 (by rw[<-hd]; exact hc)
   ·subst e
    exact (hn t cs).2 (by rw[<-hd]; exact J3 s t cs)
  | @pin t cs _ _ _ _ _ _ _ hb h =>
   obtain ⟨cs0,this⟩:=MY hd;rw[this];exact .pin hb (oN ss ds _ _ _ h)
  | lend hb h =>
   rw[Ko hd];exact .lend hb (oN ss ds _ _ _ h)
theorem D8 (s:S1 K) (x:s.ty E):j5 (s.abs T x)=s.j5:=by
 cases s with
 | a s=>cases s <;> rfl
 | _=>rfl
theorem AX:∀ (ss:List (S1 K)) (x:tyS E ss) (j:Nat),jb j (kN T ss x)=pH j ss:=by
 intro ss;induction ss with
 | nil=>intro x j; rfl
 | cons s r ih =>
  intro x j;cases r with
  | nil =>
   change jb j [s.abs T x] = _;unfold jb pH;rw[show j5 (s.abs T x)=s.j5 from D8 s x];rfl
  | cons s' r =>
   change jb j (s.abs T x.1::kN T (s'::r) x.2) = _;unfold jb pH;rw[D8,ih]
theorem uU {fk:K->Bool}:∀ {ss:List (S0 K)} {x:tyL E ss},ss.all (S0.flat fk)=true->(kO ss x).all (DV.flat fk)=true
 | [],x,h=>rfl
 | s::r,x,h=>by
  simp only[List.all_cons,adi] at h;simp only[kO,List.all_cons,adi];refine ⟨?_,uU h.2⟩;have h1:=h.1;cases s <;> first | rfl | (simp[S0.flat] at h1; done) | (simpa[S0.abs,DV.flat,S0.flat] using h1)
theorem S1.tP {s:S1 K} {x:s.ty E} (h:s.flat T.fk=true):(s.abs T x).flat T.fk=true:=by
 cases s with
 | a s=>cases s <;> first | rfl | (simp[S1.flat,S0.flat] at h; done) | (simpa[S1.abs,S0.abs,DV.flat,S1.flat,S0.flat] using h)
 | _=>simp[S1.flat] at h
theorem KC:∀ (ss:List (S1 K)) (x:tyS E ss),ss.all (S1.flat T.fk)=true->(kN T ss x).all (DV.flat T.fk)=true:=by
 intro ss;induction ss with
 | nil=>intro x h; rfl
 | cons s r ih =>
  intro x h;simp only[List.all_cons,adi] at h;cases r with
  | nil =>
   change ([s.abs T x].all (DV.flat T.fk))=true;simp only[List.all_cons,List.all_nil,Bool.and_true];exact S1.tP h.1
  | cons s' r =>
   change ((s.abs T x.1::kN T (s'::r) x.2).all (DV.flat T.fk))=true;simp only[List.all_cons,adi];have:=ih x.2 h.2;simp only[List.all_eq_true] at this;exact ⟨S1.tP h.1,by simpa[List.all_eq_true] using this⟩
theorem SR.tP {s:SR K} {x:s.ty E} (h:s.flat T.fk=true):zu T.fk (s.abs T x)=true:=by
 cases s with
 | tup ss=>exact KC ss x h
 | one s =>
  cases s with
  | agg ss=>exact uU (fk:=fun _=>false) h
  | a s=>cases s <;> first | rfl | (simp[SR.flat,S1.flat,S0.flat] at h; done) | (simpa[SR.abs,S1.abs,S0.abs,zu,DV.flat,SR.flat,S1.flat,S0.flat] using h)
  | _=>simp[SR.flat,S1.flat] at h
theorem Kf:∀ (ss:List (List (S0 K))) (x:tyP E ss),(ss.all fun p=>p.all (S0.flat T.fk))=true -> ∀ p∈CG ss x,p.all (DV.flat T.fk)=true:=by
 intro ss;induction ss with
 | nil=>intro x h p hp; cases hp
 | cons s r ih =>
  intro x h p hp;simp only[List.all_cons,adi] at h;cases r with
  | nil =>
   change p ∈ [kO s x] at hp;rcases List.mem_singleton.1 hp with rfl
   exact uU h.1
  | cons s' r =>
   change p∈kO s x.1::CG (s'::r) x.2 at hp;rcases List.mem_cons.1 hp with rfl | hp
   ·exact uU h.1
   ·exact ih x.2 h.2 p hp
theorem DI {s:Spec K} {r:s.R E} (h:s.flat T=true):zu T.fk (ug T s r).v=true /\ ∀ p∈(ug T s r).pins,p.all (DV.flat T.fk)=true:=by
 obtain ⟨ps,ret,pp,pl,rf,ts,rc⟩:=s;simp only[Spec.flat,adi] at h;cases pp with
 | nil=>exact ⟨SR.tP (x:=r) h.1,fun p hp=>by cases hp⟩
 | cons p q=>exact ⟨SR.tP (x:=r.1) h.1,Kf (p::q) r.2 h.2⟩
theorem fA {f:FuncId} {fn:Func} {vs:Array Value} {w:World} (hf:P.funcs[f]? = some fn) (hb:fn.body.isSome=true) (iT:(fn.name == "runtime.NumGoroutine")=false):(callFunc f vs).run P w = .ok (.enter f vs) w:=by
 have:fn.body.isNone=false:=by cases h:fn.body <;> simp_all
 simp only[callFunc,Sem.run_bind,run_program,Result.andThen_ok,hf,iT,this,ade,if_false,Sem.run_pure]
theorem Ef (a:Act) (P:Program) (w:World):∀ ts:List Nat,(List.mapM (m:=Sem) (fun (r:ResultVar)=>match r with
  | .tmp t=>pure (a.tmps.getD t undef)
  | .cell ad t=>do loadVar t (<-asAddr (a.tmps.getD ad undef))) (ts.map ResultVar.tmp)).run P w = .ok (ts.map fun t=>a.tmps.getD t undef) w
 | []=>by simp
 | t::ts=>by simp only[List.map_cons,List.mapM_cons,Sem.run_bind,Sem.run_pure,Result.andThen_ok,Ef a P w ts]
theorem Inv.Va {w0:World} {G:GP} {st:St E} {a:Act} {w:World} {g:Gh} (h:Inv T w0 G st a w g) (ds:List (DV E)) (us:List Value) (hl:ds.length=us.length)
  (hr:∀ i (hi:i<ds.length) (bq:i<us.length),aD T w (free st.mem g) g ds[i] us[i] /\ ∀ k j cs off,ds[i] ≠ .rptr k j cs off) :
  Inv T w0 G ⟨st.tmps++ds,st.mem⟩ { a with tmps:=a.tmps++us.toArray } w g:=by
 refine ⟨h.df,by simp[h.tl,hl],fun i hi => ?_,h.nn,h.nd,h.mm,h.bo,h.fr,fun i hi n j cs off he => ?_,h.hz⟩
 ·simp only[adf] at hi
  by_cases aH:i<st.tmps.length
  ·have e:(a.tmps++us.toArray).getD i undef=a.tmps.getD i undef:=by
    have:i<a.tmps.size:=by rw[h.tl]; exact aH
    simp[Array.getElem?_append_left this]
   simp only[List.getElem_append_left aH,e];exact h.tm i aH
  ·have hle:st.tmps.length<=i:=by omega
   have YY:i-st.tmps.length<us.length:=by omega
   have e:(a.tmps++us.toArray).getD i undef=us[i-st.tmps.length]:=by
    have h1:a.tmps.size<=i:=by rw[h.tl]; exact hle
    simp[Array.getElem?_append_right h1,h.tl,YY]
   simp only[List.getElem_append_right hle,e];exact (hr _ (by omega) YY).1
 ·simp only[adf] at hi
  by_cases aH:i<st.tmps.length
  ·rw[List.getElem_append_left aH] at he
   exact h.rl i aH n j cs off he
  ·rw[List.getElem_append_right (by omega)] at he
   exact absurd he ((hr _ (by omega) (by omega)).2 n j cs off)
theorem yF {w0:World} {G:GP} {st:St E} {a:Act} {w:World} {g:Gh} (h:Inv T w0 G st a w g) {β:Type} {K:St E->Option β} {r:β}:∀ (rc:List (Nat×Option TypeId)) (acc:List (DV E)) (us:List Value),acc.length=us.length ->
  (∀ i (hi:i<acc.length) (bq:i<us.length),aD T w (free st.mem g) g acc[i] us[i] /\ ∀ k j cs off,acc[i] ≠ .rptr k j cs off)->yE T P rc st acc K=some r ->
  ∃ st2 us',Inv T w0 G st2 { a with tmps:=a.tmps++(us++us').toArray } w g/\K st2=some r/\us'.length=rc.length /\
   (List.mapM (m:=Sem) (fun (r:ResultVar)=>match r with
  | .tmp t=>pure (a.tmps.getD t undef)
  | .cell ad t=>do loadVar t (<-asAddr (a.tmps.getD ad undef))) (rc.map Mf)).run P w = .ok us' w
 | [],acc,us,hl,hr,hK=>⟨_,[],by simpa using h.Va acc us hl hr,hK,rfl,by simp⟩
 | (t,none)::rc,acc,us,hl,hr,hK=>by
  simp only[yE] at hK;split at hK
  ·cases hK
  rename_i hnr;have hx:aD T w (free st.mem g) g (st.tmps.getD t .junk) (a.tmps.getD t undef):=h.ev (.tmp t);obtain ⟨st2,us',q1,q2,q3,q4⟩:=yF h rc (acc++[st.tmps.getD t .junk]) (us++[a.tmps.getD t undef]) (by simp[hl]) (fun i hi bq=>by
   by_cases aH:i<acc.length
   ·rw[List.getElem_append_left aH,List.getElem_append_left (by omega)]
    exact hr i aH (by omega)
   ·have e:i=acc.length:=by simp at hi; omega
    subst e;have e2:(us++[a.tmps.getD t undef])[acc.length]=a.tmps.getD t undef:=by rw[List.getElem_append_right (by omega)]; simp[hl]
    have e3:(acc++[st.tmps.getD t .junk])[acc.length]=st.tmps.getD t .junk:=by rw[List.getElem_append_right (by omega)]; simp
    rw[e2,e3];exact ⟨hx,fun k j cs off e=>by rw[e] at hnr; exact hnr rfl⟩) hK
  refine ⟨st2,_::us',by simpa using q1,q2,by simp[q3],?_⟩;simp only[List.map_cons,List.mapM_cons,Mf];rw[Sem.run_bind,Sem.run_pure];simp only[Result.andThen_ok,Sem.run_bind,q4,Sem.run_pure];simp
 | (ad,some ty)::rc,acc,us,hl,hr,hK=>by
  simp only[yE] at hK;obtain ⟨o,ho,hK⟩:=Cal.GK _ _ _ hK;have hx:aD T w (free st.mem g) g (st.tmps.getD ad .junk) (a.tmps.getD ad undef):=h.ev (.tmp ad);obtain ⟨_,u,h2,h3,h4⟩:=Ep h hx o ho;obtain ⟨st2,us',q1,q2,q3,q4⟩:=yF h rc (acc++[o.v]) (us++[u]) (by simp[hl]) (fun i hi bq=>by
   by_cases aH:i<acc.length
   ·rw[List.getElem_append_left aH,List.getElem_append_left (by omega)]
    exact hr i aH (by omega)
   ·have e:i=acc.length:=by simp at hi; omega
    subst e;have e2:(us++[u])[acc.length]=u:=by rw[List.getElem_append_right (by omega)]; simp[hl]
    rw[e2];simpa using ⟨h3,h4⟩) hK
  refine ⟨st2,u::us',by simpa using q1,q2,by simp[q3],?_⟩;have j3:(do loadVar ty (<-asAddr (a.tmps.getD ad undef)):Sem Value).run P w = .ok u w:=by
   generalize a.tmps.getD ad undef=va at h2;unfold Instr.loadAt Instr.sureAddr at h2;split at h2
   ·simpa[asAddr] using h2
   ·simp at h2
  simp only[List.map_cons,List.mapM_cons,Mf];rw[Sem.run_bind,j3];simp only[Result.andThen_ok,Sem.run_bind,q4,Sem.run_pure]
theorem KV {w0:World} {G:GP} {fn:Func} {s:Spec K} (hv:fn.results=s.vars) {st:St E} {a:Act} {w:World} {g:Gh} (h:Inv T w0 G st a w g) {β:Type} {K:St E->Option β} {r:β}
  (YZ:s.rc.isEmpty=true\/s.ts=(List.range s.rc.length).map (s.pl.nt + ·)) (hK:Gs T P s.pl.nt s.rc st K=some r) :
  ∃ st2 us,Inv T w0 G st2 { a with tmps:=a.tmps++us } w g/\K st2=some r/\(us = #[]\/a.tmps.size=s.pl.nt)/\(results fn a.tmps).run P w = .ok (Js s.ts { a with tmps:=a.tmps++us }) w:=by
 unfold results;rw[hv,Array.mapM_eq_mapM_toList];unfold Spec.vars;unfold Gs at hK;have fin:∀ vs:List Value,(match vs.toArray.toList with
   | [v]=>(pure v:Sem Value)
   | vs=>pure (Value.tuple vs.toArray)).run P w = .ok (match vs with | [v]=>v | vs => .tuple vs.toArray) w:=by
  intro vs
  match vs with
  | []=>rfl
  | [v]=>rfl
  | v::v'::vs=>simp
 cases hc:s.rc with
 | nil =>
  rw[hc] at hK;simp only at hK;refine ⟨st,#[],by simpa using h,hK,.inl rfl,?_⟩;simp only[Sem.run_bind];have:=Ef a P w s.ts;rw[map_eq_pure_bind,Sem.run_bind]
  erw [this]
  simp only[Result.andThen_ok,Sem.run_pure]
  match s.ts with
  | []=>rfl
  | [t]=>simp[Js]
  | t::t'::ts=>simp[Js]
 | cons x rc =>
  rw[hc] at hK YZ;simp only at hK;have UO:=YZ.resolve_left (by simp);obtain ⟨hlen,hK⟩:=dP hK;have nf:a.tmps.size=s.pl.nt:=by rw[h.tl,hlen]
  obtain ⟨st2,us',q1,q2,q3,q4⟩:=yF (P:=P) h (x::rc) [] [] rfl (fun i hi=>by cases hi) hK;refine ⟨st2,us'.toArray,by simpa using q1,q2,.inr nf,?_⟩;simp only[Sem.run_bind];rw[map_eq_pure_bind,Sem.run_bind]
  erw [q4]
  simp only[Result.andThen_ok,Sem.run_pure];have r8:(s.ts.map fun t=>(a.tmps++us'.toArray).getD t undef)=us':=by
   rw[UO,List.map_map];apply List.ext_getElem
   ·simp[q3]
   ·intro i h1 h2
    simp[nf,h2]
  unfold Js;rw[UO] at r8 ⊢
  match us',q3,r8 with
  | [],q3,_=>simp at q3
  | [u],q3,r8 =>
   have:rc=[]:=by simpa using q3.symm
   subst this;simp at r8 ⊢
   exact r8.symm
  | u::u'::us,q3,r8 =>
   obtain ⟨y,rc',rfl⟩:∃ y rc',rc=y::rc':=by cases rc with
    | nil=>simp at q3
    | cons y rc'=>exact ⟨y,rc',rfl⟩
   simp only[adb,List.range_succ_eq_map,List.map_cons] at r8 ⊢
   rw[r8];simp
theorem pU {s:Spec K} {M:tyS E s.params->Option (s.R E)} {f:FuncId} {fn:Func} {code:Code} (hf:P.funcs[f]? = some fn) (hb:fn.body=some code) (iT:(fn.name == "runtime.NumGoroutine")=false)
  (UO:fn.results=s.vars) (Z0:fn.ntmps=s.pl.nt) (o7:∀ f,Ctr T P f (env f)) (hm:P.follows .mixedOrders=true) (hk:r7 (pH 0 s.params) code=true)
  (hM:∀ x r,M x=some r -> ∃ F,sc T P env s code F x=some r):Ctr T P f (ai T s M):=by
 intro ds;unfold ai;cases hx:E4 T s.params (yf s.params ds) with
 | none=>intro r hr; cases hr
 | some x =>
  intro r hr w vs Y bl dD vO hY Ad UP
  haveI:zT T w ⟨(· ∈ bl),(FB w Y bl).hid⟩:=⟨Ad,UP⟩
  have GV:=Ff hx;have ET:=Ew dD s.params;rw[<-GV] at ET;obtain ⟨F,hF⟩:=hM x r hr;unfold sc at hF;obtain ⟨⟨hn,hlen,YZ⟩,hF⟩:=dP hF;refine .inl ⟨fA hf (by rw[hb]; rfl) iT,calls_of_wp hf hb ?_⟩;obtain ⟨g,hg⟩:=Po (nt:=s.pl.nt) ET vO hY hn hlen;rw[Z0];obtain ⟨e,st',hK,UL⟩:=TD (w0:=w) (G:=⟨(· ∈ bl),(FB w Y bl).hid⟩) (J:=pH 0 s.params) o7 hm code hk 0 _ _ _ _ hF;refine wp_mono (UL _ _ g hg) ?_
  rintro e' a' w' ⟨rfl,g',hi,Mi⟩
  have fin:(Gs T P s.pl.nt s.rc (Iw T s.rco (forget s.rfrz st')) fun st=>(Fj s.ts (kN T s.params x) st).bind (rdR T s))=some r->a'.defers=[] /\ ∃ v,(results fn a'.tmps).run P w' = .ok v w' /\ ∃ v' bl1 bl2,Ending.returned v=Ending.returned v'/\(bl1++bl2).Nodup/\(∀ b∈bl1++bl2,b<w'.heap.size/\(w.heap.size<=b\/b∈bl)) /\
    zK T w' (fun b=>(Y b\/w.heap.size<=b\/b∈bl)/\b ∉ bl1++bl2) vs.toList (ug T s r).v v' bl1 /\
    iP T w' (fun b=>(Y b\/w.heap.size<=b\/b∈bl)/\b ∉ bl1++bl2) ds vs.toList (ug T s r).pins bl2/\l6 (· ∈ bl) w w' /\
    (s.flat T=true->zu T.fk (ug T s r).v=true /\ ∀ p∈(ug T s r).pins,p.all (DV.flat T.fk)=true):=by
   intro hK;obtain ⟨g',bq⟩:=FR s.rco (pK hi s.rfrz);obtain ⟨st2,us,bq,hK,nf,Oy⟩:=KV (P:=P) UO bq YZ hK;generalize Z1:({ a' with tmps:=a'.tmps++us }:Act)=a2 at bq Oy
   replace Z1:a2.tmps=a'.tmps++us:=by rw[<-Z1]
   obtain ⟨res,h1,h2⟩:=adk.1 hK;have ux:∀ i,i<s.pl.nt->a2.tmps.getD i undef=a'.tmps.getD i undef:=by
    intro i hi;rw[Z1];rcases nf with rfl | nf
    ·simp
    ·simp[Array.getElem?_append_left (show i<a'.tmps.size by omega)]
   have hl:(kN T s.params x).length=vs.size:=by have:=Ix ET; simpa using this
   obtain ⟨bl1,bl2,q1,q2,q3,q4,q5⟩:=U4 bq hl h1 (by
    intro i u5;rw[AX] at u5;have yX:=Mi i u5;have aH:i<vs.size:=by
     have:∀ (ds:List (DV E)) (j i:Nat),i∈jb j ds->i<j+ds.length:=by
      intro ds;induction ds with
      | nil=>intro j i h; cases h
      | cons d r ih =>
       intro j i h;unfold jb at h;simp only[adb];split at h
       ·rcases List.mem_cons.1 h with rfl | h
        ·omega
        ·have:=ih _ _ h; omega
       ·have:=ih _ _ h; omega
     have:=this (kN T s.params x) 0 i (by rw[AX]; exact u5);omega
    rw[ux i (by omega),yX];simp[Array.getElem?_append_left aH,aH])
   rw[PV h2];refine ⟨hi.df,_,Oy,Js s.ts a2,bl1,bl2,rfl,q1,q2,q3,?_,q5,fun hf => ?_⟩
   ·rw[GV] at q4
    exact oN _ _ _ _ _ q4
   ·rw[<-PV h2]; exact DI hf
  cases e with
  | exit j=>cases hK
  | norm=>exact fin hK
  | ret=>exact fin hK
end Go.Vm
namespace Go.Vm
open Go.Lib
variable {K:Type} {E:K->Type}
def dq {α β γ:Type} (s:α ⊕ β) (f:α->γ) (g:β->γ):γ:=match s with
 | .inl a=>f a
 | .inr b=>g b
def CZ:Env E:=fun _ _ => .bad
def fq (f:FuncId) (C:List (DV E)->Con E) (env:Env E):Env E:=fun g=>if g=f then C else env g
theorem ah {T:Tab E} {P:Program}:∀ f,Ctr T P f (CZ (E:=E) f):=by
 intro f ds r hr;cases hr
theorem af {T:Tab E} {P:Program} {f:FuncId} {C:List (DV E)->Con E} {env:Env E} (h:∀ g,Ctr T P g (env g)) (hc:Ctr T P f C):∀ g,Ctr T P g (fq f C env g):=by
 intro g;unfold fq;split
 ·rename_i e; subst e; exact hc
 ·exact h g
theorem xE (T:Tab E) (P:Program) (f:FuncId) (s:Spec K) {M:tyS E s.params->Option (s.R E)} (h:∀ x,M x=none):Ctr T P f (ai T s M):=by
 intro ds;unfold ai;cases hx:E4 T s.params (yf s.params ds) with
 | none=>intro r hr; cases hr
 | some x=>intro r hr; simp only[h] at hr; cases hr
end Go.Vm
namespace Go.Vm
structure Le {α:Type} (a b:Option α):Prop where
 le:∀ r,a=some r->b=some r
theorem Le.refl {α:Type} (a:Option α):Le a a:=⟨fun _ h=>h⟩
theorem Le.bind {α β:Type} {a b:Option α} {f g:α->Option β} (h:Le a b) (hf:∀ x,Le (f x) (g x)):Le (a.bind f) (b.bind g):=by
 refine ⟨fun r hr => ?_⟩;obtain ⟨x,hx,hr⟩:=adk.1 hr;exact adk.2 ⟨x,h.le x hx,(hf x).le r hr⟩
theorem Le.loop {X Y:Type} {f g:X->Option (X ⊕ Y)} (hf:∀ x,Le (f x) (g x)):∀ {n m:Nat},n<=m -> ∀ x,Le (bf f n x) (bf g m x)
 | 0,m,h,x=>⟨fun r hr=>by cases hr⟩
 | n+1,0,h,x=>by omega
 | n+1,m+1,h,x=>by
  unfold bf;refine Le.bind (hf x) fun y => ?_
  cases y with
  | inl x'=>exact Le.loop hf (by omega) x'
  | inr y=>exact Le.refl _
theorem Le.dq {α β γ:Type} {s:α ⊕ β} {f f':α->Option γ} {g g':β->Option γ} (h:∀ x,Le (f x) (f' x)) (h':∀ x,Le (g x) (g' x)):Le (Go.Vm.dq s f g) (Go.Vm.dq s f' g'):=by
 cases s with
 | inl a=>exact h a
 | inr b=>exact h' b
def ae {α:Type} (m:Nat->Option α) (r:α):Prop:=∃ N,∀ F,N<=F->m F=some r
theorem ae.const {α:Type} {m:Option α} {r:α} (h:m=some r):ae (fun _=>m) r:=⟨0,fun _ _=>h⟩
theorem ae.ret {α:Type} (r:α):ae (fun _=>some r) r:=⟨0,fun _ _=>rfl⟩
theorem ae.of {α:Type} {m:Nat->Option α} {r:α} (h:∀ F,m F=some r):ae m r:=⟨0,fun F _=>h F⟩
theorem ae.bind {α β:Type} {m:Nat->Option α} {k:Nat->α->Option β} {r:α} {s:β} (h:ae m r) (h':ae (fun F=>k F r) s):ae (fun F=>(m F).bind (k F)) s:=by
 obtain ⟨N,h⟩:=h;obtain ⟨N',h'⟩:=h';refine ⟨max N N',fun F hF => ?_⟩;show (m F).bind (k F) = _;rw[h F (by omega),ada];exact h' F (by omega)
theorem ae.congr {α:Type} {m m':Nat->Option α} {r:α} (h:ae m r) (e:∀ F,m' F=m F):ae m' r:=by
 obtain ⟨N,h⟩:=h;exact ⟨N,fun F hF=>(e F).trans (h F hF)⟩
theorem ae.mono {α:Type} {m:Nat->Option α} {r:α} (hm:∀ F F',F<=F'->Le (m F) (m F')) (F:Nat) (h:m F=some r):ae m r:=⟨F,fun F' hF=>(hm F F' hF).le r h⟩
theorem ae.ex {α:Type} {m:Nat->Option α} {r:α} (h:ae m r):∃ F,m F=some r:=by
 obtain ⟨N,h⟩:=h;exact ⟨N,h N (Nat.le_refl _)⟩
theorem ae.pos {α:Type} {c:Prop} [Decidable c] {m m':Nat->Option α} {r:α} (hc:c) (h:ae m r):ae (fun F=>if c then m F else m' F) r:=h.congr fun F=>by rw[if_pos hc]
theorem ae.neg {α:Type} {c:Prop} [Decidable c] {m m':Nat->Option α} {r:α} (hc:¬ c) (h:ae m' r):ae (fun F=>if c then m F else m' F) r:=h.congr fun F=>by rw[if_neg hc]
theorem ae.eq {α:Type} {m:Nat->Option α} {r r':α} (h:ae m r) (e:r=r'):ae m r':=e ▸ h
def ag {X Y:Type} (f:Nat->X->Option (X ⊕ Y)) (x:X) (y:Y):Prop:=∃ N,∀ F n,N<=F->N<=n->bf (f F) n x=some y
theorem ag.fin {X Y:Type} {f:Nat->X->Option (X ⊕ Y)} {x:X} {y:Y} (h:ae (fun F=>f F x) (.inr y)):ag f x y:=by
 obtain ⟨N,h⟩:=h;refine ⟨N+1,fun F n hF hn => ?_⟩;obtain ⟨n,rfl⟩:∃ k,n=k+1:=⟨n-1,by omega⟩
 unfold bf;have h1:f F x=some (.inr y):=h F (by omega);rw[h1];rfl
theorem ag.step {X Y:Type} {f:Nat->X->Option (X ⊕ Y)} {x x':X} {y:Y} (h:ae (fun F=>f F x) (.inl x')) (h':ag f x' y):ag f x y:=by
 obtain ⟨N,h⟩:=h;obtain ⟨N',h'⟩:=h';refine ⟨max N N'+1,fun F n hF hn => ?_⟩;obtain ⟨n,rfl⟩:∃ k,n=k+1:=⟨n-1,by omega⟩
 unfold bf;have h1:f F x=some (.inl x'):=h F (by omega);rw[h1,ada];exact h' F n (by omega) (by omega)
theorem ag.run {X Y:Type} {f:Nat->X->Option (X ⊕ Y)} {x:X} {y:Y} (h:ag f x y):ae (fun F=>bf (f F) F x) y:=by
 obtain ⟨N,h⟩:=h;exact ⟨N,fun F hF=>h F F hF hF⟩
theorem xm {α β:Type} {c:Prop} [Decidable c] (a b:Option α) (f:α->Option β):(if c then a else b).bind f=if c then a.bind f else b.bind f:=by split <;> rfl
theorem cK {α:Type} (c:Prop) [Decidable c] (a b:α):(if c then some a else some b)=some (if c then a else b):=by split <;> rfl
theorem cL {α β:Type} (c:Prop) [Decidable c] (a a':α) (b b':β):(if c then (a,b) else (a',b'))=(if c then a else a',if c then b else b'):=by split <;> rfl
theorem wrap64 (n:Int) (h : -9223372036854775808<=n) (h':n<=9223372036854775807):IntKind.i64.wrap n=n:=by
 simp only[IntKind.wrap,IntKind.signed,IntKind.bits];simp;omega
end Go.Vm
namespace Go.Vm
open Go.Lib
variable {K:Type} {E:K->Type}
variable {T:Tab E} {P:Program}
def Comes (T:Tab E) (s:Spec K) (ds:List (DV E)) (r:s.R E) (w:World) (vs:List Value) (Y:Nat->Prop) (bl:List Nat) (e:Ending) (w':World):Prop :=
 ∃ v bl1 bl2,e = .returned v/\(bl1++bl2).Nodup/\(∀ b∈bl1++bl2,b<w'.heap.size/\(w.heap.size<=b\/b∈bl)) /\
  zK T w' (fun b=>(Y b\/w.heap.size<=b\/b∈bl)/\b ∉ bl1++bl2) vs (ug T s r).v v bl1 /\
  iP T w' (fun b=>(Y b\/w.heap.size<=b\/b∈bl)/\b ∉ bl1++bl2) ds vs (ug T s r).pins bl2/\l6 (· ∈ bl) w w'
theorem mD {s:Spec K} {M:tyS E s.params->Option (s.R E)} {f:FuncId}
  (h:∀ x r,M x=some r -> ∀ (w:World) (vs:Array Value) (Y:Nat->Prop) (bl:List Nat),ig (Own T w Y) (kN T s.params x) vs.toList bl->bl.Nodup->(∀ b∈bl,¬ Y b/\b<w.heap.size)->T.gl w->(∀ b∈bl,T.gb<=b) ->
   Jy P f vs w (Comes T s (kN T s.params x) r w vs.toList Y bl)):Ctr T P f (ai T s M):=by
 intro ds;unfold ai;cases hx:E4 T s.params (yf s.params ds) with
 | none=>intro r hr; cases hr
 | some x =>
  intro r hr w vs Y bl dD vO hY Ad UP;have GV:=Ff hx;have ET:=Ew dD s.params;rw[<-GV] at ET;have hc:=h x r hr w vs Y bl ET vO hY Ad UP;have key:∀ e w',Comes T s (kN T s.params x) r w vs.toList Y bl e w' -> ∃ v bl1 bl2,e = .returned v/\(bl1++bl2).Nodup/\(∀ b∈bl1++bl2,b<w'.heap.size/\(w.heap.size<=b\/b∈bl)) /\
    zK T w' (fun b=>(Y b\/w.heap.size<=b\/b∈bl)/\b ∉ bl1++bl2) vs.toList (ug T s r).v v bl1 /\
    iP T w' (fun b=>(Y b\/w.heap.size<=b\/b∈bl)/\b ∉ bl1++bl2) ds vs.toList (ug T s r).pins bl2/\l6 (· ∈ bl) w w' /\
    (s.flat T=true->zu T.fk (ug T s r).v=true /\ ∀ p∈(ug T s r).pins,p.all (DV.flat T.fk)=true):=by
   rintro e w' ⟨v,bl1,bl2,h1,h2,h3,h4,h5,h6⟩
   refine ⟨v,bl1,bl2,h1,h2,h3,h4,?_,h6,fun hf=>DI hf⟩;rw[GV] at h5;exact oN _ _ _ _ _ h5
  rcases hc with ⟨h1,h2⟩ | ⟨v,w',h1,h2⟩
  ·exact .inl ⟨h1,h2.mono key⟩
  ·exact .inr ⟨v,w',h1,key _ _ h2⟩
theorem alloc_old (w:World) (o:Obj) (k:Nat) (hk:k<w.heap.size):(w.alloc o).heap[k]? = w.heap[k]? := heap_alloc_old w o k hk
end Go.Vm
