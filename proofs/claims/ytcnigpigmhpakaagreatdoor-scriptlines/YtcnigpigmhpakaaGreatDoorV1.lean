/- Part 1 of an abstract value machine: a framework of this session's own, in which functions of the program are run once and for all inputs. No condition. -/
import Derived.Orders
import Derived.Laws.AppendOwn
import Derived.Laws.OwnMore
import Derived.Below
import Derived.Laws.Cover4
import Derived.Tactics
import Derived.Laws.BytesString
import Derived.Laws.Strings
import Derived.Laws.StructEq
import Derived.ChangeKeysEq
import Derived.Laws.Slices
import Derived.Laws.Entries
import Derived.Laws.DeepStrings4
import Derived.Laws.BytesArg
import Derived.Laws.IdiomStrings
import Derived.Laws.Build
import Derived.Lib.AppendStr
import Derived.Laws.CopyRow
import Derived.Laws.MakeOwn
import Derived.Laws.RangeString
/- The abstract value machine: values, memory, the meaning of each operation, the run of a body, in continuation passing style into Option. -/
namespace Go.Vm
set_option linter.unusedVariables false
inductive DV {K:Type} (E:K→Type):Type where
 | junk
 | int (k:IntKind) (n:Int)
 | bool (b:Bool)
 | str (s:List UInt8)
 | nilp
 | nili
 | nils
 | slc (k:K) (l:List (E k))
 | agg (cs:List (DV E))
 | tup (vs:List (DV E))
 | ifc (t:TypeId) (v:DV E)
 | fn (f:FuncId) (cap:List (DV E))
 | ptr (n off:Nat)
 | rowp (n:Nat)
 | rowv (n b:Nat)
 | eptr (cs:List (DV E)) (off:Nat)
 | rptr (n i:Nat) (cs:List (DV E)) (off:Nat)
 | row (e:TypeId) (k:K) (l:List (E k))
 | pin (t:TypeId) (cs:List (DV E))
 | newb (t:TypeId) (cs:List (DV E))
 | argp (j:Nat)
 | arr (n:Nat) (k:K) (l:List (E k))
 | shp (cs:List (DV E))
 | any (k:K) (x:E k)
 | opt (c:Bool) (cs:List (DV E))
 | cslc (n len:Nat)
 | rws (n lo sz:Nat)
inductive Box {K:Type} (E:K→Type):Type where
 | cells (t:TypeId) (cs:List (DV E))
 | row (e:TypeId) (k:K) (l:List (E k))
 | siter (s:List UInt8) (pos:Nat)
 | arr (t:TypeId) (n:Nat) (k:K) (l:List (E k))
variable {K:Type} {E:K→Type}
abbrev Mem (E:K→Type):=List (Nat×Box E)
structure St (E:K→Type):Type where
 tmps:List (DV E)
 mem:Mem E
def fZ (k:IntKind) (n:Int):Bool:=match k with
 | .u8=>decide (0≤n) && decide (n≤255)
 | _=>true
def DV.inr:DV E→Prop
 | .int k n=>fZ k n=true
 | _=>True
def DV.flat (fk:K→Bool):DV E→Bool
 | .int .. | .bool _ | .str _ | .nilp | .nili | .nils=>true
 | .row _ k _=>fk k
 | .arr _ k _=>fk k
 | .argp _=>true
 | _=>false
def tj (fk:K→Bool):DV E→Bool
 | .tup vs=>vs.all (DV.flat fk)
 | .agg cs=>cs.all (DV.flat fun _=>false)
 | d=>d.flat fk
def DV.plain:DV E→Bool
 | .int .. | .bool _ | .str _ | .nilp | .nili | .nils | .slc .. | .ifc .. | .fn .. | .shp _ | .any .. | .opt .. => true
 | _=>false
inductive AsD (K:Type) where
 | unit | bool | int | str | slc (k:K)
def rq (gU:(k:K)→E k→Bool) (gB:(k:K)→E k→Option Bool) (gI:(k:K)→E k→Option Int) (gS:(k:K)→E k→Option (List UInt8)) (gL:(k k':K)→E k→Option (List (E k')))
  (k:K) (a:AsD K) (x:E k):Option (DV E):=match a with
 | .unit=>if gU k x=true then some (.agg []) else none
 | .bool=>(gB k x).map .bool
 | .int=>(gI k x).map (.int .i64)
 | .str=>(gS k x).map .str
 | .slc k'=>(gL k k' x).map (.slc k')
structure Tab (E:K→Type) where
 deq:DecidableEq K
 kind:TypeId→Option K
 sz:K→Nat
 enc:(k:K)→E k→List (DV E)
 dec:(k:K)→List (DV E)→Option (E k)
 ofStr:(k:K)→List UInt8→Option (List (E k))
 toStr:(k:K)→List (E k)→Option (List UInt8)
 xC:(k:K)→List (E k)→Option (List Int)
 gl:World→Prop
 gb:Nat
 gl_sz : ∀ w,gl w→gb≤w.heap.size
 gl_ok : ∀ w w',gl w→(∀ b,b<gb→w'.heap[b]? = w.heap[b]?)→gl w'
 dyn:(k:K)→E k→DV E
 und:(k:K)→DV E→Option (E k)
 asK:K→TypeId→Option (AsD K)
 gU:(k:K)→E k→Bool
 gZ:(k:K)→E k→Bool
 gB:(k:K)→E k→Option Bool
 gI:(k:K)→E k→Option Int
 gS:(k:K)→E k→Option (List UInt8)
 gL:(k k':K)→E k→Option (List (E k'))
 fk:K→Bool
 dyn_pl : ∀ k x,(dyn k x).plain=true
 und_ok : ∀ k d x,und k d=some x→dyn k x=d
 as_ok : ∀ k t a,asK k t=some a → ∀ x,(∀ d,rq gU gB gI gS gL k a x=some d→dyn k x = .ifc t d)∧(rq gU gB gI gS gL k a x=none→dyn k x = .nili ∨ ∃ t' d,dyn k x = .ifc t' d∧t'≠t)
 gz_ok : ∀ k x,(gZ k x=true→dyn k x = .nili)∧(gZ k x=false → ∃ t d,dyn k x = .ifc t d)
 fk_ok : ∀ k x,fk k=true→(enc k x).all (DV.flat fun _=>false)=true
 enc_len : ∀ k x,(enc k x).length=sz k
 dec_ok : ∀ k cs x,(∀ c∈cs,c.inr)→dec k cs=some x→enc k x=cs
 ofStr_ok : ∀ k s l,ofStr k s=some l→l.length=s.length ∧ ∀ i (h:i<l.length) (h':i<s.length),enc k l[i] = [.int .u8 (s[i].toNat:Int)]
 runes_ok : ∀ k s l,xC k l=some s→s.length=l.length ∧ ∀ i (h:i<l.length) (h':i<s.length),enc k l[i] = [.int .i32 s[i]]
 toStr_ok : ∀ k s l,toStr k l=some s→l.length=s.length ∧ ∀ i (h:i<l.length) (h':i<s.length),enc k l[i] = [.int .u8 (s[i].toNat:Int)]
structure Out (E:K→Type) where
 v:DV E
 kills:List Nat
 mem:Option (Mem E)
def val (v:DV E):Out E:=⟨v,[],none⟩
inductive Cal (E:K→Type):Type 1 where
 | ret (R:Type) (m:Option R) (out:R→Out E)
 | retO (R:Type) (m:Option R) (out:R→Option (Out E))
 | br (c:Bool) (x y:Cal E)
def Cal.bad:Cal E := .ret Unit none fun _=>val .junk
def Cal.one (o:Out E):Cal E := .ret Unit (some ()) fun _=>o
def Cal.v (d:DV E):Cal E := .one (val d)
def Cal.chk (c:Bool) (x:Cal E):Cal E := .br c x .bad
def Cal.run {β:Type}:Cal E→(Out E→Option β)→Option β
 | .ret _ m out,k=>m.bind fun r=>k (out r)
 | .retO _ m out,k=>m.bind fun r=>(out r).bind k
 | .br c x y,k=>if c=true then x.run k else y.run k
def Cal.has:Cal E→Out E→Prop
 | .ret _ m out,o => ∃ r,m=some r∧out r=o
 | .retO _ m out,o => ∃ r,m=some r∧out r=some o
 | .br c x y,o=>if c=true then x.has o else y.has o
theorem Cal.zo {β:Type} (c:Cal E) (k:Out E→Option β) (r:β) (h:c.run k=some r) : ∃ o,c.has o∧k o=some r:=by
 induction c with
 | ret R m out =>
  simp only [Cal.run] at h
  obtain ⟨x,hx,hk⟩:=Option.bind_eq_some_iff.1 h
  exact ⟨out x,⟨x,hx,rfl⟩,hk⟩
 | retO R m out =>
  simp only [Cal.run] at h
  obtain ⟨x,hx,hk⟩:=Option.bind_eq_some_iff.1 h
  obtain ⟨o,ho,hk⟩:=Option.bind_eq_some_iff.1 hk
  exact ⟨o,⟨x,hx,ho⟩,hk⟩
 | br c x y ihx ihy =>
  simp only [Cal.run] at h
  cases c
  ·obtain ⟨o,ho,hk⟩:=ihy (by simpa using h); exact ⟨o,by simpa [Cal.has] using ho,hk⟩
  ·obtain ⟨o,ho,hk⟩:=ihx (by simpa using h); exact ⟨o,by simpa [Cal.has] using ho,hk⟩
def RK:Nat:=1000000000000
inductive Md where
 | look | give | lend
 deriving DecidableEq
def DV.fv (ns:List Nat):DV E→Bool
 | .ptr n _ | .rowp n | .rowv n _ | .argp n | .cslc n _ | .rws n _ _=>ns.contains n
 | .rptr n _ _ _=>ns.contains n || ns.contains (n+RK)
 | _=>false
def DV.du (ns:List Nat):DV E→Bool
 | .tup vs=>vs.any (DV.fv ns)
 | d=>d.fv ns
def DV.kill (ns:List Nat) (d:DV E):DV E:=if d.du ns then .junk else d
def Box.kill (ns:List Nat):Box E→Box E
 | .cells t cs => .cells t (cs.map (DV.kill ns))
 | b=>b
def look:Mem E→Nat→Option (Box E)
 | [],_=>none
 | (k,b) :: r,n=>if k=n then some b else look r n
def ie:Mem E→Nat→Box E→Mem E
 | [],_,_ => []
 | (k,b) :: r,n,x=>if k=n then (k,x) :: r else (k,b) :: ie r n x
def drop:Mem E→Nat→Mem E
 | [],_ => []
 | (k,b) :: r,n=>if k=n then drop r n else (k,b) :: drop r n
def cK (ns:List Nat) (m:Mem E):Mem E:=m.map fun x=>(x.1,x.2.kill ns)
def gk (m:Mem E) (n:Nat) (b:Box E):Mem E:=(n,b) :: cK [n] (drop m n)
def St.set (st:St E) (d:Nat) (v:DV E):St E:={ st with tmps:=st.tmps.set d v }
def St.app (st:St E) (dst:Option Nat) (o:Out E):St E :=
 let t:=match o.kills with
  | []=>st.tmps
  | ns=>st.tmps.map (DV.kill ns)
 {tmps:=match dst with
   | some d=>t.set d o.v
   | none=>t
  mem:=match o.mem with
   | some m=>m
   | none=>st.mem }
def ofConst:Value→DV E
 | .int k n=>if fZ k n then .int k n else .junk
 | .bool b => .bool b
 | .string s => .str s.data.toList
 | .pointer none => .nilp
 | .nilIface => .nili
 | .slice none 0 0 => .nils
 | _ => .junk
def St.ev (st:St E):Operand→DV E
 | .tmp t=>st.tmps.getD t .junk
 | .const v=>ofConst v
 | .global _ => .junk
 | .func f => .fn f []
def DV.lay:DV E→Bool
 | .agg cs=>cs.all DV.plain
 | d=>d.plain
def DV.share:DV E→Bool
 | .arr .. => true
 | d=>d.lay
def DV.cells:DV E→List (DV E)
 | .agg cs=>cs
 | d => [d]
def DV.ej:DV E→Bool
 | .agg _ | .tup _ | .eptr .. | .rptr .. | .row .. | .pin .. | .newb .. | .arr .. | .cslc .. | .rws .. => false
 | _=>true
def idx {α:Type} (l:List α) (i:Int):Option α:=if 0≤i then l[i.toNat]? else none
def sub {α:Type} (l:List α) (lo hi:Int):Option (List α) :=
 if 0≤lo∧lo≤hi∧hi≤(l.length:Int) then some ((l.drop lo.toNat).take (hi.toNat - lo.toNat)) else none
def Jq {α:Type} (l:List α) (lo hi mx:Int):Option (List α) :=
 if hi≤mx∧mx≤(l.length:Int) then sub l lo hi else none
def agd {α:Type} (l:List α) (i:Nat) (z:α):α:=l.getD i z
def GY (off:Nat) (j:Int):Nat:=match off with
 | 0=>j.toNat
 | o+1=>o+1+j.toNat
def jw {α:Type} (l:List α) (i:Nat):Option α:=l[i]?
def sx {α:Type} (l:List α) (i:Nat) (y:α):Option (List α):=if i<l.length then some (l.set i y) else none
def mZ (k:IntKind) (a b:Int):Int:=k.wrap (BitVec.ofInt k.bits a &&& BitVec.ofInt k.bits b).toNat
def ior (k:IntKind) (a b:Int):Int:=k.wrap (BitVec.ofInt k.bits a ||| BitVec.ofInt k.bits b).toNat
def Kl (k:IntKind) (a b:Int):Int:=k.wrap (BitVec.ofInt k.bits a ^^^ BitVec.ofInt k.bits b).toNat
def I9 (k:IntKind) (a b:Int):Int:=k.wrap (BitVec.ofInt k.bits a &&& ~~~(BitVec.ofInt k.bits b)).toNat
def Kx (k:IntKind) (n:Int):Int:=k.wrap (BitVec.ofInt k.bits (if k.signed then -1 else k.max) ^^^ BitVec.ofInt k.bits n).toNat
def yS (op:BinOp) (k:IntKind) (a b:Int):Cal E :=
 match op with
 | .add => .v (.int k (k.wrap (a+b)))
 | .sub => .v (.int k (k.wrap (a - b)))
 | .mul => .v (.int k (k.wrap (a * b)))
 | .quo => .chk (decide (b≠0)) (.v (.int k (k.wrap (a.tdiv b))))
 | .rem => .chk (decide (b≠0)) (.v (.int k (a.tmod b)))
 | .and => .v (.int k (mZ k a b))
 | .or => .v (.int k (ior k a b))
 | .xor => .v (.int k (Kl k a b))
 | .andNot => .v (.int k (I9 k a b))
 | .eql => .v (.bool (decide (a=b)))
 | .neq => .v (.bool (!decide (a=b)))
 | .lss => .v (.bool (decide (a<b)))
 | .leq => .v (.bool (decide (a≤b)))
 | .gtr => .v (.bool (decide (b<a)))
 | .geq => .v (.bool (decide (b≤a)))
 | _ => .bad
def yD (op:BinOp) (a b:List UInt8):Cal E :=
 match op with
 | .add => .chk (decide (a.length+b.length≤9223372036854775807)) (.v (.str (a ++ b)))
 | .eql => .v (.bool (decide (a=b)))
 | .neq => .v (.bool (!decide (a=b)))
 | .lss => .v (.bool (Op.bytesLess a b))
 | .leq => .v (.bool (Op.bytesLess a b || decide (a=b)))
 | .gtr => .v (.bool (!(Op.bytesLess a b || decide (a=b))))
 | .geq => .v (.bool (!Op.bytesLess a b))
 | _ => .bad
def eqT (P:Program):Nat→TypeId→List (DV E)→List (DV E)→Option Bool
 | 0,_,_,_=>none
 | d+1,t,ds,es =>
  match P.underlying t,ds,es with
  | some .bool,[.bool a],[.bool b]=>some (a == b)
  | some (.int _),[.int k a],[.int k' b]=>if k=k' then some (decide (a=b)) else none
  | some .string,[.str a],[.str b]=>some (decide (a=b))
  | some (.struct fs),_,_=>if P.stoodInHeld t then none else eqFs (eqT P d) P fs.toList ds es
  | _,_,_=>none
where
 eqFs (f:TypeId→List (DV E)→List (DV E)→Option Bool) (P:Program):List Field→List (DV E)→List (DV E)→Option Bool
  | [],_,_=>some true
  | x :: xs,ds,es=>if x.name == "_" then none else
   (f x.type ((ds.drop x.offset).take (P.cellsOf x.type)) ((es.drop x.offset).take (P.cellsOf x.type))).bind fun p=>(eqFs f P xs ds es).map (p && ·)
def shl (k:IntKind) (a b:Int):Int:=k.wrap (a * 2 ^ (min b.toNat k.bits))
def shr (k:IntKind) (a b:Int):Int:=a.fdiv (2 ^ (min b.toNat k.bits))
def zn (P:Program) (t:TypeId):Bool:=match P.underlying t with
 | some .bool=>true
 | _=>false
def vn (P:Program) (t:TypeId):Bool:=match P.underlying t with
 | some (.pointer _)=>true
 | _=>false
def fh (P:Program) (t:TypeId):Bool:=match P.underlying t with
 | some (.interface _)=>true
 | _=>false
def u4 (P:Program) (t:TypeId):Bool:=match P.underlying t with
 | some .string=>true
 | _=>false
def dE (P:Program) (t:TypeId):Bool:=match P.underlying t with
 | some (.struct _) | some (.array _ _)=>true
 | _=>false
def BO (P:Program) (op:BinOp) (xt:TypeId) (cx cy:Bool) (x y:DV E):Cal E :=
 match x,y with
 | .int k a, .int k' b =>
  match op with
  | .shl => .chk (decide (0≤b)) (.v (.int k (shl k a b)))
  | .shr => .chk (decide (0≤b)) (.v (.int k (shr k a b)))
  | _=>if k=k' then yS op k a b else .bad
 | .str a, .str b=>yD op a b
 | .bool a, .bool b=>if zn P xt then
   match op with
   | .eql => .v (.bool (a == b))
   | .neq => .v (.bool (!(a == b)))
   | _ => .bad
  else .bad
 | .ptr _ _, .nilp=>if vn P xt then
   match op with
   | .eql => .v (.bool false)
   | .neq => .v (.bool true)
   | _ => .bad
  else .bad
 | .opt c _, .nilp=>if vn P xt then
   match op with
   | .eql => .v (.bool (!c))
   | .neq => .v (.bool c)
   | _ => .bad
  else .bad
 | .nilp, .nilp=>if vn P xt then
   match op with
   | .eql => .v (.bool true)
   | .neq => .v (.bool false)
   | _ => .bad
  else .bad
 | .ifc _ _, .nili=>if fh P xt then
   match op with
   | .eql => .v (.bool false)
   | .neq => .v (.bool true)
   | _ => .bad
  else .bad
 | .nili, .nili=>if fh P xt && (cx || cy) then
   match op with
   | .eql => .v (.bool true)
   | .neq => .v (.bool false)
   | _ => .bad
  else .bad
 | .agg a, .agg b=>if dE P xt && !P.eqGuardType P.depth xt then
   match op,eqT P 6 xt a b with
   | .eql,some r => .v (.bool r)
   | .neq,some r => .v (.bool (!r))
   | _,_ => .bad
  else .bad
 | _,_ => .bad
def unD (op:UnOp) (x:DV E):Cal E :=
 match op,x with
 | .neg, .int k n => .v (.int k (k.wrap (0 - n)))
 | .xor, .int k n => .v (.int k (Kx k n))
 | .not, .bool b => .v (.bool !b)
 | _,_ => .bad
def pN (n:Int):List UInt8:=(Utf8.encode n).data.toList
def uH (l:List Int):List UInt8:=l.flatMap pN
def cq (cs:List (DV E)) (off:Nat) (xs:List (DV E)):List (DV E):=cs.take off ++ xs ++ cs.drop (off+xs.length)
def Program.oj (P:Program) (t:TypeId) (i:Nat):Option (Nat×TypeId) :=
 match P.underlying t with
 | some (.struct fs)=>(fs[i]?).map fun f=>(f.offset,f.type)
 | _=>none
def qm (P:Program) (t:TypeId) (cs:List (DV E)) (off:Nat):DV E :=
 if dE P t then .agg ((cs.drop off).take (P.cellsOf t)) else cs.getD off .junk
def gq:Value→DV E
 | .agg cs => .agg (cs.toList.map ofConst)
 | v=>ofConst v
def nR (T:Tab E) (k k':K) (l:List (E k')):Option (List (E k)) :=
 match T.deq k' k with
 | .isTrue h=>some (h ▸ l)
 | .isFalse _=>none
def Cal.opt (m:Option (DV E)):Cal E:=match m with
 | some d => .v d
 | none => .bad
def jF (T:Tab E) (k:K):Nat→List (DV E)→Option (List (E k))
 | 0,_=>some []
 | n+1,cs=>(T.dec k (cs.take (T.sz k))).bind fun x=>(jF T k n (cs.drop (T.sz k))).map (x :: ·)
structure Orc where
 rv:List Nat := []
 gv:List Nat := []
 ln:List Nat := []
 pr:List Nat := []
 loops:List (Nat×List Nat×List Nat) := []
 frz:List (Nat×List Nat) := []
 rets:List Bool := []
 fuel:Nat:=0
def Tab.isK (T:Tab E) (P:Program) (e:TypeId) (k:K):Bool :=
 match T.kind e with
 | some k'=>match T.deq k' k with
  | .isTrue _=>T.sz k == P.cellsOf e && !(T.sz k == 0)
  | .isFalse _=>false
 | none=>false
def qX:DV E→Option Int
 | .int _ n=>some n
 | _=>none
def asInt:DV E→Option Int
 | .int .i64 n=>some n
 | _=>none
def oY (ρ:Operand→DV E) (d:Int):Option Operand→Option Int
 | none=>some d
 | some x=>qX (ρ x)
def jz (P:Program) (t:TypeId):Option TypeId:=match P.underlying t with
 | some (.slice e)=>some e
 | _=>none
def DS (T:Tab E) (P:Program) (t:TypeId):Option (Nat×K):=match P.underlying t with
 | some (.array n e)=>match T.kind e with
  | some k=>if T.isK P e k && T.sz k == 1 && P.cellsOf t == n then some (n,k) else none
  | none=>none
 | _=>none
def Fa (T:Tab E) (P:Program) (e:TypeId) (k:K):Option (E k) :=
 match (P.info? e).bind (·.zero) with
 | some z=>T.dec k (gq z).cells
 | none=>none
def rG (T:Tab E) (P:Program) (t:TypeId) (cs:List (DV E)):Option (Nat×(k:K)×List (E k)):=match DS T P t with
 | some (n,k)=>if cs.length == n && cs.all DV.plain then match jF T k n cs with
   | some l=>some (n,⟨k,l⟩)
   | none=>none
  else none
 | none=>none
def vL (T:Tab E) (k:K) (l:List (E k)) (z:E k) (n:Nat):List (DV E):=(List.range n).flatMap fun i=>T.enc k (agd l i z)
def qE (T:Tab E) (P:Program) (t:TypeId) (d:DV E):DV E:=match d with
 | .arr n k l=>match P.underlying t with
  | some (.array _ e)=>match Fa T P e k with
   | some z => .agg (vL T k l z n)
   | none => .junk
  | _ => .junk
 | d=>d
def mS (T:Tab E) (P:Program) (fs:Array Field) (ρ:Operand→DV E):List (Nat×Operand)→List (DV E)→Option (List (DV E))
 | [],cs=>some cs
 | (i,x) :: r,cs=>match fs[i]? with
  | some f=>if (qE T P f.type (ρ x)).cells.length=P.cellsOf f.type∧(qE T P f.type (ρ x)).lay=true∧f.offset+P.cellsOf f.type≤cs.length then
    mS T P fs ρ r (cq cs f.offset (qE T P f.type (ρ x)).cells) else none
  | none=>none
def nC (ρ:Operand→DV E):List (Nat×Operand)→List (DV E)→Option (List (DV E))
 | [],cs=>some cs
 | (i,x) :: r,cs=>if (ρ x).plain=true∧i+1≤cs.length then nC ρ r (cq cs i [ρ x]) else none
def CQ (T:Tab E) (P:Program) (e:TypeId) (k:K) (l:List (E k)):Option (List UInt8) :=
 match P.underlying e with
 | some (.int .u8)=>T.toStr k l
 | some (.int .i32)=>match T.xC k l with
  | some ns=>some (uH ns)
  | none=>none
 | _=>none
def C7 (T:Tab E) (P:Program) (src dst:TypeId) (d:DV E):Option (Cal E) :=
 match P.underlying src,P.underlying dst,d with
 | some _,some (.int k), .int _ n=>some (.v (.int k (k.wrap n)))
 | some _,some .string, .int _ n=>some (.v (.str (pN n)))
 | some _,some .string, .str s=>some (.v (.str s))
 | some (.slice e),some .string, .slc k l =>
  match CQ T P e k l with
  | some s=>some (.v (.str s))
  | none=>none
 | _,_,_=>none
def qP (P:Program) (b:Builtin) (ds:List (DV E)) (us:List (Option TypeDesc)):Option (Cal E) :=
 match b,ds,us with
 | .len,[.str s],[some .string]=>some (.v (.int .i64 s.length))
 | .len,[.slc _ l],[some (.slice _)]=>some (.v (.int .i64 l.length))
 | .len,[.rowv _ b],[some (.slice _)]=>some (.v (.int .i64 b))
 | .len,[.cslc _ b],[some (.slice _)]=>some (.v (.int .i64 b))
 | .min,[.int k a, .int k' b],_=>if k=k' then some (.v (.int k (if b<a then b else a))) else none
 | .max,[.int k a, .int k' b],_=>if k=k' then some (.v (.int k (if a<b then b else a))) else none
 | _,_,_=>none
def uu (T:Tab E) (P:Program) (op:BinOp) (xt:TypeId) (cy:Bool) (x y:DV E):Option (Cal E) :=
 match x,y with
 | .any k a, .nili=>if fh P xt && cy then
   match op with
   | .eql=>some (.v (.bool (T.gZ k a)))
   | .neq=>some (.v (.bool (!T.gZ k a)))
   | _=>none
  else none
 | _,_=>none
def tz {α:Type}:Option α→Bool
 | some _=>true
 | none=>false
def vZ (P:Program) (t:TypeId):DV E:=match (P.info? t).bind (·.zero) with
 | some z=>gq z
 | none => .junk
def taD (T:Tab E) (P:Program) (t:TypeId) (ok:Bool) (x:DV E):Option (Cal E) :=
 if fh P t || (P.underlying t).isNone || ((P.info? t).bind (·.zero)).isNone then none else
 let yes:DV E→DV E:=fun d=>if ok then .tup [d, .bool true] else d
 let no:Cal E:=if ok then .v (.tup [vZ P t, .bool false]) else .bad
 match x with
 | .nili=>some no
 | .ifc t' d=>if t'=t then some (.v (yes d)) else some no
 | .any k x=>match T.asK k t with
  | some .unit=>some (.br (T.gU k x) (.v (yes (.agg []))) no)
  | some .bool=>some (.br (tz (T.gB k x)) (.ret Bool (T.gB k x) fun b=>val (yes (.bool b))) no)
  | some .int=>some (.br (tz (T.gI k x)) (.ret Int (T.gI k x) fun n=>val (yes (.int .i64 n))) no)
  | some .str=>some (.br (tz (T.gS k x)) (.ret (List UInt8) (T.gS k x) fun s=>val (yes (.str s))) no)
  | some (.slc k')=>some (.br (tz (T.gL k k' x)) (.ret (List (E k')) (T.gL k k' x) fun l=>val (yes (.slc k' l))) no)
  | none=>none
 | _=>none
def pS (T:Tab E) (P:Program) (orc:Orc) (o:Oper) (ρ:Operand→DV E):Option (Cal E) :=
 match o.op with
 | .move x | .assign x =>
  match ρ x with
  | .nils=>match (jz P o.type).bind fun e=>(T.kind e).map fun k=>(e,k) with
   | some (_,k)=>if (o.dst.map orc.rv.contains).getD false then none else some (.v (.slc k []))
   | none=>some (.v .nils)
  | d=>some (.v d)
 | .pick c a b =>
  match ρ c with
  | .bool true=>some (.v (ρ a))
  | .bool false=>some (.v (ρ b))
  | _=>none
 | .binOp op xt x y _ =>
  match uu T P op xt (match y with | .const _=>true | _=>false) (ρ x) (ρ y) with
  | some c=>some c
  | none=>some (BO P op xt (match x with | .const _=>true | _=>false) (match y with | .const _=>true | _=>false) (ρ x) (ρ y))
 | .unOp op _ x=>some (unD op (ρ x))
 | .convert src dst x=>C7 T P src dst (ρ x)
 | .nilCheck x =>
  match ρ x with
  | .ptr n off=>some (.v (.ptr n off))
  | .eptr cs off=>some (.v (.eptr cs off))
  | .shp cs=>some (.v (.shp cs))
  | .opt c cs=>some (.chk c (.v (.shp cs)))
  | _=>none
 | .fieldAddr s x f =>
  match Program.oj P s f,ρ x with
  | some (off,ft), .ptr n o=>if P.cellsOf ft=0 then none else some (.v (.ptr n (o+off)))
  | some (off,ft), .eptr cs o=>if P.cellsOf ft=0 then none else some (.v (.eptr cs (o+off)))
  | some (off,ft), .rptr n i cs o=>if P.cellsOf ft=0 then none else some (.v (.rptr n i cs (o+off)))
  | some (off,ft), .shp cs=>if P.cellsOf ft=0 then none else some (.v (.eptr cs off))
  | some (off,ft), .opt c cs=>if P.cellsOf ft=0 then none else some (.chk c (.v (.eptr cs off)))
  | _,_=>none
 | .field xt x f =>
  match Program.oj P xt f,ρ x with
  | some (off,ft), .agg cs=>if off+P.cellsOf ft≤cs.length∧0<P.cellsOf ft∧(P.underlying ft).isSome=true then some (.v (qm P ft cs off)) else none
  | _,_=>none
 | .indexAddr t x i =>
  match jz P t,ρ x,qX (ρ i) with
  | some e, .slc k l,some n=>if T.isK P e k=true then some (.ret (E k) (idx l n) fun a=>val (.eptr (T.enc k a) 0)) else none
  | _,_,_=>none
 | .index t x i =>
  match P.underlying t,ρ x,qX (ρ i) with
  | some .string, .str s,some n=>some (.ret UInt8 (idx s n) fun b=>val (.int .u8 (b.toNat:Int)))
  | some (.array m e), .arr m' k l,some n=>if T.isK P e k && T.sz k == 1 && m == m' && !dE P e && (P.underlying e).isSome then some (.ret (E k) (idx l n) fun a=>val ((T.enc k a).getD 0 .junk)) else none
  | _,_,_=>none
 | .slice t x lo hi none =>
  match P.underlying t,ρ x with
  | some .string, .str s =>
   match oY ρ 0 lo,oY ρ s.length hi with
   | some a,some b=>some (.ret (List UInt8) (sub s a b) fun r=>val (.str r))
   | _,_=>none
  | some (.slice e), .slc k l =>
   match oY ρ 0 lo,oY ρ l.length hi with
   | some a,some b=>if T.isK P e k=true then some (.ret (List (E k)) (sub l a b) fun r=>val (.slc k r)) else none
   | _,_=>none
  | _,_=>none
 | .slice t x lo (some hi) (some mx) =>
  match P.underlying t,ρ x with
  | some (.slice e), .slc k l =>
   match oY ρ 0 lo,qX (ρ hi),qX (ρ mx) with
   | some a,some b,some m=>if T.isK P e k=true then some (.ret (List (E k)) (Jq l a b m) fun r=>val (.slc k r)) else none
   | _,_,_=>none
  | _,_=>none
 | .build t parts =>
  match P.underlying t,(P.info? t).bind (·.zero) with
  | some (.struct fs),some z =>
   if fs.toList.all (fun f=>(P.info? f.type).isSome) then
    match mS T P fs ρ parts.toList (gq z).cells with
    | some cs=>some (.v (.agg cs))
    | none=>none
   else none
  | some (.array _ _),some z =>
   match nC ρ parts.toList (gq z).cells with
   | some cs=>match rG T P t cs with
    | some (n,⟨k,l⟩)=>some (.v (.arr n k l))
    | none=>none
   | none=>none
  | _,_=>none
 | .extract x i =>
  match ρ x with
  | .tup vs=>if i<vs.length then some (.v (vs.getD i .junk)) else none
  | _=>none
 | .load t x =>
  match ρ x with
  | .eptr cs off=>if off+P.cellsOf t≤cs.length∧0<P.cellsOf t∧(P.underlying t).isSome=true then some (.v (qm P t cs off)) else none
  | .rptr _ _ cs off=>if off+P.cellsOf t≤cs.length∧0<P.cellsOf t∧(P.underlying t).isSome=true then some (.v (qm P t cs off)) else none
  | .shp cs=>if 0+P.cellsOf t≤cs.length∧0<P.cellsOf t∧(P.underlying t).isSome=true then some (.v (qm P t cs 0)) else none
  | _=>none
 | .makeFunc (.func f) first caps=>if first.isEmpty && (caps.toList.map ρ).all DV.plain then some (.v (.fn f (caps.toList.map ρ))) else none
 | .typeAssert x _ t ok=>taD T P t ok (ρ x)
 | .makeInterface t x=>if (ρ x).share && !fh P t && (P.underlying t).isSome then some (.v (.ifc t (ρ x))) else none
 | .call { callee := .builtin b,args,argTypes }=>qP P b (args.toList.map ρ) (argTypes.toList.map P.underlying)
 | _=>none
def xN (P:Program) (t:TypeId) (cs:List (DV E)) (off:Nat):DV E :=
 if dE P t then .agg (((cs.drop off).take (P.cellsOf t)).map fun d=>if d.plain then d else .junk) else cs.getD off .junk
structure Res (E:K→Type) where
 v:DV E
 pins:List (List (DV E))
structure Con (E:K→Type):Type 1 where
 R:Type
 m:Option R
 out:R→Res E
 fl:Bool:=false
def Con.bad:Con E:=⟨Unit,none,fun _=>⟨.junk,[]⟩,false⟩
abbrev Env (E:K→Type):=FuncId→List (DV E)→Con E
def jd (me:Nat) (mem:Mem E) (d:DV E):DV E :=
 match d with
 | .argp n=>if n=me then .argp 0 else .junk
 | .rowp n=>match look mem n with
  | some (.row e k l) => .row e k l
  | _ => .junk
 | d=>if d.plain then d else .junk
def bX (mem:Mem E) (md:Md) (d:DV E):DV E :=
 match d with
 | .rowp n=>match look mem n with
  | some (.row e k l)=>match md with
   | .give => .row e k l
   | .look => .slc k l
   | .lend => .newb e [.row e k l]
  | _ => .junk
 | .rowv n b=>match look mem n with
  | some (.row _ k l) => .slc k (l.take b)
  | _ => .junk
 | .ptr n 0=>match look mem n with
  | some (.cells t cs) => .pin t (cs.map (jd n mem))
  | _ => .junk
 | d=>if d.share then d else .junk
end Go.Vm
/- The abstract value machine: how its values stand to Go's memory. -/
namespace Go.Vm
set_option linter.unusedVariables false
variable {K:Type} {E:K→Type}
def ik (T:Tab E) (k:K) (l:List (E k)):List (DV E):=l.flatMap (T.enc k)
inductive Rep (T:Tab E) (w:World) (X:Nat→Prop):DV E→Value→Prop
 | junk (v:Value):Rep T w X .junk v
 | int {k:IntKind} {n:Int} (h:fZ k n=true):Rep T w X (.int k n) (.int k n)
 | bool (b:Bool):Rep T w X (.bool b) (.bool b)
 | str (s:List UInt8):Rep T w X (.str s) (.string ⟨s.toArray⟩)
 | nilp:Rep T w X .nilp (.pointer none)
 | nili:Rep T w X .nili .nilIface
 | nils:Rep T w X .nils (.slice none 0 0)
 | slcn (k:K):Rep T w X (.slc k []) (.slice none 0 0)
 | slcz (k:K) (a:Addr) (cap:Nat):Rep T w X (.slc k []) (.slice (some a) 0 cap)
 | slc {k:K} {l:List (E k)} {b off:Nat} (cap:Nat) (f:Nat→Value) (hn:l.length≤cap) (hX:0<l.length→X b∧b<w.heap.size)
   (hc : ∀ j,j<l.length * T.sz k→w.cell? ⟨b,off+j,none⟩=some (f j))
   (hr : ∀ i (hi:i<l.length) (c:Nat) (hcc:c<(T.enc k l[i]).length),Rep T w X (T.enc k l[i])[c] (f (i * T.sz k+c)))
   (ho : ∀ i (hi:i<l.length) (c:Nat) (hcc:c<(T.enc k l[i]).length),(T.enc k l[i])[c].plain=true) :
   Rep T w X (.slc k l) (.slice (some ⟨b,off,none⟩) l.length cap)
 | agg {cs:List (DV E)} {vs:Array Value} (hl:cs.length=vs.size) (hr : ∀ i (hi:i<cs.length) (hi':i<vs.size),Rep T w X cs[i] vs[i]) :
   Rep T w X (.agg cs) (.agg vs)
 | ifc (t:TypeId) {d:DV E} {v:Value} (h:Rep T w X d v):Rep T w X (.ifc t d) (.iface t v)
 | fn (f:FuncId) {cs:List (DV E)} {vs:Array Value} (hl:cs.length=vs.size) (hr : ∀ i (hi:i<cs.length) (hi':i<vs.size),Rep T w X cs[i] vs[i]) :
   Rep T w X (.fn f cs) (.func (.func f) #[] vs)
 | shp {cs:List (DV E)} {b o:Nat} (f:Nat→Value) (hX:X b∧b<w.heap.size) (hc : ∀ j,j<cs.length→w.cell? ⟨b,o+j,none⟩=some (f j))
   (hr : ∀ j (h:j<cs.length),Rep T w X cs[j] (f j)) (ho : ∀ j (h:j<cs.length),cs[j].plain=true):Rep T w X (.shp cs) (.pointer (some ⟨b,o,none⟩))
 | optn (cs:List (DV E)):Rep T w X (.opt false cs) (.pointer none)
 | opts {cs:List (DV E)} {v:Value} (h:Rep T w X (.shp cs) v):Rep T w X (.opt true cs) v
 | any {k:K} {x:E k} {v:Value} (h:Rep T w X (T.dyn k x) v):Rep T w X (.any k x) v
 | arr {n:Nat} {k:K} {l:List (E k)} {v:Value} (hl:l.length=n) (hp:(ik T k l).all DV.plain=true) (h:Rep T w X (.agg (ik T k l)) v):Rep T w X (.arr n k l) v
theorem Rep.mono {T:Tab E} {w w':World} {X X':Nat→Prop} {d:DV E} {v:Value} (h:Rep T w X d v)
  (hm : ∀ b,X b→b<w.heap.size→X' b∧b<w'.heap.size∧w'.heap[b]? = w.heap[b]?):Rep T w' X' d v:=by
 induction h with
 | junk v=>exact .junk v
 | int h=>exact .int h
 | bool b=>exact .bool b
 | str s=>exact .str s
 | nilp=>exact .nilp
 | nili=>exact .nili
 | nils=>exact .nils
 | slcn k=>exact .slcn k
 | slcz k a cap=>exact .slcz k a cap
 | @slc k l b off cap f hn hX hc hr ho ih =>
  by_cases h0:0<l.length
  ·obtain ⟨hx,hb⟩:=hX h0
   obtain ⟨hx',hb',he⟩:=hm b hx hb
   exact .slc cap f hn (fun _=>⟨hx',hb'⟩) (fun j hj=>by rw [← hc j hj]; exact World.cell?_of_block (a:=⟨b,off+j,none⟩) he) ih ho
  ·have:l = []:=by cases l <;> simp_all
   subst this
   exact .slc cap f hn (fun h=>absurd h h0) (fun j hj=>by simp at hj) ih ho
 | agg hl hr ih=>exact .agg hl ih
 | ifc t h ih=>exact .ifc t ih
 | fn f hl hr ih=>exact .fn f hl ih
 | shp f hX hc hr ho ih =>
  obtain ⟨hx',hb',he⟩:=hm _ hX.1 hX.2
  exact .shp f ⟨hx',hb'⟩ (fun j hj=>by rw [← hc j hj]; exact World.cell?_of_block he) ih ho
 | optn cs=>exact .optn cs
 | opts h ih=>exact .opts ih
 | any h ih=>exact .any ih
 | arr hl hp h ih=>exact .arr hl hp ih
def blk:Value→Option Nat
 | .pointer (some a)=>some a.block
 | .slice (some a) _ _=>some a.block
 | _=>none
structure GP where
 given:Nat→Prop
 hid:Nat→Prop
instance:CoeFun GP fun _=>Nat→Prop:=⟨GP.given⟩
structure Gh where
 f:Nat→Value
 hid:Nat→Prop
instance:CoeFun Gh fun _=>Nat→Value:=⟨Gh.f⟩
def names (m:Mem E):List Nat:=m.map (·.1)
def dP (m:Mem E) (g:Gh):List Nat:=m.flatMap fun x=>(blk (g x.1)).toList
def free (m:Mem E) (g:Gh):Nat→Prop:=fun b=>b ∉ dP m g ∧ ¬ g.hid b
def DV.noR:DV E→Bool
 | .rptr .. => false
 | _=>true
def dt (T:Tab E) (w:World) (X:Nat→Prop) (g:Gh) (d:DV E) (v:Value):Prop :=
 match d with
 | .ptr n off => ∃ b,g n = .pointer (some ⟨b,0,none⟩)∧v = .pointer (some ⟨b,off,none⟩)
 | .rowp n=>v=g n
 | .rowv n b => ∃ a len cap,g n = .slice a len cap∧v = .slice a b cap∧b≤len
 | .eptr cs off => ∃ (b o:Nat) (f:Nat→Value),v = .pointer (some ⟨b,o+off,none⟩)∧X b∧b<w.heap.size∧(∀ j,j<cs.length→w.cell? ⟨b,o+j,none⟩=some (f j)) ∧
   (∀ j (h:j<cs.length),Rep T w X cs[j] (f j)∧cs[j].plain=true)
 | .rptr n i cs off => ∃ (b o:Nat) (f:Nat→Value),v = .pointer (some ⟨b,o+off,none⟩)∧(∃ len cap,g n = .slice (some ⟨b,0,none⟩) len cap∧i<len)∧o=i * cs.length ∧
   (∀ j,j<cs.length→w.cell? ⟨b,o+j,none⟩=some (f j))∧(∀ j (h:j<cs.length),Rep T w X cs[j] (f j)∧cs[j].plain=true)
 | .argp n => ∃ b,g n = .pointer (some ⟨b,0,none⟩)∧(v = .pointer none∨v = .pointer (some ⟨b,0,none⟩))
 | .rws n lo sz => ∃ b len cap,g n = .slice (some ⟨b,0,none⟩) len cap∧v = .slice (some ⟨b,lo * sz,none⟩) (len - lo) (cap - lo)∧lo<len
 | .cslc n len => ∃ b,g n = .pointer (some ⟨b,0,none⟩)∧v = .slice (some ⟨b,0,none⟩) len len
 | .tup _ | .row .. | .pin .. | .newb .. => False
 | d=>Rep T w X d v
def aB (T:Tab E) (w:World) (X:Nat→Prop) (g:Gh) (d:DV E) (v:Value):Prop :=
 match d with
 | .tup ds => ∃ vs:Array Value,v = .tuple vs∧vs.size=ds.length ∧ ∀ i (h:i<ds.length) (h':i<vs.size),dt T w X g ds[i] vs[i]∧ds[i].noR=true
 | d=>dt T w X g d v
def iz (w:World) (e:TypeId) (size:Nat) (v:Value) (n:Nat) (xs:List Value):Prop :=
 xs.length=n * size ∧
 ((v = .slice none 0 0∧n=0) ∨
  ∃ g cap cur,v = .slice (some ⟨g,0,none⟩) n cap∧0≤g∧(∃ fz:Nat×Nat,(fz.2=0∨cur.size≤fz.1)∧w.heap[g]? = some (.cells cur e fz))∧n≤cap∧cap≤maxLen∧cur.size=cap * size∧cur.toList.take (n * size)=xs)
theorem uK {w:World} {e:TypeId} {size:Nat} {v:Value} {n:Nat} {xs:List Value} (h:w.ownsRow 0 e size v n xs):iz w e size v n xs:=by
 refine ⟨h.1,?_⟩
 rcases h.2 with h | ⟨g,cap,cur,h1,h2,h3,h4⟩
 ·exact .inl h
 ·exact .inr ⟨g,cap,cur,h1,h2,⟨(0,0), .inl rfl,h3⟩,h4⟩
theorem kX (w:World) (e:TypeId) (size:Nat):iz w e size (.slice none 0 0) 0 []:=uK (World.ownsRow_nil w 0 e size)
theorem iz.cells {w:World} {e:TypeId} {size:Nat} {v:Value} {n:Nat} {xs:List Value} (h:iz w e size v n xs) {g:Nat} (hg:v.ownBlock=some g) : ∀ j u,xs[j]? = some u→w.cell? ((⟨g,0,none⟩:Addr).add j)=some u:=by
 intro j u hu
 rcases h.2 with ⟨rfl,_⟩ | ⟨g',cap,cur,rfl,_,⟨fz,_,hgg⟩,_,_,_,htake⟩
 ·simp [Value.ownBlock] at hg
 ·simp [Value.ownBlock] at hg
  subst hg
  rw [Addr.add_lit,Nat.zero_add,cell_of_row w g' j cur e fz hgg]
  rw [← htake,List.getElem?_take] at hu
  split at hu
  ·simpa using hu
  ·cases hu
def aP (T:Tab E) (w:World) (X:Nat→Prop) (e:TypeId) (k:K) (l:List (E k)) (v:Value):Prop :=
 ∃ xs:List Value,iz w e (T.sz k) v l.length xs∧(∀ u∈xs,u.oneCell'=true) ∧
  (∀ i (hi:i<l.length) (c:Nat) (hcc:c<(T.enc k l[i]).length), ∃ u,xs[i * T.sz k+c]? = some u∧Rep T w X (T.enc k l[i])[c] u) ∧
  (∀ i (hi:i<l.length) (c:Nat) (hcc:c<(T.enc k l[i]).length),(T.enc k l[i])[c].plain=true)
def zg (T:Tab E) (w:World) (X:Nat→Prop) (g:Gh) (v:Value):Box E→Prop
 | .cells t cs => ∃ b vs,v = .pointer (some ⟨b,0,none⟩)∧w.heap[b]? = some (.cells vs t (0,0))∧cs.length=vs.size ∧
   ∀ i (h:i<cs.length) (h':i<vs.size),dt T w X g cs[i] vs[i]∧vs[i].oneCell'=true∧cs[i].ej=true
 | .row e k l=>aP T w X e k l v
 | .siter s pos => ∃ b,v = .pointer (some ⟨b,0,none⟩)∧w.heap[b]? = some (.stringIter ⟨s.toArray⟩ pos)
 | .arr t n k l => ∃ b vs,v = .pointer (some ⟨b,0,none⟩)∧w.heap[b]? = some (.cells vs t (0,0))∧Rep T w X (.arr n k l) (.agg vs)
structure jD (G:Nat→Prop) (w0 w:World):Prop where
 os:w.os=w0.os
 tape:w.tape=w0.tape
 output:w.output=w0.output
 size:w0.heap.size≤w.heap.size
 block : ∀ b,b<w0.heap.size → ¬ G b→w.heap[b]? = w0.heap[b]?
theorem jD.refl (G:Nat→Prop) (w:World):jD G w w:=⟨rfl,rfl,rfl,Nat.le_refl _,fun _ _ _=>rfl⟩
structure Inv (T:Tab E) (w0:World) (G:GP) (st:St E) (a:Act) (w:World) (g:Gh):Prop where
 df:a.defers = []
 tl:a.tmps.size=st.tmps.length
 tm : ∀ i (h:i<st.tmps.length),aB T w (free st.mem g) g st.tmps[i] (a.tmps.getD i undef)
 nn:(names st.mem).Nodup
 nd:(dP st.mem g).Nodup
 mm : ∀ n bx,(n,bx)∈st.mem→zg T w (free st.mem g) g (g n) bx
 bo : ∀ b∈dP st.mem g,b<w.heap.size∧(w0.heap.size≤b∨G b)
 fr:jD G.given w0 w
 rl : ∀ i (h:i<st.tmps.length) n j cs off,st.tmps[i] = .rptr n j cs off→n∈names st.mem
 hz:g.hid=G.hid ∧ ∀ b,g.hid b→b<w0.heap.size ∧ ¬ G b
theorem dt.mono {T:Tab E} {w w':World} {X X':Nat→Prop} {g g':Gh} {d:DV E} {v:Value} (h:dt T w X g d v)
  (hm : ∀ b,X b→b<w.heap.size→X' b∧b<w'.heap.size∧w'.heap[b]? = w.heap[b]?)
  (hg : ∀ n,d.fv [n]=true→g' n=g n)
  (hr : ∀ n i cs off b len cap,d = .rptr n i cs off→g n = .slice (some ⟨b,0,none⟩) len cap→w'.heap[b]? = w.heap[b]?):dt T w' X' g' d v:=by
 cases d with
 | ptr n off=>obtain ⟨b,h1,h2⟩:=h; exact ⟨b,by rw [hg n (by simp [DV.fv])]; exact h1,h2⟩
 | rowp n=>show v=g' n; rw [hg n (by simp [DV.fv])]; exact h
 | rowv n b=>obtain ⟨a,len,cap,h1,h2,h3⟩:=h; exact ⟨a,len,cap,by rw [hg n (by simp [DV.fv])]; exact h1,h2,h3⟩
 | eptr cs off =>
  obtain ⟨b,o,f,h1,h2,h3,h4,h5⟩:=h
  obtain ⟨hx',hb',he⟩:=hm b h2 h3
  exact ⟨b,o,f,h1,hx',hb',fun j hj=>by rw [← h4 j hj]; exact World.cell?_of_block (a:=⟨b,o+j,none⟩) he,fun j hj=>⟨(h5 j hj).1.mono hm,(h5 j hj).2⟩⟩
 | rptr n i cs off =>
  obtain ⟨b,o,f,h1,⟨len,cap,h2,h2'⟩,h3,h4,h5⟩:=h
  have he:=hr n i cs off b len cap rfl h2
  exact ⟨b,o,f,h1,⟨len,cap,by rw [hg n (by simp [DV.fv])]; exact h2,h2'⟩,h3,fun j hj=>by rw [← h4 j hj]; exact World.cell?_of_block (a:=⟨b,o+j,none⟩) he,fun j hj=>⟨(h5 j hj).1.mono hm,(h5 j hj).2⟩⟩
 | tup _=>exact h.elim
 | row _ _ _=>exact h.elim
 | pin _ _=>exact h.elim
 | newb _ _=>exact h.elim
 | argp n=>obtain ⟨b,h1,h2⟩:=h; exact ⟨b,by rw [hg n (by simp [DV.fv])]; exact h1,h2⟩
 | rws n lo sz=>obtain ⟨b,len,cap,h1,h2,h3⟩:=h; exact ⟨b,len,cap,by rw [hg n (by simp [DV.fv])]; exact h1,h2,h3⟩
 | cslc n len=>obtain ⟨b,h1,h2⟩:=h; exact ⟨b,by rw [hg n (by simp [DV.fv])]; exact h1,h2⟩
 | _=>exact Rep.mono h hm
theorem Rep.Cl {T:Tab E} {w:World} {X:Nat→Prop} {g:Gh} {d:DV E} {v:Value} (h:Rep T w X d v):dt T w X g d v:=by
 cases d <;> first | exact h | (cases h; done)
theorem Rep.toT {T:Tab E} {w:World} {X:Nat→Prop} {g:Gh} {d:DV E} {v:Value} (h:Rep T w X d v):aB T w X g d v:=by
 cases d <;> first | exact Rep.Cl (g:=g) h | (cases h; done)
theorem dt.plain {T:Tab E} {w:World} {X:Nat→Prop} {g:Gh} {d:DV E} {v:Value} (h:dt T w X g d v) (hp:d.share=true):Rep T w X d v:=by
 cases d <;> first | exact h | (simp [DV.share,DV.lay,DV.plain] at hp; done)
theorem aB.plain {T:Tab E} {w:World} {X:Nat→Prop} {g:Gh} {d:DV E} {v:Value} (h:aB T w X g d v) (hp:d.share=true):Rep T w X d v:=by
 cases d <;> first | exact dt.plain (g:=g) h hp | (simp [DV.share,DV.lay,DV.plain] at hp; done)
theorem aB.of1 {T:Tab E} {w:World} {X:Nat→Prop} {g:Gh} {d:DV E} {v:Value} (h:dt T w X g d v):aB T w X g d v:=by
 cases d <;> first | exact h | exact h.elim
theorem dV {α:Type} (l:List α) (i:Nat) (d:α) (h:i<l.length):l.getD i d=l[i]:=by simp [h]
theorem j0 {T:Tab E} {w:World} {X:Nat→Prop} (v:Value):Rep T w X (ofConst v:DV E) v:=by
 unfold ofConst
 split
 ·split
  ·exact .int (by assumption)
  ·exact .junk _
 ·exact .bool _
 ·rename_i s; cases s with | mk d=>cases d with | mk l=>exact .str l
 ·exact .nilp
 ·exact .nili
 ·exact .nils
 ·exact .junk _
theorem Inv.ev {T:Tab E} {w0:World} {G:GP} {st:St E} {a:Act} {w:World} {g:Gh} (h:Inv T w0 G st a w g) (x:Operand) :
  aB T w (free st.mem g) g (st.ev x) (a.eval x):=by
 cases x with
 | tmp t =>
  simp only [St.ev,Act.eval]
  by_cases ht:t<st.tmps.length
  ·rw [dV _ _ _ ht]; exact h.tm t ht
  ·rw [List.getD_eq_getElem?_getD,List.getElem?_eq_none (Nat.le_of_not_lt ht)]; exact (Rep.junk _).toT
 | const v=>exact (j0 v).toT
 | global i=>exact (Rep.junk _).toT
 | func f=>exact (Rep.fn f (cs := []) (vs := #[]) rfl (fun i hi=>by simp at hi)).toT
theorem rF (a:Act) (dst:Option Tmp) (v:Value):(a.put dst v).tmps.size=a.tmps.size:=by cases dst <;> simp [Act.put]
theorem nw (a:Act) (dst:Option Tmp) (v:Value):(a.put dst v).defers=a.defers:=by cases dst <;> rfl
theorem Inv.put {T:Tab E} {w0:World} {G:GP} {st:St E} {a:Act} {w:World} {g:Gh} (h:Inv T w0 G st a w g) (dst:Option Nat) {d:DV E} {v:Value}
  (hd:aB T w (free st.mem g) g d v) (hl : ∀ n j cs off,d = .rptr n j cs off→n∈names st.mem):Inv T w0 G (st.app dst (val d)) (a.put dst v) w g:=by
 refine ⟨by rw [nw]; exact h.df,?_,?_,h.nn,h.nd,h.mm,h.bo,h.fr,?_,h.hz⟩
 ·rw [rF,h.tl]; cases dst <;> simp [St.app,val]
 ·cases dst with
  | none=>exact h.tm
  | some i =>
   intro j hj
   simp only [St.app,val] at hj ⊢
   have hj':j<st.tmps.length:=by simpa using hj
   by_cases hij:i=j
   ·subst hij
    have:(a.put (some i) v).tmps.getD i undef=v:=by simp [Act.put,h.tl,hj']
    rw [this]; simpa using hd
   ·have:(a.put (some i) v).tmps.getD j undef=a.tmps.getD j undef:=by simp [Act.put,Array.getElem?_setIfInBounds_ne hij]
    rw [this]
    simp only [List.getElem_set_ne hij]
    exact h.tm j hj'
 ·cases dst with
  | none=>exact h.rl
  | some i =>
   intro j hj n k cs off he
   simp only [St.app,val] at hj he
   have hj':j<st.tmps.length:=by simpa using hj
   by_cases hij:i=j
   ·subst hij
    simp only [List.getElem_set_self] at he
    exact hl n k cs off he
   ·simp only [List.getElem_set_ne hij] at he
    exact h.rl j hj' n k cs off he
theorem gw {m:Mem E} {n k:Nat}:k∈names (drop m n) ↔ k∈names m∧k≠n:=by
 induction m with
 | nil=>simp [names,drop]
 | cons x m ih =>
  obtain ⟨q,bx⟩:=x
  simp only [drop]
  simp only [names] at ih ⊢
  split
  ·rename_i h; subst h; rw [ih]; simp; intro h1 h2; omega
  ·rename_i h; simp only [List.map_cons,List.mem_cons,ih]; constructor
   ·rintro (rfl | ⟨h1,h2⟩)
    ·exact ⟨.inl rfl,h⟩
    ·exact ⟨.inr h1,h2⟩
   ·rintro ⟨rfl | h1,h2⟩
    ·exact .inl rfl
    ·exact .inr ⟨h1,h2⟩
theorem Ap {m:Mem E} {n k:Nat} {bx:Box E}:(k,bx)∈drop m n ↔ (k,bx)∈m∧k≠n:=by
 induction m with
 | nil=>simp [drop]
 | cons x m ih =>
  obtain ⟨q,by'⟩:=x
  simp only [drop]
  split
  ·rename_i h; subst h; rw [ih]; constructor
   ·rintro ⟨h1,h2⟩; exact ⟨List.mem_cons_of_mem _ h1,h2⟩
   ·rintro ⟨h1,h2⟩
    rcases List.mem_cons.1 h1 with h | h
    ·cases h; exact absurd rfl h2
    ·exact ⟨h,h2⟩
  ·rename_i h
   simp only [List.mem_cons,ih]
   constructor
   ·rintro (h1 | ⟨h1,h2⟩)
    ·cases h1; exact ⟨.inl rfl,h⟩
    ·exact ⟨.inr h1,h2⟩
   ·rintro ⟨h1 | h1,h2⟩
    ·exact .inl h1
    ·exact .inr ⟨h1,h2⟩
theorem AR {m:Mem E} {n:Nat}:(drop m n).Sublist m:=by
 induction m with
 | nil=>exact List.Sublist.refl _
 | cons x m ih =>
  obtain ⟨q,bx⟩:=x
  simp only [drop]
  split
  ·exact ih.cons _
  ·exact ih.cons_cons _
theorem tg {m:Mem E} {ns:List Nat}:names (cK ns m)=names m:=by simp [names,cK]
theorem vM {m:Mem E} {ns:List Nat} {g:Gh}:dP (cK ns m) g=dP m g:=by simp [dP,cK,List.flatMap_map]
theorem aD {m:Mem E} {g:Gh} {b:Nat}:b∈dP m g ↔ ∃ n,n∈names m∧blk (g n)=some b:=by
 simp only [dP,names,List.mem_flatMap,List.mem_map,Option.mem_toList]
 constructor
 ·rintro ⟨x,hx,hb⟩; exact ⟨x.1,⟨x,hx,rfl⟩,hb⟩
 ·rintro ⟨n,⟨x,hx,rfl⟩,hb⟩; exact ⟨x,hx,hb⟩
theorem bt {m:Mem E} {n:Nat} {bx:Box E} (h:look m n=some bx):(n,bx)∈m:=by
 induction m with
 | nil=>simp [look] at h
 | cons x m ih =>
  obtain ⟨q,b'⟩:=x
  simp only [look] at h
  split at h
  ·rename_i hq; subst hq; cases h; simp
  ·exact List.mem_cons_of_mem _ (ih h)
theorem jJ {m:Mem E} {g:Gh} (hd:(dP m g).Nodup) (hn:(names m).Nodup) {n n' b:Nat} (h:n∈names m) (h':n'∈names m) (hb:blk (g n)=some b) (hb':blk (g n')=some b):n=n':=by
 induction m with
 | nil=>simp [names] at h
 | cons x m ih =>
  simp only [names,List.map_cons,List.nodup_cons,List.mem_cons] at hn h h'
  simp only [dP,List.flatMap_cons] at hd
  obtain ⟨hd1,hd2,hd3⟩:=List.nodup_append.1 hd
  rcases h with rfl | h <;> rcases h' with rfl | h'
  ·rfl
  ·exact absurd rfl (hd3 b (by simp [hb]) b (aD.2 ⟨n',h',hb'⟩))
  ·exact absurd rfl (hd3 b (by simp [hb']) b (aD.2 ⟨n,h,hb⟩))
  ·exact ih hd2 hn.2 h h'
end Go.Vm
/- The abstract value machine: operators are sound. -/
namespace Go.Vm
set_option linter.unusedVariables false
variable {K:Type} {E:K→Type} {T:Tab E} {P:Program} {w:World} {X:Nat→Prop} {g:Gh}
theorem fX {k:IntKind} {n:Int} {v:Value} (h:aB T w X g (.int k n) v):v = .int k n∧fZ k n=true:=by
 cases h with | int h=>exact ⟨rfl,h⟩
theorem jG {b:Bool} {v:Value} (h:aB T w X g (.bool b) v):v = .bool b:=by cases h; rfl
theorem jo {s:List UInt8} {v:Value} (h:aB T w X g (.str s) v):v = .string ⟨s.toArray⟩:=by cases h; rfl
theorem kZ {v:Value} (h:aB T w X g (.nilp) v):v = .pointer none:=by cases h; rfl
theorem sH {v:Value} (h:aB T w X g (.nili) v):v = .nilIface:=by cases h; rfl
theorem iR {v:Value} (h:aB T w X g (.nils) v):v = .slice none 0 0:=by cases h; rfl
theorem F1 {t:TypeId} {d:DV E} {v:Value} (h:aB T w X g (.ifc t d) v) : ∃ u,v = .iface t u∧Rep T w X d u:=by
 cases h with | ifc _ h=>exact ⟨_,rfl,h⟩
theorem oo {cs:List (DV E)} {v:Value} (h:aB T w X g (.agg cs) v) : ∃ vs:Array Value,v = .agg vs∧cs.length=vs.size ∧ ∀ i (hi:i<cs.length) (hi':i<vs.size),Rep T w X cs[i] vs[i]:=by
 cases h with | agg hl hr=>exact ⟨_,rfl,hl,hr⟩
theorem ep {n off:Nat} {v:Value} (h:aB T w X g (.ptr n off) v) : ∃ b,g n = .pointer (some ⟨b,0,none⟩)∧v = .pointer (some ⟨b,off,none⟩):=h
theorem uw {c:Bool} {cs:List (DV E)} {v:Value} (h:aB T w X g (.opt c cs) v):(c=false∧v = .pointer none)∨(c=true ∧ ∃ b o,v = .pointer (some ⟨b,o,none⟩)∧aB T w X g (.shp cs) v):=by
 have h:Rep T w X (.opt c cs) v:=h
 cases h with
 | optn=>exact .inl ⟨rfl,rfl⟩
 | opts h =>
  refine .inr ⟨rfl,?_⟩
  have h':=h
  cases h with
  | shp f hX hc hr ho=>exact ⟨_,_,rfl,h'⟩
theorem ek (k:IntKind) (n:Int):fZ k (k.wrap n)=true:=by
 cases k <;> simp [fZ,IntKind.wrap,IntKind.signed,IntKind.bits] <;> omega
theorem Ad {n:Int} (h:fZ .u8 n=true):0≤n∧n≤255:=by simpa [fZ] using h
theorem rn {n:Int} (h:0≤n) (h':n≤255):fZ .u8 n=true:=by simp [fZ,h,h']
theorem BR {k:IntKind} {a b:Int} (h:fZ k a=true):fZ k (a.tmod b)=true:=by
 cases k <;> first | rfl | skip
 obtain ⟨h1,h2⟩:=Ad h
 have:=Int.tmod_nonneg b h1
 have e1:=Int.natAbs_tmod a b
 have e2:=Nat.mod_le a.natAbs b.natAbs
 exact rn (by omega) (by omega)
theorem BU {k:IntKind} {a:Int} (n:Nat) (h:fZ k a=true):fZ k (a.fdiv (2 ^ n))=true:=by
 cases k <;> first | rfl | skip
 obtain ⟨h1,h2⟩:=Ad h
 have hp:(1:Int)≤2 ^ n:=by
  have:0<(2:Int) ^ n:=Int.pow_pos (by decide)
  omega
 rw [Int.fdiv_eq_ediv_of_nonneg _ (by omega)]
 have h3:=Int.ediv_nonneg h1 (show (0:Int)≤2 ^ n by omega)
 have h4:=Int.ediv_le_self (2 ^ n) h1
 exact rn (by omega) (by omega)
def sD (T:Tab E) (P:Program) (w:World) (X:Nat→Prop) (g:Gh) (o:Out E) (s:Sem Value):Prop :=
 o.kills = []∧o.mem=none ∧ ∃ v,s.run P w = .ok v w∧aB T w X g o.v v
theorem sD.of {d:DV E} {v:Value} {s:Sem Value} (hr:s.run P w = .ok v w) (h:aB T w X g d v):sD T P w X g (val d) s:=⟨rfl,rfl,v,hr,h⟩
theorem cZ {d:DV E} {o:Out E} (h:(Cal.v d).has o):o=val d:=by
 obtain ⟨_,_,h⟩:=h; exact h.symm
theorem ah {o:Out E} (h:(Cal.bad:Cal E).has o):False:=by
 obtain ⟨_,h,_⟩:=h; cases h
theorem eB {c:Bool} {x:Cal E} {o:Out E} (h:(Cal.chk c x).has o):c=true∧x.has o:=by
 cases c
 ·exact (ah (by simpa [Cal.chk,Cal.has] using h)).elim
 ·exact ⟨rfl,by simpa [Cal.chk,Cal.has] using h⟩
theorem ku {k:IntKind} {n:Int} (h:fZ k n=true):aB T w X g (.int k n) (.int k n):=Rep.int h
theorem qj (b:Bool):aB T w X g (.bool b) (.bool b):=Rep.bool b
theorem DB (s:List UInt8):aB T w X g (.str s) (.string ⟨s.toArray⟩):=Rep.str s
theorem DO (op:BinOp) (xt:TypeId) (k:IntKind) (a b:Int) (o:Out E) (h:(yS op k a b:Cal E).has o) (h1:op ≠ .shl) (h2:op ≠ .shr) (ha:fZ k a=true) :
  sD T P w X g o (binOp op xt (.int k a) (.int k b)):=by
 cases op <;> simp only [yS] at h
 case shl=>exact absurd rfl h1
 case shr=>exact absurd rfl h2
 case quo =>
  obtain ⟨hb,h⟩:=eB h
  rw [cZ h]
  exact .of (v := .int k (k.wrap (a.tdiv b))) (by simp [binOp,Op.intDiv,show b≠0 by simpa using hb]) (ku (ek _ _))
 case rem =>
  obtain ⟨hb,h⟩:=eB h
  rw [cZ h]
  exact .of (v := .int k (a.tmod b)) (by simp [binOp,Op.intDiv,show b≠0 by simpa using hb]) (ku (BR ha))
 all_goals rw [cZ h]
 case eql=>exact .of (v := .bool (decide (a=b))) (by simp [binOp,Op.intCmp] <;> rfl) (qj _)
 case neq=>exact .of (v := .bool (!decide (a=b))) (by simp [binOp,Op.intCmp] <;> rfl) (qj _)
 case lss=>exact .of (v := .bool (decide (a<b))) (by simp [binOp,Op.intCmp]) (qj _)
 case leq=>exact .of (v := .bool (decide (a≤b))) (by simp [binOp,Op.intCmp]) (qj _)
 case gtr=>exact .of (v := .bool (decide (b<a))) (by simp [binOp,Op.intCmp]) (qj _)
 case geq=>exact .of (v := .bool (decide (b≤a))) (by simp [binOp,Op.intCmp]) (qj _)
 case add=>exact .of (v := .int k _) (by simp [binOp,Op.intArith] <;> rfl) (ku (ek _ _))
 case sub=>exact .of (v := .int k _) (by simp [binOp,Op.intArith] <;> rfl) (ku (ek _ _))
 case mul=>exact .of (v := .int k _) (by simp [binOp,Op.intArith] <;> rfl) (ku (ek _ _))
 case and=>unfold mZ; exact .of (v := .int k _) (by simp only [binOp,Op.intBits]; simp <;> rfl) (ku (ek _ _))
 case or=>unfold ior; exact .of (v := .int k _) (by simp only [binOp,Op.intBits]; simp <;> rfl) (ku (ek _ _))
 case xor=>unfold Kl; exact .of (v := .int k _) (by simp only [binOp,Op.intBits]; simp <;> rfl) (ku (ek _ _))
 case andNot=>unfold I9; exact .of (v := .int k _) (by simp only [binOp,Op.intBits]; simp <;> rfl) (ku (ek _ _))
theorem Dj (a b:List UInt8):(a == b)=decide (a=b):=by rw [Bool.eq_iff_iff]; simp
theorem D6 (op:BinOp) (xt:TypeId) (a b:List UInt8) (o:Out E) (h:(yD op a b:Cal E).has o) :
  sD T P w X g o (binOp op xt (.string ⟨a.toArray⟩) (.string ⟨b.toArray⟩)):=by
 cases op <;> simp only [yD] at h
 case add =>
  obtain ⟨hb,h⟩:=eB h
  rw [cZ h]
  have hb':a.length+b.length≤9223372036854775807:=by simpa using hb
  refine .of (v := .string ⟨(a ++ b).toArray⟩) ?_ (DB _)
  have hs : ¬ (((⟨a.toArray⟩:ByteArray).size+(⟨b.toArray⟩:ByteArray).size:Nat):Int) > IntKind.i64.max:=by
   show ¬ ((a.length+b.length:Nat):Int) > 9223372036854775807
   omega
  have happ:(⟨a.toArray⟩:ByteArray) ++ ⟨b.toArray⟩=⟨(a ++ b).toArray⟩:=by
   apply ByteArray.ext
   rw [ByteArray.data_append]
   simp
  simp only [binOp,Op.stringOp,if_neg hs,happ]
  rfl
 all_goals first | exact (ah h).elim | rw [cZ h]
 all_goals refine .of (v := .bool _) ?_ (qj _)
 all_goals simp [binOp,Op.stringOp,Dj]
theorem J6 (op:UnOp) (x:DV E) (v:Value) (o:Out E) (hx:aB T w X g x v) (h:(unD op x).has o):sD T P w X g o (Op.unary op v):=by
 unfold unD at h
 split at h
 ·obtain ⟨rfl,hk⟩:=fX hx
  rw [cZ h]
  exact .of (v := .int _ _) (by simp [Op.unary,Op.intArith] <;> rfl) (ku (ek _ _))
 ·obtain ⟨rfl,hk⟩:=fX hx
  rw [cZ h]
  unfold Kx
  exact .of (v := .int _ _) (by simp only [Op.unary,Op.intBits]; simp <;> rfl) (ku (ek _ _))
 ·obtain rfl:=jG hx
  rw [cZ h]
  exact .of (v := .bool _) (by simp [Op.unary] <;> rfl) (qj _)
 ·exact (ah h).elim
theorem fF {t:TypeId} {d:TypeDesc} (h:P.underlying t=some d):(isAgg t).run P w = .ok (dE P t) w:=by
 unfold isAgg dE
 cases d <;> simp [run_underlying h,h]
theorem jR {t:TypeId} {d:TypeDesc} (h:P.underlying t=some d):(sizeOf t).run P w = .ok (P.cellsOf t) w:=by
 unfold Program.underlying at h
 cases hi:P.info? t with
 | none=>simp [hi] at h
 | some i=>simp [sizeOf,typeInfo,hi,Program.cellsOf]
def Part (T:Tab E) (P:Program) (w:World) (X:Nat→Prop) (t:TypeId) (ds:List (DV E)) (v:Value):Prop :=
 if dE P t then ∃ vs:Array Value,v = .agg vs∧ds.length=vs.size ∧ ∀ i (hi:i<ds.length) (hi':i<vs.size),Rep T w X ds[i] vs[i]
 else ∃ d rest,ds=d :: rest∧Rep T w X d v
theorem A4 {t:TypeId} {u:TypeDesc} (ht:P.underlying t=some u) {ds:List (DV E)} {vs:Array Value} (hl:ds.length=vs.size)
  (hr : ∀ i (hi:i<ds.length) (hi':i<vs.size),Rep T w X ds[i] vs[i]) (off:Nat) (h:dE P t=false→off<ds.length) (hc:dE P t=false→0<P.cellsOf t) :
  ∃ v,(part t vs off).run P w = .ok v w∧Part T P w X t ((ds.drop off).take (P.cellsOf t)) v:=by
 unfold part Part
 cases ha:dE P t
 ·have ho:=h ha
  simp only [Sem.run_bind,fF ht,ha,Result.andThen_ok,Bool.false_eq_true,if_false]
  have hv:vs[off]? = some (vs[off]'(by omega)):=Array.getElem?_eq_getElem (by omega)
  refine ⟨vs[off]'(by omega),by simp [hv],ds[off],((ds.drop (off+1)).take (P.cellsOf t - 1)),?_,hr off ho _⟩
  obtain ⟨n,hn⟩ : ∃ n,P.cellsOf t=n+1:=⟨P.cellsOf t - 1,by have:=hc ha; omega⟩
  rw [hn,List.drop_eq_getElem_cons ho,List.take_succ_cons]
  rfl
 ·simp only [Sem.run_bind,fF ht,ha,Result.andThen_ok,if_true,jR ht,Sem.run_pure]
  refine ⟨_,rfl,_,rfl,by simp; omega,?_⟩
  intro i hi hi'
  simp only [List.getElem_take,List.getElem_drop,Array.getElem_extract]
  exact hr _ _ _
theorem JC (n:Nat) (t:TypeId) (l l':List (DV E)) (p:Bool) (h:eqT P n t l l'=some p) (hb:dE P t=false):l ≠ []∧l' ≠ []:=by
 cases n with
 | zero=>simp [eqT] at h
 | succ n =>
  unfold eqT at h
  split at h
  ·exact ⟨by simp,by simp⟩
  ·exact ⟨by simp,by simp⟩
  ·exact ⟨by simp,by simp⟩
  ·rename_i hu; simp [dE,hu] at hb
  ·cases h
theorem xx : ∀ (n D:Nat) (t:TypeId) (ds es:List (DV E)) (x y:Value) (r:Bool),n≤D→eqT P n t ds es=some r→Part T P w X t ds x→Part T P w X t es y →
  (Op.equalIn D t x y).run P w = .ok r w
 | 0,D,t,ds,es,x,y,r,_,h,_,_=>by simp [eqT] at h
 | n+1,0,t,ds,es,x,y,r,hD,h,_,_=>by omega
 | n+1,D+1,t,ds,es,x,y,r,hD,h,hx,hy=>by
  unfold eqT at h
  split at h
  ·rename_i a b hu
   have ha:dE P t=false:=by simp [dE,hu]
   simp only [Part,ha,Bool.false_eq_true,if_false] at hx hy
   obtain ⟨_,_,e1,h1⟩:=hx; obtain ⟨_,_,e2,h2⟩:=hy
   cases e1; cases e2; cases h1; cases h2
   cases h
   rw [run_equalIn_bool w D t _ _ hu]
  ·rename_i k k' a k'' b hu
   have ha:dE P t=false:=by simp [dE,hu]
   simp only [Part,ha,Bool.false_eq_true,if_false] at hx hy
   obtain ⟨_,_,e1,h1⟩:=hx; obtain ⟨_,_,e2,h2⟩:=hy
   cases e1; cases e2; cases h1; cases h2
   split at h
   ·rename_i e; subst e; cases h
    rw [run_equalIn_int w D t _ _ _ _ hu]
    congr 1
   ·cases h
  ·rename_i a b hu
   have ha:dE P t=false:=by simp [dE,hu]
   simp only [Part,ha,Bool.false_eq_true,if_false] at hx hy
   obtain ⟨_,_,e1,h1⟩:=hx; obtain ⟨_,_,e2,h2⟩:=hy
   cases e1; cases e2; cases h1; cases h2
   cases h
   rw [run_equalIn_string w D t _ _ hu]
   simp [Dj]
  ·rename_i fs hu
   have ha:dE P t=true:=by simp [dE,hu]
   simp only [Part,ha,if_true] at hx hy
   obtain ⟨xs,rfl,hl,hr⟩:=hx
   obtain ⟨ys,rfl,hl',hr'⟩:=hy
   split at h
   ·cases h
   ·rename_i hs
    have hf:P.fieldsOf t=fs:=by simp [Program.fieldsOf,hu]
    rw [run_equalIn_struct w D t xs ys (by rw [hf]; exact hu) (by simpa using hs),hf]
    revert r
    generalize fs.toList=l
    clear hf hu
    induction l with
    | nil=>intro r h; simp [eqT.eqFs] at h; subst h; simp [Op.eqFields]
    | cons f l ih =>
     intro r h
     simp only [eqT.eqFs] at h
     split at h
     ·cases h
     ·rename_i hn
      obtain ⟨p,hp,h⟩:=Option.bind_eq_some_iff.1 h
      obtain ⟨q,hq,rfl⟩:=Option.map_eq_some_iff.1 h
      have hnm:f.name ≠ "_" := by simpa using hn
      obtain ⟨u,hu⟩ : ∃ u,P.underlying f.type=some u:=by
       cases n with
       | zero=>simp [eqT] at hp
       | succ n =>
        unfold eqT at hp
        split at hp <;> first | (exact ⟨_,by assumption⟩) | (cases hp; done)
      have hsub:=fun (l l':List (DV E))=>JC (P:=P) n f.type l l' p
      have hx1:=A4 (T:=T) (X:=X) hu hl hr f.offset (fun hb=>by have:=(hsub _ _ hp hb).1; simp at this; omega) (fun hb=>by
       have:=(hsub _ _ hp hb).1
       rcases Nat.eq_zero_or_pos (P.cellsOf f.type) with h0 | h0
       ·simp [h0] at this
       ·exact h0)
      have hy1:=A4 (T:=T) (X:=X) hu hl' hr' f.offset (fun hb=>by have:=(hsub _ _ hp hb).2; simp at this; omega) (fun hb=>by
       have:=(hsub _ _ hp hb).2
       rcases Nat.eq_zero_or_pos (P.cellsOf f.type) with h0 | h0
       ·simp [h0] at this
       ·exact h0)
      obtain ⟨a,ha,hpa⟩:=hx1
      obtain ⟨b,hb,hpb⟩:=hy1
      have he:=xx n D f.type _ _ a b p (by omega) hp hpa hpb
      rw [Op.eqFields]
      simp only [if_pos hnm,Sem.run_bind,ha,hb,he,Result.andThen_ok]
      cases p
      ·simp
      ·simpa using ih q hq
  ·cases h
end Go.Vm
/- The abstract value machine: each operation that neither reads nor writes a box is sound. -/
namespace Go.Vm
set_option linter.unusedVariables false
variable {K:Type} {E:K→Type} {T:Tab E} {P:Program} {w:World} {X:Nat→Prop} {g:Gh}
theorem Ag (op:BinOp) (t:TypeId) (x y:Operand) (k k':IntKind) (a b:Int):(eqGuard op t x y (.int k a) (.int k' b)).run P w = .ok () w:=by
 unfold eqGuard; cases op <;> simp
theorem Ar (op:BinOp) (t:TypeId) (x y:Operand) (a b:ByteArray):(eqGuard op t x y (.string a) (.string b)).run P w = .ok () w:=by
 unfold eqGuard; cases op <;> simp
theorem yg (op:BinOp) (t:TypeId) (x y:Operand) (a b:Bool):(eqGuard op t x y (.bool a) (.bool b)).run P w = .ok () w:=by
 unfold eqGuard; cases op <;> simp
theorem lW (op:BinOp) (t:TypeId) (x y:Operand) (a b:Option Addr):(eqGuard op t x y (.pointer a) (.pointer b)).run P w = .ok () w:=by
 unfold eqGuard; cases op <;> simp
theorem Aa (op:BinOp) (t:TypeId) (x y:Operand) (t':TypeId) (v:Value):(eqGuard op t x y (.iface t' v) .nilIface).run P w = .ok () w:=by
 unfold eqGuard; cases op <;> simp
theorem ye (op:BinOp) (t:TypeId) (x y:Operand) (h:(match x with | .const _=>true | _=>false)=true∨(match y with | .const _=>true | _=>false)=true) :
  (eqGuard op t x y .nilIface .nilIface).run P w = .ok () w:=by
 unfold eqGuard
 cases op <;> simp <;> rcases h with h | h <;> cases x <;> cases y <;> simp_all
theorem A0 (op:BinOp) (t:TypeId) (x y:Operand) (a b:Array Value) (h:P.eqGuardType P.depth t=false):(eqGuard op t x y (.agg a) (.agg b)).run P w = .ok () w:=by
 unfold eqGuard; cases op <;> simp [h]
theorem oO {t:TypeId} (h:vn P t=true) : ∃ e,P.underlying t=some (.pointer e):=by
 unfold vn at h; split at h <;> simp_all
theorem pX {t:TypeId} (h:fh P t=true) : ∃ e,P.underlying t=some (.interface e):=by
 unfold fh at h; split at h <;> simp_all
theorem yR {t:TypeId} (h:zn P t=true):P.underlying t=some .bool:=by
 unfold zn at h; split at h <;> simp_all
theorem sD.guarded {o:Out E} {op:BinOp} {t:TypeId} {x y:Operand} {a b:Value} (hg:(eqGuard op t x y a b).run P w = .ok () w) (h:sD T P w X g o (binOp op t a b)) :
  sD T P w X g o (do eqGuard op t x y a b; binOp op t a b):=by
 obtain ⟨h1,h2,v,hv,hr⟩:=h
 exact ⟨h1,h2,v,by simp [hg,hv],hr⟩
theorem Am (d:Nat) {t e:TypeId} (a:Addr) (he:P.underlying t=some (.pointer e)):(Op.equalIn (d+1) t (.pointer (some a)) (.pointer none)).run P w = .ok false w:=by
 simp [Op.equalIn,run_underlying he]
theorem xS (d:Nat) {t e:TypeId} (he:P.underlying t=some (.pointer e)):(Op.equalIn (d+1) t (.pointer none) (.pointer none)).run P w = .ok true w:=by
 simp [Op.equalIn,run_underlying he]
theorem F6 (d:Nat) {t:TypeId} {e:Array (String×TypeId)} (t':TypeId) (v:Value) (he:P.underlying t=some (.interface e)):(Op.equalIn (d+1) t (.iface t' v) .nilIface).run P w = .ok false w:=by
 simp [Op.equalIn,run_underlying he]
theorem ET (d:Nat) {t:TypeId} {e:Array (String×TypeId)} (he:P.underlying t=some (.interface e)):(Op.equalIn (d+1) t .nilIface .nilIface).run P w = .ok true w:=by
 simp [Op.equalIn,run_underlying he]
theorem kV {op:BinOp} {t:TypeId} {a b:Value} {r:Bool} {o:Out E} (hq:(Op.equal t a b).run P w = .ok r w)
  (h:binOp .eql t a b=(do pure (.bool (← Op.equal t a b)))∧binOp .neq t a b=(do pure (.bool (!(← Op.equal t a b)))))
  (ho:(op=BinOp.eql∧o=val (.bool r))∨(op=BinOp.neq∧o=val (.bool (!r)))):sD T P w X g o (binOp op t a b):=by
 rcases ho with ⟨rfl,rfl⟩ | ⟨rfl,rfl⟩
 ·rw [h.1]; exact .of (v := .bool r) (by simp [hq]) (qj _)
 ·rw [h.2]; exact .of (v := .bool (!r)) (by simp [hq]) (qj _)
theorem yi (op:BinOp) (xt:TypeId) (x y:Operand) (a b:DV E) (va vb:Value) (o:Out E) (ha:aB T w X g a va) (hb:aB T w X g b vb)
  (h:(BO P op xt (match x with | .const _=>true | _=>false) (match y with | .const _=>true | _=>false) a b).has o) :
  sD T P w X g o (do eqGuard op xt x y va vb; binOp op xt va vb):=by
 generalize hcx:(match x with | .const _=>true | _=>false)=cx at h
 generalize hcy:(match y with | .const _=>true | _=>false)=cy at h
 unfold BO at h
 split at h
 ·rename_i k p k' q
  obtain ⟨rfl,hp⟩:=fX ha
  obtain ⟨rfl,hq⟩:=fX hb
  refine .guarded (Ag ..) ?_
  split at h
  ·obtain ⟨h0,h⟩:=eB h
   rw [cZ h]
   exact .of (v := .int k (shl k p q)) (by simp [binOp,Op.shift,show ¬ (q<0) by simpa using h0,shl]) (ku (ek _ _))
  ·obtain ⟨h0,h⟩:=eB h
   rw [cZ h]
   exact .of (v := .int k (shr k p q)) (by simp [binOp,Op.shift,show ¬ (q<0) by simpa using h0,shr]) (ku (BU _ hp))
  ·split at h
   ·rename_i hk; subst hk
    exact DO op xt k p q o h (by assumption) (by assumption) hp
   ·exact (ah h).elim
 ·rename_i p q
  obtain rfl:=jo ha; obtain rfl:=jo hb
  exact .guarded (Ar ..) (D6 op xt p q o h)
 ·rename_i p q
  obtain rfl:=jG ha; obtain rfl:=jG hb
  refine .guarded (yg ..) ?_
  split at h
  ·rename_i ht
   refine kV (r:=p == q) (run_equalIn_bool w 9999 xt p q (yR ht)) ⟨rfl,rfl⟩ ?_
   split at h <;> first | (exact (ah h).elim) | (rw [cZ h]; simp)
  ·exact (ah h).elim
 ·rename_i n off
  obtain ⟨bb,_,rfl⟩:=ep ha; obtain rfl:=kZ hb
  refine .guarded (lW ..) ?_
  split at h
  ·rename_i ht
   obtain ⟨e,he⟩:=oO ht
   refine kV (r:=false) (Am 9999 _ he) ⟨rfl,rfl⟩ ?_
   split at h <;> first | (exact (ah h).elim) | (rw [cZ h]; simp)
  ·exact (ah h).elim
 ·rename_i c cs
  obtain rfl:=kZ hb
  split at h
  ·rename_i ht
   obtain ⟨e,he⟩:=oO ht
   rcases uw ha with ⟨rfl,rfl⟩ | ⟨rfl,b,o,rfl,_⟩
   ·refine .guarded (lW ..) (kV (r:=true) (xS 9999 he) ⟨rfl,rfl⟩ ?_)
    split at h <;> first | (exact (ah h).elim) | (rw [cZ h]; simp)
   ·refine .guarded (lW ..) (kV (r:=false) (Am 9999 _ he) ⟨rfl,rfl⟩ ?_)
    split at h <;> first | (exact (ah h).elim) | (rw [cZ h]; simp)
  ·exact (ah h).elim
 ·obtain rfl:=kZ ha; obtain rfl:=kZ hb
  refine .guarded (lW ..) ?_
  split at h
  ·rename_i ht
   obtain ⟨e,he⟩:=oO ht
   refine kV (r:=true) (xS 9999 he) ⟨rfl,rfl⟩ ?_
   split at h <;> first | (exact (ah h).elim) | (rw [cZ h]; simp)
  ·exact (ah h).elim
 ·obtain ⟨u,rfl,_⟩:=F1 ha; obtain rfl:=sH hb
  refine .guarded (Aa ..) ?_
  split at h
  ·rename_i ht
   obtain ⟨e,he⟩:=pX ht
   refine kV (r:=false) (F6 9999 _ _ he) ⟨rfl,rfl⟩ ?_
   split at h <;> first | (exact (ah h).elim) | (rw [cZ h]; simp)
  ·exact (ah h).elim
 ·obtain rfl:=sH ha; obtain rfl:=sH hb
  split at h
  ·rename_i ht
   simp only [Bool.and_eq_true,Bool.or_eq_true] at ht
   refine .guarded (ye _ _ _ _ (by rw [hcx,hcy]; exact ht.2)) ?_
   obtain ⟨e,he⟩:=pX ht.1
   refine kV (r:=true) (ET 9999 he) ⟨rfl,rfl⟩ ?_
   split at h <;> first | (exact (ah h).elim) | (rw [cZ h]; simp)
  ·exact (ah h).elim
 ·rename_i ds es
  split at h
  ·rename_i ht
   simp only [Bool.and_eq_true,Bool.not_eq_true'] at ht
   obtain ⟨xs,rfl,hl,hr⟩:=oo ha; obtain ⟨ys,rfl,hl',hr'⟩:=oo hb
   refine .guarded (A0 _ _ _ _ _ _ ht.2) ?_
   have key : ∀ r,eqT P 6 xt ds es=some r→(Op.equal xt (.agg xs) (.agg ys)).run P w = .ok r w:=fun r hr0 =>
    xx 6 10000 xt ds es _ _ r (by omega) hr0 (by simp only [Part,ht.1,if_true]; exact ⟨xs,rfl,hl,hr⟩) (by simp only [Part,ht.1,if_true]; exact ⟨ys,rfl,hl',hr'⟩)
   split at h
   ·rename_i r hr0
    refine kV (r:=r) (key r hr0) ⟨rfl,rfl⟩ ?_
    rw [cZ h]; simp
   ·rename_i r hr0
    refine kV (r:=r) (key r hr0) ⟨rfl,rfl⟩ ?_
    rw [cZ h]; simp
   ·exact (ah h).elim
  ·exact (ah h).elim
 ·exact (ah h).elim
end Go.Vm
/- The abstract value machine: eff1 is sound. -/
namespace Go.Vm
set_option linter.unusedVariables false
variable {K:Type} {E:K→Type} {T:Tab E} {P:Program} {w:World} {X:Nat→Prop} {g:Gh}
def nQ (T:Tab E) (P:Program) (w:World) (X:Nat→Prop) (g:Gh) (out:Out E) (s:Sem Next):Prop :=
 out.kills = []∧out.mem=none ∧ ∃ v,s.run P w = .ok (.value v) w∧aB T w X g out.v v
theorem sD.Fs {out:Out E} {s:Sem Value} (h:sD T P w X g out s):nQ T P w X g out (do pure (.value (← s))):=by
 obtain ⟨h1,h2,v,hv,hr⟩:=h
 exact ⟨h1,h2,v,by simp [hv],hr⟩
theorem nQ.v {d:DV E} {v:Value} {s:Sem Next} {out:Out E} (ho:(Cal.v d).has out) (hr:s.run P w = .ok (.value v) w) (h:aB T w X g d v):nQ T P w X g out s:=by
 rw [cZ ho]; exact ⟨rfl,rfl,v,hr,h⟩
theorem sA {t:TypeId} (hu:(P.underlying t).isSome=true) {b o off:Nat} {cs:List (DV E)} {f:Nat→Value} (hc : ∀ j,j<cs.length→w.cell? ⟨b,o+j,none⟩=some (f j))
  (hr : ∀ j (h:j<cs.length),Rep T w X cs[j] (f j)) (hle:off+P.cellsOf t≤cs.length) (h0:0<P.cellsOf t) :
  ∃ v,(loadVar t ⟨b,o+off,none⟩).run P w = .ok v w∧Rep T w X (qm P t cs off) v:=by
 obtain ⟨d,hd⟩:=Option.isSome_iff_exists.1 hu
 unfold loadVar qm
 cases ha:dE P t
 ·simp only [Sem.run_bind,fF hd,ha,Result.andThen_ok,Bool.false_eq_true,if_false]
  have hlt:off<cs.length:=by omega
  refine ⟨f off,by simp [hc off hlt],?_⟩
  rw [dV _ _ _ hlt]
  exact hr off hlt
 ·simp only [Sem.run_bind,fF hd,ha,Result.andThen_ok,if_true,jR hd]
  rw [run_loadCells w ⟨b,o+off,none⟩ (P.cellsOf t) (fun j=>f (off+j)) (fun j hj=>by rw [Addr.add_lit,Nat.add_assoc]; exact hc _ (by omega))]
  refine ⟨_,rfl, .agg (by simp; omega) ?_⟩
  intro i hi hi'
  simp only [List.getElem_take,List.getElem_drop,List.getElem_toArray,List.getElem_map,List.getElem_range]
  exact hr _ _
theorem DQ {t:TypeId} {d:TypeDesc} (hu:P.underlying t=some d) {cs:List (DV E)} {vs:Array Value} (hl:cs.length=vs.size)
  (hr : ∀ i (hi:i<cs.length) (hi':i<vs.size),Rep T w X cs[i] vs[i]) {off:Nat} (hle:off+P.cellsOf t≤cs.length) (h0:0<P.cellsOf t) :
  ∃ v,(part t vs off).run P w = .ok v w∧Rep T w X (qm P t cs off) v:=by
 unfold part qm
 cases ha:dE P t
 ·simp only [Sem.run_bind,fF hu,ha,Result.andThen_ok,Bool.false_eq_true,if_false]
  have hlt:off<cs.length:=by omega
  have hv:vs[off]? = some (vs[off]'(by omega)):=Array.getElem?_eq_getElem (by omega)
  refine ⟨vs[off]'(by omega),by simp [hv],?_⟩
  rw [dV _ _ _ hlt]
  exact hr off hlt _
 ·simp only [Sem.run_bind,fF hu,ha,Result.andThen_ok,if_true,jR hu,Sem.run_pure]
  refine ⟨_,rfl, .agg (by simp; omega) ?_⟩
  intro i hi hi'
  simp only [List.getElem_take,List.getElem_drop,Array.getElem_extract]
  exact hr _ _ _
theorem pZ {s:TypeId} {f off:Nat} {ft:TypeId} (h:Program.oj P s f=some (off,ft)) :
  ∃ fs fd,P.underlying s=some (.struct fs)∧fs[f]? = some fd∧fd.offset=off∧fd.type=ft:=by
 unfold Program.oj at h
 split at h
 ·rename_i fs hu
  obtain ⟨fd,hf,he⟩:=Option.map_eq_some_iff.1 h
  simp only [Prod.mk.injEq] at he
  exact ⟨fs,fd,hu,hf,he.1,he.2⟩
 ·cases h
theorem qO {t:TypeId} (h:P.cellsOf t≠0) : ∃ i,P.info? t=some i:=by
 unfold Program.cellsOf at h
 cases hi:P.info? t with
 | none=>simp [hi] at h
 | some i=>exact ⟨i,rfl⟩
theorem bu {t:TypeId} (h:P.cellsOf t≠0):(sizeOf t).run P w = .ok (P.cellsOf t) w:=by
 obtain ⟨i,hi⟩:=qO h
 simp [sizeOf,typeInfo,hi,Program.cellsOf]
theorem jT {s:TypeId} {f off:Nat} {ft:TypeId} (h:Program.oj P s f=some (off,ft)) (h0:P.cellsOf ft≠0) (b o:Nat) :
  (Instr.fieldAt s (.pointer (some ⟨b,o,none⟩)) f).run P w = .ok (.pointer (some ⟨b,o+off,none⟩)) w:=by
 obtain ⟨fs,fd,hu,hf,rfl,rfl⟩:=pZ h
 simp only [Instr.fieldAt,Sem.run_bind,run_underlying hu,Result.andThen_ok,hf,Instr.sureAddr,Sem.run_pure,fieldPlace,bu h0,h0,if_false,Addr.add_lit]
theorem fA {d:DV E} {n:Int} {v:Value} (h:qX d=some n) (hr:aB T w X g d v) : ∃ kd,v = .int kd n:=by
 unfold qX at h
 split at h
 ·cases h; exact ⟨_,(fX hr).1⟩
 ·cases h
theorem qy {d:DV E} {n:Int} {v:Value} (h:asInt d=some n) (hr:aB T w X g d v):v = .int .i64 n:=by
 unfold asInt at h
 split at h
 ·cases h; exact (fX hr).1
 ·cases h
theorem k7 {α:Type} {l:List α} {n:Int} {x:α} (h:idx l n=some x):0≤n ∧ ∃ h:n.toNat<l.length,l[n.toNat]=x:=by
 unfold idx at h
 split at h
 ·rename_i h0
  obtain ⟨hl,he⟩:=List.getElem?_eq_some_iff.1 h
  exact ⟨h0,hl,he⟩
 ·cases h
theorem gD {e:TypeId} {k:K} (h:T.isK P e k=true):T.kind e=some k∧T.sz k=P.cellsOf e∧0<T.sz k:=by
 unfold Tab.isK at h
 split at h
 ·rename_i k' hk
  split at h
  ·rename_i he _
   subst he
   simp only [Bool.and_eq_true,beq_iff_eq,Bool.not_eq_true'] at h
   exact ⟨hk,h.1,Nat.pos_of_ne_zero (by simpa using h.2)⟩
  ·cases h
 ·cases h
theorem dR {t e:TypeId} (h:jz P t=some e):P.underlying t=some (.slice e):=by
 unfold jz at h
 split at h
 ·cases h; assumption
 ·cases h
theorem im {k:K} {l:List (E k)} {v:Value} (h:aB T w X g (.slc k l) v) :
  (v = .slice none 0 0∧l = [])∨(∃ (a:Addr) (cap:Nat),v = .slice (some a) 0 cap∧l = []) ∨ ∃ (b off cap:Nat) (f:Nat→Value),v = .slice (some ⟨b,off,none⟩) l.length cap∧l.length≤cap∧(0<l.length→X b∧b<w.heap.size) ∧
   (∀ j,j<l.length * T.sz k→w.cell? ⟨b,off+j,none⟩=some (f j)) ∧
   (∀ i (hi:i<l.length) (c:Nat) (hcc:c<(T.enc k l[i]).length),Rep T w X (T.enc k l[i])[c] (f (i * T.sz k+c))) ∧
   (∀ i (hi:i<l.length) (c:Nat) (hcc:c<(T.enc k l[i]).length),(T.enc k l[i])[c].plain=true):=by
 cases h with
 | slcn=>exact .inl ⟨rfl,rfl⟩
 | slcz k a cap=>exact .inr (.inl ⟨a,cap,rfl,rfl⟩)
 | slc cap f hn hX hc hr ho=>exact .inr (.inr ⟨_,_,cap,f,rfl,hn,hX,hc,hr,ho⟩)
theorem DW {t e:TypeId} {k:K} {l:List (E k)} {v:Value} {n:Int} {kd:IntKind} {x:E k} (ht:jz P t=some e) (hk:T.isK P e k=true) (h:aB T w X g (.slc k l) v) (hx:idx l n=some x) :
  ∃ u,(Instr.indexAt t v (.int kd n)).run P w = .ok u w∧aB T w X g (.eptr (T.enc k x) 0) u:=by
 obtain ⟨hk1,hk2,hk3⟩:=gD hk
 obtain ⟨h0,hlt,rfl⟩:=k7 hx
 rcases im h with ⟨rfl,rfl⟩ | ⟨a0,c0,rfl,rfl⟩ | ⟨b,off,cap,f,rfl,hn,hX,hc,hr,ho⟩
 ·simp at hlt
 ·simp at hlt
 ·have hu:=dR ht
  refine ⟨.pointer (some ⟨b,off+n.toNat * T.sz k,none⟩),?_,b,off+n.toNat * T.sz k,fun j=>f (n.toNat * T.sz k+j),rfl,(hX (by omega)).1,(hX (by omega)).2,?_,?_⟩
  ·simp only [Instr.indexAt,asIntOf,Sem.run_bind,Sem.run_pure,Result.andThen_ok,run_underlying hu]
   have h1:0≤n∧n<(l.length:Int):=⟨h0,by omega⟩
   have hs:P.cellsOf e≠0:=by omega
   simp [h1,bu hs,hk2,Addr.add_lit]
  ·intro j hj
   rw [T.enc_len] at hj
   have hm:n.toNat * T.sz k+j<l.length * T.sz k:=by
    have:(n.toNat+1) * T.sz k≤l.length * T.sz k:=Nat.mul_le_mul_right _ hlt
    rw [Nat.add_mul] at this
    omega
   rw [Nat.add_assoc]
   exact hc _ hm
  ·exact fun j hj=>⟨hr n.toNat hlt j hj,ho n.toNat hlt j hj⟩
theorem DZ {t:TypeId} {s:List UInt8} {n:Int} {kd:IntKind} {x:UInt8} (ht:P.underlying t=some .string) (hx:idx s n=some x) :
  (Instr.index t (.string ⟨s.toArray⟩) (.int kd n)).run P w = .ok (.int .u8 (x.toNat:Int)) w:=by
 obtain ⟨h0,hlt,rfl⟩:=k7 hx
 have:(⟨s.toArray⟩:ByteArray)[n.toNat]? = some s[n.toNat]:=by
  have hs:(⟨s.toArray⟩:ByteArray).size=s.length:=rfl
  rw [getElem?_pos _ _ (by rw [hs]; exact hlt)]
  rfl
 simp only [Instr.index,asIntOf,Sem.run_bind,Sem.run_pure,Result.andThen_ok,run_underlying ht,if_pos h0,this]
theorem dJ (isS:Bool) (len cap:Nat) (low high:Option Value) (a b:Int) (hlo:(low=none∧a=0) ∨ ∃ kd,low=some (.int kd a))
  (hhi:(high=none∧b=len) ∨ ∃ kd,high=some (.int kd b)) (h1:0≤a) (h2:a≤b) (h3:b≤len) (h4:len≤cap) :
  (Instr.sliceBounds isS len cap low high none).run P w = .ok (a.toNat,b.toNat,cap) w:=by
 have hb:(b.toNat:Int)=b:=Int.toNat_of_nonneg (by omega)
 rcases hlo with ⟨rfl,rfl⟩ | ⟨kl,rfl⟩ <;> rcases hhi with ⟨rfl,rfl⟩ | ⟨kh,rfl⟩
 ·simp [Instr.sliceBounds]
 ·simp [Instr.sliceBounds,Instr.sliceBound,asIntOf,show 0≤b∧b≤(cap:Int) by omega]
 ·simp [Instr.sliceBounds,Instr.sliceBound,asIntOf,show 0≤a∧a≤(len:Int) by omega]
 ·simp [Instr.sliceBounds,Instr.sliceBound,asIntOf,show 0≤b∧b≤(cap:Int) by omega,show 0≤a∧a≤(b.toNat:Int) by omega]
  intro; omega
theorem vc {α:Type} {l r:List α} {a b:Int} (h:sub l a b=some r):0≤a∧a≤b∧b≤(l.length:Int)∧r=(l.drop a.toNat).take (b.toNat - a.toNat):=by
 unfold sub at h
 split at h
 ·rename_i hh; cases h; exact ⟨hh.1,hh.2.1,hh.2.2,rfl⟩
 ·cases h
theorem extract_mk (s:List UInt8) (a b:Nat):(⟨s.toArray⟩:ByteArray).extract a b=⟨((s.drop a).take (b - a)).toArray⟩:=by
 apply ByteArray.ext
 rw [ByteArray.data_extract]
 apply Array.ext'
 simp [List.extract_eq_take_drop]
theorem jS {ρd:Operand→DV E} {ρ:Operand→Value} (hρ : ∀ x,aB T w X g (ρd x) (ρ x)) {d n:Int} {x:Option Operand} (h:oY ρd d x=some n) :
  (x.map ρ=none∧n=d) ∨ ∃ kd,x.map ρ=some (.int kd n):=by
 cases x with
 | none=>simp [oY] at h; exact .inl ⟨rfl,h.symm⟩
 | some x =>
  obtain ⟨kd,hk⟩:=fA h (hρ x)
  exact .inr ⟨kd,by simp [hk]⟩
theorem E2 {t:TypeId} {s r:List UInt8} {low high:Option Value} {a b:Int} (ht:P.underlying t=some .string) (hlo:(low=none∧a=0) ∨ ∃ kd,low=some (.int kd a))
  (hhi:(high=none∧b=s.length) ∨ ∃ kd,high=some (.int kd b)) (h:sub s a b=some r) :
  (Instr.sliceAt t (.string ⟨s.toArray⟩) low high none).run P w = .ok (.string ⟨r.toArray⟩) w:=by
 obtain ⟨h1,h2,h3,rfl⟩:=vc h
 have hs:(⟨s.toArray⟩:ByteArray).size=s.length:=rfl
 simp only [Instr.sliceAt,Instr.slice,Sem.run_bind,run_underlying ht,Result.andThen_ok,hs]
 rw [if_neg (by simp)]
 simp only [Sem.run_bind,dJ false s.length s.length low high a b hlo hhi h1 h2 h3 (Nat.le_refl _),Result.andThen_ok,Sem.run_pure,extract_mk]
theorem IG {k:K} {l:List (E k)} {a:Option Addr} {n cap cap':Nat} (h:aB T w X g (.slc k l) (.slice a n cap)) (hc:l.length≤cap') (h0:a=none→cap'=0):aB T w X g (.slc k l) (.slice a n cap'):=by
 rcases im h with ⟨e,rfl⟩ | ⟨a0,c0,e,rfl⟩ | ⟨bb,off,cap2,f,e,hn,hX,hcc,hr,ho⟩
 ·cases e
  rw [h0 rfl]
  exact Rep.slcn k
 ·cases e
  exact Rep.slcz k a0 cap'
 ·cases e
  exact Rep.slc cap' f hc hX hcc hr ho
theorem wR {t e:TypeId} {k:K} {l r:List (E k)} {v:Value} {low high:Option Value} {a b:Int} (ht:P.underlying t=some (.slice e)) (hk:T.isK P e k=true)
  (hv:aB T w X g (.slc k l) v) (hlo:(low=none∧a=0) ∨ ∃ kd,low=some (.int kd a)) (hhi:(high=none∧b=l.length) ∨ ∃ kd,high=some (.int kd b)) (h:sub l a b=some r) :
  ∃ u,(Instr.sliceAt t v low high none).run P w = .ok u w∧aB T w X g (.slc k r) u:=by
 obtain ⟨h1,h2,h3,rfl⟩:=vc h
 obtain ⟨hk1,hk2,hk3⟩:=gD hk
 have hs:P.cellsOf e≠0:=by omega
 rcases im hv with ⟨rfl,rfl⟩ | ⟨a0,c0,rfl,rfl⟩ | ⟨bb,off,cap,f,rfl,hn,hX,hc,hr,ho⟩
 ·have ha:a=0:=by simp at h3; omega
  have hb:b=0:=by simp at h3; omega
  subst ha; subst hb
  refine ⟨.slice none 0 0,?_,Rep.slcn k⟩
  have hsb:=dJ (P:=P) (w:=w) true 0 0 low high 0 0 hlo hhi (by omega) (by omega) (by simp) (Nat.le_refl _)
  simp [Instr.sliceAt,Instr.slice,run_underlying ht,hsb,bu hs]
 ·have ha:a=0:=by simp at h3; omega
  have hb:b=0:=by simp at h3; omega
  subst ha; subst hb
  have hsb:=dJ (P:=P) (w:=w) true 0 c0 low high 0 0 hlo hhi (by omega) (by omega) (by simp) (Nat.zero_le _)
  refine ⟨.slice (if c0=0 then some a0 else (some a0:Option Addr).map (·.add (0 * P.cellsOf e))) 0 c0,?_,?_⟩
  ·simp [Instr.sliceAt,Instr.slice,run_underlying ht,hsb,bu hs]
  ·split
   ·exact Rep.slcz k a0 c0
   ·exact Rep.slcz k _ c0
 ·have hsb:=dJ (P:=P) (w:=w) true l.length cap low high a b hlo hhi h1 h2 h3 hn
  refine ⟨.slice (if cap=a.toNat then some ⟨bb,off,none⟩ else (some ⟨bb,off,none⟩:Option Addr).map (·.add (a.toNat * P.cellsOf e))) (b.toNat - a.toNat) (cap - a.toNat),?_,?_⟩
  ·simp [Instr.sliceAt,Instr.slice,run_underlying ht,hsb,bu hs]
  ·have hlen:((l.drop a.toNat).take (b.toNat - a.toNat)).length=b.toNat - a.toNat:=by simp; omega
   have hget : ∀ i (hi:i<((l.drop a.toNat).take (b.toNat - a.toNat)).length),((l.drop a.toNat).take (b.toNat - a.toNat))[i]=l[a.toNat+i]'(by rw [hlen] at hi; omega):=by
    intro i hi; simp
   by_cases hcap:cap=a.toNat
   ·rw [if_pos hcap]
    have h0:b.toNat - a.toNat=0:=by omega
    have he:(l.drop a.toNat).take (b.toNat - a.toNat) = []:=by rw [h0]; simp
    rw [he,h0]
    exact Rep.slc (l := []) (cap - a.toNat) f (by simp) (by simp) (by simp) (fun i hi=>by simp at hi) (fun i hi=>by simp at hi)
   ·rw [if_neg hcap, ← hk2]
    have:=Rep.slc (T:=T) (w:=w) (X:=X) (k:=k) (l:=(l.drop a.toNat).take (b.toNat - a.toNat)) (b:=bb) (off:=off+a.toNat * T.sz k) (cap - a.toNat) (fun j=>f (a.toNat * T.sz k+j))
     (by rw [hlen]; omega) (by rw [hlen]; intro h; exact hX (by omega)) ?_ ?_ ?_
    ·rw [hlen] at this
     show Rep T w X _ _
     simpa [Addr.add_lit] using this
    ·intro j hj
     rw [hlen] at hj
     rw [Nat.add_assoc]
     apply hc
     have:(b.toNat - a.toNat) * T.sz k+a.toNat * T.sz k≤l.length * T.sz k:=by
      rw [← Nat.add_mul]; exact Nat.mul_le_mul_right _ (by omega)
     omega
    ·intro i hi c hcc
     have hcc':c<(T.enc k l[a.toNat+i]).length:=by rw [T.enc_len] at hcc ⊢; exact hcc
     have hq:=hr (a.toNat+i) (by rw [hlen] at hi; omega) c (by rw [T.enc_len] at hcc ⊢; exact hcc)
     simp only [hget i hi]
     rw [Nat.add_mul] at hq
     rw [← Nat.add_assoc]
     exact hq
    ·intro i hi c hcc
     have hq:=ho (a.toNat+i) (by rw [hlen] at hi; omega) c (by rw [T.enc_len] at hcc ⊢; exact hcc)
     simp only [hget i hi]
     exact hq
theorem sd (len cap:Nat) (low:Option Value) (kb km:IntKind) (a b m:Int) (hlo:(low=none∧a=0) ∨ ∃ kd,low=some (.int kd a))
  (h1:0≤a) (h2:a≤b) (h3:b≤m) (h4:m≤cap) :
  (Instr.sliceBounds true len cap low (some (.int kb b)) (some (.int km m))).run P w = .ok (a.toNat,b.toNat,m.toNat) w:=by
 have hb:(b.toNat:Int)=b:=Int.toNat_of_nonneg (by omega)
 have hm:(m.toNat:Int)=m:=Int.toNat_of_nonneg (by omega)
 rcases hlo with ⟨rfl,rfl⟩ | ⟨kl,rfl⟩
 ·simp [Instr.sliceBounds,Instr.sliceBound,asIntOf,show 0≤m∧m≤(cap:Int) by omega,show 0≤b∧b≤max m 0 by omega]
 ·simp [Instr.sliceBounds,Instr.sliceBound,asIntOf,show 0≤m∧m≤(cap:Int) by omega,show 0≤b∧b≤max m 0 by omega,show 0≤a∧a≤max b 0 by omega]
theorem Ce {t e:TypeId} {k:K} {l r:List (E k)} {v:Value} {low:Option Value} {a b m:Int} {kb km:IntKind} (ht:P.underlying t=some (.slice e)) (hk:T.isK P e k=true)
  (hv:aB T w X g (.slc k l) v) (hlo:(low=none∧a=0) ∨ ∃ kd,low=some (.int kd a)) (h:Jq l a b m=some r) :
  ∃ u,(Instr.sliceAt t v low (some (.int kb b)) (some (.int km m))).run P w = .ok u w∧aB T w X g (.slc k r) u:=by
 unfold Jq at h
 split at h
 case isFalse=>cases h
 rename_i hm
 obtain ⟨hm1,hm2⟩:=hm
 obtain ⟨h1,h2,h3,hr⟩:=vc h
 obtain ⟨hk1,hk2,hk3⟩:=gD hk
 have hs:P.cellsOf e≠0:=by omega
 have key : ∀ (ad:Option Addr) (cap:Nat),v = .slice ad l.length cap→l.length≤cap → ∃ u,(Instr.sliceAt t v low (some (.int kb b)) (some (.int km m))).run P w = .ok u w∧aB T w X g (.slc k r) u:=by
  intro ad cap hve hcap
  subst hve
  have hsb3:=sd (P:=P) (w:=w) l.length cap low kb km a b m hlo h1 h2 hm1 (by omega)
  refine ⟨.slice (if m.toNat=a.toNat then ad else ad.map (·.add (a.toNat * P.cellsOf e))) (b.toNat - a.toNat) (m.toNat - a.toNat),?_,?_⟩
  ·simp [Instr.sliceAt,Instr.slice,run_underlying ht,hsb3,bu hs]
  ·have hrl:r.length=b.toNat - a.toNat:=by rw [hr]; simp only [List.length_take,List.length_drop]; omega
   by_cases hma:m.toNat=a.toNat
   ·rw [if_pos hma]
    have h0:b.toNat - a.toNat=0:=by omega
    have he:r = []:=List.length_eq_zero_iff.1 (by omega)
    rw [he,h0,hma,Nat.sub_self]
    cases ad with
    | none=>exact Rep.slcn k
    | some x=>exact Rep.slcz k x 0
   ·rw [if_neg hma]
    have hca:cap≠a.toNat:=by omega
    obtain ⟨u,hu,hru⟩:=wR (P:=P) (g:=g) ht hk hv hlo (.inr ⟨kb,rfl⟩) h
    have hsb2:=dJ (P:=P) (w:=w) true l.length cap low (some (.int kb b)) a b hlo (.inr ⟨kb,rfl⟩) h1 h2 h3 hcap
    have hu2:u = .slice (ad.map (·.add (a.toNat * P.cellsOf e))) (b.toNat - a.toNat) (cap - a.toNat):=by
     simp [Instr.sliceAt,Instr.slice,run_underlying ht,hsb2,bu hs,hca] at hu
     exact hu.symm
    subst hu2
    refine IG hru (by omega) fun hn => ?_
    have:ad=none:=by cases ad with
     | none=>rfl
     | some x=>simp at hn
    subst this
    exfalso
    have hl0:l.length=0:=by
     rcases im hv with ⟨_,e⟩ | ⟨_,_,_,e⟩ | ⟨_,_,_,_,e,_⟩
     ·rw [e]; rfl
     ·rw [e]; rfl
     ·injection e with e1 _ _; cases e1
    omega
 rcases im hv with ⟨rfl,rfl⟩ | ⟨a0,c0,rfl,rfl⟩ | ⟨bb,off,cap,f,rfl,hn,hX,hc,hr,ho⟩
 ·exact key none 0 rfl (Nat.le_refl _)
 ·exact key (some a0) c0 rfl (Nat.zero_le _)
 ·exact key _ cap rfl hn
def Cells (T:Tab E) (w:World) (X:Nat→Prop) (ds:List (DV E)) (vs:List Value):Prop :=
 ds.length=vs.length ∧ ∀ i (h:i<ds.length) (h':i<vs.length),Rep T w X ds[i] vs[i]
theorem cV {d:DV E} {v:Value} (h:Rep T w X d v) (hp:d.plain=true):d.cells = [d]∧v.cells = #[v]∧v.oneCell'=true:=by
 induction h with
 | any h ih=>exact ⟨rfl,(ih (T.dyn_pl _ _)).2⟩
 | _=>simp_all [DV.plain,DV.cells,Value.cells,Value.oneCell']
theorem Cells.one {d:DV E} {v:Value} (h:Rep T w X d v):Cells T w X [d] [v] :=
 ⟨rfl,fun i hi hi'=>by
  have:i=0:=by simp at hi; exact hi
  subst this
  exact h⟩
theorem DX {d:DV E} (h:d.lay=true):d.share=true:=by
 cases d <;> first | exact h | rfl
theorem oT {d:DV E} {v:Value} (h:aB T w X g d v) (hs:d.lay=true):Cells T w X d.cells v.cells.toList:=by
 have h:=h.plain (DX hs)
 by_cases hp:d.plain=true
 ·obtain ⟨h1,h2,_⟩:=cV h hp
  rw [h1,h2]
  exact .one h
 ·cases h with
  | agg hl hr=>exact ⟨by simpa [DV.cells,Value.cells] using hl,fun i hi hi'=>hr i (by simpa [DV.cells] using hi) (by simpa [Value.cells] using hi')⟩
  | _=>simp_all [DV.lay,DV.plain]
theorem we (v:Value):(ofConst v:DV E).cells = [ofConst v]:=by
 unfold ofConst; (repeat' split) <;> rfl
theorem lC (z:Value):Cells T w X (gq z:DV E).cells z.cells.toList:=by
 by_cases h : ∃ cs,z = .agg cs
 ·obtain ⟨cs,rfl⟩:=h
  refine ⟨by simp [gq,DV.cells,Value.cells],fun i hi hi' => ?_⟩
  simp only [gq,DV.cells,Value.cells,List.getElem_map]
  exact j0 _
 ·have h1:(gq z:DV E)=ofConst z:=by cases z <;> first | rfl | exact absurd ⟨_,rfl⟩ h
  have h2:z.cells = #[z]:=by cases z <;> first | rfl | exact absurd ⟨_,rfl⟩ h
  rw [h1,we,h2]
  exact .one (j0 _)
theorem Rep.inr {X:Nat→Prop} {d:DV E} {v:Value} (h:Rep T w X d v):d.inr:=by
 cases h <;> first | exact True.intro | skip
 case int h=>exact h
theorem Cells.inr {X:Nat→Prop} {ds:List (DV E)} {vs:List Value} (h:Cells T w X ds vs) : ∀ c∈ds,c.inr:=by
 intro c hc
 obtain ⟨i,hi,rfl⟩:=List.getElem_of_mem hc
 exact (h.2 i hi (by rw [← h.1]; exact hi)).inr
theorem sN (k:K) : ∀ (n:Nat) (cs:List (DV E)) (l:List (E k)),(∀ c∈cs,c.inr)→cs.length=n * T.sz k→jF T k n cs=some l→l.length=n∧ik T k l=cs
 | 0,cs,l,_,hlen,h=>by
  simp [jF] at h; subst h
  have:cs = []:=List.eq_nil_of_length_eq_zero (by simpa using hlen)
  subst this; exact ⟨rfl,rfl⟩
 | n+1,cs,l,hin,hlen,h=>by
  simp only [jF] at h
  obtain ⟨x,hx,h⟩:=Option.bind_eq_some_iff.1 h
  obtain ⟨l',hl',rfl⟩:=Option.map_eq_some_iff.1 h
  have hx':=T.dec_ok k _ _ (fun c hc=>hin c (List.mem_of_mem_take hc)) hx
  have hlen':(cs.drop (T.sz k)).length=n * T.sz k:=by rw [List.length_drop,hlen,Nat.add_mul]; omega
  obtain ⟨h1,h2⟩:=sN k n _ l' (fun c hc=>hin c (List.mem_of_mem_drop hc)) hlen' hl'
  refine ⟨by simp [h1],?_⟩
  unfold ik at h2 ⊢
  rw [List.flatMap_cons,h2,hx',List.take_append_drop]
theorem pq {t:TypeId} {n:Nat} {k:K} (h:DS T P t=some (n,k)) : ∃ e,P.underlying t=some (.array n e)∧T.isK P e k=true∧T.sz k=1∧P.cellsOf t=n:=by
 unfold DS at h
 split at h
 ·rename_i m e hu
  split at h
  ·split at h
   ·rename_i hc
    cases h
    simp only [Bool.and_eq_true,beq_iff_eq] at hc
    exact ⟨e,hu,hc.1.1,hc.1.2,hc.2⟩
   ·cases h
  ·cases h
 ·cases h
theorem qo {t:TypeId} {cs:List (DV E)} {vs:List Value} {n:Nat} {k:K} {l:List (E k)} (hc:Cells T w X cs vs) (h:rG T P t cs=some (n,⟨k,l⟩)) :
  DS T P t=some (n,k)∧cs.length=n∧Rep T w X (.arr n k l) (.agg vs.toArray):=by
 unfold rG at h
 split at h
 ·rename_i m k' ha
  split at h
  ·rename_i hh
   simp only [Bool.and_eq_true,beq_iff_eq] at hh
   split at h
   ·rename_i l' hd
    cases h
    obtain ⟨e,hu,hk,hs,hcl⟩:=pq ha
    obtain ⟨h1,h2⟩:=sN k n cs l hc.inr (by rw [hs,hh.1]; omega) hd
    refine ⟨ha,hh.1, .arr h1 (by rw [h2]; exact hh.2) ?_⟩
    rw [h2]
    exact .agg (by simpa using hc.1) fun i hi hi'=>by simpa using hc.2 i hi (by simpa using hi')
   ·cases h
  ·cases h
 ·cases h
theorem wv (k:K) (l:List (E k)) (z:E k):vL T k l z l.length=ik T k l:=by
 unfold vL ik agd
 have:(List.range l.length).map (fun i=>l.getD i z)=l:=by
  apply List.ext_getElem
  ·simp
  ·intro i h1 h2
   simp [h2]
 conv=>rhs; rw [← this]
 rw [List.flatMap_map]
theorem lN {n:Nat} {k:K} {l:List (E k)} {v:Value} (h:aB T w X g (.arr n k l) v):l.length=n∧(ik T k l).all DV.plain=true ∧ ∃ vs,v = .agg vs∧Cells T w X (ik T k l) vs.toList:=by
 cases h with
 | arr hl hp h =>
  cases h with
  | agg h1 h2=>exact ⟨hl,hp,_,rfl,by simpa using h1,fun i hi hi'=>by simpa using h2 i hi (by simpa using hi')⟩
theorem wW {t:TypeId} {d:DV E} {v:Value} (h:aB T w X g d v):aB T w X g (qE T P t d) v:=by
 unfold qE
 split
 ·rename_i n k l
  have hj:aB T w X g (.junk:DV E) v:=Rep.junk v
  split
  ·split
   ·rename_i z hz
    cases h with
    | arr hl hp h =>
     rw [← hl,wv]
     exact h
   ·exact hj
  ·exact hj
 ·exact h
theorem rQ (cs:Array Value) (xs:Array Value) (off:Nat) (h:off+xs.size≤cs.size) :
  (xs.zipIdx.foldl (fun cs (c,j)=>cs.setIfInBounds (off+j) c) cs).toList=cs.toList.take off ++ xs.toList ++ cs.toList.drop (off+xs.size):=by
 have key : ∀ (l:List Value) (k:Nat) (cs:Array Value),off+k+l.length≤cs.size →
   ((l.zipIdx k).foldl (fun cs (p:Value×Nat)=>cs.setIfInBounds (off+p.2) p.1) cs).toList=cs.toList.take (off+k) ++ l ++ cs.toList.drop (off+k+l.length):=by
  intro l
  induction l with
  | nil=>intro k cs _; simp
  | cons x l ih =>
   intro k cs hk
   simp only [List.length_cons] at hk
   rw [List.zipIdx_cons,List.foldl_cons,ih (k+1) _ (by simp; omega)]
   simp only [Array.toList_setIfInBounds,List.length_cons]
   apply List.ext_getElem?
   intro i
   simp only [List.getElem?_append,List.length_append,List.length_take,List.length_set,Array.length_toList,List.length_cons,List.getElem?_take,List.getElem?_set,List.getElem?_drop]
   grind
 have:=key xs.toList 0 cs (by simpa using h)
 rw [← Array.foldl_toList]
 simpa using this
end Go.Vm
/- The abstract value machine: eff1 is sound: the whole. -/
namespace Go.Vm
set_option linter.unusedVariables false
variable {K:Type} {E:K→Type} {T:Tab E} {P:Program} {w:World} {X:Nat→Prop} {g:Gh}
theorem Cells.append {a b:List (DV E)} {x y:List Value} (h:Cells T w X a x) (h':Cells T w X b y):Cells T w X (a ++ b) (x ++ y):=by
 refine ⟨by simp [h.1,h'.1],fun i hi hi' => ?_⟩
 by_cases hl:i<a.length
 ·rw [List.getElem_append_left hl,List.getElem_append_left (by rw [← h.1]; exact hl)]
  exact h.2 _ _ _
 ·rw [List.getElem_append_right (by omega),List.getElem_append_right (by rw [← h.1]; omega)]
  simp only [h.1]
  exact h'.2 _ _ _
theorem Cells.take {a:List (DV E)} {x:List Value} (h:Cells T w X a x) (n:Nat):Cells T w X (a.take n) (x.take n):=by
 refine ⟨by simp [h.1],fun i hi hi' => ?_⟩
 simp only [List.getElem_take]
 exact h.2 _ _ _
theorem Cells.drop {a:List (DV E)} {x:List Value} (h:Cells T w X a x) (n:Nat):Cells T w X (a.drop n) (x.drop n):=by
 refine ⟨by simp [h.1],fun i hi hi' => ?_⟩
 simp only [List.getElem_drop]
 exact h.2 _ _ _
theorem zZ (l:List Field) (h : ∀ f∈l,(P.info? f.type).isSome=true) :
  (l.mapM fun f=>do pure (f.offset, ← sizeOf f.type):Sem (List (Nat×Nat))).run P w = .ok (l.map fun f=>(f.offset,P.cellsOf f.type)) w:=by
 induction l with
 | nil=>simp
 | cons f l ih =>
  obtain ⟨i,hi⟩:=Option.isSome_iff_exists.1 (h f (by simp))
  have:=ih (fun g hg=>h g (by simp [hg]))
  have hh:(sizeOf f.type).run P w = .ok (P.cellsOf f.type) w:=by simp [sizeOf,typeInfo,hi,Program.cellsOf]
  rw [List.mapM_cons]
  simp only [Sem.run_bind,hh,Result.andThen_ok,Sem.run_pure]
  rw [this]
  rfl
theorem xO (fs:Array Field) (ρd:Operand→DV E) (ρ:Operand→Value) (hρ : ∀ x,aB T w X g (ρd x) (ρ x)) : ∀ (l:List (Nat×Operand)) (cs cs':List (DV E)) (vs:Array Value),
  Cells T w X cs vs.toList→mS T P fs ρd l cs=some cs' →
  ∃ vs':Array Value,Instr.fill ((fs.map fun f=>(f.offset,P.cellsOf f.type))[·]?) vs (l.map fun p=>(p.1,ρ p.2))=some vs'∧Cells T w X cs' vs'.toList
 | [],cs,cs',vs,h,hb=>by simp [mS] at hb; subst hb; exact ⟨vs,by simp [Instr.fill],h⟩
 | (i,x) :: l,cs,cs',vs,h,hb=>by
  simp only [mS] at hb
  split at hb
  ·rename_i f hf
   split at hb
   ·rename_i hc
    obtain ⟨h1,h2,h3⟩:=hc
    have hx:=oT (wW (P:=P) (t:=f.type) (hρ x)) h2
    have hlen:(ρ x).cells.size=P.cellsOf f.type:=by rw [← h1,hx.1]; simp
    have hcs:cs.length=vs.size:=by simpa using h.1
    have hfit:f.offset+(ρ x).cells.size≤vs.size:=by omega
    obtain ⟨vs',hv,hc'⟩:=xO fs ρd ρ hρ l _ cs' ((ρ x).cells.zipIdx.foldl (fun cs (c,j)=>cs.setIfInBounds (f.offset+j) c) vs)
     (by rw [rQ _ _ _ hfit]; unfold cq; rw [hx.1,Array.length_toList]; exact ((h.take _).append hx).append (h.drop _)) hb
    refine ⟨vs',?_,hc'⟩
    simp only [List.map_cons,Instr.fill]
    have hp:(fs.map fun f=>(f.offset,P.cellsOf f.type))[i]? = some (f.offset,P.cellsOf f.type):=by simp [hf]
    rw [hp]
    simp only [hlen]
    rw [if_neg]
    ·exact hv
    ·simp; omega
   ·cases hb
  ·cases hb
theorem G1 {t:TypeId} {fs:Array Field} {z:Value} (hu:P.underlying t=some (.struct fs)) (hz:(P.info? t).bind (·.zero)=some z) (hs:fs.toList.all (fun f=>(P.info? f.type).isSome)=true)
  (parts:Array (Nat×Operand)) (ρd:Operand→DV E) (ρ:Operand→Value) (hρ : ∀ x,aB T w X g (ρd x) (ρ x)) (cs':List (DV E)) (h:mS T P fs ρd parts.toList (gq z).cells=some cs') :
  ∃ v,(Instr.build t (parts.map fun (i,x)=>(i,ρ x))).run P w = .ok v w∧aB T w X g (.agg cs') v:=by
 obtain ⟨vs',hf,hc⟩:=xO fs ρd ρ hρ parts.toList _ cs' z.cells (lC z) h
 obtain ⟨i,hi,hiz⟩:=Option.bind_eq_some_iff.1 hz
 have hm:(fs.mapM fun f=>do pure (f.offset, ← sizeOf f.type):Sem (Array (Nat×Nat))).run P w = .ok (fs.map fun f=>(f.offset,P.cellsOf f.type)) w:=by
  rw [Array.mapM_eq_mapM_toList]
  rw [map_eq_pure_bind]
  simp only [Sem.run_bind]
  rw [zZ fs.toList (fun f hf=>List.all_eq_true.1 hs f hf)]
  simp only [Result.andThen_ok,Sem.run_pure]
  congr 1
  apply Array.ext'
  simp
 refine ⟨.agg vs',?_,?_⟩
 ·simp only [Instr.build,Sem.run_bind,zeroValue,typeInfo,run_program,Result.andThen_ok,hi,Sem.run_pure,hiz,run_underlying hu,hm]
  have hl:(parts.map fun (p:Nat×Operand)=>(p.1,ρ p.2)).toList=parts.toList.map fun p=>(p.1,ρ p.2):=by simp
  rw [hl,hf]
  simp
 ·exact Rep.agg (by simpa using hc.1) (fun i hi hi'=>hc.2 i hi (by simpa using hi'))
theorem xT {sz:Nat} (hsz:sz=1) (ρd:Operand→DV E) (ρ:Operand→Value) (hρ : ∀ x,aB T w X g (ρd x) (ρ x)) : ∀ (l:List (Nat×Operand)) (cs cs':List (DV E)) (vs:Array Value),
  Cells T w X cs vs.toList→nC ρd l cs=some cs' →
  ∃ vs':Array Value,Instr.fill (fun i=>some (i * sz,sz)) vs (l.map fun p=>(p.1,ρ p.2))=some vs'∧Cells T w X cs' vs'.toList
 | [],cs,cs',vs,h,hb=>by simp [nC] at hb; subst hb; exact ⟨vs,by simp [Instr.fill],h⟩
 | (i,x) :: l,cs,cs',vs,h,hb=>by
  subst hsz
  simp only [nC] at hb
  split at hb
  ·rename_i hc
   obtain ⟨h1,h2⟩:=hc
   have hrx:=(hρ x).plain (show (ρd x).share=true by cases hd:ρd x <;> rw [hd] at h1 <;> first | rfl | (simp [DV.plain] at h1; done))
   obtain ⟨hc1,hc2,_⟩:=cV hrx h1
   have hx:=Cells.one hrx
   have hcs:cs.length=vs.size:=by simpa using h.1
   have hs1:(ρ x).cells.size=1:=by rw [hc2]; rfl
   have hfit:i+(ρ x).cells.size≤vs.size:=by omega
   obtain ⟨vs',hv,hc'⟩:=xT rfl ρd ρ hρ l _ cs' ((ρ x).cells.zipIdx.foldl (fun cs (c,j)=>cs.setIfInBounds (i+j) c) vs)
    (by rw [rQ _ _ _ hfit,hc2]; unfold cq; exact ((h.take _).append hx).append (h.drop _)) hb
   refine ⟨vs',?_,hc'⟩
   simp only [List.map_cons,Instr.fill,Nat.mul_one]
   rw [if_neg]
   ·simpa using hv
   ·simp; omega
  ·cases hb
theorem Af {t e:TypeId} {m:Nat} {z:Value} (hu:P.underlying t=some (.array m e)) (hz:(P.info? t).bind (·.zero)=some z)
  (parts:Array (Nat×Operand)) (ρd:Operand→DV E) (ρ:Operand→Value) (hρ : ∀ x,aB T w X g (ρd x) (ρ x)) (cs':List (DV E)) (h:nC ρd parts.toList (gq z).cells=some cs')
  {n:Nat} {k:K} {l:List (E k)} (hm:rG T P t cs'=some (n,⟨k,l⟩)) :
  ∃ v,(Instr.build t (parts.map fun (i,x)=>(i,ρ x))).run P w = .ok v w∧aB T w X g (.arr n k l) v:=by
 have hk : ∃ k',DS T P t=some (n,k')∧T.sz k'=1∧T.isK P e k'=true:=by
  unfold rG at hm
  split at hm
  ·rename_i m' k' ha
   split at hm
   ·split at hm
    ·cases hm
     obtain ⟨e',hu',h1,h2,h3⟩:=pq ha
     rw [hu] at hu'
     cases hu'
     exact ⟨_,ha,h2,h1⟩
    ·cases hm
   ·cases hm
  ·cases hm
 obtain ⟨k',_,hs,hik⟩:=hk
 have hce:P.cellsOf e=1:=by rw [← (gD hik).2.1,hs]
 obtain ⟨vs',hf,hc⟩:=xT hce ρd ρ hρ parts.toList _ cs' z.cells (lC z) h
 obtain ⟨i,hi,hiz⟩:=Option.bind_eq_some_iff.1 hz
 refine ⟨.agg vs',?_,?_⟩
 ·simp only [Instr.build,Sem.run_bind,zeroValue,typeInfo,run_program,Result.andThen_ok,hi,Sem.run_pure,hiz,run_underlying hu,bu (P:=P) (w:=w) (t:=e) (by omega)]
  have hl:(parts.map fun (p:Nat×Operand)=>(p.1,ρ p.2)).toList=parts.toList.map fun p=>(p.1,ρ p.2):=by simp
  rw [hl,hf]
  simp
 ·have:=(qo (P:=P) (t:=t) hc hm).2.2
  exact Rep.toT (by simpa using this)
theorem BW {src dst e:TypeId} {k:K} {l:List (E k)} {s:List UInt8} {v:Value} (hs:P.underlying src=some (.slice e)) (he:P.underlying e=some (.int .u8)) (hd:P.underlying dst=some .string)
  (ht:T.toStr k l=some s) (hv:aB T w X g (.slc k l) v):(convert src dst v).run P w = .ok (.string ⟨s.toArray⟩) w:=by
 obtain ⟨hlen,henc⟩:=T.toStr_ok k s l ht
 rcases im hv with ⟨rfl,rfl⟩ | ⟨a0,c0,rfl,rfl⟩ | ⟨b,off,cap,f,rfl,hn,hX,hc,hr,ho⟩
 ·have:s = []:=by cases s <;> simp_all
  subst this
  rw [run_convert_bytes_nil w src e hs he 0 0 dst hd]
  rfl
 ·have:s = []:=by cases s <;> simp_all
  subst this
  exact run_convert_bytes_back w src dst e a0 c0 [] hs he hd (fun j hj=>absurd hj (Nat.not_lt_zero _))
 ·have hsz:0<l.length→T.sz k=1:=by
   intro h0
   have:=T.enc_len k l[0]
   rw [henc 0 h0 (by omega)] at this
   simpa using this.symm
  rw [run_convert_bytes_arg w src e hs he b off l.length cap (s.map fun x=>(x.toNat:Int)) (by simp [hlen]) ?_ dst hd]
  ·simp only [strOfNums,List.map_map]
   congr 2
   congr 1
   rw [show ((fun n:Int=>UInt8.ofNat n.toNat) ∘ fun x:UInt8=>(x.toNat:Int))=id from by funext x; simp]
   simp
  ·intro i hi
   have h1:=hsz (by omega)
   have hcc:=hc i (by rw [h1]; omega)
   rw [hcc]
   have hri:=hr i hi 0 (by rw [T.enc_len,h1]; omega)
   have he0:=henc i hi (by omega)
   simp only [he0,List.getElem_cons_zero,h1,Nat.mul_one,Nat.add_zero] at hri
   have hfi:f i = .int .u8 (s[i].toNat:Int):=by
    generalize f i=u at hri
    cases hri
    rfl
   rw [hfi]
   simp [List.getD,List.getElem?_map,List.getElem?_eq_getElem (show i<s.length by omega)]
end Go.Vm
/- The abstract value machine: eff1 is sound: all operations. -/
namespace Go.Vm
set_option linter.unusedVariables false
variable {K:Type} {E:K→Type} {T:Tab E} {P:Program} {w:World} {X:Nat→Prop} {g:Gh} {orc:Orc}
theorem Ij (n:Int):(⟨(pN n).toArray⟩:ByteArray)=Utf8.encode n:=by
 apply ByteArray.ext; simp [pN]
theorem D7 (l:List Int):(⟨(uH l).toArray⟩:ByteArray)=runesBytes l:=by
 suffices h : ∀ (l:List Int) (s:ByteArray),l.foldl (fun r n=>r ++ Utf8.encode n) s=s ++ ⟨(uH l).toArray⟩ by
  unfold runesBytes; rw [h]; apply ByteArray.ext; simp
 intro l
 induction l with
 | nil=>intro s; apply ByteArray.ext; simp [uH]
 | cons n l ih =>
  intro s
  rw [List.foldl_cons,ih]
  apply ByteArray.ext
  simp only [uH,pN,List.flatMap_cons,ByteArray.data_append,Array.append_assoc]
  congr 1
  apply Array.ext'
  simp
theorem EC (op:BinOp) (xt:TypeId) (x y:Operand) (yt:TypeId) (dx dy:DV E) (vx vy:Value) (hx:aB T w X g dx vx) (hy:aB T w X g dy vy) (c:Cal E) (out:Out E)
  (cy:Bool) (hcq:cy=(match y with | .const _=>true | _=>false)) (h:uu T P op xt cy dx dy=some c) (hh:c.has out):nQ T P w X g out (do pure (.value (← (do eqGuard op xt x y vx vy; binOp op xt vx vy)))):=by
 unfold uu at h
 split at h
 ·rename_i k a
  by_cases hc:(fh P xt && cy)=true
  ·rw [if_pos hc] at h
   simp only [Bool.and_eq_true] at hc
   have hx:Rep T w X (.any k a) vx:=hx
   cases hx with
   | any hr =>
   have hz:=T.gz_ok k a
   have hif:=hc.1
   have hcy:=hc.2
   cases hq:T.gZ k a
   ·obtain ⟨t,d,e⟩:=hz.2 hq
    rw [e] at hr
    have:=yi (P:=P) op xt x y (.ifc t d) (.nili:DV E) vx vy out hr.toT hy
    refine (this ?_).Fs
    rw [hq] at h
    simp only [BO,hif,if_true]
    cases op <;> simp only at h <;> first | (cases h; done) | (cases h; exact hh)
   ·have e:=hz.1 hq
    rw [e] at hr
    have:=yi (P:=P) op xt x y (.nili:DV E) (.nili:DV E) vx vy out hr.toT hy
    refine (this ?_).Fs
    rw [hq] at h
    obtain ⟨cv,rfl⟩ : ∃ cv,y = .const cv:=by
     rw [hcq] at hcy
     cases y <;> first | exact ⟨_,rfl⟩ | (cases hcy; done)
    simp only [BO,hif,Bool.or_true,Bool.and_true,if_true]
    cases op <;> simp only at h <;> first | (cases h; done) | (cases h; exact hh)
  ·rw [if_neg hc] at h
   cases h
 ·cases h
theorem Bc (z:Value):Rep T w X (gq z:DV E) z:=by
 by_cases h : ∃ cs,z = .agg cs
 ·obtain ⟨cs,rfl⟩:=h
  exact Rep.agg (by simp) fun i hi hi'=>by simp only [List.getElem_map]; exact j0 _
 ·have h1:(gq z:DV E)=ofConst z:=by cases z <;> first | rfl | exact absurd ⟨_,rfl⟩ h
  rw [h1]
  exact j0 _
theorem Rep.noR {d:DV E} {v:Value} (h:Rep T w X d v):d.noR=true:=by cases h <;> rfl
theorem rS {cs:List (DV E)} {v:Value} (h:aB T w X g (.shp cs) v) : ∃ (b o:Nat) (f:Nat→Value),v = .pointer (some ⟨b,o,none⟩)∧(X b∧b<w.heap.size)∧(∀ j,j<cs.length→w.cell? ⟨b,o+j,none⟩=some (f j)) ∧
  (∀ j (h:j<cs.length),Rep T w X cs[j] (f j)∧cs[j].plain=true):=by
 have h:Rep T w X (.shp cs) v:=h
 cases h with
 | shp f hX hc hr ho=>exact ⟨_,_,f,rfl,hX,hc,fun j hj=>⟨hr j hj,ho j hj⟩⟩
theorem Ju {xt t:TypeId} {ok:Bool} {td:TypeDesc} (hd:P.underlying t=some td) (hn:fh P t=false) (u:Value) :
  (Instr.typeAssert (.iface t u) xt t ok).run P w = .ok (if ok then .tuple #[u, .bool true] else u) w:=by
 unfold fh at hn
 rw [hd] at hn
 simp only [Instr.typeAssert,Sem.run_bind,run_underlying hd,Result.andThen_ok]
 cases td <;> first | (cases ok <;> simp; done) | (simp at hn; done)
theorem Ks {xt t:TypeId} {td:TypeDesc} {i:TypeInfo} {z v:Value} (hd:P.underlying t=some td) (hn:fh P t=false) (hi:P.info? t=some i) (hz:i.zero=some z)
  (hv:v = .nilIface ∨ ∃ t' u,v = .iface t' u∧t'≠t):(Instr.typeAssert v xt t true).run P w = .ok (.tuple #[z, .bool false]) w:=by
 unfold fh at hn
 rw [hd] at hn
 simp only [Instr.typeAssert,Sem.run_bind,run_underlying hd,Result.andThen_ok]
 rcases hv with rfl | ⟨t',u,rfl,hne⟩
 ·cases td <;> first | (simp [zeroValue,typeInfo,run_program,hi,hz]; done) | (simp at hn; done)
 ·cases td <;> first | (simp [hne,zeroValue,typeInfo,run_program,hi,hz]; done) | (simp at hn; done)
theorem Ko (xt t:TypeId) (ok:Bool) (x:DV E) (v:Value) (hx:aB T w X g x v) (c:Cal E) (out:Out E) (h:taD T P t ok x=some c) (hh:c.has out) :
  nQ T P w X g out (do pure (.value (← Instr.typeAssert v xt t ok))):=by
 unfold taD at h
 split at h
 ·cases h
 rename_i hc
 simp only [Bool.or_eq_true,not_or,Bool.not_eq_true,Option.isNone_eq_false_iff] at hc
 obtain ⟨⟨hn,hu⟩,hz⟩:=hc
 obtain ⟨td,hd⟩:=Option.isSome_iff_exists.1 hu
 obtain ⟨z,hz⟩:=Option.isSome_iff_exists.1 hz
 obtain ⟨inf,hi,hiz⟩:=Option.bind_eq_some_iff.1 hz
 have hzt:vZ P t=(gq z:DV E):=by unfold vZ; rw [hz]
 have hno : ∀ (o:Out E),(if ok then Cal.v (.tup [vZ P t, .bool false]) else (Cal.bad:Cal E)).has o→(v = .nilIface ∨ ∃ t' u,v = .iface t' u∧t'≠t)→nQ T P w X g o (do pure (.value (← Instr.typeAssert v xt t ok))):=by
  intro o ho hv
  cases ok
  ·obtain ⟨r,hr,_⟩:=ho
   cases hr
  ·refine .v ho (by simp [Ks hd hn hi hiz hv] <;> rfl) ?_
   rw [hzt]
   refine ⟨_,rfl,rfl,fun j hj hj' => ?_⟩
   match j,hj with
   | 0,_=>exact ⟨(Bc z).Cl,(Bc (T:=T) (w:=w) (X:=X) z).noR⟩
   | 1,_=>exact ⟨Rep.bool _,rfl⟩
   | j+2,hj=>simp at hj; omega
 have hyes : ∀ (d:DV E) (u:Value) (o:Out E),o=val (if ok then .tup [d, .bool true] else d)→v = .iface t u→Rep T w X d u→nQ T P w X g o (do pure (.value (← Instr.typeAssert v xt t ok))):=by
  intro d u o ho hv hr
  subst ho hv
  refine ⟨rfl,rfl,_,by simp [Ju hd hn u] <;> rfl,?_⟩
  cases ok
  ·exact hr.toT
  ·refine ⟨_,rfl,rfl,fun j hj hj' => ?_⟩
   match j,hj with
   | 0,_=>exact ⟨hr.Cl,hr.noR⟩
   | 1,_=>exact ⟨Rep.bool _,rfl⟩
   | j+2,hj=>simp at hj; omega
 cases x <;> simp only at h <;> first | (cases h; done) | skip
 case nili =>
  obtain rfl:=Option.some.inj h
  have hx:Rep T w X (.nili:DV E) v:=hx
  cases hx
  exact hno out hh (.inl rfl)
 case ifc t' d =>
  have hx:Rep T w X (.ifc t' d) v:=hx
  cases hx with
  | ifc _ hr =>
  by_cases he:t'=t
  ·subst he
   rw [if_pos rfl] at h
   obtain rfl:=Option.some.inj h
   obtain ⟨r,_,hr'⟩:=hh
   exact hyes _ _ out hr'.symm rfl hr
  ·rw [if_neg he] at h
   obtain rfl:=Option.some.inj h
   exact hno out hh (.inr ⟨_,_,rfl,he⟩)
 case any k x =>
  have hx:Rep T w X (.any k x) v:=hx
  cases hx with
  | any hr =>
  have ho : ∀ a,T.asK k t=some a→rq T.gU T.gB T.gI T.gS T.gL k a x=none→v = .nilIface ∨ ∃ t' u,v = .iface t' u∧t'≠t:=by
   intro a ha hv
   rcases (T.as_ok k t a ha x).2 hv with e | ⟨t',d,e,hne⟩
   ·rw [e] at hr
    cases hr
    exact .inl rfl
   ·rw [e] at hr
    cases hr with
    | ifc _ hq=>exact .inr ⟨_,_,rfl,hne⟩
  have hs : ∀ a d,T.asK k t=some a→rq T.gU T.gB T.gI T.gS T.gL k a x=some d → ∀ o:Out E,o=val (if ok then .tup [d, .bool true] else d)→nQ T P w X g o (do pure (.value (← Instr.typeAssert v xt t ok))):=by
   intro a d ha hv o e
   rw [(T.as_ok k t a ha x).1 d hv] at hr
   cases hr with
   | ifc _ hq=>exact hyes d _ o e rfl hq
  have key : ∀ (a:AsD K) (R:Type) (m:Option R) (f:R→DV E),T.asK k t=some a→rq T.gU T.gB T.gI T.gS T.gL k a x=m.map f →
    ∀ o:Out E,(Cal.br (tz m) (.ret R m fun b=>val (if ok then .tup [f b, .bool true] else f b)) (if ok then Cal.v (.tup [vZ P t, .bool false]) else .bad)).has o→nQ T P w X g o (do pure (.value (← Instr.typeAssert v xt t ok))):=by
   intro a R m f ha hv o hh
   cases m with
   | none=>exact hno o (by simpa [Cal.has,tz] using hh) (ho a ha hv)
   | some b =>
    obtain ⟨r,h1,h2⟩ : ∃ r,some b=some r∧val (if ok then .tup [f r, .bool true] else f r)=o:=by simpa [Cal.has,tz] using hh
    cases h1
    exact hs a (f b) ha hv o h2.symm
  split at h
  ·rename_i ha
   obtain rfl:=Option.some.inj h
   simp only [Cal.has] at hh
   cases hg:T.gU k x
   ·rw [hg] at hh
    exact hno out (by simpa using hh) (ho _ ha (by simp [rq,hg]))
   ·rw [hg] at hh
    obtain ⟨r,h1,h2⟩:(Cal.v (if ok then .tup [.agg [], .bool true] else .agg []):Cal E).has out:=by simpa using hh
    exact hs _ _ ha (by simp [rq,hg]) out h2.symm
  ·rename_i ha
   obtain rfl:=Option.some.inj h
   exact key _ _ _ _ ha rfl out hh
  ·rename_i ha
   obtain rfl:=Option.some.inj h
   exact key _ _ _ _ ha rfl out hh
  ·rename_i ha
   obtain rfl:=Option.some.inj h
   exact key _ _ _ _ ha rfl out hh
  ·rename_i k' ha
   obtain rfl:=Option.some.inj h
   exact key _ _ _ _ ha rfl out hh
  ·cases h
theorem addr_add (b off i:Nat):({ block:=b,off:=off }:Addr).add i={ block:=b,off:=off+i }:=by simp [Addr.add]
theorem wH {src dst e:TypeId} {k:K} {l:List (E k)} {s:List UInt8} {v:Value} (hs:P.underlying src=some (.slice e)) (hd:P.underlying dst=some .string)
  (ht:CQ T P e k l=some s) (hv:aB T w X g (.slc k l) v):(convert src dst v).run P w = .ok (.string ⟨s.toArray⟩) w:=by
 unfold CQ at ht
 split at ht
 ·rename_i he
  exact BW hs he hd ht hv
 ·rename_i he
  split at ht
  case h_2=>cases ht
  rename_i ns hns
  cases ht
  obtain ⟨hlen,henc⟩:=T.runes_ok k ns l hns
  rcases im hv with ⟨rfl,rfl⟩ | ⟨a0,c0,rfl,rfl⟩ | ⟨b,off,cap,f,rfl,hn,hX,hc,hr,ho⟩
  ·have:ns = []:=by cases ns <;> simp_all
   subst this
   rw [run_convert_runes_nil w src dst e 0 0 hs he hd]
   rfl
  ·have:ns = []:=by cases ns <;> simp_all
   subst this
   rw [run_convert_runes w src dst e a0 0 c0 [] (Nat.le_refl _) hs he hd (fun j hj=>absurd hj (Nat.not_lt_zero _))]
   rfl
  ·have hsz:0<l.length→T.sz k=1:=by
    intro h0
    have:=T.enc_len k l[0]
    rw [henc 0 h0 (by omega)] at this
    simpa using this.symm
   rw [run_convert_runes w src dst e _ l.length cap ns (by omega) hs he hd ?_]
   ·rw [List.take_of_length_le (by omega),D7]
   ·intro i hi
    have h1:=hsz (by omega)
    have hcc:=hc i (by rw [h1]; omega)
    rw [addr_add b off i,hcc]
    have hri:=hr i (by omega) 0 (by rw [T.enc_len,h1]; omega)
    have he0:=henc i (by omega) (by omega)
    simp only [he0,List.getElem_cons_zero,h1,Nat.mul_one,Nat.add_zero] at hri
    have hfi:f i = .int .i32 ns[i]:=by
     generalize f i=u at hri
     cases hri
     rfl
    rw [hfi]
    simp [List.getD,List.getElem?_eq_getElem (show i<ns.length by omega)]
 ·cases ht
theorem Hb (src dst:TypeId) (d:DV E) (v:Value) (hv:aB T w X g d v) (c:Cal E) (o:Out E) (h:C7 T P src dst d=some c) (hh:c.has o):sD T P w X g o (convert src dst v):=by
 unfold C7 at h
 split at h
 ·rename_i d u k k' n hs hd
  cases h
  obtain ⟨rfl,hn⟩:=fX hv
  rw [cZ hh]
  exact .of (v := .int k (k.wrap n)) (by simp [convert,run_underlying hs,run_underlying hd,Conv.intToInt]) (ku (ek _ _))
 ·rename_i d u k n hs hd
  cases h
  obtain ⟨rfl,hn⟩:=fX hv
  rw [cZ hh]
  exact .of (v := .string ⟨(pN n).toArray⟩) (by simp [convert,run_underlying hs,run_underlying hd,Conv.intToString,Ij]) (DB _)
 ·rename_i d u s hs hd
  cases h
  obtain rfl:=jo hv
  rw [cZ hh]
  exact .of (v := .string ⟨s.toArray⟩) (by simp [convert,run_underlying hs,run_underlying hd]) (DB _)
 ·rename_i d e k l hs hd
  split at h
  ·rename_i s ht
   cases h
   rw [cZ hh]
   exact .of (wH hs hd ht hv) (DB _)
  ·cases h
 ·cases h
theorem mc {α β:Type} {f:α→β} {l:List α} {a:β} (h:l.map f = [a]) : ∃ x,l = [x]∧f x=a:=by
 cases l with
 | nil=>simp at h
 | cons x l=>cases l with
  | nil=>exact ⟨x,rfl,by simpa using h⟩
  | cons y l=>simp at h
theorem C3 {α β:Type} {f:α→β} {l:List α} {a b:β} (h:l.map f = [a,b]) : ∃ x y,l = [x,y]∧f x=a∧f y=b:=by
 cases l with
 | nil=>simp at h
 | cons x l=>cases l with
  | nil=>simp at h
  | cons y l=>cases l with
   | nil=>exact ⟨x,y,rfl,by simpa using h⟩
   | cons z l=>simp at h
theorem Jp {k:IntKind} {a b:Int} (ha:fZ k a=true) (hb:fZ k b=true):fZ k (if b<a then b else a)=true:=by split <;> assumption
theorem Jt {k:IntKind} {a b:Int} (ha:fZ k a=true) (hb:fZ k b=true):fZ k (if a<b then b else a)=true:=by split <;> assumption
theorem Bz (b:Builtin) (args:List Operand) (argTypes:List TypeId) (ty:TypeId) (consts:Array Bool) (ρd:Operand→DV E) (ρ:Operand→Value) (hρ : ∀ x,aB T w X g (ρd x) (ρ x)) (c:Cal E)
  (h:qP P b (args.map ρd) (argTypes.map P.underlying)=some c) (out:Out E) (hh:c.has out) :
  nQ T P w X g out (builtin b argTypes.toArray ty consts (args.map ρ).toArray):=by
 unfold qP at h
 split at h
 ·rename_i s h1 h2
  obtain ⟨x,rfl,hx⟩:=mc h1
  obtain ⟨t,rfl,ht⟩:=mc h2
  have hv:=hρ x; rw [hx] at hv
  cases h
  exact .v hh (by simp [builtin,Builtin.len_,run_underlying ht,jo hv] <;> rfl) (ku rfl)
 ·rename_i k l e h1 h2
  obtain ⟨x,rfl,hx⟩:=mc h1
  obtain ⟨t,rfl,ht⟩:=mc h2
  have hv:=hρ x; rw [hx] at hv
  cases h
  rcases im hv with ⟨hq,rfl⟩ | ⟨a0,c0,hq,rfl⟩ | ⟨b,off,cap,f,hq,_⟩
  ·exact .v hh (by simp [builtin,Builtin.len_,run_underlying ht,hq] <;> rfl) (ku rfl)
  ·exact .v hh (by simp [builtin,Builtin.len_,run_underlying ht,hq] <;> rfl) (ku rfl)
  ·exact .v hh (by simp [builtin,Builtin.len_,run_underlying ht,hq] <;> rfl) (ku rfl)
 ·rename_i n b e h1 h2
  obtain ⟨x,rfl,hx⟩:=mc h1
  obtain ⟨t,rfl,ht⟩:=mc h2
  have hv:=hρ x; rw [hx] at hv
  obtain ⟨a,len,cap,hg,hq,hb⟩:=hv
  cases h
  exact .v hh (by simp [builtin,Builtin.len_,run_underlying ht,hq] <;> rfl) (ku rfl)
 ·rename_i n b e h1 h2
  obtain ⟨x,rfl,hx⟩:=mc h1
  obtain ⟨t,rfl,ht⟩:=mc h2
  have hv:=hρ x; rw [hx] at hv
  obtain ⟨b0,hg,hq⟩:=hv
  cases h
  exact .v hh (by simp [builtin,Builtin.len_,run_underlying ht,hq] <;> rfl) (ku rfl)
 ·rename_i k p k' q h1
  obtain ⟨x,y,rfl,hx,hy⟩:=C3 h1
  have hvx:=hρ x; rw [hx] at hvx
  have hvy:=hρ y; rw [hy] at hvy
  split at h
  ·rename_i hk; subst hk; cases h
   obtain ⟨e1,o1⟩:=fX hvx
   obtain ⟨e2,o2⟩:=fX hvy
   exact .v hh (by simp [builtin,Builtin.min_,Builtin.min2,e1,e2] <;> rfl) (ku (Jp o1 o2))
  ·cases h
 ·rename_i k p k' q h1
  obtain ⟨x,y,rfl,hx,hy⟩:=C3 h1
  have hvx:=hρ x; rw [hx] at hvx
  have hvy:=hρ y; rw [hy] at hvy
  split at h
  ·rename_i hk; subst hk; cases h
   obtain ⟨e1,o1⟩:=fX hvx
   obtain ⟨e2,o2⟩:=fX hvy
   exact .v hh (by simp [builtin,Builtin.max_,Builtin.max2,e1,e2] <;> rfl) (ku (Jt o1 o2))
  ·cases h
 ·cases h
theorem rZ {k:K} (hs:T.sz k=1) : ∀ (l:List (E k)) (i:Nat) (hi:i<l.length),(ik T k l)[i]? = some ((T.enc k l[i]).getD 0 .junk)
 | [],i,hi=>by simp at hi
 | x :: l,i,hi=>by
  have h1:(T.enc k x).length=1:=by rw [T.enc_len,hs]
  unfold ik
  rw [List.flatMap_cons]
  cases i with
  | zero =>
   rw [List.getElem?_append_left (by omega)]
   simp [List.getD_eq_getElem?_getD,List.getElem?_eq_getElem (show 0<(T.enc k x).length by omega)]
  | succ i =>
   rw [List.getElem?_append_right (by omega),h1]
   have:=rZ hs l i (by simpa using hi)
   unfold ik at this
   simpa using this
theorem oH {k:K} (hs:T.sz k=1) (l:List (E k)):(ik T k l).length=l.length:=by
 unfold ik
 induction l with
 | nil=>rfl
 | cons x l ih=>rw [List.flatMap_cons,List.length_append,T.enc_len,hs,ih,List.length_cons]; omega
theorem EL {t e:TypeId} {n:Nat} {k:K} {l:List (E k)} {i:Int} {kd:IntKind} {x:E k} {v:Value} (ht:P.underlying t=some (.array n e)) (hk:T.isK P e k=true) (hs:T.sz k=1) (hna:dE P e=false)
  (hie:(P.underlying e).isSome=true) (hv:aB T w X g (.arr n k l) v) (hx:idx l i=some x) :
  ∃ u,(Instr.index t v (.int kd i)).run P w = .ok u w∧aB T w X g ((T.enc k x).getD 0 .junk) u:=by
 obtain ⟨hl,hp,vs,rfl,hc⟩:=lN hv
 obtain ⟨h0,hi,rfl⟩:=k7 hx
 obtain ⟨d,hd⟩:=Option.isSome_iff_exists.1 hie
 have hce:P.cellsOf e=1:=by rw [← (gD hk).2.1,hs]
 have hg:=rZ hs l i.toNat hi
 obtain ⟨hlt,he⟩:=List.getElem?_eq_some_iff.1 hg
 have hr:=hc.2 i.toNat hlt (by rw [← hc.1]; exact hlt)
 rw [he] at hr
 have hsz:i.toNat<vs.size:=by have:=hc.1; simp at this; omega
 refine ⟨vs[i.toNat],?_,by simpa using hr.toT⟩
 have hlt':(0≤i∧i<(n:Int)):=⟨h0,by omega⟩
 simp only [Instr.index,asIntOf,Sem.run_bind,Sem.run_pure,Result.andThen_ok,run_underlying ht,if_pos hlt',bu (P:=P) (w:=w) (t:=e) (by omega),hce,Nat.mul_one,part,fF hd,hna,Bool.false_eq_true,if_false]
 simp [Array.getElem?_eq_getElem hsz]
theorem Il (o:Oper) (ρd:Operand→DV E) (ρ:Operand→Value) (hρ : ∀ x,aB T w X g (ρd x) (ρ x)) (c:Cal E) (h:pS T P orc o ρd=some c) (out:Out E) (hh:c.has out) :
  nQ T P w X g out (execOp ρ o):=by
 obtain ⟨dst,op,ty,pos,after,guard⟩:=o
 have mv : ∀ x,(match ρd x with
  | .nils=>match (jz P ty).bind fun e=>(T.kind e).map fun k=>(e,k) with
   | some (_,k)=>if (dst.map orc.rv.contains).getD false then none else some (.v (.slc k []))
   | none=>some (.v .nils)
  | d=>(some (.v d):Option (Cal E)))=some c→nQ T P w X g out (pure (.value (ρ x))):=by
  intro x h
  have hx:=hρ x
  split at h
  ·rename_i hd
   rw [hd] at hx
   have:=iR hx
   split at h
   ·split at h
    ·cases h
    ·cases h; exact .v hh rfl (by rw [this]; exact Rep.slcn _)
   ·cases h; exact .v hh rfl hx
  ·cases h; exact .v hh rfl hx
 cases op <;> simp only [pS] at h
 case move x=>exact mv x h
 case assign x=>exact mv x h
 case pick c a b =>
  split at h
  ·rename_i hc
   cases h
   have:=hρ c; rw [hc] at this
   exact .v hh (by simp [execOp,jG this,asBool]) (hρ a)
  ·rename_i hc
   cases h
   have:=hρ c; rw [hc] at this
   exact .v hh (by simp [execOp,jG this,asBool]) (hρ b)
  ·cases h
 case binOp op xt x y yt =>
  split at h
  ·rename_i c' hc
   cases h
   exact EC op xt x y yt (ρd x) (ρd y) (ρ x) (ρ y) (hρ x) (hρ y) _ out _ rfl hc hh
  ·cases h
   exact (yi op xt x y (ρd x) (ρd y) (ρ x) (ρ y) out (hρ x) (hρ y) hh).Fs
 case unOp op xt x =>
  cases h
  exact (J6 op (ρd x) (ρ x) out (hρ x) hh).Fs
 case convert src dst x=>exact (Hb src dst (ρd x) (ρ x) (hρ x) c out h hh).Fs
 case nilCheck x =>
  have hx:=hρ x
  split at h
  ·rename_i n off hd
   rw [hd] at hx
   obtain ⟨b,hb,hv⟩:=ep hx
   cases h
   exact .v hh (by simp [execOp,hv] <;> rfl) ⟨b,hb,rfl⟩
  ·rename_i cs off hd
   rw [hd] at hx
   obtain ⟨b,o,f,hv,rest⟩:=hx
   cases h
   exact .v hh (by simp [execOp,hv] <;> rfl) ⟨b,o,f,rfl,rest⟩
  ·rename_i cs hd
   rw [hd] at hx
   obtain ⟨b,o,f,hv,rest⟩:=rS hx
   cases h
   exact .v hh (by simp [execOp,hv] <;> rfl) (by rw [hv] at hx; exact hx)
  ·rename_i q cs hd
   rw [hd] at hx
   cases h
   obtain ⟨hq,hh⟩:=eB hh
   rcases uw hx with ⟨e,_⟩ | ⟨_,b,o,hv,hx⟩
   ·rw [e] at hq; cases hq
   ·exact .v hh (by simp [execOp,hv] <;> rfl) (by rw [hv] at hx; exact hx)
  ·cases h
 case fieldAddr s x f =>
  have hx:=hρ x
  split at h
  ·rename_i off ft n o hf hd
   rw [hd] at hx
   obtain ⟨b,hb,hv⟩:=ep hx
   split at h
   ·cases h
   ·rename_i h0
    cases h
    exact .v hh (by simp [execOp,hv,jT hf h0] <;> rfl) ⟨b,hb,rfl⟩
  ·rename_i off ft cs o hf hd
   rw [hd] at hx
   obtain ⟨b,o',ff,hv,h1,h2,h3,h4⟩:=hx
   split at h
   ·cases h
   ·rename_i h0
    cases h
    exact .v hh (by simp [execOp,hv,jT hf h0] <;> rfl) ⟨b,o',ff,by rw [Nat.add_assoc],h1,h2,h3,h4⟩
  ·rename_i off ft n i cs o hf hd
   rw [hd] at hx
   obtain ⟨b,o',ff,hv,h1,h2,h3,h4⟩:=hx
   split at h
   ·cases h
   ·rename_i h0
    cases h
    exact .v hh (by simp [execOp,hv,jT hf h0] <;> rfl) ⟨b,o',ff,by rw [Nat.add_assoc],h1,h2,h3,h4⟩
  ·rename_i off ft cs hf hd
   rw [hd] at hx
   obtain ⟨b,o',ff,hv,⟨h1,h2⟩,h3,h4⟩:=rS hx
   split at h
   ·cases h
   ·rename_i h0
    cases h
    exact .v hh (by simp [execOp,hv,jT hf h0] <;> rfl) ⟨b,o',ff,rfl,h1,h2,h3,h4⟩
  ·rename_i off ft q cs hf hd
   rw [hd] at hx
   split at h
   ·cases h
   ·rename_i h0
    cases h
    obtain ⟨hq,hh⟩:=eB hh
    rcases uw hx with ⟨e,_⟩ | ⟨_,b0,o0,_,hx⟩
    ·rw [e] at hq; cases hq
    ·obtain ⟨b,o',ff,hv,⟨h1,h2⟩,h3,h4⟩:=rS hx
     exact .v hh (by simp [execOp,hv,jT hf h0] <;> rfl) ⟨b,o',ff,rfl,h1,h2,h3,h4⟩
  ·cases h
 case field xt x f =>
  have hx:=hρ x
  split at h
  ·rename_i off ft cs hf hd
   rw [hd] at hx
   obtain ⟨vs,hv,hl,hr⟩:=oo hx
   split at h
   ·rename_i hc
    cases h
    obtain ⟨fs,fd,hu,hfd,rfl,rfl⟩:=pZ hf
    obtain ⟨i,hi⟩:=qO (P:=P) (t:=fd.type) (by omega)
    obtain ⟨d,hud⟩:=Option.isSome_iff_exists.1 hc.2.2
    obtain ⟨v,hp,hr'⟩:=DQ hud hl hr hc.1 hc.2.1
    exact .v hh (by simp [execOp,Instr.field,run_underlying hu,hfd,asAgg,hv,hp] <;> rfl) hr'.toT
   ·cases h
  ·cases h
 case indexAddr t x i =>
  split at h
  ·rename_i e k l n he hd hi
   split at h
   ·rename_i hk
    cases h
    obtain ⟨x',hx',rfl⟩:=hh
    have hv:=hρ x; rw [hd] at hv
    obtain ⟨kd,hn⟩:=fA hi (hρ i)
    obtain ⟨u,hu,hr⟩:=DW (kd:=kd) he hk hv hx'
    exact ⟨rfl,rfl,u,by simp [execOp,hn,hu],hr⟩
   ·cases h
  ·cases h
 case index t x i =>
  split at h
  ·rename_i s n ht hd hi
   cases h
   obtain ⟨x',hx',rfl⟩:=hh
   have hv:=hρ x; rw [hd] at hv
   obtain ⟨kd,hn⟩:=fA hi (hρ i)
   refine ⟨rfl,rfl, .int .u8 (x'.toNat:Int),by simp [execOp,hn,jo hv,DZ (kd:=kd) ht hx'],ku ?_⟩
   have:=x'.toNat_lt
   exact rn (by omega) (by omega)
  ·rename_i m e m' k l n ht hd hi
   split at h
   ·rename_i hc
    cases h
    simp only [Bool.and_eq_true,beq_iff_eq,Bool.not_eq_true'] at hc
    obtain ⟨⟨⟨⟨hk,hs⟩,rfl⟩,hna⟩,hie⟩:=hc
    obtain ⟨x',hx',rfl⟩:=hh
    have hv:=hρ x; rw [hd] at hv
    obtain ⟨kd,hn⟩:=fA hi (hρ i)
    obtain ⟨u,hu,hr⟩:=EL (kd:=kd) ht hk hs hna hie hv hx'
    exact ⟨rfl,rfl,u,by simp [execOp,hn,hu],hr⟩
   ·cases h
  ·cases h
 case slice t x lo hi mx =>
  cases mx with
  | some m =>
   cases hi with
   | none=>simp only at h; cases h
   | some hi =>
    simp only at h
    have hv:=hρ x
    split at h
    ·rename_i e k l ht hd
     rw [hd] at hv
     split at h
     ·rename_i a b c3 ha hb hm
      split at h
      ·rename_i hk
       cases h
       obtain ⟨r,hr,rfl⟩:=hh
       have h1:=jS hρ ha
       obtain ⟨kb,hb⟩:=fA hb (hρ hi)
       obtain ⟨km,hm⟩:=fA hm (hρ m)
       obtain ⟨u,hu,hru⟩:=Ce (kb:=kb) (km:=km) ht hk hv h1 hr
       exact ⟨rfl,rfl,u,by simp [execOp,hb,hm,hu],hru⟩
      ·cases h
     ·cases h
    ·cases h
  | none =>
   simp only at h
   have hv:=hρ x
   split at h
   ·rename_i s ht hd
    rw [hd] at hv
    split at h
    ·rename_i a b ha hb
     cases h
     obtain ⟨r,hr,rfl⟩:=hh
     have h1:=jS hρ ha
     have h2:=jS hρ hb
     exact ⟨rfl,rfl, .string ⟨r.toArray⟩,by simp [execOp,jo hv,E2 ht h1 h2 hr],DB _⟩
    ·cases h
   ·rename_i e k l ht hd
    rw [hd] at hv
    split at h
    ·rename_i a b ha hb
     split at h
     ·rename_i hk
      cases h
      obtain ⟨r,hr,rfl⟩:=hh
      have h1:=jS hρ ha
      have h2:=jS hρ hb
      obtain ⟨u,hu,hru⟩:=wR ht hk hv h1 h2 hr
      exact ⟨rfl,rfl,u,by simp [execOp,hu],hru⟩
     ·cases h
    ·cases h
   ·cases h
 case build t parts =>
  split at h
  ·rename_i fs z hu hz
   split at h
   ·rename_i hs
    split at h
    ·rename_i cs hb
     cases h
     obtain ⟨v,hv,hr⟩:=G1 hu hz hs parts ρd ρ hρ cs hb
     exact .v hh (by simp only [execOp,Sem.run_bind,hv,Result.andThen_ok,Sem.run_pure]) hr
    ·cases h
   ·cases h
  ·rename_i m e z hu hz
   split at h
   ·rename_i cs hb
    split at h
    ·rename_i n k l hm
     cases h
     obtain ⟨v,hv,hr⟩:=Af hu hz parts ρd ρ hρ cs hb hm
     exact .v hh (by simp only [execOp,Sem.run_bind,hv,Result.andThen_ok,Sem.run_pure]) hr
    ·cases h
   ·cases h
  ·cases h
 case extract x i =>
  have hx:=hρ x
  split at h
  ·rename_i vs hd
   rw [hd] at hx
   obtain ⟨us,hv,hl,hr⟩:=hx
   split at h
   ·rename_i hi
    cases h
    rw [dV _ _ _ hi] at hh
    exact .v hh (by simp [execOp,hv,Instr.extract,Array.getElem?_eq_getElem (show i<us.size by omega)] <;> rfl) (.of1 (hr i hi (by omega)).1)
   ·cases h
  ·cases h
 case load t x =>
  have hx:=hρ x
  split at h
  ·rename_i cs off hd
   rw [hd] at hx
   obtain ⟨b,o,f,hv,h1,h2,h3,h4⟩:=hx
   split at h
   ·rename_i hc
    cases h
    obtain ⟨v,hl,hr⟩:=sA hc.2.2 h3 (fun j hj=>(h4 j hj).1) hc.1 hc.2.1
    exact .v hh (by simp [execOp,Instr.loadAt,Instr.sureAddr,hv,hl] <;> rfl) hr.toT
   ·cases h
  ·rename_i n i cs off hd
   rw [hd] at hx
   obtain ⟨b,o,f,hv,h1,h2,h3,h4⟩:=hx
   split at h
   ·rename_i hc
    cases h
    obtain ⟨v,hl,hr⟩:=sA hc.2.2 h3 (fun j hj=>(h4 j hj).1) hc.1 hc.2.1
    exact .v hh (by simp [execOp,Instr.loadAt,Instr.sureAddr,hv,hl] <;> rfl) hr.toT
   ·cases h
  ·rename_i cs hd
   rw [hd] at hx
   obtain ⟨b,o,f,hv,h1,h3,h4⟩:=rS hx
   split at h
   ·rename_i hc
    cases h
    obtain ⟨v,hl,hr⟩:=sA hc.2.2 h3 (fun j hj=>(h4 j hj).1) hc.1 hc.2.1
    exact .v hh (by simp only [Nat.add_zero] at hl; simp [execOp,Instr.loadAt,Instr.sureAddr,hv,hl] <;> rfl) hr.toT
   ·cases h
  ·cases h
 case makeFunc fn first caps =>
  cases fn <;> simp only at h <;> first | (cases h; done) | skip
  rename_i f
  split at h
  ·rename_i hc
   simp only [Bool.and_eq_true,Array.isEmpty_iff,List.all_eq_true] at hc
   cases h
   obtain ⟨hf,hp⟩:=hc
   subst hf
   refine .v hh (by simp [execOp,Instr.makeFunc] <;> rfl) (Rep.fn f (by simp) fun i hi hi' => ?_)
   simp only [List.getElem_map,Array.getElem_map,Array.getElem_toList]
   have hi0:i<caps.size:=by simpa using hi'
   have hpi:=hp (ρd caps[i]) (List.mem_map.2 ⟨caps[i],by simp,rfl⟩)
   exact (hρ caps[i]).plain (by revert hpi; generalize ρd caps[i]=d; cases d <;> simp [DV.share,DV.lay,DV.plain])
  ·cases h
 case typeAssert x xt t ok=>exact Ko xt t ok (ρd x) (ρ x) (hρ x) c out h hh
 case makeInterface t x =>
  split at h
  ·rename_i hc
   simp only [Bool.and_eq_true,Bool.not_eq_true'] at hc
   cases h
   have hcon:P.concrete t=true:=by
    obtain ⟨d,hd⟩:=Option.isSome_iff_exists.1 hc.2
    unfold Program.concrete
    have:=hc.1.2
    unfold fh at this
    rw [hd] at this ⊢
    cases d <;> simp_all
   exact .v hh (by simp [execOp,run_makeInterface w t _ hcon] <;> rfl) (Rep.ifc t ((hρ x).plain hc.1.1))
  ·cases h
 case call cl =>
  obtain ⟨callee,args,argTypes⟩:=cl
  cases callee <;> simp only at h <;> first | (cases h; done) | skip
  rename_i b
  have hm:(args.toList.map ρ).toArray=args.map ρ:=by apply Array.ext'; simp
  simp [execOp,resolve,invoke]
  rw [← hm]
  exact Bz b args.toList argTypes.toList ty _ ρd ρ hρ c h out hh
 all_goals (first | (cases h; done) | skip)
end Go.Vm
/- The abstract value machine: a box that is made anew, or written. -/
namespace Go.Vm
set_option linter.unusedVariables false
variable {K:Type} {E:K→Type} {T:Tab E} {P:Program}
def upd (g:Gh) (n:Nat) (v:Value):Gh:=⟨fun k=>if k=n then v else g k,g.hid⟩
theorem fR (g:Gh) (n:Nat) (v:Value):upd g n v n=v:=by simp [upd]
theorem ya {g:Gh} {n k:Nat} {v:Value} (h:k≠n):upd g n v k=g k:=by simp [upd,h]
theorem vH {m:Mem E} {g g':Gh} (h : ∀ k,k∈names m→g' k=g k):dP m g'=dP m g:=by
 induction m with
 | nil=>rfl
 | cons x m ih =>
  simp only [dP,List.flatMap_cons]
  rw [h x.1 (by simp [names])]
  congr 1
  exact ih fun k hk=>h k (by simp only [names,List.map_cons,List.mem_cons]; exact .inr hk)
theorem uG {m:Mem E} {n:Nat} {bx:Box E}:names (gk m n bx)=n :: names (drop m n):=by
 show n :: names (cK [n] (drop m n)) = _
 rw [tg]
theorem pt {m:Mem E} {n:Nat} {bx:Box E} {g:Gh} {gv:Value}:dP (gk m n bx) (upd g n gv)=(blk gv).toList ++ dP (drop m n) g:=by
 show (blk (upd g n gv n)).toList ++ dP (cK [n] (drop m n)) (upd g n gv) = _
 rw [fR,vM,vH (g:=g)]
 intro k hk
 exact ya (gw.1 hk).2
theorem qk {m:Mem E} {n:Nat} {g:Gh}:(dP (drop m n) g).Sublist (dP m g):=by
 induction m with
 | nil=>exact List.Sublist.refl _
 | cons x m ih =>
  obtain ⟨q,bx⟩:=x
  simp only [drop,dP,List.flatMap_cons]
  split
  ·exact ih.trans (List.sublist_append_right _ _)
  ·simp only [List.flatMap_cons]
   exact (List.Sublist.refl _).append ih
theorem vj {ns:List Nat} {d:DV E} (h:d.du ns=true):d.kill ns = .junk:=by simp [DV.kill,h]
theorem u7 {ns:List Nat} {d:DV E} (h:d.du ns=false):d.kill ns=d:=by simp [DV.kill,h]
theorem xc {n k:Nat} {d:DV E} (h:d.fv [n]=false) (hk:d.fv [k]=true):k≠n:=by
 intro e; subst e; rw [h] at hk; cases hk
structure Kept (w w':World) (row:Option Nat):Prop where
 os:w'.os=w.os
 tape:w'.tape=w.tape
 output:w'.output=w.output
 size:w.heap.size≤w'.heap.size
 block : ∀ k,k<w.heap.size→some k≠row→w'.heap[k]? = w.heap[k]?
theorem Kept.rO {w w':World} {row:Option Nat} (h:w.grownBy w' row):Kept w w' row:=⟨h.os,h.tape,h.output,h.size,h.block⟩
theorem Kept.refl (w:World):Kept w w none:=⟨rfl,rfl,rfl,Nat.le_refl _,fun _ _ _=>rfl⟩
theorem dt.kept {w w':World} {X X':Nat→Prop} {g g':Gh} {d:DV E} {v:Value} (h:dt T w X g d v)
  (hm : ∀ b,X b→b<w.heap.size→X' b∧b<w'.heap.size∧w'.heap[b]? = w.heap[b]?)
  (hg : ∀ k,d.fv [k]=true→g' k=g k)
  (hr : ∀ k i cs off b,d = .rptr k i cs off→blk (g k)=some b→w'.heap[b]? = w.heap[b]?):dt T w' X' g' d v :=
 h.mono hm hg fun n i cs off b len cap hd hgn=>hr n i cs off b hd (by simp [hgn,blk])
theorem kP {w:World} {b:Nat} {o:Obj} (h:w.heap[b]? = some o):b<w.heap.size:=(Array.getElem?_eq_some_iff.1 h).1
theorem Inv.renew {w0:World} {G:GP} {st:St E} {a:Act} {w w':World} {g:Gh} (h:Inv T w0 G st a w g) (n:Nat) (bx:Box E) (gv:Value) (row:Option Nat) (hw:Kept w w' row)
  (hrow : ∀ k,row=some k→n∈names st.mem∧blk (g n)=some k)
  (hb : ∀ b,blk gv=some b→b<w'.heap.size∧(w.heap.size≤b∨(n∈names st.mem∧blk (g n)=some b)))
  (hbx:zg T w' (free (gk st.mem n bx) (upd g n gv)) (upd g n gv) gv bx) (dst:Option Nat) (d:DV E) (v:Value)
  (hd:aB T w' (free (gk st.mem n bx) (upd g n gv)) (upd g n gv) d v) (hdl : ∀ k j cs off,d = .rptr k j cs off→k∈names (gk st.mem n bx)) :
  Inv T w0 G (st.app dst ⟨d,[n],some (gk st.mem n bx)⟩) (a.put dst v) w' (upd g n gv):=by
 have hX : ∀ b,free st.mem g b→b<w.heap.size→free (gk st.mem n bx) (upd g n gv) b∧b<w'.heap.size∧w'.heap[b]? = w.heap[b]? := by
  intro b hf hlt
  refine ⟨?_,Nat.lt_of_lt_of_le hlt hw.size,hw.block b hlt ?_⟩
  ·refine ⟨?_,hf.2⟩
   have hf:=hf.1
   rw [pt,List.mem_append]
   rintro (hx | hx)
   ·obtain ⟨hb1,hb2⟩:=hb b (by simpa using hx)
    rcases hb2 with hb2 | ⟨h1,h2⟩
    ·omega
    ·exact hf (aD.2 ⟨n,h1,h2⟩)
   ·obtain ⟨k,hk,hkb⟩:=aD.1 hx
    exact hf (aD.2 ⟨k,(gw.1 hk).1,hkb⟩)
  ·intro he
   obtain ⟨h1,h2⟩:=hrow b he.symm
   exact hf.1 (aD.2 ⟨n,h1,h2⟩)
 have hother : ∀ k b,k∈names st.mem→k≠n→blk (g k)=some b→w'.heap[b]? = w.heap[b]? := by
  intro k b hk hne hkb
  have hlt:=(h.bo b (aD.2 ⟨k,hk,hkb⟩)).1
  refine hw.block b hlt ?_
  intro he
  obtain ⟨h1,h2⟩:=hrow b he.symm
  exact hne (jJ h.nd h.nn hk h1 hkb h2)
 have hkill : ∀ (dd:DV E) (vv:Value),aB T w (free st.mem g) g dd vv→(∀ k j cs off,dd = .rptr k j cs off→k∈names st.mem) →
   aB T w' (free (gk st.mem n bx) (upd g n gv)) (upd g n gv) (dd.kill [n]) vv:=by
  intro dd vv hr hl
  cases ht:dd.du [n]
  ·rw [u7 ht]
   have base : ∀ (d1:DV E) (v1:Value),d1.fv [n]=false→(∀ k j cs off,d1 = .rptr k j cs off→k∈names st.mem)→dt T w (free st.mem g) g d1 v1 →
     dt T w' (free (gk st.mem n bx) (upd g n gv)) (upd g n gv) d1 v1:=by
    intro d1 v1 ht hl hr
    refine hr.kept hX (fun k hk=>ya (xc ht hk)) ?_
    intro k i cs off b hd1 hkb
    subst hd1
    exact hother k b (hl k i cs off rfl) (xc ht (by simp [DV.fv])) hkb
   cases dd with
   | tup ds =>
    obtain ⟨vs,h1,h2,h3⟩:=hr
    refine ⟨vs,h1,h2,fun i hi hi'=>⟨base _ _ ?_ ?_ (h3 i hi hi').1,(h3 i hi hi').2⟩⟩
    ·simp only [DV.du,List.any_eq_false] at ht
     simpa using ht ds[i] (List.getElem_mem hi)
    ·intro k j cs off he
     have:=(h3 i hi hi').2
     rw [he] at this
     simp [DV.noR] at this
   | _=>exact aB.of1 (base _ _ (by simpa [DV.du] using ht) hl hr)
  ·rw [vj ht]
   exact (Rep.junk _).toT
 have htl:a.tmps.size=(st.tmps.map (DV.kill [n])).length:=by simp [h.tl]
 have htm : ∀ i (hi:i<(st.tmps.map (DV.kill [n])).length),aB T w' (free (gk st.mem n bx) (upd g n gv)) (upd g n gv) (st.tmps.map (DV.kill [n]))[i] (a.tmps.getD i undef):=by
  intro i hi
  simp only [List.getElem_map]
  have hi':i<st.tmps.length:=by simpa using hi
  exact hkill _ _ (h.tm i hi') (fun k j cs off he=>h.rl i hi' k j cs off he)
 have hrl : ∀ i (hi:i<(st.tmps.map (DV.kill [n])).length) k j cs off,(st.tmps.map (DV.kill [n]))[i] = .rptr k j cs off→k∈names (gk st.mem n bx):=by
  intro i hi k j cs off he
  have hi':i<st.tmps.length:=by simpa using hi
  simp only [List.getElem_map,DV.kill] at he
  split at he
  ·cases he
  ·rename_i ht
   have:=h.rl i hi' k j cs off he
   rw [uG,List.mem_cons]
   by_cases hk:k=n
   ·exact .inl hk
   ·exact .inr (gw.2 ⟨this,hk⟩)
 refine ⟨by rw [nw]; exact h.df,?_,?_,?_,?_,?_,?_,?_,?_,h.hz⟩
 ·rw [rF]; cases dst <;> simp [St.app,h.tl]
 ·cases dst with
  | none=>exact htm
  | some i =>
   intro j hj
   simp only [St.app] at hj ⊢
   have hj':j<(st.tmps.map (DV.kill [n])).length:=by simpa using hj
   by_cases hij:i=j
   ·subst hij
    have:(a.put (some i) v).tmps.getD i undef=v:=by
     have:i<a.tmps.size:=by rw [htl]; exact hj'
     simp [Act.put,this]
    rw [this]; simpa using hd
   ·have:(a.put (some i) v).tmps.getD j undef=a.tmps.getD j undef:=by simp [Act.put,Array.getElem?_setIfInBounds_ne hij]
    rw [this]
    simp only [List.getElem_set_ne hij]
    exact htm j hj'
 ·show (names (gk st.mem n bx)).Nodup
  rw [uG,List.nodup_cons]
  exact ⟨fun hx=>(gw.1 hx).2 rfl,List.Nodup.sublist (AR.map _) h.nn⟩
 ·show (dP (gk st.mem n bx) (upd g n gv)).Nodup
  rw [pt,List.nodup_append]
  refine ⟨by cases blk gv <;> simp,List.Nodup.sublist qk h.nd,?_⟩
  rintro b hbm b' hbm' rfl
  obtain ⟨k,hk,hkb⟩:=aD.1 hbm'
  obtain ⟨hk1,hk2⟩:=gw.1 hk
  have hlt:=(h.bo b (aD.2 ⟨k,hk1,hkb⟩)).1
  obtain ⟨_,hb2⟩:=hb b (by simpa using hbm)
  rcases hb2 with hb2 | ⟨h1,h2⟩
  ·omega
  ·exact hk2 (jJ h.nd h.nn hk1 h1 hkb h2)
 ·intro k by' hm
  rcases List.mem_cons.1 hm with he | hm
  ·cases he; rw [fR]; exact hbx
  ·obtain ⟨⟨q,b0⟩,hq,he⟩:=List.mem_map.1 hm
   cases he
   obtain ⟨hq1,hq2⟩:=Ap.1 hq
   rw [ya hq2]
   have hr:=h.mm q b0 hq1
   have hqn:q∈names st.mem:=List.mem_map.2 ⟨_,hq1,rfl⟩
   cases b0 with
   | cells t cs =>
    obtain ⟨b,vs,h1,h2,h3,h4⟩:=hr
    have hblk:blk (g q)=some b:=by rw [h1]; rfl
    refine ⟨b,vs,h1,by rw [hother q b hqn hq2 hblk]; exact h2,by simpa using h3,?_⟩
    intro i hi hi'
    simp only [List.length_map] at hi
    obtain ⟨p1,p2,p3⟩:=h4 i hi hi'
    simp only [List.getElem_map]
    have hc:(cs[i].kill [n]).ej=true:=by
     unfold DV.kill; split
     ·rfl
     ·exact p3
    refine ⟨?_,p2,hc⟩
    have hk:=hkill cs[i] vs[i] (.of1 p1) (fun k j cs' off he=>by rw [he] at p3; simp [DV.ej] at p3)
    generalize hdd:cs[i].kill [n]=dd at hk hc
    cases dd <;> first | exact hk | (simp [DV.ej] at hc; done)
   | row e k l =>
    obtain ⟨xs,p1,p2,p3,p4⟩:=hr
    have hk : ∀ b,blk (g q)=some b→w'.heap[b]? = w.heap[b]? := fun b hb=>hother q b hqn hq2 hb
    refine ⟨xs,?_,p2,fun i hi c hcc => ?_,p4⟩
    ·refine ⟨p1.1,?_⟩
     rcases p1.2 with hn | ⟨gg,cap,cur,e1,e2,e3,e4⟩
     ·exact .inl hn
     ·exact .inr ⟨gg,cap,cur,e1,e2,by rw [hk gg (by rw [e1]; rfl)]; exact e3,e4⟩
    ·obtain ⟨u,hu,hru⟩:=p3 i hi c hcc
     exact ⟨u,hu,hru.mono hX⟩
   | siter s pos =>
    obtain ⟨b,p1,p2⟩:=hr
    exact ⟨b,p1,by rw [hother q b hqn hq2 (by rw [p1]; rfl)]; exact p2⟩
   | arr t n k' l =>
    obtain ⟨b,vs,p1,p2,p3⟩:=hr
    exact ⟨b,vs,p1,by rw [hother q b hqn hq2 (by rw [p1]; rfl)]; exact p2,p3.mono hX⟩
 ·intro b hbm
  have hbm:b∈dP (gk st.mem n bx) (upd g n gv):=hbm
  rw [pt,List.mem_append] at hbm
  rcases hbm with hbm | hbm
  ·obtain ⟨h1,h2⟩:=hb b (by simpa using hbm)
   refine ⟨h1,?_⟩
   rcases h2 with h2 | ⟨h2,h3⟩
   ·exact .inl (Nat.le_trans h.fr.size h2)
   ·exact (h.bo b (aD.2 ⟨n,h2,h3⟩)).2
  ·obtain ⟨k,hk,hkb⟩:=aD.1 hbm
   obtain ⟨h1,h2⟩:=h.bo b (aD.2 ⟨k,(gw.1 hk).1,hkb⟩)
   exact ⟨Nat.lt_of_lt_of_le h1 hw.size,h2⟩
 ·refine ⟨hw.os.trans h.fr.os,hw.tape.trans h.fr.tape,hw.output.trans h.fr.output,Nat.le_trans h.fr.size hw.size,fun b hb hG => ?_⟩
  rw [hw.block b (Nat.lt_of_lt_of_le hb h.fr.size) ?_]
  ·exact h.fr.block b hb hG
  ·intro he
   obtain ⟨h1,h2⟩:=hrow b he.symm
   rcases (h.bo b (aD.2 ⟨n,h1,h2⟩)).2 with h3 | h3
   ·omega
   ·exact hG h3
 ·cases dst with
  | none=>exact hrl
  | some i =>
   intro j hj k q cs off he
   simp only [St.app] at hj he
   have hj':j<(st.tmps.map (DV.kill [n])).length:=by simpa using hj
   by_cases hij:i=j
   ·subst hij
    simp only [List.getElem_set_self] at he
    exact hdl k q cs off he
   ·simp only [List.getElem_set_ne hij] at he
    exact hrl j hj' k q cs off he
end Go.Vm
/- The abstract value machine: a box that is written in place; growth. -/
namespace Go.Vm
set_option linter.unusedVariables false
variable {K:Type} {E:K→Type} {T:Tab E} {P:Program}
theorem qB {m:Mem E} {n:Nat} {bx:Box E}:names (ie m n bx)=names m:=by
 induction m with
 | nil=>rfl
 | cons x m ih =>
  obtain ⟨q,b⟩:=x
  simp only [ie]
  split
  ·rfl
  ·simp only [names,List.map_cons] at ih ⊢; rw [ih]
theorem Cg {m m':Mem E} {g:Gh} (h:names m'=names m):dP m' g=dP m g:=by
 have : ∀ m:Mem E,dP m g=(names m).flatMap fun n=>(blk (g n)).toList:=by
  intro m; simp [dP,names,List.flatMap_map]
 rw [this,this,h]
theorem E9 {m:Mem E} {n k:Nat} {bx by':Box E} (hn:(names m).Nodup) (h:(k,by')∈ie m n bx):(k=n∧by'=bx)∨(k≠n∧(k,by')∈m):=by
 induction m with
 | nil=>simp [ie] at h
 | cons x m ih =>
  obtain ⟨q,b⟩:=x
  simp only [names,List.map_cons,List.nodup_cons] at hn
  simp only [ie] at h
  split at h
  ·rename_i hq
   subst hq
   rcases List.mem_cons.1 h with he | he
   ·cases he; exact .inl ⟨rfl,rfl⟩
   ·refine .inr ⟨fun e=>hn.1 ?_,List.mem_cons_of_mem _ he⟩
    subst e; exact List.mem_map.2 ⟨_,he,rfl⟩
  ·rename_i hq
   rcases List.mem_cons.1 h with he | he
   ·cases he; exact .inr ⟨hq,by simp⟩
   ·rcases ih hn.2 he with h1 | ⟨h1,h2⟩
    ·exact .inl h1
    ·exact .inr ⟨h1,List.mem_cons_of_mem _ h2⟩
theorem Inv.write {w0:World} {G:GP} {st:St E} {a:Act} {w w':World} {g:Gh} (h:Inv T w0 G st a w g) (n:Nat) (bx:Box E) (hn:n∈names st.mem) (hw:Kept w w' (blk (g n)))
  (hbx:zg T w' (free st.mem g) g (g n) bx) (hno : ∀ i (hi:i<st.tmps.length) j cs off,st.tmps[i] ≠ .rptr n j cs off) (dst:Option Nat) (d:DV E) (v:Value)
  (hd:aB T w' (free st.mem g) g d v) (hdl : ∀ k j cs off,d = .rptr k j cs off→k∈names st.mem) :
  Inv T w0 G (st.app dst ⟨d,[],some (ie st.mem n bx)⟩) (a.put dst v) w' g:=by
 have hbl:dP (ie st.mem n bx) g=dP st.mem g:=Cg qB
 have hfr:free (ie st.mem n bx) g=free st.mem g:=by unfold free; rw [hbl]
 have hX : ∀ b,free st.mem g b→b<w.heap.size→free st.mem g b∧b<w'.heap.size∧w'.heap[b]? = w.heap[b]? := by
  intro b hf hlt
  refine ⟨hf,Nat.lt_of_lt_of_le hlt hw.size,hw.block b hlt ?_⟩
  intro he
  exact hf.1 (aD.2 ⟨n,hn,he.symm⟩)
 have hother : ∀ k b,k∈names st.mem→k≠n→blk (g k)=some b→w'.heap[b]? = w.heap[b]? := by
  intro k b hk hne hkb
  have hlt:=(h.bo b (aD.2 ⟨k,hk,hkb⟩)).1
  refine hw.block b hlt ?_
  intro he
  exact hne (jJ h.nd h.nn hk hn hkb he.symm)
 have hkeep : ∀ (dd:DV E) (vv:Value),aB T w (free st.mem g) g dd vv→(∀ k j cs off,dd = .rptr k j cs off→k∈names st.mem∧k≠n) →
   aB T w' (free st.mem g) g dd vv:=by
  intro dd vv hr hl
  have base : ∀ (d1:DV E) (v1:Value),(∀ k j cs off,d1 = .rptr k j cs off→k∈names st.mem∧k≠n)→dt T w (free st.mem g) g d1 v1→dt T w' (free st.mem g) g d1 v1:=by
   intro d1 v1 hl hr
   refine hr.kept hX (fun _ _=>rfl) ?_
   intro k i cs off b hd1 hkb
   subst hd1
   exact hother k b (hl k i cs off rfl).1 (hl k i cs off rfl).2 hkb
  cases dd with
  | tup ds =>
   obtain ⟨vs,h1,h2,h3⟩:=hr
   refine ⟨vs,h1,h2,fun i hi hi'=>⟨base _ _ ?_ (h3 i hi hi').1,(h3 i hi hi').2⟩⟩
   intro k j cs off he
   have:=(h3 i hi hi').2
   rw [he] at this
   simp [DV.noR] at this
  | _=>exact aB.of1 (base _ _ hl hr)
 have htm : ∀ i (hi:i<st.tmps.length),aB T w' (free st.mem g) g st.tmps[i] (a.tmps.getD i undef):=by
  intro i hi
  exact hkeep _ _ (h.tm i hi) (fun k j cs off he=>⟨h.rl i hi k j cs off he,fun e=>hno i hi j cs off (e ▸ he)⟩)
 refine ⟨by rw [nw]; exact h.df,?_,?_,?_,?_,?_,?_,?_,?_,h.hz⟩
 ·rw [rF]; cases dst <;> simp [St.app,h.tl]
 ·show ∀ i (hi:i<(st.app dst ⟨d,[],some (ie st.mem n bx)⟩).tmps.length),aB T w' (free (ie st.mem n bx) g) g _ _
  rw [hfr]
  cases dst with
  | none=>exact htm
  | some i =>
   intro j hj
   simp only [St.app] at hj ⊢
   have hj':j<st.tmps.length:=by simpa using hj
   by_cases hij:i=j
   ·subst hij
    have:(a.put (some i) v).tmps.getD i undef=v:=by
     have:i<a.tmps.size:=by rw [h.tl]; exact hj'
     simp [Act.put,this]
    rw [this]; simpa using hd
   ·have:(a.put (some i) v).tmps.getD j undef=a.tmps.getD j undef:=by simp [Act.put,Array.getElem?_setIfInBounds_ne hij]
    rw [this]
    simp only [List.getElem_set_ne hij]
    exact htm j hj'
 ·show (names (ie st.mem n bx)).Nodup
  rw [qB]; exact h.nn
 ·show (dP (ie st.mem n bx) g).Nodup
  rw [hbl]; exact h.nd
 ·intro k by' hm
  show zg T w' (free (ie st.mem n bx) g) g (g k) by'
  rw [hfr]
  rcases E9 h.nn hm with ⟨rfl,rfl⟩ | ⟨hkn,hm⟩
  ·exact hbx
  ·have hr:=h.mm k by' hm
   have hqn:k∈names st.mem:=List.mem_map.2 ⟨_,hm,rfl⟩
   cases by' with
   | cells t cs =>
    obtain ⟨b,vs,h1,h2,h3,h4⟩:=hr
    have hblk:blk (g k)=some b:=by rw [h1]; rfl
    refine ⟨b,vs,h1,by rw [hother k b hqn hkn hblk]; exact h2,h3,?_⟩
    intro i hi hi'
    obtain ⟨p1,p2,p3⟩:=h4 i hi hi'
    refine ⟨?_,p2,p3⟩
    have hk:=hkeep cs[i] vs[i] (.of1 p1) (fun k j cs' off he=>by rw [he] at p3; simp [DV.ej] at p3)
    generalize hdd:cs[i]=dd at hk p3
    cases dd <;> first | exact hk | (simp [DV.ej] at p3; done)
   | row e k l =>
    obtain ⟨xs,p1,p2,p3,p4⟩:=hr
    have hk:=fun b hb=>hother _ b hqn hkn hb
    refine ⟨xs,?_,p2,fun i hi c hcc => ?_,p4⟩
    ·refine ⟨p1.1,?_⟩
     rcases p1.2 with hn | ⟨gg,cap,cur,e1,e2,e3,e4⟩
     ·exact .inl hn
     ·exact .inr ⟨gg,cap,cur,e1,e2,by rw [hk gg (by rw [e1]; rfl)]; exact e3,e4⟩
    ·obtain ⟨u,hu,hru⟩:=p3 i hi c hcc
     exact ⟨u,hu,hru.mono hX⟩
   | siter s pos =>
    obtain ⟨b,p1,p2⟩:=hr
    exact ⟨b,p1,by rw [hother k b hqn hkn (by rw [p1]; rfl)]; exact p2⟩
   | arr t n k' l =>
    obtain ⟨b,vs,p1,p2,p3⟩:=hr
    exact ⟨b,vs,p1,by rw [hother k b hqn hkn (by rw [p1]; rfl)]; exact p2,p3.mono hX⟩
 ·intro b hbm
  have hbm:b∈dP (ie st.mem n bx) g:=hbm
  rw [hbl] at hbm
  obtain ⟨h1,h2⟩:=h.bo b hbm
  exact ⟨Nat.lt_of_lt_of_le h1 hw.size,h2⟩
 ·refine ⟨hw.os.trans h.fr.os,hw.tape.trans h.fr.tape,hw.output.trans h.fr.output,Nat.le_trans h.fr.size hw.size,fun b hb hG => ?_⟩
  rw [hw.block b (Nat.lt_of_lt_of_le hb h.fr.size) ?_]
  ·exact h.fr.block b hb hG
  ·intro he
   rcases (h.bo b (aD.2 ⟨n,hn,he.symm⟩)).2 with h3 | h3
   ·omega
   ·exact hG h3
 ·show ∀ i (hi:i<(st.app dst ⟨d,[],some (ie st.mem n bx)⟩).tmps.length) k j cs off,_→k∈names (ie st.mem n bx)
  rw [qB]
  cases dst with
  | none=>exact h.rl
  | some i =>
   intro j hj k q cs off he
   simp only [St.app] at hj he
   have hj':j<st.tmps.length:=by simpa using hj
   by_cases hij:i=j
   ·subst hij
    simp only [List.getElem_set_self] at he
    exact hdl k q cs off he
   ·simp only [List.getElem_set_ne hij] at he
    exact h.rl j hj' k q cs off he
theorem Inv.grow {w0:World} {G:GP} {st:St E} {a:Act} {w w':World} {g:Gh} (h:Inv T w0 G st a w g) (hw:Kept w w' none) (dst:Option Nat) (d:DV E) (v:Value)
  (hd:aB T w' (free st.mem g) g d v) (hdl : ∀ k j cs off,d = .rptr k j cs off→k∈names st.mem):Inv T w0 G (st.app dst (val d)) (a.put dst v) w' g:=by
 have hall : ∀ b,b<w.heap.size→w'.heap[b]? = w.heap[b]? := fun b hb=>hw.block b hb (by simp)
 have hX : ∀ b,free st.mem g b→b<w.heap.size→free st.mem g b∧b<w'.heap.size∧w'.heap[b]? = w.heap[b]? :=
  fun b hf hlt=>⟨hf,Nat.lt_of_lt_of_le hlt hw.size,hall b hlt⟩
 have hblk : ∀ k b,k∈names st.mem→blk (g k)=some b→w'.heap[b]? = w.heap[b]? := fun k b hk hb=>hall b (h.bo b (aD.2 ⟨k,hk,hb⟩)).1
 have h1:Inv T w0 G st a w' g:=by
  have base : ∀ (d1:DV E) (v1:Value),(∀ k j cs off,d1 = .rptr k j cs off→k∈names st.mem)→dt T w (free st.mem g) g d1 v1→dt T w' (free st.mem g) g d1 v1:=by
   intro d1 v1 hl hr
   refine hr.kept hX (fun _ _=>rfl) ?_
   intro k i cs off b hd1 hkb
   subst hd1
   exact hblk k b (hl k i cs off rfl) hkb
  refine ⟨h.df,h.tl,?_,h.nn,h.nd,?_,fun b hb=>⟨Nat.lt_of_lt_of_le (h.bo b hb).1 hw.size,(h.bo b hb).2⟩,?_,h.rl,h.hz⟩
  ·intro i hi
   have hr:=h.tm i hi
   have hl:=h.rl i hi
   generalize st.tmps[i]=dd at hr hl
   cases dd with
   | tup ds =>
    obtain ⟨vs,h1,h2,h3⟩:=hr
    refine ⟨vs,h1,h2,fun i hi hi'=>⟨base _ _ ?_ (h3 i hi hi').1,(h3 i hi hi').2⟩⟩
    intro k j cs off he
    have:=(h3 i hi hi').2
    rw [he] at this
    simp [DV.noR] at this
   | _=>exact aB.of1 (base _ _ hl hr)
  ·intro k by' hm
   have hr:=h.mm k by' hm
   have hqn:k∈names st.mem:=List.mem_map.2 ⟨_,hm,rfl⟩
   cases by' with
   | cells t cs =>
    obtain ⟨b,vs,h1,h2,h3,h4⟩:=hr
    refine ⟨b,vs,h1,by rw [hblk k b hqn (by rw [h1]; rfl)]; exact h2,h3,?_⟩
    intro i hi hi'
    obtain ⟨p1,p2,p3⟩:=h4 i hi hi'
    exact ⟨base _ _ (fun k j cs' off he=>by rw [he] at p3; simp [DV.ej] at p3) p1,p2,p3⟩
   | row e k l =>
    obtain ⟨xs,p1,p2,p3,p4⟩:=hr
    refine ⟨xs,?_,p2,fun i hi c hcc => ?_,p4⟩
    ·refine ⟨p1.1,?_⟩
     rcases p1.2 with hn | ⟨gg,cap,cur,e1,e2,e3,e4⟩
     ·exact .inl hn
     ·exact .inr ⟨gg,cap,cur,e1,e2,by rw [hblk _ gg hqn (by rw [e1]; rfl)]; exact e3,e4⟩
    ·obtain ⟨u,hu,hru⟩:=p3 i hi c hcc
     exact ⟨u,hu,hru.mono hX⟩
   | siter s pos =>
    obtain ⟨b,p1,p2⟩:=hr
    exact ⟨b,p1,by rw [hblk k b hqn (by rw [p1]; rfl)]; exact p2⟩
   | arr t n k' l =>
    obtain ⟨b,vs,p1,p2,p3⟩:=hr
    exact ⟨b,vs,p1,by rw [hblk k b hqn (by rw [p1]; rfl)]; exact p2,p3.mono hX⟩
  ·exact ⟨hw.os.trans h.fr.os,hw.tape.trans h.fr.tape,hw.output.trans h.fr.output,Nat.le_trans h.fr.size hw.size,
    fun b hb hG=>by rw [hall b (Nat.lt_of_lt_of_le hb h.fr.size)]; exact h.fr.block b hb hG⟩
 exact h1.put dst hd hdl
end Go.Vm
/- The abstract value machine: the operations that read or write boxes. -/
namespace Go.Vm
set_option linter.unusedVariables false
variable {K:Type} {E:K→Type}
def BA (T:Tab E) (mem:Mem E) (k:K) (d:DV E):Option (List (E k)) :=
 match d with
 | .slc k' l=>nR T k k' l
 | .nils=>some []
 | .rowp n=>match look mem n with
  | some (.row _ k' l)=>nR T k k' l
  | _=>none
 | .rowv n b=>match look mem n with
  | some (.row _ k' l)=>(nR T k k' l).map (·.take b)
  | _=>none
 | .str s=>T.ofStr k s
 | _=>none
def kindOf (T:Tab E) (P:Program) (e:TypeId):Option K :=
 match T.kind e with
 | some k=>if T.isK P e k then some k else none
 | none=>none
def bytesOf (P:Program) (e:TypeId):Option Nat:=(P.info? e).map (·.bytes)
def JK (P:Program) (e:TypeId):Bool:=match P.underlying e with
 | some (.int .u8)=>true
 | _=>false
def qw (P:Program) (e:TypeId):Bool:=match P.info? e with
 | some i=>match i.zero with
  | some z=>z.cells.size == i.size && !(i.size == 0) && !(i.bytes == 0)
  | none=>false
 | none=>false
def zq (P:Program) (e:TypeId):Bool:=match P.info? e with
 | some i=>match i.zero with
  | some (.int .u8 0)=>i.size == 1 && i.bytes == 1
  | _=>false
 | none=>false
def Bh (T:Tab E) (P:Program) (st xt e:TypeId) (k:K) (mem:Mem E) (x:DV E):Option (List (E k)) :=
 match x with
 | .str s=>if u4 P xt && zq P e && T.sz k == 1 then T.ofStr k s else none
 | x=>if xt=st then BA T mem k x else none
def rM (T:Tab E) (P:Program) (st xt:TypeId) (dst:Option Nat) (s x:DV E) (mem:Mem E):Cal E :=
 match jz P st,dst with
 | some e,some d =>
  match kindOf T P e,bytesOf P e,qw P e with
  | some k,some by',true =>
   match Bh T P st xt e k mem x with
   | some l' =>
    match s with
    | .rowp n =>
     match look mem n with
     | some (.row e' k' l) =>
      if e'=e then
       match nR T k k' l with
       | some l => .chk (decide ((l.length+l'.length) * by'≤140737488355328)) (.one ⟨.rowp n,[n],some (gk mem n (.row e k (l ++ l')))⟩)
       | none => .bad
      else .bad
     | _ => .bad
    | .nils => .chk (decide ((0+l'.length) * by'≤140737488355328)) (.one ⟨.rowp (64 * d),[64 * d],some (gk mem (64 * d) (.row e k l'))⟩)
    | _ => .bad
   | none => .bad
  | _,_,_ => .bad
 | _,_ => .bad
variable {T:Tab E} {P:Program} {w:World} {X:Nat→Prop} {g:Gh}
structure Els (T:Tab E) (w:World) (X:Nat→Prop) (k:K) (l:List (E k)) (xs:List Value):Prop where
 len:xs.length=l.length * T.sz k
 one : ∀ u∈xs,u.oneCell'=true
 rep : ∀ i (hi:i<l.length) (c:Nat) (hcc:c<(T.enc k l[i]).length), ∃ u,xs[i * T.sz k+c]? = some u∧Rep T w X (T.enc k l[i])[c] u
 pl : ∀ i (hi:i<l.length) (c:Nat) (hcc:c<(T.enc k l[i]).length),(T.enc k l[i])[c].plain=true
theorem Els.nil (k:K):Els T w X k [] []:=⟨by simp,by simp,fun i hi=>by simp at hi,fun i hi=>by simp at hi⟩
theorem Els.mono {w w':World} {X X':Nat→Prop} {k:K} {l:List (E k)} {xs:List Value} (h:Els T w X k l xs) (hm : ∀ b,X b→b<w.heap.size→X' b∧b<w'.heap.size∧w'.heap[b]? = w.heap[b]?):Els T w' X' k l xs :=
 ⟨h.len,h.one,fun i hi c hcc=>by obtain ⟨u,h1,h2⟩:=h.rep i hi c hcc; exact ⟨u,h1,h2.mono hm⟩,h.pl⟩
theorem Els.append {k:K} {l l':List (E k)} {xs ys:List Value} (h:Els T w X k l xs) (h':Els T w X k l' ys):Els T w X k (l ++ l') (xs ++ ys):=by
 refine ⟨by rw [List.length_append,List.length_append,h.len,h'.len,Nat.add_mul],?_,?_,?_⟩
 ·intro u hu
  rcases List.mem_append.1 hu with hu | hu
  ·exact h.one u hu
  ·exact h'.one u hu
 ·intro i hi c hcc
  by_cases hl:i<l.length
  ·have he:(l ++ l')[i]=l[i]:=List.getElem_append_left hl
   simp only [he] at hcc ⊢
   obtain ⟨u,h1,h2⟩:=h.rep i hl c hcc
   refine ⟨u,?_,h2⟩
   rw [List.getElem?_append_left]
   ·exact h1
   ·exact (List.getElem?_eq_some_iff.1 h1).1
  ·have hi':i - l.length<l'.length:=by simp at hi; omega
   have he:(l ++ l')[i]=l'[i - l.length]:=List.getElem_append_right (by omega)
   simp only [he] at hcc ⊢
   obtain ⟨u,h1,h2⟩:=h'.rep (i - l.length) hi' c hcc
   refine ⟨u,?_,h2⟩
   have hq:i * T.sz k=l.length * T.sz k+(i - l.length) * T.sz k:=by rw [← Nat.add_mul]; congr 1; omega
   rw [List.getElem?_append_right (by rw [h.len,hq]; omega),h.len,hq]
   rw [show l.length * T.sz k+(i - l.length) * T.sz k+c - l.length * T.sz k=(i - l.length) * T.sz k+c by omega]
   exact h1
 ·intro i hi c hcc
  by_cases hl:i<l.length
  ·have he:(l ++ l')[i]=l[i]:=List.getElem_append_left hl
   simp only [he] at hcc ⊢
   exact h.pl i hl c hcc
  ·have hi':i - l.length<l'.length:=by simp at hi; omega
   have he:(l ++ l')[i]=l'[i - l.length]:=List.getElem_append_right (by omega)
   simp only [he] at hcc ⊢
   exact h'.pl _ hi' c hcc
theorem aP.els {e:TypeId} {k:K} {l:List (E k)} {v:Value} (h:aP T w X e k l v) : ∃ xs,iz w e (T.sz k) v l.length xs∧Els T w X k l xs:=by
 obtain ⟨xs,h1,h2,h3,h4⟩:=h
 exact ⟨xs,h1,h1.1,h2,h3,h4⟩
theorem aP.mk' {e:TypeId} {k:K} {l:List (E k)} {v:Value} {xs:List Value} (h1:iz w e (T.sz k) v l.length xs) (h2:Els T w X k l xs):aP T w X e k l v:=⟨xs,h1,h2.one,h2.rep,h2.pl⟩
def Src (T:Tab E) (w:World) (X:Nat→Prop) (k:K) (l:List (E k)) (v:Value):Prop :=
 (v = .slice none 0 0∧l = []) ∨ ∃ (a:Addr) (c:Nat) (news:List Value),v = .slice (some a) l.length c∧(∀ j u,news[j]? = some u→w.cell? (a.add j)=some u)∧Els T w X k l news
theorem fB {k k':K} {l:List (E k')} {l':List (E k)} (h:nR T k k' l=some l') : ∃ e:k'=k,l'=e ▸ l:=by
 unfold nR at h
 split at h
 ·rename_i e _; cases h; exact ⟨e,rfl⟩
 ·cases h
theorem EV {n s j:Nat} (h:j<n * s) : ∃ i c,i<n∧c<s∧j=i * s+c:=by
 have hs:0<s:=by rcases Nat.eq_zero_or_pos s with h0 | h0; · simp [h0] at h
                 ·exact h0
 refine ⟨j / s,j % s,Nat.div_lt_of_lt_mul (by rw [Nat.mul_comm]; exact h),Nat.mod_lt _ hs,?_⟩
 rw [Nat.mul_comm]; exact (Nat.div_add_mod j s).symm
theorem Hz {k:K} {l:List (E k)} {v:Value} (h:aB T w X g (.slc k l) v):Src T w X k l v:=by
 rcases im h with ⟨rfl,rfl⟩ | ⟨a0,c0,rfl,rfl⟩ | ⟨b,off,cap,f,rfl,hn,hX,hc,hr,ho⟩
 ·exact .inl ⟨rfl,rfl⟩
 ·exact .inr ⟨a0,c0,[],rfl,by simp, .nil k⟩
 ·refine .inr ⟨⟨b,off,none⟩,cap,(List.range (l.length * T.sz k)).map f,rfl,?_,by simp,?_,?_,ho⟩
  ·intro j u hj
   simp only [List.getElem?_map] at hj
   obtain ⟨q,hq,rfl⟩:=Option.map_eq_some_iff.1 hj
   obtain ⟨hlt,rfl⟩:=List.getElem?_eq_some_iff.1 hq
   simp only [List.length_range] at hlt
   rw [Addr.add_lit,List.getElem_range]
   exact hc j hlt
  ·intro u hu
   obtain ⟨j,hj,rfl⟩:=List.mem_map.1 hu
   obtain ⟨i,c,hi,hcs,rfl⟩:=EV (List.mem_range.1 hj)
   exact (cV (hr i hi c (by rw [T.enc_len]; exact hcs)) (ho i hi c (by rw [T.enc_len]; exact hcs))).2.2
  ·intro i hi c hcc
   have hlt:i * T.sz k+c<l.length * T.sz k:=by
    rw [T.enc_len] at hcc
    have:(i+1) * T.sz k≤l.length * T.sz k:=Nat.mul_le_mul_right _ hi
    rw [Nat.add_mul] at this
    omega
   exact ⟨f (i * T.sz k+c),by simp [hlt],hr i hi c hcc⟩
theorem Hw {e:TypeId} {k:K} {l:List (E k)} {v:Value} (h:aP T w X e k l v):Src T w X k l v:=by
 obtain ⟨xs,h1,h2⟩:=h.els
 rcases h1.2 with ⟨rfl,hn⟩ | ⟨gg,cap,cur,rfl,_,hg,hnc,hcm,hcs,htk⟩
 ·exact .inl ⟨rfl,List.eq_nil_of_length_eq_zero hn⟩
 ·exact .inr ⟨⟨gg,0,none⟩,cap,xs,rfl,h1.cells (g:=gg) rfl,h2⟩
theorem Els.take {k:K} {l:List (E k)} {xs:List Value} (h:Els T w X k l xs) (n:Nat) (hn:n≤l.length):Els T w X k (l.take n) (xs.take (n * T.sz k)):=by
 have hle:n * T.sz k≤l.length * T.sz k:=Nat.mul_le_mul_right _ hn
 refine ⟨by simp [h.len]; try omega,fun u hu=>h.one u (List.mem_of_mem_take hu),?_,?_⟩
 ·intro i hi c hcc
  have hi':i<n∧i<l.length:=by simp at hi; omega
  simp only [List.getElem_take] at hcc ⊢
  obtain ⟨u,h1,h2⟩:=h.rep i hi'.2 c hcc
  refine ⟨u,?_,h2⟩
  rw [List.getElem?_take,if_pos]
  ·exact h1
  ·rw [T.enc_len] at hcc
   have:(i+1) * T.sz k≤n * T.sz k:=Nat.mul_le_mul_right _ hi'.1
   rw [Nat.add_mul] at this
   omega
 ·intro i hi c hcc
  simp only [List.getElem_take] at hcc ⊢
  exact h.pl _ _ c hcc
end Go.Vm
/- The abstract value machine: append. -/
namespace Go.Vm
open Go.Lib
set_option linter.unusedVariables false
variable {K:Type} {E:K→Type} {T:Tab E} {P:Program} {w:World} {X:Nat→Prop} {g:Gh}
theorem tw {e:TypeId} {k:K} (h:kindOf T P e=some k):T.isK P e k=true:=by
 unfold kindOf at h
 split at h
 ·split at h
  ·cases h; assumption
  ·cases h
 ·cases h
def Place (w:World) (v v':Value):Prop := ∀ b,blk v'=some b→w.heap.size≤b∨blk v=some b
theorem ij (P:Program) (g o:Nat) (t:TypeId) (fz:Nat×Nat) : ∀ (vs:List Value) (i:Nat) (cur:Array Value) (w:World),w.heap[g]? = some (.cells cur t fz)→(fz.2=0∨cur.size≤fz.1)→o+i+vs.length≤cur.size→(∀ v∈vs,v.oneCell'=true) →
  (storeCells ⟨g,o,none⟩ vs i).run P w = .ok () (w.setRow g (cur.toList.take (o+i) ++ vs ++ cur.toList.drop (o+i+vs.length)).toArray)
 | [],i,cur,w,hg,_,_,_=>by
  simp only [storeCells,List.append_nil,List.length_nil,Nat.add_zero,List.take_append_drop,Array.toArray_toList]
  rw [setRow_self w g cur t fz hg]
  rfl
 | v :: rest,i,cur,w,hg,hfz,hl,h1=>by
  have hi:o+i<cur.size:=by simp at hl; omega
  have hadd:(⟨g,o,none⟩:Addr).add i=⟨g,o+i,none⟩:=by unfold Addr.add; split <;> simp_all
  have hcell:w.cell? ⟨g,o+i,none⟩=some cur[o+i]:=by simp [World.cell?,hg,hi]
  have hfro:w.frozen? ⟨g,o+i,none⟩=false:=by
   obtain ⟨lo,hi'⟩:=fz
   simp only [World.frozen?,hg,Bool.and_eq_false_iff,decide_eq_false_iff_not]
   simp only at hfz
   omega
  have hst:(store ((⟨g,o,none⟩:Addr).add i) v).run P w = .ok () (w.setRow g (cur.setIfInBounds (o+i) v)):=by
   rw [hadd,run_store P w _ v _ (h1 v (by simp)),hcell]
   simp [hfro,setCell_eq_setRow w g (o+i) cur t fz v hg]
  have ih:=ij P g o t fz rest (i+1) (cur.setIfInBounds (o+i) v) (w.setRow g (cur.setIfInBounds (o+i) v)) (setRow_heap w g cur _ t _ hg) (by simpa using hfz) (by simp at hl ⊢; omega) (fun x hx=>h1 x (by simp [hx]))
  simp only [storeCells,Sem.run_bind,hst,Result.andThen_ok,ih,setRow_setRow]
  congr 3
  have e:=list_seg_step cur.toList (o+i) v rest (by simp at hl ⊢; omega)
  simpa [Array.toList_setIfInBounds,Nat.add_assoc] using e
theorem zS (t ty e:TypeId) (i:TypeInfo) (size:Nat) (ht:P.underlying t=some (.slice e)) (hi:P.info? e=some i)
  (v:Value) (n:Nat) (xs:List Value) (hown:iz w e size v n xs) :
  (Builtin.append_ #[t,t] ty #[v, .slice none 0 0]).run P w = .ok v w:=by
 rcases hown.2 with ⟨rfl,rfl⟩ | ⟨g,cap,cur,rfl,_,_,hnc,_⟩
 ·simp [Builtin.append_,run_underlying ht,sizeOf,typeInfo,hi,Builtin.lenOf,Builtin.firstCells]
 ·simp [Builtin.append_,run_underlying ht,sizeOf,typeInfo,hi,Builtin.lenOf,Builtin.firstCells,hnc,storeCells]
theorem Aj (t ty e:TypeId) (i:TypeInfo) (ht:P.underlying t=some (.slice e)) (hi:P.info? e=some i)
  (g sLen sCap:Nat) (cur:Array Value) (fz:Nat×Nat) (hz:fz.2=0∨cur.size≤fz.1) (hg:w.heap[g]? = some (.cells cur e fz))
  (a:Addr) (m c:Nat) (news:List Value) (hl:news.length=m * i.size) (hnews : ∀ j u,news[j]? = some u→w.cell? (a.add j)=some u) (h1 : ∀ u∈news,u.oneCell'=true)
  (hroom:sLen+m≤sCap) (hfit:sLen * i.size+news.length≤cur.size) :
  (Builtin.append_ #[t,t] ty #[.slice (some ⟨g,0,none⟩) sLen sCap, .slice (some a) m c]).run P w =
   .ok (.slice (some ⟨g,0,none⟩) (sLen+m) sCap) (w.setRow g (cur.toList.take (sLen * i.size) ++ news ++ cur.toList.drop (sLen * i.size+news.length)).toArray):=by
 have hf:=run_firstCells_some (P:=P) w i.size m a m c news hl hnews
 have hst:=ij P g (sLen * i.size) e fz news 0 cur w hg hz (by simpa using hfit) h1
 simp only [Nat.add_zero] at hst
 simp [Builtin.append_,run_underlying ht,sizeOf,typeInfo,hi,Builtin.lenOf,hroom,hf,Addr.add_lit,hst]
theorem qF (t u ty e:TypeId) (i:TypeInfo) (ht:P.underlying t=some (.slice e)) (hu:P.underlying u=some .string) (hi:P.info? e=some i) (hs1:i.size=1)
  (g sLen sCap:Nat) (cur:Array Value) (fz:Nat×Nat) (hz:fz.2=0∨cur.size≤fz.1) (hg:w.heap[g]? = some (.cells cur e fz)) (s:ByteArray)
  (hroom:sLen+s.size≤sCap) (hfit:sLen+s.size≤cur.size) :
  (Builtin.append_ #[t,u] ty #[.slice (some ⟨g,0,none⟩) sLen sCap, .string s]).run P w =
   .ok (.slice (some ⟨g,0,none⟩) (sLen+s.size) sCap) (w.setRow g (cur.toList.take sLen ++ strCells s ++ cur.toList.drop (sLen+s.size)).toArray):=by
 have hf:=run_firstCells_string (P:=P) w 1 s
 have hst:=ij P g sLen e fz (strCells s) 0 cur w hg hz (by simpa [strCells_length] using hfit) (strCells_oneCell s)
 simp only [Nat.add_zero,strCells_length] at hst
 simp [Builtin.append_,run_underlying ht,run_underlying hu,sizeOf,typeInfo,hi,hs1,Builtin.lenOf,hroom,hf,Addr.add_lit,hst]
theorem vW {t ty e:TypeId} {i:TypeInfo} {z:Value} (ht:P.underlying t=some (.slice e)) (hi:P.info? e=some i) (hz:i.zero=some z) (hzs:z.cells.size=i.size) (hsz:0<i.size) (hby:i.bytes≠0)
  {v:Value} {n:Nat} {xs:List Value} (hown:iz w e i.size v n xs) {vx:Value} {m:Nat} {news:List Value}
  (hsrc:(vx = .slice none 0 0∧m=0∧news = []) ∨ ∃ (a:Addr) (c:Nat),vx = .slice (some a) m c∧news.length=m * i.size∧(∀ j u,news[j]? = some u→w.cell? (a.add j)=some u)∧(∀ u∈news,u.oneCell'=true))
  (hb:(n+m) * i.bytes≤140737488355328) :
  ∃ v' w',(Builtin.append_ #[t,t] ty #[v,vx]).run P w = .ok v' w'∧iz w' e i.size v' (n+m) (xs ++ news)∧w.grownBy w' v.ownBlock∧Place w v v':=by
 rcases hsrc with ⟨rfl,rfl,rfl⟩ | ⟨a,c,rfl,hl,hnews,h1⟩
 ·refine ⟨v,w,zS (P:=P) t ty e i i.size ht hi v n xs hown,by simpa using hown,⟨rfl,rfl,rfl,Nat.le_refl _,fun _ _ _=>rfl⟩,fun b h => .inr h⟩
 ·have hbn:n+m≤140737488355328:=by
   have:(n+m) * 1≤(n+m) * i.bytes:=Nat.mul_le_mul_left _ (by omega)
   omega
  have hlen:(xs ++ news).length=(n+m) * i.size:=by rw [List.length_append,hown.1,hl,Nat.add_mul]
  have h63:n+m≤maxLen:=by simp only [maxLen]; omega
  rcases hown.2 with ⟨rfl,rfl⟩ | ⟨gg,cap,cur,rfl,_,⟨fz,hfz,hg⟩,hnc,hcm,hcs,htk⟩
  ·have hx:xs = []:=List.eq_nil_of_length_eq_zero (by simpa using hown.1)
   subst hx
   obtain ⟨v',w',hr,h2,h3,_⟩:=run_append_own (P:=P) w 0 t ty e i z i.size i.bytes ht hi hz rfl rfl hzs hsz (.slice none 0 0) 0 [] (World.ownsRow_nil w 0 e i.size) a m c news hl hnews h1 h63 hb (Nat.zero_le _)
   refine ⟨v',w',hr,uK h2,h3,?_⟩
   by_cases hm:m=0
   ·subst hm
    have hn:news = []:=List.eq_nil_of_length_eq_zero (by simpa using hl)
    subst hn
    have:(Builtin.append_ #[t,t] ty #[.slice none 0 0, .slice (some a) 0 c]).run P w = .ok (.slice none 0 0) w:=by
     simp [Builtin.append_,run_underlying ht,sizeOf,typeInfo,hi,Builtin.lenOf,Builtin.firstCells,loadCells,loadCellsFrom]
    rw [this] at hr
    cases hr
    intro b h; simp [blk] at h
   ·have:=run_append_nil (P:=P) w t ty e i z ht hi hz a m c news hl hnews (by omega) (by omega) (by simp at hb; omega)
    rw [this] at hr
    cases hr
    intro b h
    simp only [blk,Option.some.injEq] at h
    exact .inl (by omega)
  ·by_cases hroom:n+m≤cap
   ·have hfit:n * i.size+news.length≤cur.size:=by rw [hl,hcs, ← Nat.add_mul]; exact Nat.mul_le_mul_right _ hroom
    have hr:=Aj (P:=P) (ty:=ty) t e i ht hi gg n cap cur fz hfz hg a m c news hl hnews h1 hroom hfit
    refine ⟨_,_,hr,⟨hlen, .inr ⟨gg,cap,_,rfl,Nat.zero_le _,⟨fz,?_,setRow_heap w gg cur _ e _ hg⟩,hroom,hcm,?_,?_⟩⟩,⟨rfl,rfl,rfl,by simp,fun k _ hk=>setRow_other w gg k _ (fun e=>hk (by simp [Value.ownBlock,e]))⟩,fun b h => .inr h⟩
    ·rcases hfz with hfz | hfz
     ·exact .inl hfz
     ·right
      simp only [List.size_toArray,List.length_append,List.length_take,List.length_drop,Array.length_toList]
      omega
    ·simp only [List.size_toArray,List.length_append,List.length_take,List.length_drop,Array.length_toList]
     omega
    ·rw [htk, ← hlen]
     exact List.take_left
   ·have holds : ∀ j u,xs[j]? = some u→w.cell? ((⟨gg,0,none⟩:Addr).add j)=some u:=hown.cells (g:=gg) rfl
    have hr:=run_append_grow (P:=P) w t ty e i z ht hi hz ⟨gg,0,none⟩ n cap xs hown.1 holds a m c news hl hnews (by omega) (by omega) (growslice_fits (by omega) hb)
    have hge:=grownCap_ge w (n+m) cap e
    have hcm2:grownCap w (n+m) cap e≤maxLen:=grownCap_le_maxLen w (n+m) cap e h63
    refine ⟨_,_,hr,⟨hlen, .inr ⟨w.heap.size,_,_,rfl,Nat.zero_le _,⟨(0,0), .inl rfl,heap_alloc_new w.drew _⟩,hge,hcm2,?_,?_⟩⟩,⟨rfl,rfl,rfl,by simp,fun k hk _=>heap_alloc_old w.drew _ k hk⟩,fun b h => ?_⟩
    ·simp only [Array.size_append,List.size_toArray,size_zeroCells,hzs,hown.1,hl, ← Nat.add_mul]
     congr 1
     omega
    ·simp only [Array.toList_append,List.append_assoc]
     rw [← List.append_assoc, ← hlen]
     exact List.take_left
    ·simp only [blk,Option.some.injEq] at h
     exact .inl (by omega)
theorem vS {t u ty e:TypeId} {i:TypeInfo} (ht:P.underlying t=some (.slice e)) (hu:P.underlying u=some .string) (hi:P.info? e=some i) (hz:i.zero=some (.int .u8 0)) (hsize:i.size=1) (hby:i.bytes=1)
  {v:Value} {n:Nat} {xs:List Value} (hown:iz w e 1 v n xs) (s:ByteArray) (hb:n+s.size≤140737488355328) :
  ∃ v' w',(Builtin.append_ #[t,u] ty #[v, .string s]).run P w = .ok v' w'∧iz w' e 1 v' (n+s.size) (xs ++ strCells s)∧w.grownBy w' v.ownBlock∧Place w v v':=by
 have hxl:xs.length=n:=by simpa using hown.1
 have h63:n+s.size≤maxLen:=by simp only [maxLen]; omega
 have hlen:(xs ++ strCells s).length=(n+s.size) * 1:=by rw [List.length_append,hxl,strCells_length,Nat.mul_one]
 rcases hown.2 with ⟨rfl,rfl⟩ | ⟨gg,cap,cur,rfl,_,⟨fz,hfz,hg⟩,hnc,hcm,hcs,htk⟩
 ·have hx:xs = []:=List.eq_nil_of_length_eq_zero hxl
  subst hx
  obtain ⟨v',w',hr,h2,h3,h4⟩:=run_append_own_string (P:=P) w 0 t u ty e i ht hu hi hz hsize hby (.slice none 0 0) 0 [] (World.ownsRow_nil w 0 e 1) s h63 hb (Nat.zero_le _)
  refine ⟨v',w',hr,uK h2,h3,?_⟩
  by_cases hm:s.size=0
  ·have:=h4.2 ⟨rfl,hm⟩
   subst this
   intro b h; simp [blk] at h
  ·have:=run_append_nil_string (P:=P) w t u ty e i _ ht hu hi hz s (by omega) (by omega) (by rw [hby]; omega)
   rw [this] at hr
   cases hr
   intro b h
   simp only [blk,Option.some.injEq] at h
   exact .inl (by omega)
 ·by_cases hroom:n+s.size≤cap
  ·have hr:=qF (P:=P) (ty:=ty) t u e i ht hu hi hsize gg n cap cur fz hfz hg s hroom (by omega)
   refine ⟨_,_,hr,⟨hlen, .inr ⟨gg,cap,_,rfl,Nat.zero_le _,⟨fz,?_,setRow_heap w gg cur _ e _ hg⟩,hroom,hcm,?_,?_⟩⟩,⟨rfl,rfl,rfl,by simp,fun k _ hk=>setRow_other w gg k _ (fun e=>hk (by simp [Value.ownBlock,e]))⟩,fun b h => .inr h⟩
   ·rcases hfz with hfz | hfz
    ·exact .inl hfz
    ·right
     simp only [List.size_toArray,List.length_append,List.length_take,List.length_drop,Array.length_toList,strCells_length]
     omega
   ·simp only [List.size_toArray,List.length_append,List.length_take,List.length_drop,Array.length_toList,strCells_length]
    omega
   ·have e1:cur.toList.take n=xs:=by simpa using htk
    rw [e1, ← hlen]
    exact List.take_left
  ·have holds : ∀ j u,xs[j]? = some u→w.cell? ((⟨gg,0,none⟩:Addr).add j)=some u:=hown.cells (g:=gg) rfl
   have hr:=run_append_grow_string (P:=P) w t u ty e i _ ht hu hi hz ⟨gg,0,none⟩ n cap xs (by rw [hxl,hsize]; omega) holds s (by omega) (by omega) (growslice_fits (by omega) (by rw [hby]; omega))
   have hge:=grownCap_ge w (n+s.size) cap e
   have hcm2:grownCap w (n+s.size) cap e≤maxLen:=grownCap_le_maxLen w (n+s.size) cap e h63
   refine ⟨_,_,hr,⟨hlen, .inr ⟨w.heap.size,_,_,rfl,Nat.zero_le _,⟨(0,0), .inl rfl,heap_alloc_new w.drew _⟩,hge,hcm2,?_,?_⟩⟩,⟨rfl,rfl,rfl,by simp,fun k hk _=>heap_alloc_old w.drew _ k hk⟩,fun b h => ?_⟩
   ·have hz1:(Value.int IntKind.u8 0).cells.size=1:=rfl
    simp only [Array.size_append,List.size_toArray,size_zeroCells,hz1,hxl,strCells_length]
    omega
   ·simp only [Array.toList_append,List.append_assoc]
    rw [← List.append_assoc, ← hlen]
    exact List.take_left
   ·simp only [blk,Option.some.injEq] at h
    exact .inl (by omega)
end Go.Vm
/- The abstract value machine: append, with the state. -/
namespace Go.Vm
open Go.Lib
set_option linter.unusedVariables false
variable {K:Type} {E:K→Type} {T:Tab E} {P:Program} {w0:World} {G:GP} {st:St E} {a:Act} {w:World} {g:Gh}
def fU (T:Tab E) (P:Program) (w0:World) (G:GP) (st:St E) (a:Act) (w:World) (g:Gh) (dst:Option Nat) (out:Out E) (s:Sem Next):Prop :=
 (∃ v w' g',s.run P w = .ok (.value v) w'∧Inv T w0 G (st.app dst out) (a.put dst v) w' g')∨(∃ w' g',s.run P w = .ok .skip w'∧Inv T w0 G (st.app dst out) (a.put dst undef) w' g')
theorem pn (h:Inv T w0 G st a w g) {w':World} (n:Nat) (bx:Box E) (gv:Value) (row:Option Nat) (hw:Kept w w' row)
  (hrow : ∀ k,row=some k→n∈names st.mem∧blk (g n)=some k)
  (hb : ∀ b,blk gv=some b→b<w'.heap.size∧(w.heap.size≤b∨(n∈names st.mem∧blk (g n)=some b))) :
  ∀ b,free st.mem g b→b<w.heap.size→free (gk st.mem n bx) (upd g n gv) b∧b<w'.heap.size∧w'.heap[b]? = w.heap[b]? := by
 intro b hf hlt
 refine ⟨?_,Nat.lt_of_lt_of_le hlt hw.size,hw.block b hlt ?_⟩
 ·refine ⟨?_,hf.2⟩
  have hf:=hf.1
  rw [pt,List.mem_append]
  rintro (hx | hx)
  ·obtain ⟨hb1,hb2⟩:=hb b (by simpa using hx)
   rcases hb2 with hb2 | ⟨h1,h2⟩
   ·omega
   ·exact hf (aD.2 ⟨n,h1,h2⟩)
  ·obtain ⟨k,hk,hkb⟩:=aD.1 hx
   exact hf (aD.2 ⟨k,(gw.1 hk).1,hkb⟩)
 ·intro he
  obtain ⟨h1,h2⟩:=hrow b he.symm
  exact hf.1 (aD.2 ⟨n,h1,h2⟩)
theorem bp {m:Mem E} {n:Nat} {bx:Box E} (h:look m n=some bx):n∈names m:=List.mem_map.2 ⟨_,bt h,rfl⟩
theorem Hf (h:Inv T w0 G st a w g) {k:K} {l:List (E k)} {x:DV E} {v:Value} (hx:aB T w (free st.mem g) g x v) (hl:BA T st.mem k x=some l) (hs : ∀ s,x ≠ .str s) :
  Src T w (free st.mem g) k l v:=by
 unfold BA at hl
 split at hl
 ·obtain ⟨e,rfl⟩:=fB hl
  subst e
  exact Hz hx
 ·cases hl; exact .inl ⟨iR hx,rfl⟩
 ·rename_i n
  split at hl
  ·rename_i e k' l' hlook
   obtain ⟨e,rfl⟩:=fB hl
   subst e
   have hr:=h.mm n _ (bt hlook)
   have hv:v=g n:=hx
   rw [hv]
   exact Hw hr
  ·cases hl
 ·rename_i n b
  split at hl
  ·rename_i e k' l' hlook
   obtain ⟨l'',hc,rfl⟩:=Option.map_eq_some_iff.1 hl
   obtain ⟨e,rfl⟩:=fB hc
   subst e
   obtain ⟨ad,len,cap,hg,rfl,hb⟩:=hx
   have hr:=h.mm n _ (bt hlook)
   obtain ⟨xs,h1,h2⟩:=aP.els hr
   rw [hg] at h1
   rcases h1.2 with ⟨he,hn⟩ | ⟨gg,cap',cur,he,_,hgg,hnc,hcm,hcs,htk⟩
   ·cases he
    have:l' = []:=List.eq_nil_of_length_eq_zero hn
    subst this
    have:b=0:=by omega
    subst this
    exact .inl ⟨rfl,by simp⟩
   ·cases he
    refine .inr ⟨⟨gg,0,none⟩,cap,xs.take (b * T.sz k'),by simp [Nat.min_eq_left hb],?_,h2.take b hb⟩
    intro j u hj
    rw [List.getElem?_take] at hj
    split at hj
    ·exact h1.cells (g:=gg) rfl j u hj
    ·cases hj
  ·cases hl
 ·rename_i s; exact absurd rfl (hs s)
 ·cases hl
theorem oB {e:TypeId} (h:qw P e=true) : ∃ i z,P.info? e=some i∧i.zero=some z∧z.cells.size=i.size∧0<i.size∧i.bytes≠0:=by
 unfold qw at h
 split at h
 ·rename_i i hi
  split at h
  ·rename_i z hz
   simp only [Bool.and_eq_true,beq_iff_eq,Bool.not_eq_true'] at h
   exact ⟨i,z,hi,hz,h.1.1,Nat.pos_of_ne_zero (by simpa using h.1.2),by simpa using h.2⟩
  ·cases h
 ·cases h
theorem yQ {e:TypeId} (h:zq P e=true) : ∃ i,P.info? e=some i∧i.zero=some (.int .u8 0)∧i.size=1∧i.bytes=1:=by
 unfold zq at h
 split at h
 ·rename_i i hi
  split at h
  ·rename_i hz
   simp only [Bool.and_eq_true,beq_iff_eq] at h
   exact ⟨i,hi,hz,h.1,h.2⟩
  ·cases h
 ·cases h
theorem oy {t:TypeId} (h:u4 P t=true):P.underlying t=some .string:=by
 unfold u4 at h; split at h <;> simp_all
theorem Dd {X:Nat→Prop} {k:K} {s:List UInt8} {l:List (E k)} (h:T.ofStr k s=some l) (hsz:T.sz k=1):Els T w X k l (strCells ⟨s.toArray⟩):=by
 obtain ⟨h1,h2⟩:=T.ofStr_ok k s l h
 have hs:strCells ⟨s.toArray⟩=s.map fun b=>Value.int .u8 (b.toNat:Int):=by simp [strCells]
 rw [hs]
 refine ⟨by simp [h1,hsz],?_,?_,?_⟩
 ·intro u hu
  obtain ⟨b,_,rfl⟩:=List.mem_map.1 hu
  rfl
 ·intro i hi c hcc
  have hi':i<s.length:=by omega
  have he:=h2 i hi hi'
  simp only [he] at hcc ⊢
  have:c=0:=by simpa using hcc
  subst this
  refine ⟨.int .u8 (s[i].toNat:Int),by simp [hsz,hi'],Rep.int ?_⟩
  have:=(s[i]).toNat_lt
  exact rn (by omega) (by omega)
 ·intro i hi c hcc
  have hi':i<s.length:=by omega
  have he:=h2 i hi hi'
  simp only [he] at hcc ⊢
  have:c=0:=by simpa using hcc
  subst this
  rfl
theorem A1 {sT xt e ty:TypeId} {k:K} {by':Nat} (ht:P.underlying sT=some (.slice e)) (hk:T.isK P e k=true) (hby:bytesOf P e=some by') (hz:qw P e=true)
  {vs vx:Value} {l l':List (E k)} {x:DV E} (h:Inv T w0 G st a w g) (hx:aB T w (free st.mem g) g x vx) (hsrc:Bh T P sT xt e k st.mem x=some l')
  {xs:List Value} (hown:iz w e (T.sz k) vs l.length xs) (hb:(l.length+l'.length) * by'≤140737488355328) :
  ∃ v' w' news,(Builtin.append_ #[sT,xt] ty #[vs,vx]).run P w = .ok v' w'∧iz w' e (T.sz k) v' (l ++ l').length (xs ++ news)∧w.grownBy w' vs.ownBlock∧Place w vs v'∧Els T w (free st.mem g) k l' news:=by
 obtain ⟨hk1,hk2,hk3⟩:=gD hk
 unfold Bh at hsrc
 split at hsrc
 ·rename_i s
  split at hsrc
  ·rename_i hc
   simp only [Bool.and_eq_true,beq_iff_eq] at hc
   obtain ⟨⟨hc1,hc2⟩,hc3⟩:=hc
   obtain ⟨i,hi,hiz,his,hib⟩:=yQ hc2
   have hbe:by'=1:=by unfold bytesOf at hby; rw [hi] at hby; simp at hby; omega
   obtain rfl:=jo hx
   have hl:=(T.ofStr_ok k s l' hsrc).1
   rw [hc3] at hown
   have hss:(⟨s.toArray⟩:ByteArray).size=s.length:=rfl
   obtain ⟨v',w',hr,h2,h3,h4⟩:=vS (P:=P) (w:=w) ht (oy hc1) hi hiz his hib hown ⟨s.toArray⟩ (by rw [hss, ← hl]; rw [hbe] at hb; omega) (ty:=ty)
   refine ⟨v',w',_,hr,?_,h3,h4,Dd hsrc hc3⟩
   rw [hc3,List.length_append,hl]
   exact h2
  ·cases hsrc
 ·rename_i hns
  split at hsrc
  ·rename_i hxt
   subst hxt
   obtain ⟨i,z,hi,hiz,hzs,hsz,hibz⟩:=oB hz
   have hcell:i.size=T.sz k:=by rw [hk2]; simp [Program.cellsOf,hi]
   have hbe:by'=i.bytes:=by unfold bytesOf at hby; rw [hi] at hby; simpa using hby.symm
   have hS:=Hf h hx hsrc (fun s e=>hns s e)
   rw [← hcell] at hown
   rcases hS with ⟨rfl,rfl⟩ | ⟨ad,c,news,rfl,hn,he⟩
   ·obtain ⟨v',w',hr,h2,h3,h4⟩:=vW (P:=P) (w:=w) (ty:=ty) ht hi hiz hzs hsz hibz hown (m:=0) (news := []) (.inl ⟨rfl,rfl,rfl⟩) (by rw [← hbe]; simpa using hb)
    exact ⟨v',w',[],hr,by rw [List.length_append, ← hcell]; exact h2,h3,h4, .nil k⟩
   ·obtain ⟨v',w',hr,h2,h3,h4⟩:=vW (P:=P) (w:=w) (ty:=ty) ht hi hiz hzs hsz hibz hown (m:=l'.length) (news:=news)
     (.inr ⟨ad,c,rfl,by rw [hcell]; exact he.len,hn,he.one⟩) (by rw [← hbe]; exact hb)
    exact ⟨v',w',news,hr,by rw [List.length_append, ← hcell]; exact h2,h3,h4,he⟩
  ·cases hsrc
theorem y7 {v:Value} {k:Nat} (h:v.ownBlock=some k):blk v=some k:=by
 cases v <;> simp_all [Value.ownBlock,blk]
 rename_i ad _ _
 cases ad <;> simp_all
theorem vD {e:TypeId} {sz n:Nat} {v:Value} {xs:List Value} (h:iz w e sz v n xs) : ∀ b,blk v=some b→b<w.heap.size:=by
 intro b hb
 rcases h.2 with ⟨rfl,_⟩ | ⟨gg,cap,cur,rfl,_,hg,_⟩
 ·simp [blk] at hb
 ·simp only [blk,Option.some.injEq] at hb
  subst hb
  obtain ⟨fz,_,hg⟩:=hg
  exact kP hg
theorem BK {sT xt ty:TypeId} (dst:Option Nat) {s x:DV E} {vs vx:Value} (h:Inv T w0 G st a w g) (hs:aB T w (free st.mem g) g s vs) (hx:aB T w (free st.mem g) g x vx) (out:Out E)
  (hh:(rM T P sT xt dst s x st.mem).has out):fU T P w0 G st a w g dst out (do pure (.value (← Builtin.append_ #[sT,xt] ty #[vs,vx]))):=by
 unfold rM at hh
 split at hh
 ·rename_i e d he
  split at hh
  ·rename_i k by' hk hby hz
   split at hh
   ·rename_i l' hsrc
    have hu:=dR he
    have hkk:=tw hk
    split at hh
    ·rename_i n
     split at hh
     ·rename_i e' k' l hlook
      split at hh
      ·rename_i hee; subst hee
       split at hh
       ·rename_i l0 hc
        obtain ⟨e0,rfl⟩:=fB hc
        subst e0
        obtain ⟨hb,hh⟩:=eB hh
        have hb:(l.length+l'.length) * by'≤140737488355328:=by simpa using hb
        obtain ⟨_,_,rfl⟩:=hh
        have hv:vs=g n:=hs
        subst hv
        have hn:=bp hlook
        obtain ⟨xs,h1,h2⟩:=aP.els (h.mm n _ (bt hlook))
        obtain ⟨v',w',news,hr,q1,q2,q3,q4⟩:=A1 (ty:=ty) hu hkk hby hz h hx hsrc h1 hb
        have hrow : ∀ k,(g n).ownBlock=some k→n∈names st.mem∧blk (g n)=some k:=fun k hk=>⟨hn,y7 hk⟩
        have hbl : ∀ b,blk v'=some b→b<w'.heap.size∧(w.heap.size≤b∨(n∈names st.mem∧blk (g n)=some b)):=fun b hb =>
         ⟨vD q1 b hb,(q3 b hb).imp id fun h=>⟨hn,h⟩⟩
        have hX:=pn h (w':=w') n (.row e' k' (l ++ l')) v' _ (.rO q2) hrow hbl
        refine .inl ⟨v',w',upd g n v',by simp [hr],?_⟩
        exact h.renew n (.row e' k' (l ++ l')) v' _ (.rO q2) hrow hbl (aP.mk' q1 ((h2.mono hX).append (q4.mono hX))) _ (.rowp n) v' (by show v'=upd g n v' n; rw [fR]) (fun _ _ _ _ h=>by cases h)
       ·exact (ah hh).elim
      ·exact (ah hh).elim
     ·exact (ah hh).elim
    ·obtain ⟨hb,hh⟩:=eB hh
     have hb:(0+l'.length) * by'≤140737488355328:=by simpa using hb
     obtain ⟨_,_,rfl⟩:=hh
     obtain rfl:=iR hs
     obtain ⟨v',w',news,hr,q1,q2,q3,q4⟩:=A1 (l := []) (xs := []) (ty:=ty) hu hkk hby hz h hx hsrc (kX w e (T.sz k)) hb
     have hrow : ∀ q,(Value.slice none 0 0).ownBlock=some q→64 * d∈names st.mem∧blk (g (64 * d))=some q:=fun q hq=>by cases hq
     have hbl : ∀ b,blk v'=some b→b<w'.heap.size∧(w.heap.size≤b∨(64 * d∈names st.mem∧blk (g (64 * d))=some b)):=fun b hb =>
      ⟨vD q1 b hb,by rcases q3 b hb with h | h; · exact .inl h
                     ·cases h⟩
     have hX:=pn h (w':=w') (64 * d) (.row e k l') v' _ (.rO q2) hrow hbl
     refine .inl ⟨v',w',upd g (64 * d) v',by simp [hr],?_⟩
     exact h.renew (64 * d) (.row e k l') v' _ (.rO q2) hrow hbl (aP.mk' (by simpa using q1) (q4.mono hX)) _ (.rowp (64 * d)) v' (by show v'=upd g (64 * d) v' (64 * d); rw [fR]) (fun _ _ _ _ h=>by cases h)
    ·exact (ah hh).elim
   ·exact (ah hh).elim
  ·exact (ah hh).elim
 ·exact (ah hh).elim
end Go.Vm
/- The abstract value machine: the other operations on boxes. -/
namespace Go.Vm
open Go.Lib
set_option linter.unusedVariables false
variable {K:Type} {E:K→Type}
def gf (m:Mem E) (n:Nat) (b:Box E):Mem E:=(cK [n] (drop m n)).filter (fun x=>decide (x.1<n)) ++ (n,b) :: (cK [n] (drop m n)).filter (fun x=>decide (n<x.1))
theorem vO {n:Nat} : ∀ {m:Mem E} {x:Nat×Box E},x∈drop m n→x.1≠n
 | [],x,h=>by cases h
 | (k,b) :: r,x,h=>by
  unfold drop at h
  split at h
  ·exact vO h
  ·rename_i hk
   rcases List.mem_cons.1 h with rfl | h
   ·exact hk
   ·exact vO h
theorem Ek (m:Mem E) (n:Nat) (b:Box E):(gk m n b).Perm (gf m n b):=by
 unfold gk gf
 have hk : ∀ x∈cK [n] (drop m n),x.1≠n:=by
  intro x hx
  obtain ⟨y,hy,rfl⟩:=List.mem_map.1 hx
  exact vO (x:=y) hy
 generalize cK [n] (drop m n)=L at *
 have e:L.filter (fun x=>decide (n<x.1))=L.filter (fun x => !decide (x.1<n)):=by
  refine List.filter_congr fun x hx => ?_
  have:=hk x hx
  rw [← decide_not,decide_eq_decide]
  omega
 rw [e]
 exact ((List.filter_append_perm (fun x:Nat×Box E=>decide (x.1<n)) L).symm.cons _).trans List.perm_middle.symm
theorem EG {m m':Mem E} {g:Gh} (h:m.Perm m'):free m g=free m' g:=by
 funext b
 unfold free
 have:b∈dP m g ↔ b∈dP m' g:=by
  unfold dP
  simp only [List.mem_flatMap]
  exact ⟨fun ⟨x,hx,hb⟩=>⟨x,h.mem_iff.1 hx,hb⟩,fun ⟨x,hx,hb⟩=>⟨x,h.mem_iff.2 hx,hb⟩⟩
 rw [this]
theorem Inv.perm {T:Tab E} {w0:World} {G:GP} {tm:List (DV E)} {m m':Mem E} {a:Act} {w:World} {g:Gh} (h:Inv T w0 G ⟨tm,m⟩ a w g) (hp:m.Perm m'):Inv T w0 G ⟨tm,m'⟩ a w g:=by
 have hf:=EG (g:=g) hp
 have hn:(names m).Perm (names m'):=hp.map _
 have hb:(dP m g).Perm (dP m' g):=hp.flatMap_right _
 refine ⟨h.df,h.tl,fun i hi => ?_,hn.nodup_iff.1 h.nn,hb.nodup_iff.1 h.nd,fun n bx hm => ?_,fun b hbm=>h.bo b (hb.mem_iff.2 hbm),h.fr,fun i hi n j cs off he=>hn.mem_iff.1 (h.rl i hi n j cs off he),h.hz⟩
 ·have:=h.tm i hi
  change aB T w (free m g) g _ _ at this
  rw [hf] at this
  exact this
 ·have:=h.mm n bx (hp.mem_iff.2 hm)
  change zg T w (free m g) g _ _ at this
  rw [hf] at this
  exact this
def ly (dst:Option Nat) (t:TypeId) (cs:List (DV E)) (mem:Mem E):Cal E :=
 match dst with
 | some d=>if cs.all DV.plain then .one ⟨.ptr (64 * d) 0,[64 * d],some (gf mem (64 * d) (.cells t cs))⟩ else .bad
 | none => .bad
def qv (dst:Option Nat) (t:TypeId) (n:Nat) (k:K) (l:List (E k)) (mem:Mem E):Cal E :=
 match dst with
 | some d => .one ⟨.ptr (64 * d) 0,[64 * d],some (gf mem (64 * d) (.arr t n k l))⟩
 | none => .bad
def xq (T:Tab E) (P:Program) (t:TypeId) (x:DV E) (mem:Mem E):Cal E :=
 match x with
 | .ptr n off=>match look mem n with
  | some (.cells _ cs)=>if off+P.cellsOf t≤cs.length∧0<P.cellsOf t∧(P.underlying t).isSome=true then
    match rG T P t ((cs.drop off).take (P.cellsOf t)) with
    | some (m,⟨k,l⟩) => .v (.arr m k l)
    | none => .v (xN P t cs off)
   else .bad
  | some (.arr _ m k l)=>if T.sz k == 1 then match DS T P t with
    | some (m',_)=>if off == 0 && m' == m then .v (.arr m k l) else .bad
    | none=>if P.cellsOf t == 1 && !dE P t && (P.underlying t).isSome then .ret (E k) (jw l off) fun x=>val ((T.enc k x).getD 0 .junk) else .bad
   else .bad
  | _ => .bad
 | _ => .bad
def storable (d:DV E):Bool:=d.lay || match d with
 | .rowp _ | .ptr _ _=>true
 | _=>false
def uQ (P:Program) (t:TypeId) (x v:DV E) (mem:Mem E):Cal E :=
 match x with
 | .ptr n off=>match look mem n with
  | some (.cells ty cs)=>if storable v=true∧v.cells.length=P.cellsOf t∧off+v.cells.length≤cs.length∧0<P.cellsOf t then
    .one ⟨.junk,[],some (ie mem n (.cells ty (cq cs off v.cells)))⟩ else .bad
  | _ => .bad
 | _ => .bad
variable {T:Tab E} {P:Program} {w0:World} {G:GP} {st:St E} {a:Act} {w:World} {g:Gh}
theorem vA (w:World) (o:Obj) (row:Option Nat):Kept w (w.alloc o) row :=
 ⟨rfl,rfl,rfl,by simp,fun k hk _=>heap_alloc_old w o k hk⟩
theorem Inv.alloc (h:Inv T w0 G st a w g) (n:Nat) (bx:Box E) (o:Obj) (dst:Option Nat) (d:DV E)
  (hd:d = .ptr n 0) (hbx : ∀ X',(∀ b,free st.mem g b→b<w.heap.size→X' b)→zg T (w.alloc o) X' (upd g n (.pointer (some ⟨w.heap.size,0,none⟩))) (.pointer (some ⟨w.heap.size,0,none⟩)) bx) :
  Inv T w0 G (st.app dst ⟨d,[n],some (gk st.mem n bx)⟩) (a.put dst (.pointer (some ⟨w.heap.size,0,none⟩))) (w.alloc o) (upd g n (.pointer (some ⟨w.heap.size,0,none⟩))):=by
 subst hd
 have hbl : ∀ b,blk (.pointer (some ⟨w.heap.size,0,none⟩))=some b→b<(w.alloc o).heap.size∧(w.heap.size≤b∨(n∈names st.mem∧blk (g n)=some b)):=by
  intro b hb
  simp only [blk,Option.some.injEq] at hb
  subst hb
  exact ⟨by simp, .inl (Nat.le_refl _)⟩
 have hX:=pn h (w':=w.alloc o) n bx _ none (vA w o none) (fun _ h=>by cases h) hbl
 exact h.renew n bx _ none (vA w o none) (fun _ h=>by cases h) hbl (hbx _ fun b hf hlt=>(hX b hf hlt).1) dst _ _
  ⟨w.heap.size,by rw [fR],rfl⟩ (fun _ _ _ _ h=>by cases h)
theorem uV (t:TypeId) (v:Value):(newVar t v).run P w = .ok ⟨w.heap.size,0,none⟩ (w.alloc (.cells v.cells t)):=by
 simp [newVar,newRow]
theorem Inv.E8 (h:Inv T w0 G st a w g) (n:Nat) (bx:Box E) (o:Obj) (dst:Option Nat) (d:DV E)
  (hd:d = .ptr n 0) (hbx : ∀ X',(∀ b,free st.mem g b→b<w.heap.size→X' b)→zg T (w.alloc o) X' (upd g n (.pointer (some ⟨w.heap.size,0,none⟩))) (.pointer (some ⟨w.heap.size,0,none⟩)) bx) :
  Inv T w0 G (st.app dst ⟨d,[n],some (gf st.mem n bx)⟩) (a.put dst (.pointer (some ⟨w.heap.size,0,none⟩))) (w.alloc o) (upd g n (.pointer (some ⟨w.heap.size,0,none⟩))):=by
 have h1:Inv T w0 G ⟨(st.app dst ⟨d,[n],some (gk st.mem n bx)⟩).tmps,gk st.mem n bx⟩ (a.put dst (.pointer (some ⟨w.heap.size,0,none⟩))) (w.alloc o) (upd g n (.pointer (some ⟨w.heap.size,0,none⟩))):=h.alloc n bx o dst d hd hbx
 exact h1.perm (Ek _ _ _)
theorem mg {d:DV E} (h:d.plain=true):d.ej=true:=by
 cases d <;> simp_all [DV.plain,DV.ej]
theorem tq (dst:Option Nat) {t:TypeId} {cs:List (DV E)} (h:Inv T w0 G st a w g) (v:Value) (hc:Cells T w (free st.mem g) cs v.cells.toList) (out:Out E) (hh:(ly dst t cs st.mem).has out) (s:Sem Value)
  (hs:s.run P w = .ok (.pointer (some ⟨w.heap.size,0,none⟩)) (w.alloc (.cells v.cells t))):fU T P w0 G st a w g dst out (do pure (.value (← s))):=by
 unfold ly at hh
 split at hh
 ·rename_i d
  split at hh
  ·rename_i hp
   obtain ⟨_,_,rfl⟩:=hh
   refine .inl ⟨_,_,_,by simp [hs],h.E8 (64 * d) (.cells t cs) (.cells v.cells t) _ _ rfl ?_⟩
   intro X' hX'
   refine ⟨w.heap.size,v.cells,rfl,heap_alloc_new w _,by simpa using hc.1,?_⟩
   intro i hi hi'
   have hpl:cs[i].plain=true:=List.all_eq_true.1 hp _ (List.getElem_mem hi)
   have hr:=hc.2 i hi (by simpa using hi')
   simp only [Array.getElem_toList] at hr
   refine ⟨Rep.Cl (hr.mono fun b hb hlt=>⟨hX' b hb hlt,by simp; omega,heap_alloc_old w _ b hlt⟩),(cV hr hpl).2.2,mg hpl⟩
  ·exact (ah hh).elim
 ·exact (ah hh).elim
theorem xm (dst:Option Nat) {t:TypeId} {n:Nat} {k:K} {l:List (E k)} (h:Inv T w0 G st a w g) (vs:Array Value) (hr:Rep T w (free st.mem g) (.arr n k l) (.agg vs)) (out:Out E) (hh:(qv dst t n k l st.mem).has out) (s:Sem Value)
  (hs:s.run P w = .ok (.pointer (some ⟨w.heap.size,0,none⟩)) (w.alloc (.cells vs t))):fU T P w0 G st a w g dst out (do pure (.value (← s))):=by
 unfold qv at hh
 split at hh
 ·rename_i d
  obtain ⟨_,_,rfl⟩:=hh
  refine .inl ⟨_,_,_,by simp [hs],h.E8 (64 * d) (.arr t n k l) (.cells vs t) _ _ rfl ?_⟩
  intro X' hX'
  exact ⟨w.heap.size,vs,rfl,heap_alloc_new w _,hr.mono fun b hb hlt=>⟨hX' b hb hlt,by simp; omega,heap_alloc_old w _ b hlt⟩⟩
 ·exact (ah hh).elim
theorem DU {X:Nat→Prop} {d:DV E} {v:Value} (h:d.ej=true) : ∀ k j cs off,d ≠ .rptr k j cs off:=by
 intro k j cs off e; subst e; simp [DV.ej] at h
theorem wY {t:TypeId} {x:DV E} {v:Value} (h:Inv T w0 G st a w g) (hx:aB T w (free st.mem g) g x v) (out:Out E) (hh:(xq T P t x st.mem).has out) :
  out=val out.v ∧ ∃ u,(Instr.loadAt t v).run P w = .ok u w∧aB T w (free st.mem g) g out.v u ∧ ∀ k j q o,out.v ≠ .rptr k j q o:=by
 unfold xq at hh
 split at hh
 ·rename_i n off
  split at hh
  ·rename_i ty cs hlook
   split at hh
   ·rename_i hc
    obtain ⟨hc1,hc2,hc3⟩:=hc
    obtain ⟨b,hb,rfl⟩:=ep hx
    obtain ⟨b',vs,h1,h2,h3,h4⟩:=h.mm n _ (bt hlook)
    rw [h1] at hb
    simp only [Value.pointer.injEq,Option.some.injEq,Addr.mk.injEq,and_true] at hb
    subst hb
    obtain ⟨d,hd⟩:=Option.isSome_iff_exists.1 hc3
    have hcell : ∀ j,j<vs.size→w.cell? ⟨b',j,none⟩=some (vs.getD j undef):=by
     intro j hj
     rw [cell_of_row w b' j vs ty (0,0) h2]
     simp [hj]
    have key : ∃ u,(loadVar t ⟨b',off,none⟩).run P w = .ok u w∧aB T w (free st.mem g) g (xN P t cs off) u ∧ ∀ k j q o,xN P t cs off ≠ .rptr k j q o:=by
     unfold loadVar xN
     cases ha:dE P t
     ·simp only [Sem.run_bind,fF hd,ha,Result.andThen_ok,Bool.false_eq_true,if_false]
      have hlt:off<cs.length:=by omega
      rw [dV _ _ _ hlt]
      obtain ⟨p1,p2,p3⟩:=h4 off hlt (by omega)
      have hg:vs.getD off undef=vs[off]'(by omega):=by simp [Array.getElem?_eq_getElem (show off<vs.size by omega)]
      refine ⟨vs.getD off undef,by simp [hcell off (by omega)],by rw [hg]; exact .of1 p1,?_⟩
      exact DU (X:=fun _=>True) (v:=undef) p3
     ·simp only [Sem.run_bind,fF hd,ha,Result.andThen_ok,if_true,jR hd]
      rw [run_loadCells w ⟨b',off,none⟩ (P.cellsOf t) (fun j=>vs.getD (off+j) undef) (fun j hj=>by rw [Addr.add_lit]; exact hcell _ (by omega))]
      refine ⟨_,rfl,Rep.toT (.agg (by simp; omega) ?_),by intro _ _ _ _ e; cases e⟩
      intro i hi hi'
      simp only [List.getElem_map,List.getElem_take,List.getElem_drop,List.getElem_toArray,List.getElem_range]
      have hlt:off+i<cs.length:=by simp at hi; omega
      obtain ⟨p1,p2,p3⟩:=h4 (off+i) hlt (by omega)
      have hg:vs.getD (off+i) undef=vs[off+i]'(by omega):=by simp [Array.getElem?_eq_getElem (show off+i<vs.size by omega)]
      rw [hg]
      split
      ·rename_i hp
       exact p1.plain (by cases hdd:cs[off+i] <;> rw [hdd] at hp <;> simp_all [DV.share,DV.lay,DV.plain])
      ·exact .junk _
    obtain ⟨u,hu,hr,hno⟩:=key
    split at hh
    ·rename_i m k l hm
     rw [cZ hh]
     have hm':=hm
     unfold rG at hm'
     split at hm'
     case h_2=>cases hm'
     rename_i m0 k0 hk0
     obtain ⟨e,hue,_,_,_⟩:=pq hk0
     split at hm'
     case isFalse=>cases hm'
     rename_i hpl
     simp only [Bool.and_eq_true] at hpl
     have hagg:dE P t=true:=by simp [dE,hue]
     have hld:xN P t cs off = .agg ((cs.drop off).take (P.cellsOf t)):=by
      unfold xN
      rw [hagg]
      simp only [if_true]
      congr 1
      conv=>rhs; rw [← List.map_id ((cs.drop off).take (P.cellsOf t))]
      refine List.map_congr_left fun d hd => ?_
      rw [List.all_eq_true.1 hpl.2 d hd]; rfl
     rw [hld] at hr
     obtain ⟨us,rfl,hl,hq⟩:=oo hr
     obtain ⟨_,_,hrep⟩:=qo (P:=P) (t:=t) (T:=T) (w:=w) (X:=free st.mem g) (vs:=us.toList) ⟨by simpa using hl,fun i hi hi'=>by simpa using hq i hi (by simpa using hi')⟩ hm
     exact ⟨rfl, .agg us,by simp [Instr.loadAt,Instr.sureAddr,hu],(show Rep T w (free st.mem g) (.arr m k l) (.agg us) by simpa using hrep).toT,fun k j q o e=>by cases e⟩
    ·rw [cZ hh]
     exact ⟨rfl,u,by simp [Instr.loadAt,Instr.sureAddr,hu],hr,hno⟩
   ·exact (ah hh).elim
  ·rename_i ty m kk l hlook
   split at hh
   case isFalse=>exact (ah hh).elim
   rename_i hs
   simp only [beq_iff_eq] at hs
   obtain ⟨b,hb,rfl⟩:=ep hx
   obtain ⟨b',vs,h1,h2,h3⟩:=h.mm n _ (bt hlook)
   rw [h1] at hb
   simp only [Value.pointer.injEq,Option.some.injEq,Addr.mk.injEq,and_true] at hb
   subst hb
   obtain ⟨hl,hp,vs',hvs,hc⟩:=lN (g:=g) (Rep.toT h3)
   cases hvs
   have hsize:vs.size=m:=by have:=hc.1; rw [oH hs] at this; simp at this; omega
   have hcell : ∀ j,j<vs.size→w.cell? ⟨b',j,none⟩=some (vs.getD j undef):=by
    intro j hj
    rw [cell_of_row w b' j vs ty (0,0) h2]
    simp [hj]
   split at hh
   ·rename_i m' k' ha
    split at hh
    case isFalse=>exact (ah hh).elim
    rename_i hc0
    simp only [Bool.and_eq_true,beq_iff_eq] at hc0
    obtain ⟨rfl,rfl⟩:=hc0
    rw [cZ hh]
    obtain ⟨e,hu,hk,hs',hcl⟩:=pq ha
    have hagg:dE P t=true:=by simp [dE,hu]
    have hrun:(loadVar t ⟨b',0,none⟩).run P w = .ok (.agg vs) w:=by
     unfold loadVar
     simp only [Sem.run_bind,fF hu,hagg,Result.andThen_ok,if_true,jR hu]
     rw [run_loadCells w ⟨b',0,none⟩ (P.cellsOf t) (fun j=>vs.getD j undef) (fun j hj=>by rw [Addr.add_lit,Nat.zero_add]; exact hcell _ (by omega))]
     simp only [Result.andThen_ok,Sem.run_pure]
     congr 2
     apply Array.ext
     ·simp; omega
     ·intro i h1 h2
      simp [h2]
    exact ⟨rfl, .agg vs,by simp [Instr.loadAt,Instr.sureAddr,hrun],h3.toT,fun k j q o e=>by cases e⟩
   ·split at hh
    case isFalse=>exact (ah hh).elim
    rename_i hc0
    simp only [Bool.and_eq_true,beq_iff_eq,Bool.not_eq_true'] at hc0
    obtain ⟨⟨_,hna⟩,hsome⟩:=hc0
    obtain ⟨d,hd⟩:=Option.isSome_iff_exists.1 hsome
    obtain ⟨x,hx,rfl⟩:=hh
    unfold jw at hx
    obtain ⟨hlt,rfl⟩:=List.getElem?_eq_some_iff.1 hx
    have hg:=rZ hs l off hlt
    obtain ⟨hlt',he⟩:=List.getElem?_eq_some_iff.1 hg
    have hr:=hc.2 off hlt' (by rw [← hc.1]; exact hlt')
    have hpl:=List.all_eq_true.1 hp _ (List.getElem_mem hlt')
    rw [he] at hr hpl
    have hov:off<vs.size:=by omega
    have hgv:vs.getD off undef=vs[off]:=by simp [hov]
    have hrun:(loadVar t ⟨b',off,none⟩).run P w = .ok vs[off] w:=by
     unfold loadVar
     simp only [Sem.run_bind,fF hd,hna,Result.andThen_ok,Bool.false_eq_true,if_false]
     have h0:=hcell off hov
     rw [hgv] at h0
     simp [h0]
    refine ⟨rfl,vs[off],by simp [Instr.loadAt,Instr.sureAddr,hrun],(show Rep T w (free st.mem g) ((T.enc kk l[off]).getD 0 .junk) vs[off] by simpa using hr).toT,fun k j q o e => ?_⟩
    have e:(T.enc kk l[off]).getD 0 .junk = .rptr k j q o:=e
    rw [e] at hpl
    simp [DV.plain] at hpl
  ·exact (ah hh).elim
 ·exact (ah hh).elim
theorem Hh (dst:Option Nat) {t:TypeId} {x:DV E} {v:Value} (h:Inv T w0 G st a w g) (hx:aB T w (free st.mem g) g x v) (out:Out E) (hh:(xq T P t x st.mem).has out) :
  fU T P w0 G st a w g dst out (do pure (.value (← Instr.loadAt t v))):=by
 obtain ⟨h1,u,h2,h3,h4⟩:=wY h hx out hh
 rw [h1]
 exact .inl ⟨u,w,g,by simp [h2],h.put dst h3 (fun k j q o e=>absurd e (h4 k j q o))⟩
end Go.Vm
/- The abstract value machine: stores; reads of rows; literals; texts gone over. -/
namespace Go.Vm
open Go.Lib
set_option linter.unusedVariables false
variable {K:Type} {E:K→Type}
variable {T:Tab E} {P:Program} {w0:World} {G:GP} {st:St E} {a:Act} {w:World} {g:Gh}
theorem l9 (w:World) (b:Nat) (cs:Array Value):Kept w (w.setRow b cs) (some b) :=
 ⟨rfl,rfl,rfl,by simp,fun k hk hne=>setRow_other w b k cs (fun e=>hne (by rw [e]))⟩
theorem rA (h:Inv T w0 G st a w g) {n b:Nat} (hg:g n = .pointer (some ⟨b,0,none⟩)) : ∀ i (hi:i<st.tmps.length) j cs off,st.tmps[i] ≠ .rptr n j cs off:=by
 intro i hi j cs off he
 have:=h.tm i hi
 rw [he] at this
 obtain ⟨b',o,f,_,⟨len,cap,h2,_⟩,_⟩:=this
 rw [hg] at h2
 cases h2
theorem uW {X:Nat→Prop} {d:DV E} {v:Value} (hs:storable d=true) (hr:aB T w X g d v) (hg : ∀ n,d = .rowp n → ∃ a l c,g n = .slice a l c) :
  d.cells.length=v.cells.size ∧ ∀ i (h:i<d.cells.length) (h':i<v.cells.size),dt T w X g d.cells[i] v.cells[i]∧v.cells[i].oneCell'=true∧d.cells[i].ej=true:=by
 cases hsh:d.lay
 ·have one:v.cells = #[v]→d.cells = [d]→v.oneCell'=true→d.ej=true→dt T w X g d v→d.cells.length=v.cells.size ∧ ∀ i (h:i<d.cells.length) (h':i<v.cells.size),dt T w X g d.cells[i] v.cells[i]∧v.cells[i].oneCell'=true∧d.cells[i].ej=true:=by
   intro e1 e2 e3 e4 e5
   refine ⟨by rw [e1,e2]; rfl,fun i h h' => ?_⟩
   have:i=0:=by rw [e2] at h; simpa using h
   subst this
   simp only [e1,e2]
   exact ⟨e5,e3,e4⟩
  unfold storable at hs
  rw [hsh] at hs
  cases d <;> simp at hs
  case ptr n off =>
   obtain ⟨b,h1,rfl⟩:=ep hr
   exact one rfl rfl rfl rfl ⟨b,h1,rfl⟩
  case rowp n =>
   have hv:v=g n:=hr
   obtain ⟨ad,l,c,he⟩:=hg n rfl
   rw [he] at hv
   subst hv
   exact one rfl rfl rfl rfl hr
 ·have hc:=oT hr hsh
  refine ⟨by simpa using hc.1,fun i h h' => ?_⟩
  have hr':=hc.2 i h (by simpa using h')
  simp only [Array.getElem_toList] at hr'
  have hp:d.cells[i].plain=true:=by
   unfold DV.lay at hsh
   cases d <;> first | (simp [DV.plain] at hsh; done) | skip
   all_goals first
    | (simp only [DV.cells] at h ⊢
       simp only [List.all_eq_true] at hsh
       exact hsh _ (List.getElem_mem _))
    | (simp only [DV.cells,List.length_singleton] at h ⊢
       have:i=0:=by omega
       subst this
       simpa using hsh)
  exact ⟨hr'.Cl,(cV hr' hp).2.2,mg hp⟩
theorem Ck (h:Inv T w0 G st a w g) {n:Nat} {e:TypeId} {k:K} {l:List (E k)} (hl:look st.mem n=some (.row e k l)) : ∃ a l c,g n = .slice a l c:=by
 obtain ⟨xs,h1,_⟩:=aP.els (h.mm n _ (bt hl))
 rcases h1.2 with ⟨he,_⟩ | ⟨gg,cap,cur,he,_⟩
 ·exact ⟨_,_,_,he⟩
 ·exact ⟨_,_,_,he⟩
def rX (mem:Mem E) (d:DV E):Bool:=match d with
 | .rowp n=>match look mem n with
  | some (.row _ _ _)=>true
  | _=>false
 | _=>true
theorem wg (h:Inv T w0 G st a w g) {d:DV E} (hk:rX st.mem d=true) : ∀ n,d = .rowp n → ∃ a l c,g n = .slice a l c:=by
 rintro n rfl
 unfold rX at hk
 simp only at hk
 split at hk
 ·rename_i e k l hl; exact Ck h hl
 ·cases hk
theorem Ed {t:TypeId} {x y:DV E} {v u:Value} (h:Inv T w0 G st a w g) (hx:aB T w (free st.mem g) g x v) (hy:aB T w (free st.mem g) g y u) (out:Out E)
  (hh:(if rX st.mem y then uQ P t x y st.mem else .bad).has out) :
  fU T P w0 G st a w g none out (do Instr.storeAt t v u; pure .skip):=by
 split at hh
 case isFalse=>exact (ah hh).elim
 rename_i hkn
 unfold uQ at hh
 split at hh
 ·rename_i n off
  split at hh
  ·rename_i ty cs hlook
   split at hh
   ·rename_i hc
    obtain ⟨hc1,hc2,hc3,hc4⟩:=hc
    obtain ⟨_,_,rfl⟩:=hh
    obtain ⟨b,hb,rfl⟩:=ep hx
    obtain ⟨b',vs,h1,h2,h3,h4⟩:=h.mm n _ (bt hlook)
    have hgn:=h1
    rw [h1] at hb
    simp only [Value.pointer.injEq,Option.some.injEq,Addr.mk.injEq,and_true] at hb
    subst hb
    obtain ⟨q1,q2⟩:=uW hc1 hy (wg h hkn)
    have hone : ∀ x∈u.cells.toList,x.oneCell'=true:=by
     intro x hx
     obtain ⟨i,hi,rfl⟩:=List.getElem_of_mem hx
     have hi':i<u.cells.size:=by simpa using hi
     simpa using (q2 i (by omega) hi').2.1
    have hst:=run_storeCells_at P b' off ty u.cells.toList 0 vs w h2 (by simp; omega) hone
    simp only [Nat.add_zero] at hst
    have hcells:P.cellsOf t≠0:=by omega
    have hrun:(Instr.storeAt t (.pointer (some ⟨b',off,none⟩)) u).run P w = .ok () (w.setRow b' (vs.toList.take off ++ u.cells.toList ++ vs.toList.drop (off+u.cells.toList.length)).toArray):=by
     simp only [Instr.storeAt,Instr.sureAddr,storeVar,Sem.run_bind,Sem.run_pure,Result.andThen_ok,bu hcells]
     rw [if_neg (by rw [← q1,hc2]; simp)]
     exact hst
    refine .inr ⟨_,g,by simp only [Sem.run_bind,hrun,Result.andThen_ok]; rfl,?_⟩
    have hblk:blk (g n)=some b':=by rw [hgn]; rfl
    have hX : ∀ b,free st.mem g b→b<w.heap.size→free st.mem g b∧b<(w.setRow b' (vs.toList.take off ++ u.cells.toList ++ vs.toList.drop (off+u.cells.toList.length)).toArray).heap.size ∧
      (w.setRow b' (vs.toList.take off ++ u.cells.toList ++ vs.toList.drop (off+u.cells.toList.length)).toArray).heap[b]? = w.heap[b]? := by
     intro b hf hlt
     refine ⟨hf,by simpa using hlt,setRow_other _ _ _ _ fun e=>hf.1 ?_⟩
     subst e
     exact aD.2 ⟨n,bp hlook,hblk⟩
    have keep : ∀ (d:DV E) (x:Value),dt T w (free st.mem g) g d x→d.ej=true→dt T (w.setRow b' (vs.toList.take off ++ u.cells.toList ++ vs.toList.drop (off+u.cells.toList.length)).toArray) (free st.mem g) g d x:=by
     intro d x hd hc
     exact hd.kept hX (fun _ _=>rfl) (fun k i cs off b he _=>by subst he; simp [DV.ej] at hc)
    refine h.write n (.cells ty (cq cs off y.cells)) (bp hlook) (by rw [hblk]; exact l9 _ _ _) ?_ (rA h hgn) none .junk undef (Rep.junk _).toT (fun _ _ _ _ e=>by cases e)
    refine ⟨b',_,hgn,setRow_heap w b' vs _ ty (0,0) h2,?_,?_⟩
    ·simp [cq,q1,h3]
    ·have e1:(vs.toList.take off ++ u.cells.toList ++ vs.toList.drop (off+u.cells.toList.length)).toArray.toList=vs.toList.take off ++ u.cells.toList ++ vs.toList.drop (off+u.cells.toList.length):=by simp
     intro i hi hi'
     simp only [List.size_toArray,List.getElem_toArray] at hi' ⊢
     unfold cq at hi ⊢
     have hlen:y.cells.length=u.cells.toList.length:=by simpa using q1
     by_cases h5:i<off
     ·have l1:i<(cs.take off ++ y.cells).length:=by simp; omega
      have l2:i<(vs.toList.take off ++ u.cells.toList).length:=by simp; omega
      rw [List.getElem_append_left l1,List.getElem_append_left l2,List.getElem_append_left (by simp; omega),List.getElem_append_left (by simp; omega)]
      simp only [List.getElem_take,Array.getElem_toList]
      obtain ⟨p1,p2,p3⟩:=h4 i (by omega) (by omega)
      exact ⟨keep _ _ p1 p3,p2,p3⟩
     ·by_cases h6:i<off+y.cells.length
      ·have l1:i<(cs.take off ++ y.cells).length:=by simp; omega
       have l2:i<(vs.toList.take off ++ u.cells.toList).length:=by simp at hlen ⊢; omega
       have t1:(cs.take off).length=off:=by simp; omega
       have t2:(vs.toList.take off).length=off:=by simp; omega
       rw [List.getElem_append_left l1,List.getElem_append_left l2,List.getElem_append_right (by omega),List.getElem_append_right (by omega)]
       simp only [t1,t2,Array.getElem_toList]
       obtain ⟨p1,p2,p3⟩:=q2 (i - off) (by omega) (by simp at hlen; omega)
       exact ⟨keep _ _ p1 p3,p2,p3⟩
      ·have t1:(cs.take off ++ y.cells).length=off+y.cells.length:=by simp; omega
       have t2:(vs.toList.take off ++ u.cells.toList).length=off+y.cells.length:=by simp at hlen ⊢; omega
       rw [List.getElem_append_right (by omega),List.getElem_append_right (by omega)]
       simp only [t1,t2,List.getElem_drop,Array.getElem_toList]
       have hii:off+y.cells.length+(i - (off+y.cells.length))=i:=by omega
       have hii':off+u.cells.toList.length+(i - (off+y.cells.length))=i:=by omega
       simp only [hii,hii']
       have hil:i<cs.length:=by simp at hi; omega
       obtain ⟨p1,p2,p3⟩:=h4 i hil (by omega)
       exact ⟨keep _ _ p1 p3,p2,p3⟩
   ·exact (ah hh).elim
  ·exact (ah hh).elim
 ·exact (ah hh).elim
theorem qW {X:Nat→Prop} {ds es:List (DV E)} {us vs:List Value} {off:Nat} (h:Cells T w X ds us) (h':Cells T w X es vs):Cells T w X (cq ds off es) (us.take off ++ vs ++ us.drop (off+vs.length)):=by
 unfold cq
 have e:off+es.length=off+vs.length:=by rw [h'.1]
 rw [e]
 exact ((h.take off).append h').append (h.drop _)
def uh (T:Tab E) (P:Program) (t:TypeId) (x v:DV E) (mem:Mem E):Cal E :=
 match x with
 | .ptr n off=>match look mem n with
  | some (.arr ty m k l)=>if T.sz k == 1 then
    match v with
    | .arr m' k' l'=>if m' == m && off == 0 && P.cellsOf t == m && !(m == 0) then match nR T k k' l' with
      | some l' => .one ⟨.junk,[],some (ie mem n (.arr ty m k l'))⟩
      | none => .bad
     else .bad
    | v=>if v.plain && P.cellsOf t == 1 then match T.dec k [v] with
      | some y => .ret (List (E k)) (sx l off y) fun l'=>⟨.junk,[],some (ie mem n (.arr ty m k l'))⟩
      | none => .bad
     else .bad
   else .bad
  | _ => .bad
 | _ => .bad
def Jd (mem:Mem E) (x:DV E):Bool:=match x with
 | .ptr n _=>match look mem n with
  | some (.arr ..)=>true
  | _=>false
 | _=>false
theorem AM {k:K} (hs:T.sz k=1) (y:E k) : ∀ (l:List (E k)) (i:Nat),i<l.length→ik T k (l.set i y)=cq (ik T k l) i (T.enc k y)
 | [],i,hi=>by simp at hi
 | x :: l,i,hi=>by
  have h1:(T.enc k x).length=1:=by rw [T.enc_len,hs]
  have h2:(T.enc k y).length=1:=by rw [T.enc_len,hs]
  obtain ⟨c,hc⟩ : ∃ c,T.enc k x = [c]:=List.length_eq_one_iff.1 h1
  obtain ⟨d,hd⟩ : ∃ d,T.enc k y = [d]:=List.length_eq_one_iff.1 h2
  cases i with
  | zero=>simp [ik,cq,hc,hd]
  | succ i =>
   have:=AM hs y l i (by simpa using hi)
   unfold ik cq at this ⊢
   simp only [List.set_cons_succ,List.flatMap_cons,hc,hd] at this ⊢
   simp only [List.cons_append,List.nil_append,List.take_succ_cons,List.length_singleton] at this ⊢
   rw [this]
   simp
theorem s8 {t ty:TypeId} {n m b off:Nat} {k:K} {l l':List (E k)} {vs:Array Value} {u:Value} {ys:List (DV E)} (h:Inv T w0 G st a w g) (hlook:look st.mem n=some (.arr ty m k l)) (hs:T.sz k=1)
  (hgn:g n = .pointer (some ⟨b,0,none⟩)) (h2:w.heap[b]? = some (.cells vs ty (0,0))) (h3:Rep T w (free st.mem g) (.arr m k l) (.agg vs))
  (hcy:Cells T w (free st.mem g) ys u.cells.toList) (hpy:ys.all DV.plain=true) (hsz:ys.length=P.cellsOf t) (hpos:0<ys.length) (hoff:off+ys.length≤m) (hl':l'.length=m)
  (hf:ik T k l'=cq (ik T k l) off ys) :
  fU T P w0 G st a w g none ⟨.junk,[],some (ie st.mem n (.arr ty m k l'))⟩ (do Instr.storeAt t (.pointer (some ⟨b,off,none⟩)) u; pure .skip):=by
 obtain ⟨hl,hp,vs',hvs,hc⟩:=lN (g:=g) (Rep.toT h3)
 cases hvs
 have hsize:vs.size=m:=by have:=hc.1; rw [oH hs] at this; simp at this; omega
 have hyu:ys.length=u.cells.toList.length:=hcy.1
 have hone : ∀ q∈u.cells.toList,q.oneCell'=true:=by
  intro q hq
  obtain ⟨j,hj,rfl⟩:=List.getElem_of_mem hq
  have hj':j<ys.length:=by rw [hyu]; exact hj
  exact (cV (hcy.2 j hj' hj) (List.all_eq_true.1 hpy _ (List.getElem_mem hj'))).2.2
 have hst:=run_storeCells_at P b off ty u.cells.toList 0 vs w h2 (by simp at hyu ⊢; omega) hone
 simp only [Nat.add_zero] at hst
 have hrun:(Instr.storeAt t (.pointer (some ⟨b,off,none⟩)) u).run P w = .ok () (w.setRow b (vs.toList.take off ++ u.cells.toList ++ vs.toList.drop (off+u.cells.toList.length)).toArray):=by
  simp only [Instr.storeAt,Instr.sureAddr,storeVar,Sem.run_bind,Sem.run_pure,Result.andThen_ok,bu (P:=P) (w:=w) (t:=t) (by omega)]
  rw [if_neg (by rw [← hsz,hyu]; simp)]
  exact hst
 refine .inr ⟨_,g,by simp only [Sem.run_bind,hrun,Result.andThen_ok]; rfl,?_⟩
 have hblk:blk (g n)=some b:=by rw [hgn]; rfl
 have hX : ∀ c,free st.mem g c→c<w.heap.size→free st.mem g c∧c<(w.setRow b (vs.toList.take off ++ u.cells.toList ++ vs.toList.drop (off+u.cells.toList.length)).toArray).heap.size ∧
   (w.setRow b (vs.toList.take off ++ u.cells.toList ++ vs.toList.drop (off+u.cells.toList.length)).toArray).heap[c]? = w.heap[c]? := by
  intro c hfc hlt
  refine ⟨hfc,by simpa using hlt,setRow_other _ _ _ _ fun e=>hfc.1 ?_⟩
  subst e
  exact aD.2 ⟨n,bp hlook,hblk⟩
 have hnew:=qW (off:=off) hc hcy
 refine h.write n (.arr ty m k l') (bp hlook) (by rw [hblk]; exact l9 _ _ _) ?_ (rA h hgn) none .junk undef (Rep.junk _).toT (fun _ _ _ _ e=>by cases e)
 refine ⟨b,_,hgn,setRow_heap w b vs _ ty (0,0) h2,Rep.mono (.arr hl' ?_ ?_) hX⟩
 ·rw [hf]
  unfold cq
  simp only [List.all_append,Bool.and_eq_true,List.all_eq_true] at hp hpy ⊢
  exact ⟨⟨fun d hd=>hp d (List.mem_of_mem_take hd),hpy⟩,fun d hd=>hp d (List.mem_of_mem_drop hd)⟩
 ·rw [hf]
  exact .agg (by simpa using hnew.1) fun i hi hi'=>by
   have:=hnew.2 i hi (by simpa using hi')
   simpa using this
theorem Eb {t:TypeId} {x y:DV E} {v u:Value} (h:Inv T w0 G st a w g) (hx:aB T w (free st.mem g) g x v) (hy:aB T w (free st.mem g) g y u) (out:Out E)
  (hh:(uh T P t x y st.mem).has out):fU T P w0 G st a w g none out (do Instr.storeAt t v u; pure .skip):=by
 unfold uh at hh
 split at hh
 case h_2=>exact (ah hh).elim
 rename_i n off
 split at hh
 case h_2=>exact (ah hh).elim
 rename_i ty m k l hlook
 split at hh
 case isFalse=>exact (ah hh).elim
 rename_i hs
 simp only [beq_iff_eq] at hs
 obtain ⟨b,hb,rfl⟩:=ep hx
 obtain ⟨b',vs,h1,h2,h3⟩:=h.mm n _ (bt hlook)
 rw [h1] at hb
 simp only [Value.pointer.injEq,Option.some.injEq,Addr.mk.injEq,and_true] at hb
 subst hb
 obtain ⟨hl,hp,vs',hvs,hc⟩:=lN (g:=g) (Rep.toT h3)
 cases hvs
 split at hh
 ·rename_i m' k' l'
  split at hh
  case isFalse=>exact (ah hh).elim
  rename_i hc0
  simp only [Bool.and_eq_true,beq_iff_eq,Bool.not_eq_true',beq_eq_false_iff_ne] at hc0
  obtain ⟨⟨⟨rfl,rfl⟩,hct⟩,hm0⟩:=hc0
  split at hh
  case h_2=>exact (ah hh).elim
  rename_i l'' hcast
  obtain ⟨e,rfl⟩:=fB hcast
  subst e
  obtain ⟨_,_,rfl⟩:=hh
  obtain ⟨hl',hp',us,rfl,hc'⟩:=lN hy
  have hlen:=oH hs l'
  exact s8 (ys:=ik T k' l') h hlook hs h1 h2 h3 hc' hp' (by omega) (by omega) (by omega) hl' (by
   unfold cq
   rw [List.take_zero,List.drop_eq_nil_of_le (by rw [oH hs,oH hs]; omega)]
   simp)
 ·split at hh
  case isFalse=>exact (ah hh).elim
  rename_i hc0
  simp only [Bool.and_eq_true,beq_iff_eq] at hc0
  split at hh
  case h_2=>exact (ah hh).elim
  rename_i z hz
  obtain ⟨l',hl',rfl⟩:=hh
  have hry:=hy.plain (show y.share=true by have:=hc0.1; cases hd:y <;> rw [hd] at this <;> first | rfl | (simp [DV.plain] at this; done))
  obtain ⟨hc1,hc2,_⟩:=cV hry hc0.1
  have henc:=T.dec_ok k _ _ (fun c hc=>by simp at hc; subst hc; exact hry.inr) hz
  unfold sx at hl'
  split at hl'
  case isFalse=>cases hl'
  rename_i hoff
  cases hl'
  refine s8 (ys := [y]) h hlook hs h1 h2 h3 (by rw [hc2]; exact .one hry) (by simp [hc0.1]) (by simp [hc0.2]) (by simp) (by simp; omega) (by simp [hl]) ?_
  rw [AM hs z l off hoff,henc]
end Go.Vm
/- The abstract value machine: several boxes anew at once (behind a call). -/
namespace Go.Vm
open Go.Lib
set_option linter.unusedVariables false
variable {K:Type} {E:K→Type}
variable {T:Tab E} {P:Program} {w0:World} {G:GP} {st:St E} {a:Act} {w:World} {g:Gh}
abbrev jj (E:K→Type):=List (Nat×Box E×Value)
def Cp (g:Gh):jj E→Nat→Value
 | [],k=>g k
 | (n,_,v) :: r,k=>if k=n then v else Cp g r k
def fH (g:Gh) (es:jj E):Gh:=⟨Cp g es,g.hid⟩
def gY (m:Mem E) (ns:List Nat):Mem E:=ns.foldl drop m
def dQ (es:jj E):Mem E:=es.map fun x=>(x.1,x.2.1)
def bB (es:jj E):List Nat:=es.map (·.1)
def dY (es:jj E):List Nat:=es.flatMap fun x=>(blk x.2.2).toList
def eJ (m:Mem E) (es:jj E) (ks ns:List Nat):Mem E:=dQ es ++ cK ks (gY m ns)
theorem jV {ns:List Nat} : ∀ {m:Mem E} {k:Nat},k∈names (gY m ns) ↔ k∈names m∧k ∉ ns:=by
 induction ns with
 | nil=>intro m k; simp [gY]
 | cons n ns ih =>
  intro m k
  show k∈names (gY (drop m n) ns) ↔ _
  rw [ih,gw,List.mem_cons]
  constructor
  ·rintro ⟨⟨h1,h2⟩,h3⟩; exact ⟨h1,fun h=>h.elim h2 h3⟩
  ·rintro ⟨h1,h2⟩; exact ⟨⟨h1,fun h=>h2 (.inl h)⟩,fun h=>h2 (.inr h)⟩
theorem Dx {ns:List Nat} : ∀ {m:Mem E} {k:Nat} {bx:Box E},(k,bx)∈gY m ns ↔ (k,bx)∈m∧k ∉ ns:=by
 induction ns with
 | nil=>intro m k bx; simp [gY]
 | cons n ns ih =>
  intro m k bx
  show (k,bx)∈gY (drop m n) ns ↔ _
  rw [ih,Ap,List.mem_cons]
  constructor
  ·rintro ⟨⟨h1,h2⟩,h3⟩; exact ⟨h1,fun h=>h.elim h2 h3⟩
  ·rintro ⟨h1,h2⟩; exact ⟨⟨h1,fun h=>h2 (.inl h)⟩,fun h=>h2 (.inr h)⟩
theorem tF {ns:List Nat} : ∀ {m:Mem E},(names (gY m ns)).Sublist (names m):=by
 induction ns with
 | nil=>intro m; exact List.Sublist.refl _
 | cons n ns ih=>intro m; exact (ih (m:=drop m n)).trans (AR.map _)
theorem jg {ns:List Nat} : ∀ {m:Mem E},(dP (gY m ns) g).Sublist (dP m g):=by
 induction ns with
 | nil=>intro m; exact List.Sublist.refl _
 | cons n ns ih=>intro m; exact (ih (m:=drop m n)).trans qk
theorem re {es:jj E} {k:Nat} (h:k ∉ bB es):fH g es k=g k:=by
 induction es with
 | nil=>rfl
 | cons x es ih =>
  obtain ⟨n,b,v⟩:=x
  simp only [bB,List.map_cons,List.mem_cons,not_or] at h
  simp only [fH,Cp,if_neg h.1]
  exact ih h.2
theorem mI {es:jj E} (hn:(bB es).Nodup) {x:Nat×Box E×Value} (h:x∈es):fH g es x.1=x.2.2:=by
 induction es with
 | nil=>cases h
 | cons y es ih =>
  obtain ⟨n,b,v⟩:=y
  simp only [bB,List.map_cons,List.nodup_cons] at hn
  rcases List.mem_cons.1 h with rfl | h
  ·simp [fH,Cp]
  ·have hne:x.1≠n:=fun e=>hn.1 (by rw [← e]; exact List.mem_map.2 ⟨x,h,rfl⟩)
   simp only [fH,Cp,if_neg hne]
   exact ih hn.2 h
theorem rR {es:jj E} {ks ns:List Nat} {m:Mem E}:names (eJ m es ks ns)=bB es ++ names (gY m ns):=by
 have:names (eJ m es ks ns)=names (dQ es) ++ names (cK ks (gY m ns)):=by simp [names,eJ]
 rw [this,tg]
 simp [names,dQ,bB]
theorem Cx {α β:Type} {f f':α→List β} {l:List α} (h : ∀ x∈l,f x=f' x):l.flatMap f=l.flatMap f':=by
 induction l with
 | nil=>rfl
 | cons x l ih =>
  simp only [List.flatMap_cons]
  rw [h x (by simp),ih fun y hy=>h y (by simp [hy])]
theorem jY {es:jj E} {ks ns:List Nat} {m:Mem E} (hn:(bB es).Nodup) (hs : ∀ n∈bB es,n∈ns) :
  dP (eJ m es ks ns) (fH g es)=dY es ++ dP (gY m ns) g:=by
 have h1:dP (eJ m es ks ns) (fH g es)=dP (dQ es) (fH g es) ++ dP (cK ks (gY m ns)) (fH g es):=by simp [dP,eJ]
 have h2:dP (gY m ns) (fH g es)=dP (gY m ns) g:=vH fun k hk=>re fun h=>(jV.1 hk).2 (hs k h)
 rw [h1,vM,h2]
 congr 1
 simp only [dP,dQ,dY,List.flatMap_map]
 refine Cx fun x hx => ?_
 rw [mI hn hx]
theorem GI (d:DV E):d.kill []=d:=by
 apply u7
 cases d <;> simp [DV.du,DV.fv]
 rename_i vs
 intro d _; cases d <;> rfl
theorem yY (l:List (DV E)):l.map (DV.kill [])=l:=by
 rw [show (DV.kill []:DV E→DV E)=id from funext GI]; simp
theorem vo {ks:List Nat} {d:DV E} (h:d.fv ks=false) {k:Nat} (hk:d.fv [k]=true):k ∉ ks:=by
 intro hm
 cases d <;> simp_all [DV.fv]
 rcases hk with rfl | rfl
 ·exact h.1 hm
 ·exact h.2 hm
theorem EP {ks:List Nat} {m:Mem E} {k:Nat} {bx:Box E} (h:(k,bx)∈cK ks m) : ∃ b0,(k,b0)∈m∧bx=b0.kill ks:=by
 obtain ⟨⟨q,b0⟩,hq,he⟩:=List.mem_map.1 h
 cases he
 exact ⟨b0,hq,rfl⟩
structure Ba (st:St E) (w:World) (g:Gh) (w':World) (es:jj E) (ks ns bl:List Nat):Prop where
 en:(bB es).Nodup
 es_ns : ∀ n∈bB es,n∈ns
 eb:(dY es).Nodup
 ebo : ∀ b∈dY es,b<w'.heap.size∧(w.heap.size≤b∨b∈bl)
 bl_ns : ∀ b∈bl, ∃ n∈ns,n∈names st.mem∧blk (g n)=some b
 ch : ∀ x∈es,x.2.2=g x.1∨x.1∈ks
 ns_ok : ∀ n∈ns,n∈ks∨n+RK∈ks ∨ ∃ b,g n = .pointer (some ⟨b,0,none⟩)
 ns_es : ∀ n∈ns,n∈ks∨n∈bB es
 fr:jD (· ∈ bl) w w'
def after (st:St E) (es:jj E) (ks ns:List Nat) (dst:Option Nat) (d:DV E):St E:=st.app dst ⟨d,ks,some (eJ st.mem es ks ns)⟩
theorem Ba.X {w':World} {es:jj E} {ks ns bl:List Nat} (m:Ba st w g w' es ks ns bl) (h:Inv T w0 G st a w g) :
  ∀ b,free st.mem g b→b<w.heap.size→free (eJ st.mem es ks ns) (fH g es) b∧b<w'.heap.size∧w'.heap[b]? = w.heap[b]? := by
 intro b hf hlt
 have hbl:b ∉ bl:=fun hb=>by
  obtain ⟨n,_,h1,h2⟩:=m.bl_ns b hb
  exact hf.1 (aD.2 ⟨n,h1,h2⟩)
 refine ⟨⟨?_,hf.2⟩,Nat.lt_of_lt_of_le hlt m.fr.size,m.fr.block b hlt hbl⟩
 rw [jY m.en m.es_ns,List.mem_append]
 rintro (hx | hx)
 ·rcases (m.ebo b hx).2 with h1 | h1
  ·omega
  ·exact hbl h1
 ·exact hf.1 (jg.subset hx)
theorem Inv.I7 {w':World} {es:jj E} {ks ns bl:List Nat} (m:Ba st w g w' es ks ns bl) (h:Inv T w0 G st a w g)
  (hes : ∀ x∈es,zg T w' (free (eJ st.mem es ks ns) (fH g es)) (fH g es) x.2.2 x.2.1) (dst:Option Nat) (d:DV E) (v:Value)
  (hd:aB T w' (free (eJ st.mem es ks ns) (fH g es)) (fH g es) d v) (hdl : ∀ k j cs off,d ≠ .rptr k j cs off) :
  Inv T w0 G (after st es ks ns dst d) (a.put dst v) w' (fH g es):=by
 have hX:=m.X h
 have hg : ∀ k,k ∉ ks→fH g es k=g k:=by
  intro k hk
  by_cases he:k∈bB es
  ·obtain ⟨x,hx,rfl⟩:=List.mem_map.1 he
   rw [mI m.en hx]
   exact (m.ch x hx).resolve_right hk
  ·exact re he
 have hother : ∀ k b,k∈names st.mem→k ∉ ns→blk (g k)=some b→w'.heap[b]? = w.heap[b]? := by
  intro k b hk hne hkb
  have hlt:=(h.bo b (aD.2 ⟨k,hk,hkb⟩)).1
  refine m.fr.block b hlt fun hb => ?_
  obtain ⟨n,h1,h2,h3⟩:=m.bl_ns b hb
  exact hne (jJ h.nd h.nn hk h2 hkb h3 ▸ h1)
 have base : ∀ (d1:DV E) (v1:Value),d1.fv ks=false→(∀ k j cs off,d1 = .rptr k j cs off→k∈names st.mem)→dt T w (free st.mem g) g d1 v1 →
   dt T w' (free (eJ st.mem es ks ns) (fH g es)) (fH g es) d1 v1:=by
  intro d1 v1 ht hl hr
  refine hr.kept hX (fun k hk=>hg k (vo ht hk)) ?_
  intro k i cs off b hd1 hkb
  subst hd1
  refine hother k b (hl k i cs off rfl) (fun hn => ?_) hkb
  rcases m.ns_ok k hn with h1 | h1 | ⟨b',h1⟩
  ·exact vo ht (k:=k) (by simp [DV.fv]) h1
  ·exact vo ht (k:=k+RK) (by simp [DV.fv]) h1
  ·obtain ⟨_,_,_,_,⟨_,_,h2,_⟩,_⟩:=hr
   rw [h1] at h2
   cases h2
 have hkill : ∀ (dd:DV E) (vv:Value),aB T w (free st.mem g) g dd vv→(∀ k j cs off,dd = .rptr k j cs off→k∈names st.mem) →
   aB T w' (free (eJ st.mem es ks ns) (fH g es)) (fH g es) (dd.kill ks) vv:=by
  intro dd vv hr hl
  cases ht:dd.du ks
  ·rw [u7 ht]
   cases dd with
   | tup ds =>
    obtain ⟨vs,h1,h2,h3⟩:=hr
    refine ⟨vs,h1,h2,fun i hi hi'=>⟨base _ _ ?_ ?_ (h3 i hi hi').1,(h3 i hi hi').2⟩⟩
    ·simp only [DV.du,List.any_eq_false] at ht
     simpa using ht ds[i] (List.getElem_mem hi)
    ·intro k j cs off he
     have:=(h3 i hi hi').2
     rw [he] at this
     simp [DV.noR] at this
   | _=>exact aB.of1 (base _ _ (by simpa [DV.du] using ht) hl hr)
  ·rw [vj ht]
   exact (Rep.junk _).toT
 have hat:(after st es ks ns dst d)={ mem:=eJ st.mem es ks ns,tmps:=(match dst with
   | some q=>(st.tmps.map (DV.kill ks)).set q d
   | none=>st.tmps.map (DV.kill ks)) }:=by
  unfold after St.app
  cases ks with
  | nil=>cases dst <;> (try rw [yY]) <;> try rfl
  | cons k ks=>cases dst <;> rfl
 rw [hat]
 have htl:a.tmps.size=(st.tmps.map (DV.kill ks)).length:=by simp [h.tl]
 have htm : ∀ i (hi:i<(st.tmps.map (DV.kill ks)).length),aB T w' (free (eJ st.mem es ks ns) (fH g es)) (fH g es) (st.tmps.map (DV.kill ks))[i] (a.tmps.getD i undef):=by
  intro i hi
  simp only [List.getElem_map]
  have hi':i<st.tmps.length:=by simpa using hi
  exact hkill _ _ (h.tm i hi') (fun k j cs off he=>h.rl i hi' k j cs off he)
 have hrl : ∀ i (hi:i<(st.tmps.map (DV.kill ks)).length) k j cs off,(st.tmps.map (DV.kill ks))[i] = .rptr k j cs off→k∈names (eJ st.mem es ks ns):=by
  intro i hi k j cs off he
  have hi':i<st.tmps.length:=by simpa using hi
  simp only [List.getElem_map,DV.kill] at he
  split at he
  ·cases he
  ·rename_i ht
   have hk:=h.rl i hi' k j cs off he
   rw [rR,List.mem_append]
   by_cases hn:k∈ns
   ·rcases m.ns_es k hn with h1 | h1
    ·rw [he] at ht; exact absurd (by simp [DV.du,DV.fv,h1]) ht
    ·exact .inl h1
   ·exact .inr (jV.2 ⟨hk,hn⟩)
 refine ⟨by rw [nw]; exact h.df,?_,?_,?_,?_,?_,?_,?_,?_,h.hz⟩
 ·rw [rF]; cases dst <;> simp [h.tl]
 ·cases dst with
  | none=>exact htm
  | some i =>
   intro j hj
   simp only at hj ⊢
   have hj':j<(st.tmps.map (DV.kill ks)).length:=by simpa using hj
   by_cases hij:i=j
   ·subst hij
    have:(a.put (some i) v).tmps.getD i undef=v:=by
     have:i<a.tmps.size:=by rw [htl]; exact hj'
     simp [Act.put,this]
    rw [this]; simpa using hd
   ·have:(a.put (some i) v).tmps.getD j undef=a.tmps.getD j undef:=by simp [Act.put,Array.getElem?_setIfInBounds_ne hij]
    rw [this]
    simp only [List.getElem_set_ne hij]
    exact htm j hj'
 ·show (names (eJ st.mem es ks ns)).Nodup
  rw [rR,List.nodup_append]
  exact ⟨m.en,List.Nodup.sublist tF h.nn,fun x hx y hy e=>(jV.1 hy).2 (m.es_ns y (e ▸ hx))⟩
 ·show (dP (eJ st.mem es ks ns) (fH g es)).Nodup
  rw [jY m.en m.es_ns,List.nodup_append]
  refine ⟨m.eb,List.Nodup.sublist jg h.nd,?_⟩
  rintro b hbm b' hbm' rfl
  obtain ⟨k,hk,hkb⟩:=aD.1 hbm'
  obtain ⟨hk1,hk2⟩:=jV.1 hk
  have hlt:=(h.bo b (aD.2 ⟨k,hk1,hkb⟩)).1
  rcases (m.ebo b hbm).2 with hb2 | hb2
  ·omega
  ·obtain ⟨n,h1,h2,h3⟩:=m.bl_ns b hb2
   exact hk2 (jJ h.nd h.nn hk1 h2 hkb h3 ▸ h1)
 ·intro k by' hm
  rcases List.mem_append.1 hm with hm | hm
  ·obtain ⟨x,hx,he⟩:=List.mem_map.1 hm
   cases he
   rw [mI m.en hx]
   exact hes x hx
  ·obtain ⟨b0,hq,rfl⟩:=EP hm
   obtain ⟨hq1,hq2⟩:=Dx.1 hq
   have hgk:fH g es k=g k:=re fun hx=>hq2 (m.es_ns k hx)
   rw [hgk]
   have hr:=h.mm k b0 hq1
   have hqn:k∈names st.mem:=List.mem_map.2 ⟨_,hq1,rfl⟩
   cases b0 with
   | cells t cs =>
    obtain ⟨b,vs,h1,h2,h3,h4⟩:=hr
    refine ⟨b,vs,h1,by rw [hother k b hqn hq2 (by rw [h1]; rfl)]; exact h2,by simpa using h3,?_⟩
    intro i hi hi'
    simp only [List.length_map] at hi
    obtain ⟨p1,p2,p3⟩:=h4 i hi hi'
    simp only [List.getElem_map]
    have hc:(cs[i].kill ks).ej=true:=by
     unfold DV.kill; split
     ·rfl
     ·exact p3
    refine ⟨?_,p2,hc⟩
    have hk:=hkill cs[i] vs[i] (.of1 p1) (fun k j cs' off he=>by rw [he] at p3; simp [DV.ej] at p3)
    generalize hdd:cs[i].kill ks=dd at hk hc
    cases dd <;> first | exact hk | (simp [DV.ej] at hc; done)
   | row e k l =>
    obtain ⟨xs,p1,p2⟩:=aP.els hr
    have hk:=fun b hb=>hother _ b hqn hq2 hb
    refine aP.mk' ⟨p1.1,?_⟩ (p2.mono hX)
    rcases p1.2 with hn | ⟨gg,cap,cur,e1,e2,e3,e4⟩
    ·exact .inl hn
    ·exact .inr ⟨gg,cap,cur,e1,e2,by rw [hk gg (by rw [e1]; rfl)]; exact e3,e4⟩
   | siter s pos =>
    obtain ⟨b,p1,p2⟩:=hr
    exact ⟨b,p1,by rw [hother k b hqn hq2 (by rw [p1]; rfl)]; exact p2⟩
   | arr t n k' l =>
    obtain ⟨b,vs,p1,p2,p3⟩:=hr
    exact ⟨b,vs,p1,by rw [hother k b hqn hq2 (by rw [p1]; rfl)]; exact p2,p3.mono hX⟩
 ·intro b hbm
  have hbm:b∈dP (eJ st.mem es ks ns) (fH g es):=hbm
  rw [jY m.en m.es_ns,List.mem_append] at hbm
  rcases hbm with hbm | hbm
  ·obtain ⟨h1,h2⟩:=m.ebo b hbm
   refine ⟨h1,?_⟩
   rcases h2 with h2 | h2
   ·exact .inl (Nat.le_trans h.fr.size h2)
   ·obtain ⟨n,_,h3,h4⟩:=m.bl_ns b h2
    exact (h.bo b (aD.2 ⟨n,h3,h4⟩)).2
  ·obtain ⟨h1,h2⟩:=h.bo b (jg.subset hbm)
   exact ⟨Nat.lt_of_lt_of_le h1 m.fr.size,h2⟩
 ·refine ⟨m.fr.os.trans h.fr.os,m.fr.tape.trans h.fr.tape,m.fr.output.trans h.fr.output,Nat.le_trans h.fr.size m.fr.size,fun b hb hG => ?_⟩
  rw [m.fr.block b (Nat.lt_of_lt_of_le hb h.fr.size) ?_]
  ·exact h.fr.block b hb hG
  ·intro hbl
   obtain ⟨n,_,h3,h4⟩:=m.bl_ns b hbl
   rcases (h.bo b (aD.2 ⟨n,h3,h4⟩)).2 with h5 | h5
   ·omega
   ·exact hG h5
 ·cases dst with
  | none=>exact hrl
  | some i =>
   intro j hj k q cs off he
   simp only at hj he
   have hj':j<(st.tmps.map (DV.kill ks)).length:=by simpa using hj
   by_cases hij:i=j
   ·subst hij
    simp only [List.getElem_set_self] at he
    exact absurd he (hdl k q cs off)
   ·simp only [List.getElem_set_ne hij] at he
    exact hrl j hj' k q cs off he
end Go.Vm
/- The abstract value machine: contracts of functions, and calls. -/
namespace Go.Vm
open Go.Lib
set_option linter.unusedVariables false
variable {K:Type} {E:K→Type}
inductive yo (T:Tab E) (w:World) (Y:Nat→Prop):DV E→Value→List Nat→Prop
 | junk (v:Value):yo T w Y .junk v []
 | sh {d:DV E} {v:Value} (h:Rep T w Y d v) (hs:d.share=true):yo T w Y d v []
 | row {e:TypeId} {k:K} {l:List (E k)} {v:Value} (h:aP T w Y e k l v):yo T w Y (.row e k l) v (blk v).toList
inductive eZ (R:DV E→Value→List Nat→Prop):List (DV E)→List Value→List Nat→Prop
 | nil:eZ R [] [] []
 | cons {d:DV E} {v:Value} {b:List Nat} {ds:List (DV E)} {vs:List Value} {bs:List Nat} (h:R d v b) (t:eZ R ds vs bs):eZ R (d :: ds) (v :: vs) (b ++ bs)
def pY (T:Tab E) (w:World) (Y:Nat→Prop) (b:Nat) (d:DV E) (v:Value) (bs:List Nat):Prop :=
 (yo T w Y d v bs∧v.oneCell'=true∧d.share=d.plain)∨(d = .argp 0∧bs = []∧(v = .pointer none∨v = .pointer (some ⟨b,0,none⟩)))
def mh (T:Tab E) (w:World) (Y:Nat→Prop) (t:TypeId) (cs:List (DV E)) (v:Value) (bl:List Nat):Prop :=
 ∃ b vs bs,v = .pointer (some ⟨b,0,none⟩)∧w.heap[b]? = some (.cells vs t (0,0))∧eZ (pY T w Y b) cs vs.toList bs∧bl=b :: bs
inductive Own (T:Tab E) (w:World) (Y:Nat→Prop):DV E→Value→List Nat→Prop
 | c {d:DV E} {v:Value} {bl:List Nat} (h:yo T w Y d v bl):Own T w Y d v bl
 | pin {t:TypeId} {cs:List (DV E)} {v:Value} {bl:List Nat} (h:mh T w Y t cs v bl):Own T w Y (.pin t cs) v bl
 | lend {t e:TypeId} {k:K} {l:List (E k)} {v:Value} (h:aP T w Y e k l v):Own T w Y (.newb t [.row e k l]) v (blk v).toList
inductive Ans (T:Tab E) (w:World) (Y:Nat→Prop) (args:List Value):DV E→Value→List Nat→Prop
 | c {d:DV E} {v:Value} {bl:List Nat} (h:yo T w Y d v bl):Ans T w Y args d v bl
 | newb {t:TypeId} {cs:List (DV E)} {v:Value} {bl:List Nat} (h:mh T w Y t cs v bl):Ans T w Y args (.newb t cs) v bl
 | argp {j:Nat} {v:Value} (h:args[j]? = some v):Ans T w Y args (.argp j) v []
def tB (T:Tab E) (w:World) (Y:Nat→Prop) (args:List Value) (d:DV E) (v:Value) (bl:List Nat):Prop :=
 match d with
 | .tup ds => ∃ vs:Array Value,v = .tuple vs∧eZ (Ans T w Y args) ds vs.toList bl
 | d=>Ans T w Y args d v bl
inductive fW (T:Tab E) (w:World) (Y:Nat→Prop):List (DV E)→List Value→List (List (DV E))→List Nat→Prop
 | nil:fW T w Y [] [] [] []
 | skip {d:DV E} {v:Value} {ds:List (DV E)} {vs:List Value} {ps:List (List (DV E))} {bl:List Nat} (hd : ∀ t cs,d ≠ .pin t cs∧d ≠ .newb t cs) (h:fW T w Y ds vs ps bl):fW T w Y (d :: ds) (v :: vs) ps bl
 | pin {t:TypeId} {cs cs':List (DV E)} {v:Value} {b:List Nat} {ds:List (DV E)} {vs:List Value} {ps:List (List (DV E))} {bl:List Nat} (hb:mh T w Y t cs' v b) (h:fW T w Y ds vs ps bl) :
   fW T w Y (.pin t cs :: ds) (v :: vs) (cs' :: ps) (b ++ bl)
 | lend {t e:TypeId} {k:K} {l:List (E k)} {cs:List (DV E)} {v:Value} {ds:List (DV E)} {vs:List Value} {ps:List (List (DV E))} {bl:List Nat} (hb:aP T w Y e k l v) (h:fW T w Y ds vs ps bl) :
   fW T w Y (.newb t cs :: ds) (v :: vs) ([.row e k l] :: ps) ((blk v).toList ++ bl)
def B9 (P:Program) (f:FuncId) (vs:Array Value) (w:World) (R:Ending→World→Prop):Prop :=
 ((callFunc f vs).run P w = .ok (.enter f vs) w∧Calls P f vs w R) ∨ ∃ v w',(callFunc f vs).run P w = .ok (.value v) w'∧R (.returned v) w'
class tC (T:Tab E) (w0:World) (G:GP):Prop where
 gl:T.gl w0
 gv : ∀ b,G b→T.gb≤b
theorem tC.now {T:Tab E} {w0:World} {G:GP} [hg:tC T w0 G] {w:World} (h:jD G.given w0 w):T.gl w:=by
 refine T.gl_ok w0 w hg.gl fun b hb=>h.block b ?_ fun hG => ?_
 ·have:=T.gl_sz w0 hg.gl; omega
 ·have:=hg.gv b hG; omega
def Ctr (T:Tab E) (P:Program) (f:FuncId) (C:List (DV E)→Con E):Prop :=
 ∀ (ds:List (DV E)) (r:(C ds).R),(C ds).m=some r → ∀ (w:World) (vs:Array Value) (Y:Nat→Prop) (bl:List Nat),
  eZ (Own T w Y) ds vs.toList bl→bl.Nodup→(∀ b∈bl, ¬ Y b∧b<w.heap.size)→T.gl w→(∀ b∈bl,T.gb≤b) →
  B9 P f vs w fun e w' => ∃ v bl1 bl2,e = .returned v∧(bl1 ++ bl2).Nodup∧(∀ b∈bl1 ++ bl2,b<w'.heap.size∧(w.heap.size≤b∨b∈bl)) ∧
   tB T w' (fun b=>(Y b∨w.heap.size≤b∨b∈bl)∧b ∉ bl1 ++ bl2) vs.toList ((C ds).out r).v v bl1 ∧
   fW T w' (fun b=>(Y b∨w.heap.size≤b∨b∈bl)∧b ∉ bl1 ++ bl2) ds vs.toList ((C ds).out r).pins bl2∧jD (· ∈ bl) w w' ∧
   ((C ds).fl=true→tj T.fk ((C ds).out r).v=true ∧ ∀ p∈((C ds).out r).pins,p.all (DV.flat T.fk)=true)
/-! ### what the caller makes of it -/
def Hp (n c:Nat):Nat:=1000000+64 * n+c
def u2 (n c:Nat):DV E→Nat
 | .rowp m=>m
 | _=>Hp n c
def aY (n:Nat):Nat→List (DV E)→List (DV E)→List (DV E)×List (Nat×Box E)
 | _,_,[]=>([],[])
 | c,olds,d :: ds =>
  match d with
  | .row e k l=>(.rowp (u2 n c (olds.headD .junk)) :: (aY n (c+1) olds.tail ds).1,(u2 n c (olds.headD .junk), .row e k l) :: (aY n (c+1) olds.tail ds).2)
  | .argp _=>(.argp n :: (aY n (c+1) olds.tail ds).1,(aY n (c+1) olds.tail ds).2)
  | d=>(d :: (aY n (c+1) olds.tail ds).1,(aY n (c+1) olds.tail ds).2)
def je (nm:Nat) (ds:List (DV E)):DV E→DV E×List (Nat×Box E)
 | .row e k l=>(.rowp nm,[(nm, .row e k l)])
 | .newb t cs=>(.ptr nm 0,(nm, .cells t (aY nm 0 [] cs).1) :: (aY nm 0 [] cs).2)
 | .argp j=>match ds[j]? with
  | some (.ptr n 0)=>(.ptr n 0,[])
  | _=>(.junk,[])
 | d=>(d,[])
def cg (nm:Nat) (ds:List (DV E)):List (DV E)→List (DV E)×List (Nat×Box E)
 | []=>([],[])
 | d :: r=>((je nm ds d).1 :: (cg (nm+1) ds r).1,(je nm ds d).2 ++ (cg (nm+1) ds r).2)
def zL (nm:Nat) (ds:List (DV E)):DV E→DV E×List (Nat×Box E)
 | .tup vs=>(.tup (cg (nm+1) ds vs).1,(cg (nm+1) ds vs).2)
 | d=>je nm ds d
def eK (mem:Mem E):List (DV E×Md)→List (List (DV E))→List (Nat×Box E)
 | (.ptr n 0,_) :: ds,cs :: ps =>
  match look mem n with
  | some (.cells t olds)=>((n, .cells t (aY n 0 olds cs).1) :: (aY n 0 olds cs).2) ++ eK mem ds ps
  | _=>eK mem ds (cs :: ps)
 | (.rowp n, .lend) :: ds,cs :: ps =>
  match look mem n with
  | some (.row _ _ _)=>match cs with
   | [.row e k l]=>(n, .row e k l) :: eK mem ds ps
   | _=>eK mem ds (cs :: ps)
  | _=>eK mem ds (cs :: ps)
 | _ :: ds,ps=>eK mem ds ps
 | [],_ => []
def dG (mem:Mem E) (d:DV E):List Nat:=match d with
 | .rowp n=>match look mem n with
  | some (.row _ _ _) => [n]
  | _ => []
 | _ => []
def hI (mem:Mem E) (md:Md) (d:DV E):List Nat:=match d with
 | .rowp n=>match md with
  | .look => []
  | _=>dG mem (.rowp n:DV E)
 | .ptr n 0=>match look mem n with
  | some (.cells _ cs)=>n :: cs.flatMap (dG mem)
  | _ => []
 | _ => []
def FD (mem:Mem E) (md:Md) (d:DV E):List Nat:=match d with
 | .rowp n=>match md with
  | .look => []
  | .give=>dG mem (.rowp n:DV E)
  | .lend=>(dG mem (.rowp n:DV E)).map (· + RK)
 | .ptr n 0=>match look mem n with
  | some (.cells _ cs)=>cs.flatMap (dG mem)
  | _ => []
 | _ => []
def oC (md:Md) (d:DV E):List Nat:=match d with
 | .rowp n=>match md with
  | .look => [n]
  | _ => []
 | .rowv n _ => [n]
 | _ => []
def p9 (orc:Orc):Operand→Md
 | .tmp t=>if orc.gv.contains t=true then .give else if orc.ln.contains t=true then .lend else .look
 | _ => .look
def uM (mem:Mem E) (args:List (DV E×Md)):List Nat:=args.flatMap fun x=>match x.2 with
 | .lend=>match x.1 with
  | .rowp n=>dG mem (.rowp n:DV E)
  | _ => []
 | _ => []
def nodupB:List Nat→Bool
 | []=>true
 | x :: r => !r.contains x && nodupB r
end Go.Vm
