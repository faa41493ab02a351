/- Part 4 of an abstract value machine: a framework of this session's own, in which functions of the program are run once and for all inputs. No condition. -/
import Derived.Test.YtcnigpigmhpakaaGreatDoorV3
import Derived.Lib.LaidTab
import Derived.LaidLaws
import Derived.Lib.ItoaNum
import Derived.Below
import Derived.WideShapes
/- The kinds of elements. PRINTED by tabgen.py. -/
namespace Go.Vm
open Go.Lib
set_option linter.unusedVariables false
inductive JV where
 | nil | null | bool (b:Bool) | int (n:Int) | str (s:List UInt8) | list (l:List JV) | obj (l:List (List UInt8×JV×Unit))
inductive Kd where
 | i64
 | i32
 | u8
 | u32
 | u64
 | bo
 | str
 | jv
 | er
 | en
 | ens
 | rd
 | pc
 | ph
 | rl
 | ac
 | pl
 | fd
 | fe
 | wt
 | fi
 | dd
 | dm
 | me
 deriving DecidableEq
abbrev El:Kd→Type
 | .i64=>Int
 | .i32=>Int
 | .u8=>UInt8
 | .u32=>Int
 | .u64=>Int
 | .bo=>Bool
 | .str=>List UInt8
 | .jv=>JV
 | .er=>Bool
 | .en=>Int×(List UInt8)×Int×Int×Int×Int×(List UInt8)×Int×Int×Int×(List UInt8)×(List UInt8)×(List UInt8)×(List UInt8)×Unit
 | .ens=>(List (Int×(List UInt8)×Int×Int×Int×Int×(List UInt8)×Int×Int×Int×(List UInt8)×(List UInt8)×(List UInt8)×(List UInt8)×Unit))×Unit
 | .rd=>Int×Int×(List UInt8)×Int×Int×Int×Int×(List UInt8)×Int×Int×Int×(List UInt8)×(List UInt8)×(List UInt8)×(List UInt8)×Unit
 | .pc=>Bool×(List UInt8)×Unit
 | .ph=>Int×(List UInt8)×Int×(List UInt8)×Unit
 | .rl=>(List UInt8)×(List UInt8)×(List (Int×(List UInt8)×Int×(List UInt8)×Unit))×Unit
 | .ac=>Int×Int×Int×Int×Int×Int×Int×(List UInt8)×(List UInt8)×(List UInt8)×(List UInt8)×Unit
 | .pl=>Int×Int×(List UInt8)×Int×Int×Int×Int×(List UInt8)×Int×Int×Int×(List UInt8)×(List UInt8)×(List UInt8)×(List UInt8)×Int×(List UInt8)×Int×Int×Int×(List UInt8)×(List UInt8)×Int×Int×Int×(List UInt8)×Int×Int×Unit
 | .fd=>(List UInt8)×(List UInt8)×Unit
 | .fe=>(List UInt8)×(List UInt8)×Unit
 | .wt=>(List UInt8)×(List UInt8)×Unit
 | .fi=>(List UInt8)×(List (UInt8))×(List (Int))×Unit
 | .dd=>Int×(List UInt8)×(List UInt8)×Int×Int×Int×Unit
 | .dm=>Int×Int×Unit
 | .me=>(List UInt8)×JV×Unit
def Kd.enc:(k:Kd)→El k→List (DV El)
 | .i64,n => [.int .i64 n]
 | .i32,n => [.int .i32 n]
 | .u8,b => [.int .u8 (b.toNat:Int)]
 | .u32,n => [.int .u32 n]
 | .u64,n => [.int .u64 n]
 | .bo,b => [.bool b]
 | .str,s => [.str s]
 | .jv,x => [.any .jv x]
 | .er,x => [.any .er x]
 | .en,x => [.int .i64 x.1, .str x.2.1, .int .i64 x.2.2.1, .int .i64 x.2.2.2.1, .int .i64 x.2.2.2.2.1, .int .i64 x.2.2.2.2.2.1, .str x.2.2.2.2.2.2.1, .int .i64 x.2.2.2.2.2.2.2.1, .int .i64 x.2.2.2.2.2.2.2.2.1, .int .i64 x.2.2.2.2.2.2.2.2.2.1, .str x.2.2.2.2.2.2.2.2.2.2.1, .str x.2.2.2.2.2.2.2.2.2.2.2.1, .str x.2.2.2.2.2.2.2.2.2.2.2.2.1, .str x.2.2.2.2.2.2.2.2.2.2.2.2.2.1]
 | .ens,x => [.slc .en x.1]
 | .rd,x => [.int .i64 x.1, .int .i64 x.2.1, .str x.2.2.1, .int .i64 x.2.2.2.1, .int .i64 x.2.2.2.2.1, .int .i64 x.2.2.2.2.2.1, .int .i64 x.2.2.2.2.2.2.1, .str x.2.2.2.2.2.2.2.1, .int .i64 x.2.2.2.2.2.2.2.2.1, .int .i64 x.2.2.2.2.2.2.2.2.2.1, .int .i64 x.2.2.2.2.2.2.2.2.2.2.1, .str x.2.2.2.2.2.2.2.2.2.2.2.1, .str x.2.2.2.2.2.2.2.2.2.2.2.2.1, .str x.2.2.2.2.2.2.2.2.2.2.2.2.2.1, .str x.2.2.2.2.2.2.2.2.2.2.2.2.2.2.1]
 | .pc,x => [.bool x.1, .str x.2.1]
 | .ph,x => [.int .i64 x.1, .str x.2.1, .int .i64 x.2.2.1, .str x.2.2.2.1]
 | .rl,x => [.str x.1, .str x.2.1, .slc .ph x.2.2.1]
 | .ac,x => [.int .i64 x.1, .int .i64 x.2.1, .int .i64 x.2.2.1, .int .i64 x.2.2.2.1, .int .i64 x.2.2.2.2.1, .int .i64 x.2.2.2.2.2.1, .int .i64 x.2.2.2.2.2.2.1, .str x.2.2.2.2.2.2.2.1, .str x.2.2.2.2.2.2.2.2.1, .str x.2.2.2.2.2.2.2.2.2.1, .str x.2.2.2.2.2.2.2.2.2.2.1]
 | .pl,x => [.int .i64 x.1, .int .i64 x.2.1, .str x.2.2.1, .int .i64 x.2.2.2.1, .int .i64 x.2.2.2.2.1, .int .i64 x.2.2.2.2.2.1, .int .i64 x.2.2.2.2.2.2.1, .str x.2.2.2.2.2.2.2.1, .int .i64 x.2.2.2.2.2.2.2.2.1, .int .i64 x.2.2.2.2.2.2.2.2.2.1, .int .i64 x.2.2.2.2.2.2.2.2.2.2.1, .str x.2.2.2.2.2.2.2.2.2.2.2.1, .str x.2.2.2.2.2.2.2.2.2.2.2.2.1, .str x.2.2.2.2.2.2.2.2.2.2.2.2.2.1, .str x.2.2.2.2.2.2.2.2.2.2.2.2.2.2.1, .int .i64 x.2.2.2.2.2.2.2.2.2.2.2.2.2.2.2.1, .str x.2.2.2.2.2.2.2.2.2.2.2.2.2.2.2.2.1, .int .i64 x.2.2.2.2.2.2.2.2.2.2.2.2.2.2.2.2.2.1, .int .i64 x.2.2.2.2.2.2.2.2.2.2.2.2.2.2.2.2.2.2.1, .int .i64 x.2.2.2.2.2.2.2.2.2.2.2.2.2.2.2.2.2.2.2.1, .str x.2.2.2.2.2.2.2.2.2.2.2.2.2.2.2.2.2.2.2.2.1, .str x.2.2.2.2.2.2.2.2.2.2.2.2.2.2.2.2.2.2.2.2.2.1, .int .i64 x.2.2.2.2.2.2.2.2.2.2.2.2.2.2.2.2.2.2.2.2.2.2.1, .int .i64 x.2.2.2.2.2.2.2.2.2.2.2.2.2.2.2.2.2.2.2.2.2.2.2.1, .int .i64 x.2.2.2.2.2.2.2.2.2.2.2.2.2.2.2.2.2.2.2.2.2.2.2.2.1, .str x.2.2.2.2.2.2.2.2.2.2.2.2.2.2.2.2.2.2.2.2.2.2.2.2.2.1, .int .i64 x.2.2.2.2.2.2.2.2.2.2.2.2.2.2.2.2.2.2.2.2.2.2.2.2.2.2.1, .int .i64 x.2.2.2.2.2.2.2.2.2.2.2.2.2.2.2.2.2.2.2.2.2.2.2.2.2.2.2.1]
 | .fd,x => [.str x.1, .str x.2.1]
 | .fe,x => [.str x.1, .str x.2.1]
 | .wt,x => [.str x.1, .str x.2.1]
 | .fi,x => [.str x.1, .slc .u8 x.2.1, .slc .i64 x.2.2.1]
 | .dd,x => [.int .u8 x.1, .str x.2.1, .str x.2.2.1, .int .i64 x.2.2.2.1, .int .i64 x.2.2.2.2.1, .int .i64 x.2.2.2.2.2.1]
 | .dm,x => [.int .u8 x.1, .int .i64 x.2.1]
 | .me,x => [.str x.1, .any .jv x.2.1]
def Kd.dec (k:Kd) (cs:List (DV El)):Option (El k) :=
 match k with
 | .i64=>match cs with
  | [.int .i64 n]=>some n
  | _=>none
 | .i32=>match cs with
  | [.int .i32 n]=>some n
  | _=>none
 | .u8=>match cs with
  | [.int .u8 n]=>some (UInt8.ofNat n.toNat)
  | _=>none
 | .u32=>match cs with
  | [.int .u32 n]=>some n
  | _=>none
 | .u64=>match cs with
  | [.int .u64 n]=>some n
  | _=>none
 | .bo=>match cs with
  | [.bool b]=>some b
  | _=>none
 | .str=>match cs with
  | [.str s]=>some s
  | _=>none
 | .en=>match cs with
  | [.int .i64 x0, .str x1, .int .i64 x2, .int .i64 x3, .int .i64 x4, .int .i64 x5, .str x6, .int .i64 x7, .int .i64 x8, .int .i64 x9, .str x10, .str x11, .str x12, .str x13]=>some (x0,x1,x2,x3,x4,x5,x6,x7,x8,x9,x10,x11,x12,x13,())
  | _=>none
 | .ens=>match cs with
  | [.slc .en x0]=>some (x0,())
  | _=>none
 | .rd=>match cs with
  | [.int .i64 x0, .int .i64 x1, .str x2, .int .i64 x3, .int .i64 x4, .int .i64 x5, .int .i64 x6, .str x7, .int .i64 x8, .int .i64 x9, .int .i64 x10, .str x11, .str x12, .str x13, .str x14]=>some (x0,x1,x2,x3,x4,x5,x6,x7,x8,x9,x10,x11,x12,x13,x14,())
  | _=>none
 | .pc=>match cs with
  | [.bool x0, .str x1]=>some (x0,x1,())
  | _=>none
 | .ph=>match cs with
  | [.int .i64 x0, .str x1, .int .i64 x2, .str x3]=>some (x0,x1,x2,x3,())
  | _=>none
 | .rl=>match cs with
  | [.str x0, .str x1, .slc .ph x2]=>some (x0,x1,x2,())
  | _=>none
 | .ac=>match cs with
  | [.int .i64 x0, .int .i64 x1, .int .i64 x2, .int .i64 x3, .int .i64 x4, .int .i64 x5, .int .i64 x6, .str x7, .str x8, .str x9, .str x10]=>some (x0,x1,x2,x3,x4,x5,x6,x7,x8,x9,x10,())
  | _=>none
 | .pl=>match cs with
  | [.int .i64 x0, .int .i64 x1, .str x2, .int .i64 x3, .int .i64 x4, .int .i64 x5, .int .i64 x6, .str x7, .int .i64 x8, .int .i64 x9, .int .i64 x10, .str x11, .str x12, .str x13, .str x14, .int .i64 x15, .str x16, .int .i64 x17, .int .i64 x18, .int .i64 x19, .str x20, .str x21, .int .i64 x22, .int .i64 x23, .int .i64 x24, .str x25, .int .i64 x26, .int .i64 x27]=>some (x0,x1,x2,x3,x4,x5,x6,x7,x8,x9,x10,x11,x12,x13,x14,x15,x16,x17,x18,x19,x20,x21,x22,x23,x24,x25,x26,x27,())
  | _=>none
 | .fd=>match cs with
  | [.str x0, .str x1]=>some (x0,x1,())
  | _=>none
 | .fe=>match cs with
  | [.str x0, .str x1]=>some (x0,x1,())
  | _=>none
 | .wt=>match cs with
  | [.str x0, .str x1]=>some (x0,x1,())
  | _=>none
 | .fi=>match cs with
  | [.str x0, .slc .u8 x1, .slc .i64 x2]=>some (x0,x1,x2,())
  | _=>none
 | .dd=>match cs with
  | [.int .u8 x0, .str x1, .str x2, .int .i64 x3, .int .i64 x4, .int .i64 x5]=>some (x0,x1,x2,x3,x4,x5,())
  | _=>none
 | .dm=>match cs with
  | [.int .u8 x0, .int .i64 x1]=>some (x0,x1,())
  | _=>none
 | .me=>match cs with
  | [.str x0, .any .jv x1]=>some (x0,x1,())
  | _=>none
 | .jv=>match cs with
  | [.any .jv x]=>some x
  | _=>none
 | .er=>match cs with
  | [.any .er x]=>some x
  | _=>none
def Kd.ofStr (k:Kd) (s:List UInt8):Option (List (El k)) :=
 match k with
 | .u8=>some s
 | _=>none
def Kd.toStr (k:Kd) (l:List (El k)):Option (List UInt8) :=
 match k,l with
 | .u8,l=>some l
 | _,_=>none
def Kd.xC (k:Kd) (l:List (El k)):Option (List Int) :=
 match k,l with
 | .i32,l=>some l
 | _,_=>none
def Kd.sz:Kd→Nat
 | .en=>14
 | .ens=>1
 | .rd=>15
 | .pc=>2
 | .ph=>4
 | .rl=>3
 | .ac=>11
 | .pl=>28
 | .fd=>2
 | .fe=>2
 | .wt=>2
 | .fi=>3
 | .dd=>6
 | .dm=>2
 | .me=>2
 | _=>1
def Kd.fk:Kd→Bool
 | .jv=>false
 | .er=>false
 | .ens=>false
 | .rl=>false
 | .fi=>false
 | .me=>false
 | _=>true
theorem II {n:Int} (h:fZ .u8 n=true):((UInt8.ofNat n.toNat).toNat:Int)=n:=by
 simp only [fZ,Bool.and_eq_true,decide_eq_true_eq] at h
 simp
 omega
structure JT where
 nu:TypeId
 bo:TypeId
 it:TypeId
 st:TypeId
 li:TypeId
 ob:TypeId
 er:TypeId:=0
 nd : [nu,bo,it,st,li,ob].Nodup
structure KT where
 k:TypeId→Option Kd
 j:JT
 gl:World→Prop:=fun _=>True
 gb:Nat:=0
 gl_sz : ∀ w,gl w→gb≤w.heap.size:=by intros; exact Nat.zero_le _
 gl_ok : ∀ w w',gl w→(∀ b,b<gb→w'.heap[b]? = w.heap[b]?)→gl w':=by intros; trivial
instance:CoeFun KT fun _=>TypeId→Option Kd:=⟨KT.k⟩
def KP (j:JT):JV→DV El
 | .nil => .nili
 | .null => .ifc j.nu (.agg [])
 | .bool b => .ifc j.bo (.bool b)
 | .int n => .ifc j.it (.int .i64 n)
 | .str s => .ifc j.st (.str s)
 | .list l => .ifc j.li (.slc .jv l)
 | .obj l => .ifc j.ob (.slc .me l)
def Kd.dyn (j:JT) (k:Kd) (x:El k):DV El :=
 match k,x with
 | .jv,x=>KP j x
 | .er,b=>if b=true then .ifc j.er .junk else .nili
 | _,_ => .nili
def Kd.und (j:JT) (k:Kd) (d:DV El):Option (El k) :=
 match k with
 | .jv=>match d with
  | .nili=>some .nil
  | .ifc t (.agg [])=>if t=j.nu then some .null else none
  | .ifc t (.bool b)=>if t=j.bo then some (.bool b) else none
  | .ifc t (.int .i64 n)=>if t=j.it then some (.int n) else none
  | .ifc t (.str s)=>if t=j.st then some (.str s) else none
  | .ifc t (.slc .jv l)=>if t=j.li then some (.list l) else none
  | .ifc t (.slc .me l)=>if t=j.ob then some (.obj l) else none
  | _=>none
 | _=>none
def Kd.asK (j:JT) (k:Kd) (t:TypeId):Option (AsD Kd) :=
 match k with
 | .jv=>if t=j.nu then some .unit else if t=j.bo then some .bool else if t=j.it then some .int else if t=j.st then some .str else if t=j.li then some (.slc .jv) else if t=j.ob then some (.slc .me) else none
 | _=>none
def JV.isNull:JV→Bool
 | .null=>true
 | _=>false
def JV.bool? : JV→Option Bool
 | .bool b=>some b
 | _=>none
def JV.int? : JV→Option Int
 | .int n=>some n
 | _=>none
def JV.JN:JV→Option (List UInt8)
 | .str s=>some s
 | _=>none
def JV.Kp:JV→Option (List JV)
 | .list l=>some l
 | _=>none
def JV.KM:JV→Option (List (List UInt8×JV×Unit))
 | .obj l=>some l
 | _=>none
def Kd.gU (k:Kd) (x:El k):Bool :=
 match k,x with
 | .jv,x=>x.isNull
 | _,_=>false
def JV.isNil:JV→Bool
 | .nil=>true
 | _=>false
def Kd.gZ (k:Kd) (x:El k):Bool :=
 match k,x with
 | .jv,x=>x.isNil
 | .er,b => !b
 | _,_=>true
theorem Jk (j:JT) (k:Kd) (x:El k):(Kd.gZ k x=true→Kd.dyn j k x = .nili)∧(Kd.gZ k x=false → ∃ t d,Kd.dyn j k x = .ifc t d):=by
 cases k
 case jv=>cases x <;> first | exact ⟨fun _=>rfl,fun h=>(by cases h)⟩ | exact ⟨fun h=>(by cases h),fun _=>⟨_,_,rfl⟩⟩
 case er=>cases x <;> first | exact ⟨fun _=>rfl,fun h=>(by cases h)⟩ | exact ⟨fun h=>(by cases h),fun _=>⟨_,_,rfl⟩⟩
 all_goals exact ⟨fun _=>rfl,fun h=>(by cases h)⟩
def Kd.gB (k:Kd) (x:El k):Option Bool :=
 match k,x with
 | .jv,x=>x.bool?
 | _,_=>none
def Kd.gI (k:Kd) (x:El k):Option Int :=
 match k,x with
 | .jv,x=>x.int?
 | _,_=>none
def Kd.gS (k:Kd) (x:El k):Option (List UInt8) :=
 match k,x with
 | .jv,x=>x.JN
 | _,_=>none
def Kd.gL (k k':Kd) (x:El k):Option (List (El k')) :=
 match k,k',x with
 | .jv, .jv,x=>x.Kp
 | .jv, .me,x=>x.KM
 | _,_,_=>none
theorem HO (j:JT) (k:Kd) (d:DV El) (x:El k) (h:Kd.und j k d=some x):Kd.dyn j k x=d:=by
 unfold Kd.und at h
 split at h
 ·split at h <;> first | (cases h; done) | skip
  ·cases h; rfl
  all_goals
   split at h
   ·rename_i e
    cases h
    subst e
    rfl
   ·cases h
 ·cases h
theorem JS (j:JT) (k:Kd) (t:TypeId) (a:AsD Kd) (h:Kd.asK j k t=some a) (x:El k):(∀ d,rq Kd.gU Kd.gB Kd.gI Kd.gS Kd.gL k a x=some d→Kd.dyn j k x = .ifc t d) ∧
  (rq Kd.gU Kd.gB Kd.gI Kd.gS Kd.gL k a x=none→Kd.dyn j k x = .nili ∨ ∃ t' d,Kd.dyn j k x = .ifc t' d∧t'≠t):=by
 have nd:=j.nd
 simp only [List.nodup_cons,List.mem_cons,List.not_mem_nil,or_false,not_or,not_false_eq_true,List.nodup_nil,and_true] at nd
 obtain ⟨⟨a1,a2,a3,a4,a5⟩,⟨b1,b2,b3,b4⟩,⟨c1,c2,c3⟩,⟨d1,d2⟩,e1⟩:=nd
 unfold Kd.asK at h
 split at h
 ·cases x <;> (repeat' split at h) <;> cases h <;> subst t <;>
   refine ⟨fun d hd => ?_,fun hd => ?_⟩ <;>
   first
    | (cases hd; done)
    | (cases hd; rfl)
    | exact .inl rfl
    | exact .inr ⟨_,_,rfl,by first | assumption | (apply Ne.symm; assumption)⟩
 ·cases h
def aX (kt:KT):Tab El where
 deq:=inferInstance
 kind:=kt.k
 gl:=kt.gl
 gb:=kt.gb
 gl_sz:=kt.gl_sz
 gl_ok:=kt.gl_ok
 dyn:=Kd.dyn kt.j
 und:=Kd.und kt.j
 asK:=Kd.asK kt.j
 gU:=Kd.gU
 gZ:=Kd.gZ
 gz_ok:=Jk kt.j
 gB:=Kd.gB
 gI:=Kd.gI
 gS:=Kd.gS
 gL:=Kd.gL
 dyn_pl:=by
  intro k x
  cases k <;> first | rfl | (cases x <;> rfl)
 und_ok:=HO kt.j
 as_ok:=JS kt.j
 sz:=Kd.sz
 enc:=Kd.enc
 dec:=Kd.dec
 ofStr:=Kd.ofStr
 toStr:=Kd.toStr
 xC:=Kd.xC
 runes_ok:=by
  intro k s l h
  cases k <;> simp only [Kd.xC] at h <;> cases h
  exact ⟨rfl,fun i h h'=>rfl⟩
 fk:=Kd.fk
 fk_ok:=by intro k x h; cases k <;> first | rfl | (cases h; done)
 enc_len:=by intro k x; cases k <;> rfl
 dec_ok:=by
  intro k cs x hin h
  cases k <;> simp only [Kd.dec] at h <;> split at h <;> cases h <;> first | rfl | skip
  simp only [Kd.enc]
  rw [II (hin _ (List.mem_cons_self ..))]
 ofStr_ok:=by
  intro k s l h
  cases k <;> simp only [Kd.ofStr] at h <;> cases h
  exact ⟨rfl,fun i h h'=>rfl⟩
 toStr_ok:=by
  intro k s l h
  cases k <;> simp only [Kd.toStr] at h <;> cases h
  exact ⟨rfl,fun i h h'=>rfl⟩
end Go.Vm
/- Members in order: the sort of json's objects, plainly. No condition. -/
namespace Go.Vm
set_option linter.unusedVariables false
set_option linter.unusedSimpArgs false
abbrev By:=List UInt8
abbrev Me:=List UInt8×JV×Unit
abbrev ltB (s t:By):Bool:=Go.Op.bytesLess s t
def yE (m:Me):List Me→List Me
 | [] => [m]
 | x :: l=>if ltB m.1 x.1 then m :: x :: l else x :: yE m l
def a8 (l:List Me):List Me:=l.foldl (fun a m=>yE m a) []
theorem pf : ∀ a:By,ltB a a=false
 | []=>rfl
 | c :: a=>by
  show (decide (c<c) || (c == c && ltB a a))=false
  rw [pf a]
  simp
theorem Aw (a b:UInt8) (s t:By):ltB (a :: s) (b :: t)=(decide (a<b) || (a == b && ltB s t)):=rfl
theorem pv : ∀ a b:By,ltB a b=false→ltB b a=false→a=b
 | [],[],_,_=>rfl
 | [],_ :: _,h,_=>by cases h
 | _ :: _,[],_,h=>by cases h
 | a :: s,b :: t,h,h'=>by
  rw [Aw] at h h'
  simp at h h'
  have e:a=b:=by
   have q1:=UInt8.le_iff_toNat_le.1 h.1
   have q2:=UInt8.le_iff_toNat_le.1 h'.1
   exact UInt8.toNat_inj.1 (by omega)
  subst e
  rw [pv s t (h.2 rfl) (h'.2 rfl)]
theorem kY : ∀ a b c:By,ltB a b=true→ltB b c=true→ltB a c=true
 | [],[],_,h,_=>by cases h
 | _ :: _,[],_,h,_=>by cases h
 | _,_ :: _,[],_,h=>by cases h
 | [],_ :: _,_ :: _,_,_=>rfl
 | a :: s,b :: t,c :: u,h,h'=>by
  rw [Aw] at h h' ⊢
  simp at h h' ⊢
  rcases h with h | ⟨rfl,h⟩
  ·rcases h' with h' | ⟨rfl,h'⟩
   ·exact .inl (UInt8.lt_trans h h')
   ·exact .inl h
  ·rcases h' with h' | ⟨rfl,h'⟩
   ·exact .inl h'
   ·exact .inr ⟨rfl,kY s t u h h'⟩
theorem Av (a b:By) (h:ltB a b=true):ltB b a=false:=by
 cases e:ltB b a with
 | false=>rfl
 | true=>have:=kY a b a h e; rw [pf] at this; cases this
abbrev Ris (l:List Me):Prop:=l.Pairwise fun m n=>ltB m.1 n.1=true
def Uni (l:List Me):Prop:=l.Pairwise fun m n=>m.1≠n.1
theorem CX {l:List Me} (h:Ris l):Uni l:=h.imp fun {m n} h=>by
 intro e
 rw [e,pf] at h
 cases h
theorem sb (m:Me) : ∀ l:List Me,(yE m l).Perm (m :: l)
 | [] => .refl _
 | x :: l=>by
  unfold yE
  split
  ·exact .refl _
  ·exact ((sb m l).cons x).trans (.swap m x l)
theorem Ab {m:Me} : ∀ {l:List Me},Ris l→(∀ x∈l,x.1≠m.1)→Ris (yE m l)
 | [],_,_=>List.pairwise_singleton _ _
 | x :: l,h,hn=>by
  obtain ⟨h1,h2⟩:=List.pairwise_cons.1 h
  unfold yE
  split
  ·rename_i hlt
   refine List.pairwise_cons.2 ⟨fun y hy => ?_,h⟩
   rcases List.mem_cons.1 hy with rfl | hy
   ·exact hlt
   ·exact kY _ _ _ hlt (h1 y hy)
  ·rename_i hlt
   have hx:ltB x.1 m.1=true:=by
    cases e:ltB x.1 m.1 with
    | true=>rfl
    | false=>exact absurd (pv _ _ e (by simpa using hlt)) (hn x (List.mem_cons_self ..))
   refine List.pairwise_cons.2 ⟨fun y hy => ?_,Ab h2 fun y hy=>hn y (List.mem_cons_of_mem _ hy)⟩
   rcases List.mem_cons.1 ((sb m l).mem_iff.1 hy) with rfl | hy
   ·exact hx
   ·exact h1 y hy
theorem mO (l:List Me) (m:Me):a8 (l ++ [m])=yE m (a8 l):=by unfold a8; rw [List.foldl_append]; rfl
theorem qg {α:Type} {p:List α→Prop} (h0:p []) (h1 : ∀ l a,p l→p (l ++ [a])) (l:List α):p l:=by
 have : ∀ n (l:List α),l.length=n→p l:=by
  intro n
  induction n with
  | zero=>intro l hl; rw [List.length_eq_zero_iff.1 hl]; exact h0
  | succ n ih =>
   intro l hl
   have hne:l ≠ []:=by intro e; rw [e] at hl; cases hl
   rw [← List.dropLast_concat_getLast hne]
   exact h1 _ _ (ih _ (by simp; omega))
 exact this _ l rfl
theorem gz (l:List Me):(a8 l).Perm l:=by
 induction l using qg with
 | h0=>exact .refl _
 | h1 l a ih =>
  rw [mO]
  exact ((sb a _).trans (ih.cons a)).trans (List.perm_append_singleton a l).symm
theorem GX {l l':List Me} (h:l.Perm l') (hu:Uni l):Uni l':=(h.pairwise_iff fun {a b} hh=>Ne.symm hh).1 hu
theorem sr (l:List Me) (h:Uni l):Ris (a8 l):=by
 induction l using qg with
 | h0=>exact .nil
 | h1 l a ih =>
  have h':=List.pairwise_append.1 h
  rw [mO]
  exact Ab (ih h'.1) fun x hx=>h'.2.2 x ((gz l).mem_iff.1 hx) a (List.mem_cons_self ..)
theorem Gd : ∀ {l l':List Me},Ris l→Ris l'→l.Perm l'→l=l'
 | [],l',_,_,hp=>(List.nil_perm.1 hp).symm
 | m :: l,[],_,_,hp=>absurd hp.length_eq (by simp)
 | m :: l,m' :: l',h,h',hp=>by
  obtain ⟨h1,h2⟩:=List.pairwise_cons.1 h
  obtain ⟨h3,h4⟩:=List.pairwise_cons.1 h'
  have e:m=m':=by
   have q1:=List.mem_cons.1 (hp.mem_iff.1 (List.mem_cons_self (a:=m) (l:=l)))
   have q2:=List.mem_cons.1 (hp.symm.mem_iff.1 (List.mem_cons_self (a:=m') (l:=l')))
   rcases q1 with q1 | q1
   ·exact q1
   rcases q2 with q2 | q2
   ·exact q2.symm
   have a:=h3 m q1
   have b:=h1 m' q2
   rw [Av _ _ a] at b
   cases b
  subst e
  rw [Gd h2 h4 (List.perm_cons m |>.1 hp)]
theorem zQ {l l':List Me} (hu:Uni l) (hr:Ris l') (hp:l'.Perm l):a8 l=l':=Gd (sr l hu) hr ((gz l).trans hp.symm)
theorem vd {l:List Me} (h:Ris l):a8 l=l:=zQ (CX h) h (.refl _)
end Go.Vm
/- The world's globals: tables of numbers and errors that are laid. No condition. -/
namespace Go.Vm
open Go.Lib
set_option linter.unusedVariables false
variable {P:Program}
structure GlW (P:Program) (gb:Nat) (tabs:List (String×IntKind×List Int)) (errs:List Nat) (more:World→Prop) (w:World):Prop where
 sz:gb≤w.heap.size
 tab : ∀ x∈tabs,TabIs P w x.1 x.2.1 x.2.2
 err : ∀ g∈errs, ∃ te pe,w.cell? ⟨g,0,none⟩=some (.iface te pe)
 more:more w
theorem Dv {w w':World} {n:String} {g:Nat} (hg:P.globalNamed n=some g) (h:w'.heap[g]? = w.heap[g]?):w'.var? P n=w.var? P n:=by unfold World.var?; rw [hg,Option.bind_some,Option.bind_some,h]
theorem lK {w w':World} {g o:Nat} (h:w'.heap[g]? = w.heap[g]?):w'.cell? ⟨g,o,none⟩=w.cell? ⟨g,o,none⟩:=by unfold World.cell?; rw [h]
theorem GlW.on {gb:Nat} {tabs:List (String×IntKind×List Int)} {errs:List Nat} {more:World→Prop} {w w':World} (ht : ∀ x∈tabs, ∃ g,P.globalNamed x.1=some g∧g<gb) (he : ∀ g∈errs,g<gb)
  (hm : ∀ w w':World,more w→(∀ b,b<gb→w'.heap[b]? = w.heap[b]?)→more w') (h:GlW P gb tabs errs more w) (hw : ∀ b,b<gb→w'.heap[b]? = w.heap[b]?):GlW P gb tabs errs more w':=by
 refine ⟨?_,fun x hx => ?_,fun g hg => ?_,hm w w' h.more hw⟩
 ·rcases Nat.eq_zero_or_pos gb with h0 | h0
  ·omega
  ·have h1:=hw (gb - 1) (by omega)
   have h2:=h.sz
   rw [Array.getElem?_eq_getElem (by omega:gb - 1<w.heap.size)] at h1
   have:=(Array.getElem?_eq_some_iff.1 h1).1
   omega
 ·obtain ⟨g,h1,h2⟩:=ht x hx
  have:=h.tab x hx
  unfold TabIs at this ⊢
  rw [Dv h1 (hw g h2)]
  exact this
 ·obtain ⟨te,pe,h1⟩:=h.err g hg
  exact ⟨te,pe,by rw [lK (hw g (he g hg))]; exact h1⟩
theorem yf {w:World} : ∀ {l:List (String×DataW Unit)} {ps:List MemPlace},DataW.LaidVars P w l ps → ∀ {n:String} {d:DataW Unit},(n,d)∈l →
  ∃ g t cs fuel p,P.globalNamed n=some g∧(P.globals[g]?).map (·.type)=some t∧w.var? P n=some cs∧DataW.trod (fun _=>()) P w 0 (fun _=>true) false fuel t cs.toList=some (d,p)
 | [],_,_,n,d,hm=>by cases hm
 | (n',d') :: r,ps,h,n,d,hm=>by
  obtain ⟨g,t,cs,fuel,p,q,h1,h2,h3,h4,h5,_⟩:=h
  rcases List.mem_cons.1 hm with e | hm
  ·injection e with e1 e2
   subst e1; subst e2
   exact ⟨g,t,cs,fuel,p,h1,h2,h3,h4⟩
  ·exact yf h5 hm
theorem lX {w:World} {l:List (String×DataW Unit)} (hm:laidMet P l w) {name:String} {k:IntKind} {zs:List Int} {d:DataW Unit} (hin:(name,d)∈l) (hd:d=tabData k zs) {g:Nat} {t e:TypeId} {n:Nat}
  (hg:P.globalNamed name=some g) (hty:(P.globals[g]?).map (·.type)=some t) (ht:P.underlying t=some (.array n e)) (he:P.underlying e=some (.int k)) (hce:P.cellsOf e=1) (hct:P.cellsOf t=n):TabIs P w name k zs:=by
 obtain ⟨ps,hl,_⟩:=hm
 obtain ⟨g',t',cs,fuel,p,hg',ht',hvar,hdd⟩:=yf hl hin
 obtain rfl:=Option.some.inj (hg.symm.trans hg')
 obtain rfl:=Option.some.inj (hty.symm.trans ht')
 subst hd
 unfold TabIs
 rw [hvar, ← cells_of_tab ht he hce hct hdd]
theorem FU {w:World} {n:String} {g:Nat} {cs:Array Value} (hg:P.globalNamed n=some g) (h:w.var? P n=some cs) (o:Nat):w.cell? ⟨g,o,none⟩=cs[o]? ∧ g<w.heap.size:=by
 unfold World.var? at h
 rw [hg,Option.bind_some] at h
 split at h
 ·rename_i c e f hh
  cases h
  refine ⟨by unfold World.cell?; rw [hh]; rfl,(Array.getElem?_eq_some_iff.1 hh).1⟩
 ·cases h
theorem fJ {w:World} {l:List (String×DataW Unit)} (hm:laidMet P l w) {name nm:String} {d:DataW Unit} (hin:(name, .iface nm d)∈l) {g:Nat} {ti:TypeId} {ms:Array (String×TypeId)}
  (hg:P.globalNamed name=some g) (hty:(P.globals[g]?).map (·.type)=some ti) (hi:P.underlying ti=some (.interface ms)):(∃ te pe,w.cell? ⟨g,0,none⟩=some (.iface te pe))∧g<w.heap.size:=by
 obtain ⟨ps,hl,_⟩:=hm
 obtain ⟨g',t',cs,fuel,p,hg',ht',hvar,hdd⟩:=yf hl hin
 obtain rfl:=Option.some.inj (hg.symm.trans hg')
 obtain rfl:=Option.some.inj (hty.symm.trans ht')
 obtain ⟨_,u,v,h1,_⟩:=iface_of_trod hi hdd
 obtain ⟨h2,h3⟩:=FU hg hvar 0
 refine ⟨⟨u,v,?_⟩,h3⟩
 rw [h2, ← Array.getElem?_toList,h1]
 rfl
end Go.Vm
/- From a law's contract to what its row asks. -/
namespace Go.Vm
open Go.Lib Go.RowKit
set_option linter.unusedVariables false
variable {K:Type} {E:K→Type}
variable {T:Tab E} {P:Program}
theorem y9 {f:FuncId} {fn:Func} {vs:Array Value} {w:World} {R:Ending→World→Prop} (hf:P.funcs[f]? = some fn) (hb:fn.body.isSome=true) (hname:(fn.name == "runtime.NumGoroutine")=false)
  (h:B9 P f vs w R):Calls P f vs w R:=by
 rcases h with ⟨_,h⟩ | ⟨v,w',h,_⟩
 ·exact h
 ·rw [dz hf hb hname] at h
  cases h
theorem pA {s:Spec K} {M:tyS E s.params→Option (s.R E)} {f:FuncId} {fn:Func} (hc:Ctr T P f (ak T s M)) (hf:P.funcs[f]? = some fn) (hb:fn.body.isSome=true) (hname:(fn.name == "runtime.NumGoroutine")=false)
  {x:tyS E s.params} {r:s.R E} (hM:M x=some r) {ds:List (DV E)} (hds:yV T s.params (rp s.params ds)=some x) (hr:pd T s r=⟨.bool true,[]⟩) {w:World} {vs:Array Value}
  (hown:eZ (Own T w fun _=>True) ds vs.toList []) (hgl:T.gl w):Calls P f vs w fun e w'=>e = .returned (.bool true)∧Below w.heap.size w w':=by
 have hcon:(ak T s M ds)=⟨s.R E,M x,pd T s,s.flat T⟩:=by unfold ak; rw [hds]
 have h0:=hc ds
 rw [hcon] at h0
 have h1:=h0 r hM w vs (fun _=>True) [] hown List.nodup_nil (fun b hb=>by cases hb) hgl (fun b hb=>by cases hb)
 refine (y9 hf hb hname h1).mono ?_
 rintro e w' ⟨v,bl1,bl2,rfl,_,_,h4,_,h6,_⟩
 change tB T w' _ vs.toList (pd T s r).v v bl1 at h4
 rw [hr] at h4
 have hv:v = .bool true:=by
  have h5:Ans T w' _ vs.toList (.bool true:DV E) v bl1:=h4
  cases h5 with
  | c h=>cases h with
   | sh hr hs=>cases hr; rfl
 exact ⟨by rw [hv],⟨h6.os,h6.tape,h6.output,h6.size,fun k hk=>h6.block k hk (by simp)⟩⟩
theorem yn {w:World} {Y:Nat→Prop} {d:DV E} {v:Value} {ds:List (DV E)} {vs:List Value} (h:Rep T w Y d v) (hs:d.share=true) (t:eZ (Own T w Y) ds vs []):eZ (Own T w Y) (d :: ds) (v :: vs) [] :=
 .cons (b := []) (.c (.sh h hs)) t
theorem yG {w:World} {Y:Nat→Prop} (k:IntKind) (n:Int) (h:fZ k n=true):Rep T w Y (.int k n) (.int k n) := .int h
theorem qK {w:World} {Y:Nat→Prop} (s:ByteArray):Rep T w Y (.str s.data.toList:DV E) (.string s):=by
 have:s=⟨s.data.toList.toArray⟩:=by apply ByteArray.ext; simp
 exact this ▸ Rep.str s.data.toList
theorem F7 {w:World} {Y:Nat→Prop} (b:Bool):Rep T w Y (.bool b:DV E) (.bool b) := .bool b
inductive jA (kt:KT) (w:World) (Y:Nat→Prop):List (DV El)→List Value→Prop
 | nil:jA kt w Y [] []
 | cons {d:DV El} {v:Value} {ds:List (DV El)} {vs:List Value} (h:Rep (aX kt) w Y d v) (hs:jA kt w Y ds vs):jA kt w Y (d :: ds) (v :: vs)
theorem jA.get {kt:KT} {w:World} {Y:Nat→Prop} {ds:List (DV El)} {vs:List Value} (h:jA kt w Y ds vs):ds.length=vs.length ∧ ∀ i (hi:i<ds.length) (hi':i<vs.length),Rep (aX kt) w Y ds[i] vs[i]:=by
 induction h with
 | nil=>exact ⟨rfl,fun i hi=>by cases hi⟩
 | cons h hs ih =>
  refine ⟨by simp [ih.1],fun i hi hi' => ?_⟩
  cases i with
  | zero=>exact h
  | succ i=>exact ih.2 i (by simpa using hi) (by simpa using hi')
theorem HY {kt:KT} {w:World} {Y:Nat→Prop} {ds:List (DV El)} {vs:List Value} (h:jA kt w Y ds vs):Rep (aX kt) w Y (.agg ds) (.agg vs.toArray) :=
 .agg (by simpa using h.get.1) fun i hi hi'=>by simpa using h.get.2 i hi (by simpa using hi')
end Go.Vm
/- Data that came in, opened as values of the machine: structs, slices, of any depth. -/
namespace Go.Vm
open Go.Lib Go.RowKit
set_option linter.unusedVariables false
section
variable {S:Value→Prop} {kt:KT} {H:Type} {enc:TypeId×Value→H} {P:Program} {w:World} {base:Nat} {sp:Nat→Bool} {held:Bool}
def EY (w:World):Value→Prop
 | .slice (some a) _ _=>a.spot=none∧a.block<w.heap.size
 | _=>True
theorem jA.append {kt:KT} {w:World} {Y:Nat→Prop} : ∀ {ds:List (DV El)} {vs:List Value} {ds':List (DV El)} {vs':List Value},jA kt w Y ds vs→jA kt w Y ds' vs'→jA kt w Y (ds ++ ds') (vs ++ vs')
 | _,_,_,_, .nil,h'=>h'
 | _,_,_,_, .cons h hs,h' => .cons h (hs.append h')
def Kw (S:Value→Prop) (kt:KT) (enc:TypeId×Value→H) (P:Program) (w:World) (base:Nat) (sp:Nat→Bool) (held:Bool) (t:TypeId) (ss:List (S0 Kd)):Prop :=
 ∀ fuel cs d,DataW.trod enc P w base sp held fuel t cs=some d→(∀ c∈cs,S c) → ∃ x:tyL El ss,jA kt w (fun _=>True) (fO ss x) cs
def Gl:(s:List (S0 Kd))→{s':List (S0 Kd)}→tyL El s→tyL El s'→tyL El (s ++ s')
 | [],_,_,y=>y
 | _ :: r,_,x,y=>(x.1,Gl r x.2 y)
theorem sL : ∀ (s:List (S0 Kd)) {s':List (S0 Kd)} (x:tyL El s) (y:tyL El s'),fO (s ++ s') (Gl s x y)=fO s x ++ fO s' y
 | [],_,_,y=>rfl
 | a :: r,_,x,y=>congrArg (a.abs x.1 :: ·) (sL r x.2 y)
inductive Cj (S:Value→Prop) (kt:KT) (enc:TypeId×Value→H) (P:Program) (w:World) (base:Nat) (sp:Nat→Bool) (held:Bool):List Field→Nat→List (S0 Kd)→Prop
 | nil (off:Nat):Cj S kt enc P w base sp held [] off []
 | cons {f:Field} {fs:List Field} {off:Nat} {s s':List (S0 Kd)} (ho:f.offset=off) (hc:P.cellsOf f.type=s.length) (h:Kw S kt enc P w base sp held f.type s) (hs:Cj S kt enc P w base sp held fs (off+s.length) s') :
   Cj S kt enc P w base sp held (f :: fs) off (s ++ s')
theorem jA.len {ds:List (DV El)} {vs:List Value} {Y:Nat→Prop} (h:jA kt w Y ds vs):ds.length=vs.length:=h.get.1
theorem EK : ∀ (k:Kd) (x:El k) (c:Nat) (h:c<(Kd.enc k x).length),((Kd.enc k x)[c]).plain=true:=by
 intro k x c h
 have:(Kd.enc k x).all DV.plain=true:=by cases k <;> rfl
 exact List.all_eq_true.1 this _ (List.getElem_mem h)
theorem lD {r:Reach} {u:TypeId} {v:Value} (h:Cell.okWide P w r base u v):EY w v:=by
 cases v with
 | slice a l c =>
  cases a with
  | none=>trivial
  | some a =>
   unfold Cell.okWide at h
   split at h
   any_goals (rename_i hv; cases hv; done)
   all_goals try (rename_i h1 h2; cases h2; done)
   unfold Cell.ok at h
   split at h
   all_goals first | (exact h.elim; done) | skip
   all_goals first | (rename_i h1 h2; cases h2; done) | skip
   rename_i e a' len cap h1 h2
   cases h2
   obtain ⟨_,_,_,h3,row,cells,h4,_⟩:=h
   refine ⟨h3,?_⟩
   rcases Nat.lt_or_ge a.block w.heap.size with h' | h'
   ·exact h'
   ·simp [World.shape?,Array.getElem?_eq_none h'] at h4
 | _=>trivial
theorem tH {r:Reach} {t:TypeId} {v:Value} (h:Value.okWide P w r base t v) : ∀ c∈v.cells.toList,EY w c:=by
 intro c hc
 have one:Cell.okWide P w r base t v→(∀ vs,v ≠ .agg vs)→EY w c:=by
  intro h1 h2
  have:v.cells = #[v]:=by cases v <;> first | rfl | exact absurd rfl (h2 _)
  rw [this] at hc
  simp at hc
  subst hc
  exact lD h1
 unfold Value.okWide at h
 split at h
 ·obtain ⟨cs,rfl,_,ts,_,_,hall⟩:=h
  obtain ⟨i,hi,rfl⟩:=List.getElem_of_mem hc
  have hi':i<cs.size:=by simpa [Value.cells] using hi
  obtain ⟨u,_,hu⟩:=hall i cs[i] (Array.getElem?_eq_getElem hi')
  exact lD hu
 ·obtain ⟨cs,rfl,_,ts,_,_,hall⟩:=h
  obtain ⟨i,hi,rfl⟩:=List.getElem_of_mem hc
  have hi':i<cs.size:=by simpa [Value.cells] using hi
  obtain ⟨u,_,hu⟩:=hall i cs[i] (Array.getElem?_eq_getElem hi')
  exact lD hu
 ·rename_i n1 n2
  refine one h fun vs e => ?_
  subst e
  unfold Cell.okWide Cell.ok at h
  revert h
  cases hu:P.underlying t with
  | none=>simp
  | some d=>cases d <;> simp_all
theorem FX {Y:Nat→Prop} {ds:List (DV El)} {cs:Array Value} (h:jA kt w Y ds cs.toList):Rep (aX kt) w Y (.agg ds) (.agg cs):=by
 have:=HY h
 simpa using this
theorem Hx {Y:Nat→Prop} {d:DV El} {v:Value} (h:jA kt w Y [d] [v]):Rep (aX kt) w Y d v:=h.get.2 0 (by simp) (by simp)
end
end Go.Vm
