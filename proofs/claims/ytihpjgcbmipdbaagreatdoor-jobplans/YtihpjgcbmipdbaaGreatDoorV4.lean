import Derived.Test.YtihpjgcbmipdbaaGreatDoorV3
import Derived.Lib.LaidTab
import Derived.LaidLaws
import Derived.Lib.ItoaNum
import Derived.Below
import Derived.WideShapes
set_option linter.unusedVariables false
set_option linter.unusedSimpArgs false
namespace Go.Vm
open Go.Lib
inductive JV where
 | nil | null | bool (b:Bool) | int (n:Int) | str (s:List UInt8) | list (l:List JV) | obj (l:List (List UInt8×JV×Unit))
inductive Kd where
 | i64
 | i32
 | u8
 | u32
 | u64
 | bo
 | str
 | jv
 | er
 | en
 | ens
 | rd
 | pc
 | ph
 | rl
 | ac
 | pl
 | fd
 | fe
 | wt
 | fi
 | dd
 | dm
 | me
 deriving DecidableEq
abbrev El:Kd->Type
 | .i64=>Int
 | .i32=>Int
 | .u8=>UInt8
 | .u32=>Int
 | .u64=>Int
 | .bo=>Bool
 | .str=>List UInt8
 | .jv=>JV
 | .er=>Bool
 | .en=>Int×(List UInt8)×Int×Int×Int×Int×(List UInt8)×Int×Int×Int×(List UInt8)×(List UInt8)×(List UInt8)×(List UInt8)×Unit
 | .ens=>(List (Int×(List UInt8)×Int×Int×Int×Int×(List UInt8)×Int×Int×Int×(List UInt8)×(List UInt8)×(List UInt8)×(List UInt8)×Unit))×Unit
 | .rd=>Int×Int×(List UInt8)×Int×Int×Int×Int×(List UInt8)×Int×Int×Int×(List UInt8)×(List UInt8)×(List UInt8)×(List UInt8)×Unit
 | .pc=>Bool×(List UInt8)×Unit
 | .ph=>Int×(List UInt8)×Int×(List UInt8)×Unit
 | .rl=>(List UInt8)×(List UInt8)×(List (Int×(List UInt8)×Int×(List UInt8)×Unit))×Unit
 | .ac=>Int×Int×Int×Int×Int×Int×Int×(List UInt8)×(List UInt8)×(List UInt8)×(List UInt8)×Unit
 | .pl=>Int×Int×(List UInt8)×Int×Int×Int×Int×(List UInt8)×Int×Int×Int×(List UInt8)×(List UInt8)×(List UInt8)×(List UInt8)×Int×(List UInt8)×Int×Int×Int×(List UInt8)×(List UInt8)×Int×Int×Int×(List UInt8)×Int×Int×Unit
 | .fd=>(List UInt8)×(List UInt8)×Unit
 | .fe=>(List UInt8)×(List UInt8)×Unit
 | .wt=>(List UInt8)×(List UInt8)×Unit
 | .fi=>(List UInt8)×(List (UInt8))×(List (Int))×Unit
 | .dd=>Int×(List UInt8)×(List UInt8)×Int×Int×Int×Unit
 | .dm=>Int×Int×Unit
 | .me=>(List UInt8)×JV×Unit
def Kd.enc:(k:Kd)->El k->List (DV El)
 | .i64,n => [.int .i64 n]
 | .i32,n => [.int .i32 n]
 | .u8,b => [.int .u8 (b.toNat:Int)]
 | .u32,n => [.int .u32 n]
 | .u64,n => [.int .u64 n]
 | .bo,b => [.bool b]
 | .str,s => [.str s]
 | .jv,x => [.any .jv x]
 | .er,x => [.any .er x]
 | .en,x => [.int .i64 x.1,.str x.2.1,.int .i64 x.2.2.1,.int .i64 x.2.2.2.1,.int .i64 x.2.2.2.2.1,.int .i64 x.2.2.2.2.2.1,.str x.2.2.2.2.2.2.1,.int .i64 x.2.2.2.2.2.2.2.1,.int .i64 x.2.2.2.2.2.2.2.2.1,.int .i64 x.2.2.2.2.2.2.2.2.2.1,.str x.2.2.2.2.2.2.2.2.2.2.1,.str x.2.2.2.2.2.2.2.2.2.2.2.1,.str x.2.2.2.2.2.2.2.2.2.2.2.2.1,.str x.2.2.2.2.2.2.2.2.2.2.2.2.2.1]
 | .ens,x => [.slc .en x.1]
 | .rd,x => [.int .i64 x.1,.int .i64 x.2.1,.str x.2.2.1,.int .i64 x.2.2.2.1,.int .i64 x.2.2.2.2.1,.int .i64 x.2.2.2.2.2.1,.int .i64 x.2.2.2.2.2.2.1,.str x.2.2.2.2.2.2.2.1,.int .i64 x.2.2.2.2.2.2.2.2.1,.int .i64 x.2.2.2.2.2.2.2.2.2.1,.int .i64 x.2.2.2.2.2.2.2.2.2.2.1,.str x.2.2.2.2.2.2.2.2.2.2.2.1,.str x.2.2.2.2.2.2.2.2.2.2.2.2.1,.str x.2.2.2.2.2.2.2.2.2.2.2.2.2.1,.str x.2.2.2.2.2.2.2.2.2.2.2.2.2.2.1]
 | .pc,x => [.bool x.1,.str x.2.1]
 | .ph,x => [.int .i64 x.1,.str x.2.1,.int .i64 x.2.2.1,.str x.2.2.2.1]
 | .rl,x => [.str x.1,.str x.2.1,.slc .ph x.2.2.1]
 | .ac,x => [.int .i64 x.1,.int .i64 x.2.1,.int .i64 x.2.2.1,.int .i64 x.2.2.2.1,.int .i64 x.2.2.2.2.1,.int .i64 x.2.2.2.2.2.1,.int .i64 x.2.2.2.2.2.2.1,.str x.2.2.2.2.2.2.2.1,.str x.2.2.2.2.2.2.2.2.1,.str x.2.2.2.2.2.2.2.2.2.1,.str x.2.2.2.2.2.2.2.2.2.2.1]
 | .pl,x => [.int .i64 x.1,.int .i64 x.2.1,.str x.2.2.1,.int .i64 x.2.2.2.1,.int .i64 x.2.2.2.2.1,.int .i64 x.2.2.2.2.2.1,.int .i64 x.2.2.2.2.2.2.1,.str x.2.2.2.2.2.2.2.1,.int .i64 x.2.2.2.2.2.2.2.2.1,.int .i64 x.2.2.2.2.2.2.2.2.2.1,.int .i64 x.2.2.2.2.2.2.2.2.2.2.1,.str x.2.2.2.2.2.2.2.2.2.2.2.1,.str x.2.2.2.2.2.2.2.2.2.2.2.2.1,.str x.2.2.2.2.2.2.2.2.2.2.2.2.2.1,.str x.2.2.2.2.2.2.2.2.2.2.2.2.2.2.1,.int .i64 x.2.2.2.2.2.2.2.2.2.2.2.2.2.2.2.1,.str x.2.2.2.2.2.2.2.2.2.2.2.2.2.2.2.2.1,.int .i64 x.2.2.2.2.2.2.2.2.2.2.2.2.2.2.2.2.2.1,.int .i64 x.2.2.2.2.2.2.2.2.2.2.2.2.2.2.2.2.2.2.1,.int .i64 x.2.2.2.2.2.2.2.2.2.2.2.2.2.2.2.2.2.2.2.1,.str x.2.2.2.2.2.2.2.2.2.2.2.2.2.2.2.2.2.2.2.2.1,.str x.2.2.2.2.2.2.2.2.2.2.2.2.2.2.2.2.2.2.2.2.2.1,.int .i64 x.2.2.2.2.2.2.2.2.2.2.2.2.2.2.2.2.2.2.2.2.2.2.1,.int .i64 x.2.2.2.2.2.2.2.2.2.2.2.2.2.2.2.2.2.2.2.2.2.2.2.1,.int .i64 x.2.2.2.2.2.2.2.2.2.2.2.2.2.2.2.2.2.2.2.2.2.2.2.2.1,.str x.2.2.2.2.2.2.2.2.2.2.2.2.2.2.2.2.2.2.2.2.2.2.2.2.2.1,.int .i64 x.2.2.2.2.2.2.2.2.2.2.2.2.2.2.2.2.2.2.2.2.2.2.2.2.2.2.1,.int .i64 x.2.2.2.2.2.2.2.2.2.2.2.2.2.2.2.2.2.2.2.2.2.2.2.2.2.2.2.1]
 | .fd,x => [.str x.1,.str x.2.1]
 | .fe,x => [.str x.1,.str x.2.1]
 | .wt,x => [.str x.1,.str x.2.1]
 | .fi,x => [.str x.1,.slc .u8 x.2.1,.slc .i64 x.2.2.1]
 | .dd,x => [.int .u8 x.1,.str x.2.1,.str x.2.2.1,.int .i64 x.2.2.2.1,.int .i64 x.2.2.2.2.1,.int .i64 x.2.2.2.2.2.1]
 | .dm,x => [.int .u8 x.1,.int .i64 x.2.1]
 | .me,x => [.str x.1,.any .jv x.2.1]
def Kd.dec (k:Kd) (cs:List (DV El)):Option (El k) :=
 match k with
 | .i64=>match cs with
  | [.int .i64 n]=>some n
  | _=>none
 | .i32=>match cs with
  | [.int .i32 n]=>some n
  | _=>none
 | .u8=>match cs with
  | [.int .u8 n]=>some (UInt8.ofNat n.toNat)
  | _=>none
 | .u32=>match cs with
  | [.int .u32 n]=>some n
  | _=>none
 | .u64=>match cs with
  | [.int .u64 n]=>some n
  | _=>none
 | .bo=>match cs with
  | [.bool b]=>some b
  | _=>none
 | .str=>match cs with
  | [.str s]=>some s
  | _=>none
 | .en=>match cs with
  | [.int .i64 x0,.str x1,.int .i64 x2,.int .i64 x3,.int .i64 x4,.int .i64 x5,.str x6,.int .i64 x7,.int .i64 x8,.int .i64 x9,.str x10,.str x11,.str x12,.str x13]=>some (x0,x1,x2,x3,x4,x5,x6,x7,x8,x9,x10,x11,x12,x13,())
  | _=>none
 | .ens=>match cs with
  | [.slc .en x0]=>some (x0,())
  | _=>none
 | .rd=>match cs with
  | [.int .i64 x0,.int .i64 x1,.str x2,.int .i64 x3,.int .i64 x4,.int .i64 x5,.int .i64 x6,.str x7,.int .i64 x8,.int .i64 x9,.int .i64 x10,.str x11,.str x12,.str x13,.str x14]=>some (x0,x1,x2,x3,x4,x5,x6,x7,x8,x9,x10,x11,x12,x13,x14,())
  | _=>none
 | .pc=>match cs with
  | [.bool x0,.str x1]=>some (x0,x1,())
  | _=>none
 | .ph=>match cs with
  | [.int .i64 x0,.str x1,.int .i64 x2,.str x3]=>some (x0,x1,x2,x3,())
  | _=>none
 | .rl=>match cs with
  | [.str x0,.str x1,.slc .ph x2]=>some (x0,x1,x2,())
  | _=>none
 | .ac=>match cs with
  | [.int .i64 x0,.int .i64 x1,.int .i64 x2,.int .i64 x3,.int .i64 x4,.int .i64 x5,.int .i64 x6,.str x7,.str x8,.str x9,.str x10]=>some (x0,x1,x2,x3,x4,x5,x6,x7,x8,x9,x10,())
  | _=>none
 | .pl=>match cs with
  | [.int .i64 x0,.int .i64 x1,.str x2,.int .i64 x3,.int .i64 x4,.int .i64 x5,.int .i64 x6,.str x7,.int .i64 x8,.int .i64 x9,.int .i64 x10,.str x11,.str x12,.str x13,.str x14,.int .i64 x15,.str x16,.int .i64 x17,.int .i64 x18,.int .i64 x19,.str x20,.str x21,.int .i64 x22,.int .i64 x23,.int .i64 x24,.str x25,.int .i64 x26,.int .i64 x27]=>some (x0,x1,x2,x3,x4,x5,x6,x7,x8,x9,x10,x11,x12,x13,x14,x15,x16,x17,x18,x19,x20,x21,x22,x23,x24,x25,x26,x27,())
  | _=>none
 | .fd=>match cs with
  | [.str x0,.str x1]=>some (x0,x1,())
  | _=>none
 | .fe=>match cs with
  | [.str x0,.str x1]=>some (x0,x1,())
  | _=>none
 | .wt=>match cs with
  | [.str x0,.str x1]=>some (x0,x1,())
  | _=>none
 | .fi=>match cs with
  | [.str x0,.slc .u8 x1,.slc .i64 x2]=>some (x0,x1,x2,())
  | _=>none
 | .dd=>match cs with
  | [.int .u8 x0,.str x1,.str x2,.int .i64 x3,.int .i64 x4,.int .i64 x5]=>some (x0,x1,x2,x3,x4,x5,())
  | _=>none
 | .dm=>match cs with
  | [.int .u8 x0,.int .i64 x1]=>some (x0,x1,())
  | _=>none
 | .me=>match cs with
  | [.str x0,.any .jv x1]=>some (x0,x1,())
  | _=>none
 | .jv=>match cs with
  | [.any .jv x]=>some x
  | _=>none
 | .er=>match cs with
  | [.any .er x]=>some x
  | _=>none
def Kd.ofStr (k:Kd) (s:List UInt8):Option (List (El k)) :=
 match k with
 | .u8=>some s
 | _=>none
def Kd.toStr (k:Kd) (l:List (El k)):Option (List UInt8) :=
 match k,l with
 | .u8,l=>some l
 | _,_=>none
def Kd.Er (k:Kd) (l:List (El k)):Option (List Int) :=
 match k,l with
 | .i32,l=>some l
 | _,_=>none
def Kd.sz:Kd->Nat
 | .en=>14
 | .ens=>1
 | .rd=>15
 | .pc=>2
 | .ph=>4
 | .rl=>3
 | .ac=>11
 | .pl=>28
 | .fd=>2
 | .fe=>2
 | .wt=>2
 | .fi=>3
 | .dd=>6
 | .dm=>2
 | .me=>2
 | _=>1
def Kd.fk:Kd->Bool
 | .jv=>false
 | .er=>false
 | .ens=>false
 | .rl=>false
 | .fi=>false
 | .me=>false
 | _=>true
theorem Tp {n:Int} (h:iy .u8 n=true):((UInt8.ofNat n.toNat).toNat:Int)=n:=by
 simp only[iy,adi,ac9] at h;simp;omega
structure JT where
 nu:TypeId
 bo:TypeId
 it:TypeId
 st:TypeId
 li:TypeId
 ob:TypeId
 er:TypeId:=0
 nd:[nu,bo,it,st,li,ob].Nodup
structure KT where
 k:TypeId->Option Kd
 j:JT
 gl:World->Prop:=fun _=>True
 gb:Nat:=0
 gl_sz:∀ w,gl w->gb<=w.heap.size:=by intros; exact Nat.zero_le _
 gl_ok:∀ w w',gl w->(∀ b,b<gb->w'.heap[b]? = w.heap[b]?)->gl w':=by intros; trivial
instance:CoeFun KT fun _=>TypeId->Option Kd:=⟨KT.k⟩
def Zc (j:JT):JV->DV El
 | .nil => .nili
 | .null => .ifc j.nu (.agg [])
 | .bool b => .ifc j.bo (.bool b)
 | .int n => .ifc j.it (.int .i64 n)
 | .str s => .ifc j.st (.str s)
 | .list l => .ifc j.li (.slc .jv l)
 | .obj l => .ifc j.ob (.slc .me l)
def Kd.dyn (j:JT) (k:Kd) (x:El k):DV El :=
 match k,x with
 | .jv,x=>Zc j x
 | .er,b=>if b=true then .ifc j.er .junk else .nili
 | _,_ => .nili
def Kd.und (j:JT) (k:Kd) (d:DV El):Option (El k) :=
 match k with
 | .jv=>match d with
  | .nili=>some .nil
  | .ifc t (.agg [])=>if t=j.nu then some .null else none
  | .ifc t (.bool b)=>if t=j.bo then some (.bool b) else none
  | .ifc t (.int .i64 n)=>if t=j.it then some (.int n) else none
  | .ifc t (.str s)=>if t=j.st then some (.str s) else none
  | .ifc t (.slc .jv l)=>if t=j.li then some (.list l) else none
  | .ifc t (.slc .me l)=>if t=j.ob then some (.obj l) else none
  | _=>none
 | _=>none
def Kd.asK (j:JT) (k:Kd) (t:TypeId):Option (AsD Kd) :=
 match k with
 | .jv=>if t=j.nu then some .unit else if t=j.bo then some .bool else if t=j.it then some .int else if t=j.st then some .str else if t=j.li then some (.slc .jv) else if t=j.ob then some (.slc .me) else none
 | _=>none
def JV.isNull:JV->Bool
 | .null=>true
 | _=>false
def JV.bool? : JV->Option Bool
 | .bool b=>some b
 | _=>none
def JV.int? : JV->Option Int
 | .int n=>some n
 | _=>none
def JV.Q6:JV->Option (List UInt8)
 | .str s=>some s
 | _=>none
def JV.Qs:JV->Option (List JV)
 | .list l=>some l
 | _=>none
def JV.N9:JV->Option (List (List UInt8×JV×Unit))
 | .obj l=>some l
 | _=>none
def Kd.gU (k:Kd) (x:El k):Bool :=
 match k,x with
 | .jv,x=>x.isNull
 | _,_=>false
def JV.isNil:JV->Bool
 | .nil=>true
 | _=>false
def Kd.gZ (k:Kd) (x:El k):Bool :=
 match k,x with
 | .jv,x=>x.isNil
 | .er,b => !b
 | _,_=>true
theorem Vj (j:JT) (k:Kd) (x:El k):(Kd.gZ k x=true->Kd.dyn j k x = .nili)/\(Kd.gZ k x=false -> ∃ t d,Kd.dyn j k x = .ifc t d):=by
 cases k
 case jv=>cases x <;> first | exact ⟨fun _=>rfl,fun h=>(by cases h)⟩ | exact ⟨fun h=>(by cases h),fun _=>⟨_,_,rfl⟩⟩
 case er=>cases x <;> first | exact ⟨fun _=>rfl,fun h=>(by cases h)⟩ | exact ⟨fun h=>(by cases h),fun _=>⟨_,_,rfl⟩⟩
 all_goals exact ⟨fun _=>rfl,fun h=>(by cases h)⟩
def Kd.gB (k:Kd) (x:El k):Option Bool :=
 match k,x with
 | .jv,x=>x.bool?
 | _,_=>none
def Kd.gI (k:Kd) (x:El k):Option Int :=
 match k,x with
 | .jv,x=>x.int?
 | _,_=>none
def Kd.gS (k:Kd) (x:El k):Option (List UInt8) :=
 match k,x with
 | .jv,x=>x.Q6
 | _,_=>none
def Kd.gL (k k':Kd) (x:El k):Option (List (El k')) :=
 match k,k',x with
 | .jv,.jv,x=>x.Qs
 | .jv,.me,x=>x.N9
 | _,_,_=>none
theorem Tg (j:JT) (k:Kd) (d:DV El) (x:El k) (h:Kd.und j k d=some x):Kd.dyn j k x=d:=by
 unfold Kd.und at h;split at h
 ·split at h <;> first | (cases h; done) | skip
  ·cases h; rfl
  all_goals
   split at h
   ·rename_i e
    cases h;subst e;rfl
   ·cases h
 ·cases h
theorem Wb (j:JT) (k:Kd) (t:TypeId) (a:AsD Kd) (h:Kd.asK j k t=some a) (x:El k):(∀ d,wL Kd.gU Kd.gB Kd.gI Kd.gS Kd.gL k a x=some d->Kd.dyn j k x = .ifc t d) /\
  (wL Kd.gU Kd.gB Kd.gI Kd.gS Kd.gL k a x=none->Kd.dyn j k x = .nili \/ ∃ t' d,Kd.dyn j k x = .ifc t' d/\t'≠t):=by
 have nd:=j.nd;simp only[List.nodup_cons,List.mem_cons,List.not_mem_nil,or_false,not_or,not_false_eq_true,List.nodup_nil,and_true] at nd;obtain ⟨⟨a1,a2,a3,a4,a5⟩,⟨b1,b2,b3,b4⟩,⟨c1,c2,c3⟩,⟨d1,d2⟩,e1⟩:=nd;unfold Kd.asK at h;split at h
 ·cases x <;> (repeat' split at h) <;> cases h <;> subst t <;>
   refine ⟨fun d hd => ?_,fun hd => ?_⟩ <;>
   first
    | (cases hd; done)
    | (cases hd; rfl)
    | exact .inl rfl
    | exact .inr ⟨_,_,rfl,by first | assumption | (apply Ne.symm; assumption)⟩
 ·cases h
def bg (kt:KT):Tab El where
 deq:=inferInstance
 kind:=kt.k
 gl:=kt.gl
 gb:=kt.gb
 gl_sz:=kt.gl_sz
 gl_ok:=kt.gl_ok
 dyn:=Kd.dyn kt.j
 und:=Kd.und kt.j
 asK:=Kd.asK kt.j
 gU:=Kd.gU
 gZ:=Kd.gZ
 gz_ok:=Vj kt.j
 gB:=Kd.gB
 gI:=Kd.gI
 gS:=Kd.gS
 gL:=Kd.gL
 dyn_pl:=by
  intro k x;cases k <;> first | rfl | (cases x <;> rfl)
 und_ok:=Tg kt.j
 as_ok:=Wb kt.j
 sz:=Kd.sz
 enc:=Kd.enc
 dec:=Kd.dec
 ofStr:=Kd.ofStr
 toStr:=Kd.toStr
 Er:=Kd.Er
 runes_ok:=by
  intro k s l h;cases k <;> simp only[Kd.Er] at h <;> cases h
  exact ⟨rfl,fun i h h'=>rfl⟩
 fk:=Kd.fk
 fk_ok:=by intro k x h; cases k <;> first | rfl | (cases h; done)
 enc_len:=by intro k x; cases k <;> rfl
 dec_ok:=by
  intro k cs x GR h;cases k <;> simp only[Kd.dec] at h <;> split at h <;> cases h <;> first | rfl | skip
  simp only[Kd.enc];rw[Tp (GR _ (adn ..))]
 ofStr_ok:=by
  intro k s l h;cases k <;> simp only[Kd.ofStr] at h <;> cases h
  exact ⟨rfl,fun i h h'=>rfl⟩
 toStr_ok:=by
  intro k s l h;cases k <;> simp only[Kd.toStr] at h <;> cases h
  exact ⟨rfl,fun i h h'=>rfl⟩
end Go.Vm
namespace Go.Vm
abbrev By:=List UInt8
abbrev Me:=List UInt8×JV×Unit
abbrev ltB (s t:By):Bool:=Go.Op.bytesLess s t
def GJ (m:Me):List Me->List Me
 | [] => [m]
 | x::l=>if ltB m.1 x.1 then m::x::l else x::GJ m l
def bt (l:List Me):List Me:=l.foldl (fun a m=>GJ m a) []
theorem uN:∀ a:By,ltB a a=false
 | []=>rfl
 | c::a=>by
  show (decide (c<c) || (c == c&&ltB a a))=false;rw[uN a];simp
theorem Hj (a b:UInt8) (s t:By):ltB (a::s) (b::t)=(decide (a<b) || (a == b&&ltB s t)):=rfl
theorem uE:∀ a b:By,ltB a b=false->ltB b a=false->a=b
 | [],[],_,_=>rfl
 | [],_ :: _,h,_=>by cases h
 | _ :: _,[],_,h=>by cases h
 | a::s,b::t,h,h'=>by
  rw[Hj] at h h';simp at h h';have e:a=b:=by
   have q1:=UInt8.le_iff_toNat_le.1 h.1;have q2:=UInt8.le_iff_toNat_le.1 h'.1;exact UInt8.toNat_inj.1 (by omega)
  subst e;rw[uE s t (h.2 rfl) (h'.2 rfl)]
theorem ot:∀ a b c:By,ltB a b=true->ltB b c=true->ltB a c=true
 | [],[],_,h,_=>by cases h
 | _ :: _,[],_,h,_=>by cases h
 | _,_ :: _,[],_,h=>by cases h
 | [],_ :: _,_ :: _,_,_=>rfl
 | a::s,b::t,c::u,h,h'=>by
  rw[Hj] at h h' ⊢
  simp at h h' ⊢
  rcases h with h | ⟨rfl,h⟩
  ·rcases h' with h' | ⟨rfl,h'⟩
   ·exact .inl (UInt8.lt_trans h h')
   ·exact .inl h
  ·rcases h' with h' | ⟨rfl,h'⟩
   ·exact .inl h'
   ·exact .inr ⟨rfl,ot s t u h h'⟩
theorem I0 (a b:By) (h:ltB a b=true):ltB b a=false:=by
 cases e:ltB b a with
 | false=>rfl
 | true=>have:=ot a b a h e; rw[uN] at this; cases this
abbrev Ris (l:List Me):Prop:=l.Pairwise fun m n=>ltB m.1 n.1=true
def Uni (l:List Me):Prop:=l.Pairwise fun m n=>m.1≠n.1
theorem TG {l:List Me} (h:Ris l):Uni l:=h.imp fun {m n} h=>by
 intro e;rw[e,uN] at h;cases h
theorem yw (m:Me):∀ l:List Me,(GJ m l).Perm (m::l)
 | [] => .refl _
 | x::l=>by
  unfold GJ;split
  ·exact .refl _
  ·exact ((yw m l).cons x).trans (.swap m x l)
theorem IG {m:Me}:∀ {l:List Me},Ris l->(∀ x∈l,x.1≠m.1)->Ris (GJ m l)
 | [],_,_=>List.pairwise_singleton _ _
 | x::l,h,hn=>by
  obtain ⟨h1,h2⟩:=List.pairwise_cons.1 h;unfold GJ;split
  ·rename_i aH
   refine List.pairwise_cons.2 ⟨fun y hy => ?_,h⟩;rcases List.mem_cons.1 hy with rfl | hy
   ·exact aH
   ·exact ot _ _ _ aH (h1 y hy)
  ·rename_i aH
   have hx:ltB x.1 m.1=true:=by
    cases e:ltB x.1 m.1 with
    | true=>rfl
    | false=>exact absurd (uE _ _ e (by simpa using aH)) (hn x (adn ..))
   refine List.pairwise_cons.2 ⟨fun y hy => ?_,IG h2 fun y hy=>hn y (adm _ hy)⟩;rcases List.mem_cons.1 ((yw m l).mem_iff.1 hy) with rfl | hy
   ·exact hx
   ·exact h1 y hy
theorem rJ (l:List Me) (m:Me):bt (l++[m])=GJ m (bt l):=by unfold bt; rw[List.foldl_append]; rfl
theorem pT {α:Type} {p:List α->Prop} (h0:p []) (h1:∀ l a,p l->p (l++[a])) (l:List α):p l:=by
 have:∀ n (l:List α),l.length=n->p l:=by
  intro n;induction n with
  | zero=>intro l hl; rw[List.length_eq_zero_iff.1 hl]; exact h0
  | succ n ih =>
   intro l hl;have iv:l ≠ []:=by intro e; rw[e] at hl; cases hl
   rw[<-List.dropLast_concat_getLast iv];exact h1 _ _ (ih _ (by simp; omega))
 exact this _ l rfl
theorem jl (l:List Me):(bt l).Perm l:=by
 induction l using pT with
 | h0=>exact .refl _
 | h1 l a ih =>
  rw[rJ];exact ((yw a _).trans (ih.cons a)).trans (List.perm_append_singleton a l).symm
theorem O5 {l l':List Me} (h:l.Perm l') (hu:Uni l):Uni l':=(h.pairwise_iff fun {a b} hh=>Ne.symm hh).1 hu
theorem yM (l:List Me) (h:Uni l):Ris (bt l):=by
 induction l using pT with
 | h0=>exact .nil
 | h1 l a ih =>
  have h':=List.pairwise_append.1 h;rw[rJ];exact IG (ih h'.1) fun x hx=>h'.2.2 x ((jl l).mem_iff.1 hx) a (adn ..)
theorem Qg:∀ {l l':List Me},Ris l->Ris l'->l.Perm l'->l=l'
 | [],l',_,_,hp=>(List.nil_perm.1 hp).symm
 | m::l,[],_,_,hp=>absurd hp.length_eq (by simp)
 | m::l,m'::l',h,h',hp=>by
  obtain ⟨h1,h2⟩:=List.pairwise_cons.1 h;obtain ⟨h3,h4⟩:=List.pairwise_cons.1 h';have e:m=m':=by
   have q1:=List.mem_cons.1 (hp.mem_iff.1 (adn (a:=m) (l:=l)));have q2:=List.mem_cons.1 (hp.symm.mem_iff.1 (adn (a:=m') (l:=l')));rcases q1 with q1 | q1
   ·exact q1
   rcases q2 with q2 | q2
   ·exact q2.symm
   have a:=h3 m q1;have b:=h1 m' q2;rw[I0 _ _ a] at b;cases b
  subst e;rw[Qg h2 h4 (List.perm_cons m |>.1 hp)]
theorem QS {l l':List Me} (hu:Uni l) (hr:Ris l') (hp:l'.Perm l):bt l=l':=Qg (yM l hu) hr ((jl l).trans hp.symm)
end Go.Vm
namespace Go.Vm
open Go.Lib
variable {P:Program}
structure GlW (P:Program) (gb:Nat) (tabs:List (String×IntKind×List Int)) (errs:List Nat) (more:World->Prop) (w:World):Prop where
 sz:gb<=w.heap.size
 tab:∀ x∈tabs,TabIs P w x.1 x.2.1 x.2.2
 err:∀ g∈errs,∃ te pe,w.cell? ⟨g,0,none⟩=some (.iface te pe)
 more:more w
theorem Og {w w':World} {n:String} {g:Nat} (hg:P.globalNamed n=some g) (h:w'.heap[g]? = w.heap[g]?):w'.var? P n=w.var? P n:=by unfold World.var?; rw[hg,ada,ada,h]
theorem oP {w w':World} {g o:Nat} (h:w'.heap[g]? = w.heap[g]?):w'.cell? ⟨g,o,none⟩=w.cell? ⟨g,o,none⟩:=by unfold World.cell?; rw[h]
theorem GlW.on {gb:Nat} {tabs:List (String×IntKind×List Int)} {errs:List Nat} {more:World->Prop} {w w':World} (ht:∀ x∈tabs,∃ g,P.globalNamed x.1=some g/\g<gb) (he:∀ g∈errs,g<gb)
  (hm:∀ w w':World,more w->(∀ b,b<gb->w'.heap[b]? = w.heap[b]?)->more w') (h:GlW P gb tabs errs more w) (hw:∀ b,b<gb->w'.heap[b]? = w.heap[b]?):GlW P gb tabs errs more w':=by
 refine ⟨?_,fun x hx => ?_,fun g hg => ?_,hm w w' h.more hw⟩
 ·rcases Nat.eq_zero_or_pos gb with h0 | h0
  ·omega
  ·have h1:=hw (gb-1) (by omega)
   have h2:=h.sz;rw[Array.getElem?_eq_getElem (by omega:gb-1<w.heap.size)] at h1;have:=(Array.getElem?_eq_some_iff.1 h1).1;omega
 ·obtain ⟨g,h1,h2⟩:=ht x hx
  have:=h.tab x hx;unfold TabIs at this ⊢
  rw[Og h1 (hw g h2)];exact this
 ·obtain ⟨te,pe,h1⟩:=h.err g hg
  exact ⟨te,pe,by rw[oP (hw g (he g hg))]; exact h1⟩
theorem FZ {w:World}:∀ {l:List (String×DataW Unit)} {ps:List MemPlace},DataW.LaidVars P w l ps -> ∀ {n:String} {d:DataW Unit},(n,d)∈l ->
  ∃ g t cs fuel p,P.globalNamed n=some g/\(P.globals[g]?).map (·.type)=some t/\w.var? P n=some cs/\DataW.trod (fun _=>()) P w 0 (fun _=>true) false fuel t cs.toList=some (d,p)
 | [],_,_,n,d,hm=>by cases hm
 | (n',d')::r,ps,h,n,d,hm=>by
  obtain ⟨g,t,cs,fuel,p,q,h1,h2,h3,h4,h5,_⟩:=h;rcases List.mem_cons.1 hm with e | hm
  ·injection e with e1 e2
   subst e1; subst e2;exact ⟨g,t,cs,fuel,p,h1,h2,h3,h4⟩
  ·exact FZ h5 hm
theorem IY {w:World} {l:List (String×DataW Unit)} (hm:laidMet P l w) {name:String} {k:IntKind} {zs:List Int} {d:DataW Unit} (GR:(name,d)∈l) (hd:d=tabData k zs) {g:Nat} {t e:TypeId} {n:Nat}
  (hg:P.globalNamed name=some g) (Z2:(P.globals[g]?).map (·.type)=some t) (ht:P.underlying t=some (.array n e)) (he:P.underlying e=some (.int k)) (XV:P.cellsOf e=1) (YV:P.cellsOf t=n):TabIs P w name k zs:=by
 obtain ⟨ps,hl,_⟩:=hm;obtain ⟨g',t',cs,fuel,p,Z3,Z4,WG,G2⟩:=FZ hl GR;obtain rfl:=Option.some.inj (hg.symm.trans Z3);obtain rfl:=Option.some.inj (Z2.symm.trans Z4);subst hd;unfold TabIs;rw[WG,<-cells_of_tab ht he XV YV G2]
theorem HH {w:World} {n:String} {g:Nat} {cs:Array Value} (hg:P.globalNamed n=some g) (h:w.var? P n=some cs) (o:Nat):w.cell? ⟨g,o,none⟩=cs[o]? /\ g<w.heap.size:=by
 unfold World.var? at h;rw[hg,ada] at h;split at h
 ·rename_i c e f hh
  cases h;refine ⟨by unfold World.cell?; rw[hh]; rfl,(Array.getElem?_eq_some_iff.1 hh).1⟩
 ·cases h
theorem zt {w:World} {l:List (String×DataW Unit)} (hm:laidMet P l w) {name nm:String} {d:DataW Unit} (GR:(name,.iface nm d)∈l) {g:Nat} {ti:TypeId} {ms:Array (String×TypeId)}
  (hg:P.globalNamed name=some g) (Z2:(P.globals[g]?).map (·.type)=some ti) (hi:P.underlying ti=some (.interface ms)):(∃ te pe,w.cell? ⟨g,0,none⟩=some (.iface te pe))/\g<w.heap.size:=by
 obtain ⟨ps,hl,_⟩:=hm;obtain ⟨g',t',cs,fuel,p,Z3,Z4,WG,G2⟩:=FZ hl GR;obtain rfl:=Option.some.inj (hg.symm.trans Z3);obtain rfl:=Option.some.inj (Z2.symm.trans Z4);obtain ⟨_,u,v,h1,_⟩:=iface_of_trod hi G2;obtain ⟨h2,h3⟩:=HH hg WG 0;refine ⟨⟨u,v,?_⟩,h3⟩;rw[h2,<-Array.getElem?_toList,h1];rfl
end Go.Vm
namespace Go.Vm
open Go.Lib Go.RowKit
variable {K:Type} {E:K->Type}
variable {T:Tab E} {P:Program}
theorem Ge {f:FuncId} {fn:Func} {vs:Array Value} {w:World} {R:Ending->World->Prop} (hf:P.funcs[f]? = some fn) (hb:fn.body.isSome=true) (iT:(fn.name == "runtime.NumGoroutine")=false)
  (h:Jy P f vs w R):Calls P f vs w R:=by
 rcases h with ⟨_,h⟩ | ⟨v,w',h,_⟩
 ·exact h
 ·rw[fA hf hb iT] at h
  cases h
theorem NB {s:Spec K} {M:tyS E s.params->Option (s.R E)} {f:FuncId} {fn:Func} (hc:Ctr T P f (ai T s M)) (hf:P.funcs[f]? = some fn) (hb:fn.body.isSome=true) (iT:(fn.name == "runtime.NumGoroutine")=false)
  {x:tyS E s.params} {r:s.R E} (hM:M x=some r) {ds:List (DV E)} (GV:E4 T s.params (yf s.params ds)=some x) (hr:ug T s r=⟨.bool true,[]⟩) {w:World} {vs:Array Value}
  (dD:ig (Own T w fun _=>True) ds vs.toList []) (Ad:T.gl w):Calls P f vs w fun e w'=>e = .returned (.bool true)/\Below w.heap.size w w':=by
 have Ou:(ai T s M ds)=⟨s.R E,M x,ug T s,s.flat T⟩:=by unfold ai; rw[GV]
 have h0:=hc ds;rw[Ou] at h0;have h1:=h0 r hM w vs (fun _=>True) [] dD List.nodup_nil (fun b hb=>by cases hb) Ad (fun b hb=>by cases hb);refine (Ge hf hb iT h1).mono ?_
 rintro e w' ⟨v,bl1,bl2,rfl,_,_,h4,_,h6,_⟩
 change zK T w' _ vs.toList (ug T s r).v v bl1 at h4;rw[hr] at h4;have hv:v = .bool true:=by
  have h5:Ans T w' _ vs.toList (.bool true:DV E) v bl1:=h4;cases h5 with
  | c h=>cases h with
   | sh hr hs=>cases hr; rfl
 exact ⟨by rw[hv],⟨h6.os,h6.tape,h6.output,h6.size,fun k hk=>h6.block k hk (by simp)⟩⟩
theorem Wa {w:World} {Y:Nat->Prop} {d:DV E} {v:Value} {ds:List (DV E)} {vs:List Value} (h:Rep T w Y d v) (hs:d.share=true) (t:ig (Own T w Y) ds vs []):ig (Own T w Y) (d::ds) (v::vs) [] :=
 .cons (b:=[]) (.c (.sh h hs)) t
theorem L8 {w:World} {Y:Nat->Prop} (k:IntKind) (n:Int) (h:iy k n=true):Rep T w Y (.int k n) (.int k n) := .int h
theorem wq {w:World} {Y:Nat->Prop} (s:ByteArray):Rep T w Y (.str s.data.toList:DV E) (.string s):=by
 have:s=⟨s.data.toList.toArray⟩:=by apply ByteArray.ext; simp
 exact this ▸ Rep.str s.data.toList
inductive nG (kt:KT) (w:World) (Y:Nat->Prop):List (DV El)->List Value->Prop
 | nil:nG kt w Y [] []
 | cons {d:DV El} {v:Value} {ds:List (DV El)} {vs:List Value} (h:Rep (bg kt) w Y d v) (hs:nG kt w Y ds vs):nG kt w Y (d::ds) (v::vs)
theorem nG.get {kt:KT} {w:World} {Y:Nat->Prop} {ds:List (DV El)} {vs:List Value} (h:nG kt w Y ds vs):ds.length=vs.length /\ ∀ i (hi:i<ds.length) (bq:i<vs.length),Rep (bg kt) w Y ds[i] vs[i]:=by
 induction h with
 | nil=>exact ⟨rfl,fun i hi=>by cases hi⟩
 | cons h hs ih =>
  refine ⟨by simp[ih.1],fun i hi bq => ?_⟩;cases i with
  | zero=>exact h
  | succ i=>exact ih.2 i (by simpa using hi) (by simpa using bq)
theorem S3 {kt:KT} {w:World} {Y:Nat->Prop} {ds:List (DV El)} {vs:List Value} (h:nG kt w Y ds vs):Rep (bg kt) w Y (.agg ds) (.agg vs.toArray) :=
 .agg (by simpa using h.get.1) fun i hi bq=>by simpa using h.get.2 i hi (by simpa using bq)
end Go.Vm
namespace Go.Vm
open Go.Lib Go.RowKit
section
variable {S:Value->Prop} {kt:KT} {H:Type} {enc:TypeId×Value->H} {P:Program} {w:World} {base:Nat} {sp:Nat->Bool} {held:Bool}
def PC (w:World):Value->Prop
 | .slice (some a) _ _=>a.spot=none/\a.block<w.heap.size
 | _=>True
theorem nG.append {kt:KT} {w:World} {Y:Nat->Prop}:∀ {ds:List (DV El)} {vs:List Value} {ds':List (DV El)} {vs':List Value},nG kt w Y ds vs->nG kt w Y ds' vs'->nG kt w Y (ds++ds') (vs++vs')
 | _,_,_,_,.nil,h'=>h'
 | _,_,_,_,.cons h hs,h' => .cons h (hs.append h')
def wH (S:Value->Prop) (kt:KT) (enc:TypeId×Value->H) (P:Program) (w:World) (base:Nat) (sp:Nat->Bool) (held:Bool) (t:TypeId) (ss:List (S0 Kd)):Prop :=
 ∀ fuel cs d,DataW.trod enc P w base sp held fuel t cs=some d->(∀ c∈cs,S c) -> ∃ x:tyL El ss,nG kt w (fun _=>True) (kO ss x) cs
theorem bA {t:TypeId} {k:IntKind} (ht:P.underlying t=some (.int k)) (hk:k ≠ .u8):wH S kt enc P w base sp held t [.int k]:=by
 intro fuel cs d h _;obtain ⟨n,rfl,_,_⟩:=DataW.trod_int ht h;refine ⟨(n,()),.cons (.int ?_) .nil⟩;cases k <;> first | rfl | exact absurd rfl hk
theorem JS {t:TypeId} (ht:P.underlying t=some .bool):wH S kt enc P w base sp held t [.bool]:=by
 intro fuel cs d h _;obtain ⟨n,rfl,_⟩:=DataW.trod_bool ht h;exact ⟨(n,()),.cons (.bool n) .nil⟩
theorem iU {t:TypeId} (ht:P.underlying t=some .string):wH S kt enc P w base sp held t [.str]:=by
 intro fuel cs d h _;obtain ⟨s,rfl,_⟩:=DataW.trod_string ht h;exact ⟨(s.data.toList,()),.cons (wq s) .nil⟩
def QK:(s:List (S0 Kd))->{s':List (S0 Kd)}->tyL El s->tyL El s'->tyL El (s++s')
 | [],_,_,y=>y
 | _::r,_,x,y=>(x.1,QK r x.2 y)
theorem DY:∀ (s:List (S0 Kd)) {s':List (S0 Kd)} (x:tyL El s) (y:tyL El s'),kO (s++s') (QK s x y)=kO s x++kO s' y
 | [],_,_,y=>rfl
 | a::r,_,x,y=>congrArg (a.abs x.1 :: ·) (DY r x.2 y)
inductive bj (S:Value->Prop) (kt:KT) (enc:TypeId×Value->H) (P:Program) (w:World) (base:Nat) (sp:Nat->Bool) (held:Bool):List Field->Nat->List (S0 Kd)->Prop
 | nil (off:Nat):bj S kt enc P w base sp held [] off []
 | cons {f:Field} {fs:List Field} {off:Nat} {s s':List (S0 Kd)} (ho:f.offset=off) (hc:P.cellsOf f.type=s.length) (h:wH S kt enc P w base sp held f.type s) (hs:bj S kt enc P w base sp held fs (off+s.length) s') :
   bj S kt enc P w base sp held (f::fs) off (s++s')
theorem KX {fs:List Field} {off:Nat} {ss:List (S0 Kd)} (h:bj S kt enc P w base sp held fs off ss):∀ (cs:List Value) (fuel:Nat) (xs:List (DataW H×List MemPlace)),(∀ c∈cs,S c)->cs.length=off+ss.length->xs.length=fs.length ->
  (∀ (i:Nat) (f:Field),fs[i]? = some f->DataW.trod enc P w base sp held fuel f.type ((cs.drop f.offset).take (P.cellsOf f.type))=xs[i]?) -> ∃ x:tyL El ss,nG kt w (fun _=>True) (kO ss x) (cs.drop off):=by
 induction h with
 | nil off =>
  intro cs fuel xs _ hl hx h;refine ⟨(),?_⟩;rw[List.drop_of_length_le (by simp at hl; omega)];exact .nil
 | @cons f fs off s s' ho hc h hs ih =>
  intro cs fuel xs T1 hl hx hf;cases xs with
  | nil=>simp at hx
  | cons x xs =>
   have h0:=hf 0 f rfl;rw[ho,hc] at h0;obtain ⟨x1,r1⟩:=h fuel _ x h0 (fun c Dt=>T1 c (List.mem_of_mem_drop (List.mem_of_mem_take Dt)));obtain ⟨x2,r2⟩:=ih cs fuel xs T1 (by rw[hl,adf]; omega) (by simpa using hx) (fun i g hg=>hf (i+1) g hg);refine ⟨QK s x1 x2,?_⟩;rw[DY];have e:cs.drop off=(cs.drop off).take s.length++cs.drop (off+s.length):=by
    rw[<-List.drop_drop,List.take_append_drop]
   rw[e];exact r1.append r2
theorem jC {t:TypeId} {fs:Array Field} {ss:List (S0 Kd)} (ht:P.underlying t=some (.struct fs)) (hc:P.cellsOf t=ss.length) (h:bj S kt enc P w base sp held fs.toList 0 ss):wH S kt enc P w base sp held t ss:=by
 intro fuel cs d hd T1;obtain ⟨xs,m,rfl,_,hl,TO,Yq⟩:=DataW.trod_struct ht hd;have:=KX h cs m xs T1 (by rw[hl,hc]; omega) (by simpa using TO) (fun i f hf=>Yq i f (by simpa using hf));simpa using this
theorem nG.len {ds:List (DV El)} {vs:List Value} {Y:Nat->Prop} (h:nG kt w Y ds vs):ds.length=vs.length:=h.get.1
theorem Ni:∀ (k:Kd) (x:El k) (c:Nat) (h:c<(Kd.enc k x).length),((Kd.enc k x)[c]).plain=true:=by
 intro k x c h;have:(Kd.enc k x).all DV.plain=true:=by cases k <;> rfl
 exact List.all_eq_true.1 this _ (List.getElem_mem h)
theorem HK {t e:TypeId} {ss:List (S0 Kd)} (k:Kd) (ht:P.underlying t=some (.slice e)) (hc:P.cellsOf e=ss.length) (hk:Kd.sz k=ss.length) (uB:0<ss.length) (h:wH S kt enc P w base sp held e ss)
  (mk:tyL El ss->El k) (hmk:∀ x,Kd.enc k (mk x)=kO ss x) (jT:∀ a v,w.cell? a=some v->S v) {S':Value->Prop}:wH S' kt enc P w base sp held t [.slc k]:=by
 intro fuel cs d hd T1;rcases DataW.trod_slice ht hd with ⟨rfl,_⟩ | ⟨a,len,cap,elems,rest,n,_,rfl,_,hb,hl,hm,hlen,Mm,_⟩
 ·exact ⟨([],()),.cons (.slcn k) .nil⟩
 rcases Nat.eq_zero_or_pos len with h0 | h0
 ·subst h0
  exact ⟨([],()),.cons (.slcz k a cap) .nil⟩
 have RR:a.spot=none/\a.block<w.heap.size:=by
  have h1:=Mm 0 h0;rw[adl (by omega),adk] at h1;obtain ⟨cs',h2,_⟩:=h1;obtain ⟨_,Oq,Xf⟩:=World.cells?_some h2;rw[hc] at Oq Xf;have h3:=Xf 0 uB;rw[adl (by omega)] at h3;rw[show (a.add (0*ss.length)).add 0=a by simp[Addr.add]] at h3;refine ⟨World.cell?_spot h3,?_⟩;rcases Nat.lt_or_ge a.block w.heap.size with h' | h'
  ·exact h'
  ·simp[World.cell?,Array.getElem?_eq_none h'] at h3
 obtain ⟨Aw,RW⟩:=RR;obtain ⟨b,off,spot⟩:=a;simp only at Aw RW;subst Aw;have add_eq:∀ j,(⟨b,off,none⟩:Addr).add j=⟨b,off+j,none⟩:=by
  intro j;unfold Addr.add;split
  ·rename_i h0; subst h0; rfl
  ·rfl
 have each:∀ i,i<len -> ∃ x:tyL El ss,∀ c (dh:c<(kO ss x).length),∃ v,w.cell? ⟨b,off+(i*ss.length+c),none⟩=some v/\Rep (bg kt) w (fun _=>True) ((kO ss x)[c]) v:=by
  intro i hi;have h1:=Mm i hi;rw[adl (by omega),adk] at h1;obtain ⟨cs',h2,h3⟩:=h1;obtain ⟨_,Oq,Xf⟩:=World.cells?_some h2;rw[hc] at Oq Xf;have Z5:∀ c∈cs',S c:=by
   intro c Dt;obtain ⟨j,hj,rfl⟩:=List.getElem_of_mem Dt;have:=Xf j (by omega);rw[adl hj] at this;exact jT _ _ this
  obtain ⟨x,rx⟩:=h n cs' _ h3 Z5;refine ⟨x,fun c dh => ?_⟩;have Yr:=rx.len;have YW:c<cs'.length:=by omega
  have:=Xf c (by omega);rw[adl YW,add_eq] at this;refine ⟨cs'[c],?_,rx.get.2 c dh YW⟩;rw[<-this];unfold Addr.add;split
  ·rename_i h0; subst h0; rfl
  ·simp only[Nat.add_assoc]
 have hex:∀ i:Fin len,∃ y:El k,∀ c (dh:c<(Kd.enc k y).length),∃ v,w.cell? ⟨b,off+(i.val*ss.length+c),none⟩=some v/\Rep (bg kt) w (fun _=>True) ((Kd.enc k y)[c]) v:=by
  intro i;obtain ⟨x,hx⟩:=each i.val i.isLt;refine ⟨mk x,fun c dh => ?_⟩;have e:=hmk x;obtain ⟨v,hv,hr⟩:=hx c (by rw[<-e]; exact dh);refine ⟨v,hv,?_⟩;have:(Kd.enc k (mk x))[c]=(kO ss x)[c]'(by rw[<-e]; exact dh):=by simp only[e]
  rw[this];exact hr
 let g:Fin len->El k:=fun i=>Classical.choose (hex i)
 have hg:∀ i:Fin len,∀ c (dh:c<(Kd.enc k (g i)).length),∃ v,w.cell? ⟨b,off+(i.val*ss.length+c),none⟩=some v/\Rep (bg kt) w (fun _=>True) ((Kd.enc k (g i))[c]) v:=fun i=>Classical.choose_spec (hex i)
 clear_value g
 have Ae:(List.ofFn g).length=len:=List.length_ofFn;have nf:(bg kt).sz k=ss.length:=hk;have Mm:∀ (y:El k),(Kd.enc k y).length=ss.length:=fun y=>((bg kt).enc_len k y).trans hk
 refine ⟨(List.ofFn g,()),.cons ?_ .nil⟩;have key:=Rep.slc (T:=bg kt) (w:=w) (X:=fun _=>True) (k:=k) (l:=List.ofFn g) (b:=b) (off:=off) cap (fun j=>(w.cell? ⟨b,off+j,none⟩).getD undef) (by rw[Ae]; exact hl) (fun _=>⟨trivial,RW⟩)
  (fun j hj=>by
   rw[Ae,nf] at hj;have hi:j / ss.length<len:=(Nat.div_lt_iff_lt_mul uB).2 hj;obtain ⟨v,hv,_⟩:=hg ⟨j / ss.length,hi⟩ (j % ss.length) (by rw[Mm]; exact Nat.mod_lt _ uB);have e:j / ss.length*ss.length+j % ss.length=j:=by rw[Nat.mul_comm]; exact Nat.div_add_mod j ss.length
   simp only[e] at hv;rw[hv];rfl)
  (fun i hi c dh=>by
   rw[Ae] at hi;have e:(List.ofFn g)[i]'(by rw[Ae]; exact hi)=g ⟨i,hi⟩:=by simp
   have I2:c<(Kd.enc k ((List.ofFn g)[i]'(by rw[Ae]; exact hi))).length:=dh;rw[e] at I2;obtain ⟨v,hv,hr⟩:=hg ⟨i,hi⟩ c I2;have e2:((bg kt).enc k ((List.ofFn g)[i]'(by rw[Ae]; exact hi)))[c]'dh=(Kd.enc k (g ⟨i,hi⟩))[c]'I2:=by
    show (Kd.enc k _)[c]'_ = _;simp only[e]
   rw[e2,nf];simp only at hv;rw[hv];exact hr)
  (fun i hi c dh=>Ni k _ c dh)
 rw[Ae] at key;exact key
theorem oW {r:Reach} {u:TypeId} {v:Value} (h:Cell.okWide P w r base u v):PC w v:=by
 cases v with
 | slice a l c =>
  cases a with
  | none=>trivial
  | some a =>
   unfold Cell.okWide at h;split at h
   any_goals (rename_i hv; cases hv; done)
   all_goals try (rename_i h1 h2; cases h2; done)
   unfold Cell.ok at h;split at h
   all_goals first | (exact h.elim; done) | skip
   all_goals first | (rename_i h1 h2; cases h2; done) | skip
   rename_i e a' len cap h1 h2;cases h2;obtain ⟨_,_,_,h3,row,cells,h4,_⟩:=h;refine ⟨h3,?_⟩;rcases Nat.lt_or_ge a.block w.heap.size with h' | h'
   ·exact h'
   ·simp[World.shape?,Array.getElem?_eq_none h'] at h4
 | _=>trivial
theorem zW {r:Reach} {t:TypeId} {v:Value} (h:Value.okWide P w r base t v):∀ c∈v.cells.toList,PC w c:=by
 intro c hc;have one:Cell.okWide P w r base t v->(∀ vs,v ≠ .agg vs)->PC w c:=by
  intro h1 h2;have:v.cells = #[v]:=by cases v <;> first | rfl | exact absurd rfl (h2 _)
  rw[this] at hc;simp at hc;subst hc;exact oW h1
 unfold Value.okWide at h;split at h
 ·obtain ⟨cs,rfl,_,ts,_,_,uz⟩:=h
  obtain ⟨i,hi,rfl⟩:=List.getElem_of_mem hc;have bq:i<cs.size:=by simpa[Value.cells] using hi
  obtain ⟨u,_,hu⟩:=uz i cs[i] (Array.getElem?_eq_getElem bq);exact oW hu
 ·obtain ⟨cs,rfl,_,ts,_,_,uz⟩:=h
  obtain ⟨i,hi,rfl⟩:=List.getElem_of_mem hc;have bq:i<cs.size:=by simpa[Value.cells] using hi
  obtain ⟨u,_,hu⟩:=uz i cs[i] (Array.getElem?_eq_getElem bq);exact oW hu
 ·rename_i n1 n2
  refine one h fun vs e => ?_
  subst e;unfold Cell.okWide Cell.ok at h
  revert h
  cases hu:P.underlying t with
  | none=>simp
  | some d=>cases d <;> simp_all
theorem Qi {r:Reach} {base':Nat} {t:TypeId} {v:Value} {d:DataW H} {ps:List MemPlace} {ss:List (S0 Kd)} (o9:wH (PC w) kt enc P w base sp held t ss) (hv:Value.okWide P w r base' t v) (h:DataW.Trod enc P w base sp held t v d ps) :
  ∃ x:tyL El ss,nG kt w (fun _=>True) (kO ss x) v.cells.toList:=by
 obtain ⟨fuel,hf⟩:=h;exact o9 fuel _ _ hf (zW hv)
theorem PG {Y:Nat->Prop} {ds:List (DV El)} {cs:Array Value} (h:nG kt w Y ds cs.toList):Rep (bg kt) w Y (.agg ds) (.agg cs):=by
 have:=S3 h;simpa using this
end
end Go.Vm
