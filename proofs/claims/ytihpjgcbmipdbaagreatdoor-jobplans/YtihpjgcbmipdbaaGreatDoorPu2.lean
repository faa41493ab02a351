import Derived.Lib.MapLaws
import Derived.Test.YtihpjgcbmipdbaaGreatDoorFref5
set_option linter.unusedVariables false
set_option linter.unusedSimpArgs false
namespace Go.Vm
open Go
theorem Vz {α:Type} (s:List α) (a b:Nat) (h:a<=b) (h':b<=s.length):sub s (a:Int) (b:Int)=some ((s.drop a).take (b-a)):=by
 unfold sub;rw[if_pos (by omega)];simp
theorem vW {α:Type} (l:List α) (i:Nat) (n:Int) (hn:n=(i:Int)) (h:i<l.length):idx l n=some l[i]:=by
 subst hn;unfold idx;rw[if_pos (by omega)];simp[h]
theorem gw (i:Nat) (h:i<9000000000000000):IntKind.i64.wrap ((i:Int)+1)=((i+1:Nat):Int):=by rw[wrap64] <;> omega
end Go.Vm
namespace Go.Vm
open Go.Lib (decodeL decodeN decodeL_N decode_N decodeN_shape decodeL_le)
theorem bH (l:B8):1<=(decodeL l).2:=by
 rw[decodeL_N];rcases decodeN_shape l.length (l.getD 0 0).toNat (l.getD 1 0).toNat (l.getD 2 0).toNat (l.getD 3 0).toNat with ⟨_,e⟩ | ⟨_,_,_,_,e⟩ | ⟨_,_,_,_,_,_,e⟩ | ⟨_,_,_,_,_,_,_,e⟩ | e <;> rw[e] <;> simp
theorem NQ (s:B8) (i k:Nat):(s.drop i).getD k 0=s.getD (i+k) 0:=by simp[List.getD]
theorem P5 (s:B8) (i:Nat):Utf8.decode ⟨s.toArray⟩ i=decodeL (s.drop i):=by
 rw[decode_N,decodeL_N];simp only[List.length_drop,NQ,Nat.add_zero]
theorem jI (s:B8) (i:Nat):cT s i=((decodeL (s.drop i)).1:Int):=by unfold cT; rw[P5]; rfl
theorem gu (s:B8) (i:Nat):runeLen s i=(decodeL (s.drop i)).2:=by unfold runeLen; rw[P5]
def bF (l:B8):List (Int×B8) :=
 if h:l=[] then [] else (((decodeL l).1:Int),l.take (decodeL l).2)::bF (l.drop (decodeL l).2)
termination_by l.length
decreasing_by
 have:=bH l;have:0<l.length:=List.length_pos_iff.2 h;simp only[List.length_drop];omega
theorem fu:bF []=[]:=by rw[bF]; simp
theorem hQ {l:B8} (h:l ≠ []):bF l=(((decodeL l).1:Int),l.take (decodeL l).2)::bF (l.drop (decodeL l).2):=by
 conv=>lhs; rw[bF]
 simp[h]
theorem DX {p:B8->Prop} (h0:p []) (h1:∀ l,l ≠ []->p (l.drop (decodeL l).2)->p l) (l:B8):p l:=by
 have:∀ n (l:B8),l.length<=n->p l:=by
  intro n;induction n with
  | zero=>intro l hl; rw[List.length_eq_zero_iff.1 (by omega:l.length=0)]; exact h0
  | succ n ih =>
   intro l hl;by_cases hn:l=[]
   ·rw[hn]; exact h0
   ·refine h1 l hn (ih _ ?_)
    have:=bH l;have:0<l.length:=List.length_pos_iff.2 hn;simp only[List.length_drop];omega
 exact this l.length l (Nat.le_refl _)
theorem ql (l:B8):(bF l).length<=l.length:=by
 induction l using DX with
 | h0=>rw[fu]; simp
 | h1 l hn ih =>
  rw[hQ hn];have:=bH l;have:0<l.length:=List.length_pos_iff.2 hn;simp only[List.length_drop,adb] at ih ⊢
  omega
theorem uF (l:B8) (k:Nat):idx l (k:Int)=if k<l.length then some (l.getD k 0) else none:=by
 unfold idx;rw[if_pos (by omega)];split
 ·rename_i h; simp[h]
 ·rename_i h; simp; omega
theorem dY {α β γ:Type} (c:Prop) [Decidable c] (s t:α ⊕ β) (f:α->γ) (g:β->γ):dq (if c then s else t) f g=if c then dq s f g else dq t f g:=by split <;> rfl
theorem aA {α β γ:Type} (a:α) (f:α->γ) (g:β->γ):dq (.inl a) f g=f a:=rfl
theorem bd {α β γ:Type} (b:β) (f:α->γ) (g:β->γ):dq (.inr b) f g=g b:=rfl
theorem jM {α:Type} (s:List α) (a b:Nat) (h:a<=b) (h':b<=s.length):sub s (a:Int) (b:Int)=some ((s.drop a).take (b-a)):=by
 unfold sub;rw[if_pos (by omega)];simp
theorem hZ {α:Type} (s:List α) (a:Nat) (h:a<=s.length):sub s (a:Int) (s.length:Int)=some (s.drop a):=by
 rw[jM s a s.length h (Nat.le_refl _),List.take_of_length_le (by simp)]
def ats (p:Nat):List (Int×B8)->List Int
 | [] => []
 | x::t=>(p:Int)::ats (p+x.2.length) t
theorem oe {s:B8} {p:Nat} (h:p<s.length):s.drop p ≠ []:=by
 intro e;have:=congrArg List.length e;simp at this;omega
theorem qE (s:B8) (p:Nat):(s.drop p).drop (decodeL (s.drop p)).2=s.drop (p+(decodeL (s.drop p)).2):=by rw[List.drop_drop]
theorem PD {s:B8} {p:Nat} (h:p<s.length):((s.drop p).take (decodeL (s.drop p)).2).length=(decodeL (s.drop p)).2:=by
 have:=decodeL_le (s.drop p) (oe h);simp only[List.length_take];omega
theorem uK {s:B8} {p:Nat} (h:p<s.length):p+(decodeL (s.drop p)).2<=s.length:=by
 have:=decodeL_le (s.drop p) (oe h);simp only[List.length_drop] at this;omega
theorem Us {α:Type} (l:List α) (k:Nat) (x:α) (h:l[k]? = some x):idx l (k:Int)=some x:=by
 unfold idx;rw[if_pos (by omega),Int.toNat_natCast,h]
def okR (c:Nat):Prop:=c<=1114111/\(c<55296\/57343<c)
def bR (c:Nat):B8:=if c<128 then [UInt8.ofNat c] else if c<2048 then [UInt8.ofNat (192+c / 64),UInt8.ofNat (128+c % 64)] else if c<65536 then [UInt8.ofNat (224+c / 4096),UInt8.ofNat (128+c / 64 % 64),UInt8.ofNat (128+c % 64)] else [UInt8.ofNat (240+c / 262144),UInt8.ofNat (128+c / 4096 % 64),UInt8.ofNat (128+c / 64 % 64),UInt8.ofNat (128+c % 64)]
def Vv (c:Nat):ByteArray:=if c<0x80 then ⟨#[UInt8.ofNat c]⟩
 else if c<0x800 then ⟨#[UInt8.ofNat (0xC0+c / 64),UInt8.ofNat (0x80+c % 64)]⟩
 else if c<0x10000 then ⟨#[UInt8.ofNat (0xE0+c / 4096),UInt8.ofNat (0x80+c / 64 % 64),UInt8.ofNat (0x80+c % 64)]⟩
 else ⟨#[UInt8.ofNat (0xF0+c / 262144),UInt8.ofNat (0x80+c / 4096 % 64),UInt8.ofNat (0x80+c / 64 % 64),UInt8.ofNat (0x80+c % 64)]⟩
theorem Xq (r:Int):Utf8.encode r=Vv (if Utf8.valid r=true then r.toNat else Utf8.runeError):=rfl
theorem B_N (c:Nat):(Vv c).data.toList=bR c:=by
 unfold Vv bR;split
 ·rfl
 split
 ·rfl
 split
 ·rfl
 ·rfl
theorem e1 (n:Int):ru n=(Utf8.encode n).data.toList:=by unfold ru; rfl
theorem e3 (n:Int):ru n=bR (if Utf8.valid n=true then n.toNat else Utf8.runeError):=(e1 n).trans ((congrArg (fun b:ByteArray=>b.data.toList) (Xq n)).trans (B_N _))
theorem e2 (n:Int) (c:Nat) (hn:n=(c:Int)) (hv:Utf8.valid n=true):(if Utf8.valid n=true then n.toNat else Utf8.runeError)=c:=by rw[if_pos hv]; omega
theorem Vd (n:Int) (c:Nat) (hn:n=(c:Int)) (hv:Utf8.valid n=true):ru n=bR c:=by rw[e3,e2 n c hn hv]
theorem Q2 (n:Int) (c:Nat) (hn:n=(c:Int)) (h:okR c):Utf8.valid n=true:=by
 obtain ⟨h1,h2⟩:=h;unfold Utf8.valid;rcases h2 with h2 | h2
 ·have a:(0:Int)<=n:=by omega
  have b:n<0xD800:=by omega
  simp only[a,b,decide_true,Bool.and_true,Bool.true_or]
 ·have a:(0xE000:Int)<=n:=by omega
  have b:n<=0x10FFFF:=by omega
  simp only[a,b,decide_true,Bool.and_true,Bool.or_true]
theorem k6 (c:Nat) (h:okR c):ru (c:Int)=bR c:=Vd _ c rfl (Q2 _ c rfl h)
theorem kY (n:Int) (h:0<=n) (h':n<=255):IntKind.u8.wrap n=n:=by
 have hb:IntKind.u8.bits=8:=rfl;have hs:IntKind.u8.signed=false:=rfl;unfold IntKind.wrap;simp only[hb,hs];simp;omega
theorem JM (n:Int) (h:0<=n):IntKind.u8.wrap n=n % 256:=by
 have hb:IntKind.u8.bits=8:=rfl;have hs:IntKind.u8.signed=false:=rfl;unfold IntKind.wrap;simp only[hb,hs];simp
theorem SD (n:Int) (h:0<=n) (h':n<=4294967295):IntKind.u32.wrap n=n:=by
 have hb:IntKind.u32.bits=32:=rfl;have hs:IntKind.u32.signed=false:=rfl;unfold IntKind.wrap;simp only[hb,hs];simp;omega
theorem pG (l:B8):okR (decodeL l).1:=by
 unfold okR;rw[decodeL_N];rcases decodeN_shape l.length (l.getD 0 0).toNat (l.getD 1 0).toNat (l.getD 2 0).toNat (l.getD 3 0).toNat with ⟨p,e⟩ | ⟨_,_,_,_,e⟩ | ⟨_,_,_,_,_,_,e⟩ | ⟨_,_,_,_,_,_,_,e⟩ | e <;> rw[e] <;> simp only <;> omega
theorem U8:∀ k:Fin 32,ior .u8 192 ((k.val:Nat):Int)=((192+k.val:Nat):Int):=by decide
theorem V1:∀ k:Fin 16,ior .u8 224 ((k.val:Nat):Int)=((224+k.val:Nat):Int):=by decide
theorem V8:∀ k:Fin 8,ior .u8 240 ((k.val:Nat):Int)=((240+k.val:Nat):Int):=by decide
theorem V6:∀ k:Fin 64,ior .u8 128 ((k.val:Nat):Int)=((128+k.val:Nat):Int):=by decide
theorem U5:∀ k:Fin 256,pX .u8 ((k.val:Nat):Int) 63=((k.val % 64:Nat):Int):=by decide +kernel
theorem XO (k:Nat) (h:k<32):ior .u8 192 (k:Int)=((192+k:Nat):Int):=U8 ⟨k,h⟩
theorem XF (k:Nat) (h:k<16):ior .u8 224 (k:Int)=((224+k:Nat):Int):=V1 ⟨k,h⟩
theorem Xo (k:Nat) (h:k<8):ior .u8 240 (k:Int)=((240+k:Nat):Int):=V8 ⟨k,h⟩
theorem XB (k:Nat) (h:k<64):ior .u8 128 (k:Int)=((128+k:Nat):Int):=V6 ⟨k,h⟩
theorem TA (d:Nat):ior .u8 128 (pX .u8 (IntKind.u8.wrap (d:Int)) 63)=((128+d % 64:Nat):Int):=by
 rw[JM _ (by omega),show (d:Int) % 256=((d % 256:Nat):Int) by omega,show pX .u8 ((d % 256:Nat):Int) 63=((d % 256 % 64:Nat):Int) from U5 ⟨d % 256,by omega⟩,XB _ (by omega)];congr 2;omega
theorem F6 (c:Nat) (j:Nat) (hj:j<=32):shr .i32 (c:Int) (j:Int)=((c / 2 ^ j:Nat):Int):=by
 have hb:IntKind.i32.bits=32:=rfl;unfold shr;rw[hb,Int.toNat_natCast,Nat.min_eq_left hj,Int.fdiv_eq_ediv_of_nonneg _ (Int.pow_nonneg (by decide)),Int.natCast_ediv,Int.natCast_pow];rfl
theorem qs (c:Nat):(bR c).length<=4:=by unfold bR; repeat' split
                                        all_goals simp
end Go.Vm
namespace Go.Vm
open Go.Lib (decodeL decodeN decodeL_N decode_N decodeN_shape decodeL_le)
theorem E9 (F:Nat) (l:B8) (k:Nat):bG F (l,(k:Int))=some (decide (k<l.length/\128<=(l.getD k 0).toNat/\(l.getD k 0).toNat<192)):=by
 unfold bG;simp only[uF];by_cases h:k<l.length
 ·have h':(k:Int)<(l.length:Int):=by omega
  simp only[uF,h,h',decide_true,if_true,ada,true_and,cK,cL,ite_self,Bool.if_false_right];rw[Option.some.injEq,Bool.eq_iff_iff];simp;omega
 ·have h':¬ (k:Int)<(l.length:Int):=by omega
  simp[h,h']
set_option maxHeartbeats 1000000 in
theorem Hm (F:Nat) (l:B8) (hn:l ≠ []):eM F l=some (((decodeL l).1:Int),((decodeL l).2:Int)):=by
 have h0:0<l.length:=List.length_pos_iff.2 hn;have k0:=(l.getD 0 0).toNat_lt;have k1:=(l.getD 1 0).toNat_lt;have k2:=(l.getD 2 0).toNat_lt;have k3:=(l.getD 3 0).toNat_lt;have t1:=E9 F l 1;have t2:=E9 F l 2;have t3:=E9 F l 3;have i0:=uF l 0;have i1:=uF l 1;have i2:=uF l 2;have i3:=uF l 3;simp only[Int.cast_ofNat_Int] at t1 t2 t3 i0 i1 i2 i3;rw[decodeL_N];unfold eM;generalize ym:l.getD 0 0=c0 at *
 generalize Mh:l.getD 1 0=c1 at *
 generalize Dq:l.getD 2 0=c2 at *
 generalize RQ:l.getD 3 0=c3 at *
 clear ym Mh Dq RQ;simp only[i0,if_pos h0,ada];simp (disch:=omega) only[wrap64];rcases decodeN_shape l.length c0.toNat c1.toNat c2.toNat c3.toNat with ⟨p1,e⟩ | ⟨p1,p2,p3,p4,e⟩ | ⟨p1,p2,p3,p4,p5,p6,e⟩ | ⟨p1,p2,p3,p4,p5,p6,p7,e⟩ | e
 ·rw[e]
  have q1:(c0.toNat:Int)<128:=by omega
  simp only[t1,t2,t3,cK,cL,ite_self,ada,Option.bind_none,Bool.if_false_right,Bool.if_false_left,dY,aA,bd,decide_true,decide_false,if_true,if_false,Bool.and_true,Bool.true_and,Bool.and_false,Bool.false_and,ade,true_and,and_true,false_and,and_false,ac9,q1];rfl
 ·rw[e]
  have q1:¬ (c0.toNat:Int)<128:=by omega
  have q2:(194:Int)<=(c0.toNat:Int):=by omega
  have q3:(c0.toNat:Int)<224:=by omega
  have q4:128<=c1.toNat:=by omega
  have q5:c1.toNat<192:=by omega
  simp only[t1,t2,t3,cK,cL,ite_self,ada,Option.bind_none,Bool.if_false_right,Bool.if_false_left,dY,aA,bd,decide_true,decide_false,if_true,if_false,Bool.and_true,Bool.true_and,Bool.and_false,Bool.false_and,ade,true_and,and_true,false_and,and_false,ac9,q1,q2,q3,q4,q5,p2,i1];simp (disch:=omega) only[wrap64];simp only[Option.some.injEq,Prod.mk.injEq];omega
 ·rw[e]
  have q1:¬ (c0.toNat:Int)<128:=by omega
  have q2:(194:Int)<=(c0.toNat:Int):=by omega
  have q3:¬ (c0.toNat:Int)<224:=by omega
  have q6:(224:Int)<=(c0.toNat:Int):=by omega
  have q7:(c0.toNat:Int)<240:=by omega
  have q4:128<=c1.toNat:=by omega
  have q5:c1.toNat<192:=by omega
  have q8:128<=c2.toNat:=by omega
  have q9:c2.toNat<192:=by omega
  have q0:1<l.length:=by omega
  simp only[t1,t2,t3,cK,cL,ite_self,ada,Option.bind_none,Bool.if_false_right,Bool.if_false_left,dY,aA,bd,decide_true,decide_false,if_true,if_false,Bool.and_true,Bool.true_and,Bool.and_false,Bool.false_and,ade,true_and,and_true,false_and,and_false,ac9,q1,q2,q3,q4,q5,q6,q7,q8,q9,q0,p2,i1,i2];simp (disch:=omega) only[wrap64];have r1:(2048:Int)<=((c0.toNat:Int)-224)*4096+((c1.toNat:Int)-128)*64+(c2.toNat:Int)-128:=by omega
  by_cases r2:((c0.toNat:Int)-224)*4096+((c1.toNat:Int)-128)*64+(c2.toNat:Int)-128<55296
  ·simp only[t1,t2,t3,cK,cL,ite_self,ada,Option.bind_none,Bool.if_false_right,Bool.if_false_left,dY,aA,bd,decide_true,decide_false,if_true,if_false,Bool.and_true,Bool.true_and,Bool.and_false,Bool.false_and,ade,true_and,and_true,false_and,and_false,ac9,r1,r2,Bool.true_eq_false]
   simp only[Option.some.injEq,Prod.mk.injEq];omega
  ·have r3:(57343:Int)<((c0.toNat:Int)-224)*4096+((c1.toNat:Int)-128)*64+(c2.toNat:Int)-128:=by omega
   simp only[t1,t2,t3,cK,cL,ite_self,ada,Option.bind_none,Bool.if_false_right,Bool.if_false_left,dY,aA,bd,decide_true,decide_false,if_true,if_false,Bool.and_true,Bool.true_and,Bool.and_false,Bool.false_and,ade,true_and,and_true,false_and,and_false,ac9,r1,r2,r3];simp only[Option.some.injEq,Prod.mk.injEq];omega
 ·rw[e]
  have q1:¬ (c0.toNat:Int)<128:=by omega
  have q2:(194:Int)<=(c0.toNat:Int):=by omega
  have q3:¬ (c0.toNat:Int)<224:=by omega
  have q6:(224:Int)<=(c0.toNat:Int):=by omega
  have q7:¬ (c0.toNat:Int)<240:=by omega
  have qa:(240:Int)<=(c0.toNat:Int):=by omega
  have qb:(c0.toNat:Int)<245:=by omega
  have q4:128<=c1.toNat:=by omega
  have q5:c1.toNat<192:=by omega
  have q8:128<=c2.toNat:=by omega
  have q9:c2.toNat<192:=by omega
  have qc:128<=c3.toNat:=by omega
  have qd:c3.toNat<192:=by omega
  have q0:1<l.length:=by omega
  have qe:2<l.length:=by omega
  simp only[t1,t2,t3,cK,cL,ite_self,ada,Option.bind_none,Bool.if_false_right,Bool.if_false_left,dY,aA,bd,decide_true,decide_false,if_true,if_false,Bool.and_true,Bool.true_and,Bool.and_false,Bool.false_and,ade,true_and,and_true,false_and,and_false,ac9,q1,q2,q3,q4,q5,q6,q7,q8,q9,q0,qa,qb,qc,qd,qe,p2,i1,i2,i3];simp (disch:=omega) only[wrap64];have r1:(65536:Int)<=((c0.toNat:Int)-240)*262144+((c1.toNat:Int)-128)*4096+((c2.toNat:Int)-128)*64+(c3.toNat:Int)-128:=by omega
  have r2:((c0.toNat:Int)-240)*262144+((c1.toNat:Int)-128)*4096+((c2.toNat:Int)-128)*64+(c3.toNat:Int)-128<=1114111:=by omega
  simp only[t1,t2,t3,cK,cL,ite_self,ada,Option.bind_none,Bool.if_false_right,Bool.if_false_left,dY,aA,bd,decide_true,decide_false,if_true,if_false,Bool.and_true,Bool.true_and,Bool.and_false,Bool.false_and,ade,true_and,and_true,false_and,and_false,ac9,r1,r2];simp only[Option.some.injEq,Prod.mk.injEq];omega
 ·rw[e]
  have q1:¬ (c0.toNat:Int)<128:=by
   intro h;unfold decodeN at e;rw[if_pos (by omega)] at e;simp only[Prod.mk.injEq] at e;omega
  have hb:¬ (194<=c0.toNat/\c0.toNat<224/\1<l.length/\128<=c1.toNat/\c1.toNat<192):=by
   intro h;unfold decodeN at e;rw[if_neg (by omega),if_pos (by omega),if_pos (by omega)] at e;simp only[Prod.mk.injEq] at e;omega
  have hc:¬ (224<=c0.toNat/\c0.toNat<240/\1<l.length/\128<=c1.toNat/\c1.toNat<192/\2<l.length/\128<=c2.toNat/\c2.toNat<192 /\
    2048<=((c0.toNat:Int)-224)*4096+((c1.toNat:Int)-128)*64+(c2.toNat:Int)-128/\(((c0.toNat:Int)-224)*4096+((c1.toNat:Int)-128)*64+(c2.toNat:Int)-128<55296\/57343<((c0.toNat:Int)-224)*4096+((c1.toNat:Int)-128)*64+(c2.toNat:Int)-128)):=by
   intro h;unfold decodeN at e;rw[if_neg (by omega),if_neg (by omega),if_pos (by omega),if_pos (by omega)] at e;simp only[Prod.mk.injEq] at e;omega
  have hd:¬ (240<=c0.toNat/\c0.toNat<245/\1<l.length/\128<=c1.toNat/\c1.toNat<192/\2<l.length/\128<=c2.toNat/\c2.toNat<192/\3<l.length/\128<=c3.toNat/\c3.toNat<192 /\
    65536<=((c0.toNat:Int)-240)*262144+((c1.toNat:Int)-128)*4096+((c2.toNat:Int)-128)*64+(c3.toNat:Int)-128/\((c0.toNat:Int)-240)*262144+((c1.toNat:Int)-128)*4096+((c2.toNat:Int)-128)*64+(c3.toNat:Int)-128<=1114111):=by
   intro h;unfold decodeN at e;rw[if_neg (by omega),if_neg (by omega),if_neg (by omega),if_pos (by omega),if_pos (by omega)] at e;simp only[Prod.mk.injEq] at e;omega
  clear e;by_cases g1:c0.toNat<194
  ·have q2:¬ (194:Int)<=(c0.toNat:Int):=by omega
   have q6:¬ (224:Int)<=(c0.toNat:Int):=by omega
   have qa:¬ (240:Int)<=(c0.toNat:Int):=by omega
   simp only[t1,t2,t3,cK,cL,ite_self,ada,Option.bind_none,Bool.if_false_right,Bool.if_false_left,dY,aA,bd,decide_true,decide_false,if_true,if_false,Bool.and_true,Bool.true_and,Bool.and_false,Bool.false_and,ade,true_and,and_true,false_and,and_false,ac9,q1,q2,q6,qa];rfl
  have q2:(194:Int)<=(c0.toNat:Int):=by omega
  by_cases g2:c0.toNat<224
  ·have q3:(c0.toNat:Int)<224:=by omega
   have q6:¬ (224:Int)<=(c0.toNat:Int):=by omega
   have qa:¬ (240:Int)<=(c0.toNat:Int):=by omega
   have q4:¬ (1<l.length/\128<=c1.toNat/\c1.toNat<192):=by omega
   simp only[t1,t2,t3,cK,cL,ite_self,ada,Option.bind_none,Bool.if_false_right,Bool.if_false_left,dY,aA,bd,decide_true,decide_false,if_true,if_false,Bool.and_true,Bool.true_and,Bool.and_false,Bool.false_and,ade,true_and,and_true,false_and,and_false,ac9,q1,q2,q3,q4,q6,qa];rfl
  have q3:¬ (c0.toNat:Int)<224:=by omega
  have q6:(224:Int)<=(c0.toNat:Int):=by omega
  by_cases g3:c0.toNat<240
  ·have q7:(c0.toNat:Int)<240:=by omega
   have qa:¬ (240:Int)<=(c0.toNat:Int):=by omega
   by_cases q4:1<l.length/\128<=c1.toNat/\c1.toNat<192
   ·by_cases q5:2<l.length/\128<=c2.toNat/\c2.toNat<192
    ·obtain ⟨z1,z2,z3⟩:=q4
     obtain ⟨z4,z5,z6⟩:=q5;simp only[t1,t2,t3,cK,cL,ite_self,ada,Option.bind_none,Bool.if_false_right,Bool.if_false_left,dY,aA,bd,decide_true,decide_false,if_true,if_false,Bool.and_true,Bool.true_and,Bool.and_false,Bool.false_and,ade,true_and,and_true,false_and,and_false,ac9,q1,q2,q3,q6,q7,qa,z1,z2,z3,z4,z5,z6,i1,i2];simp (disch:=omega) only[wrap64];by_cases r1:(2048:Int)<=((c0.toNat:Int)-224)*4096+((c1.toNat:Int)-128)*64+(c2.toNat:Int)-128
     ·have r2:¬ ((c0.toNat:Int)-224)*4096+((c1.toNat:Int)-128)*64+(c2.toNat:Int)-128<55296:=by omega
      have r3:¬ (57343:Int)<((c0.toNat:Int)-224)*4096+((c1.toNat:Int)-128)*64+(c2.toNat:Int)-128:=by omega
      simp only[t1,t2,t3,cK,cL,ite_self,ada,Option.bind_none,Bool.if_false_right,Bool.if_false_left,dY,aA,bd,decide_true,decide_false,if_true,if_false,Bool.and_true,Bool.true_and,Bool.and_false,Bool.false_and,ade,true_and,and_true,false_and,and_false,ac9,r1,r2,r3,qa];rfl
     ·simp only[t1,t2,t3,cK,cL,ite_self,ada,Option.bind_none,Bool.if_false_right,Bool.if_false_left,dY,aA,bd,decide_true,decide_false,if_true,if_false,Bool.and_true,Bool.true_and,Bool.and_false,Bool.false_and,ade,true_and,and_true,false_and,and_false,ac9,r1,qa]
      rfl
    ·simp only[t1,t2,t3,cK,cL,ite_self,ada,Option.bind_none,Bool.if_false_right,Bool.if_false_left,dY,aA,bd,decide_true,decide_false,if_true,if_false,Bool.and_true,Bool.true_and,Bool.and_false,Bool.false_and,ade,true_and,and_true,false_and,and_false,ac9,q1,q2,q3,q4,q5,q6,q7,qa]
     rfl
   ·simp only[t1,t2,t3,cK,cL,ite_self,ada,Option.bind_none,Bool.if_false_right,Bool.if_false_left,dY,aA,bd,decide_true,decide_false,if_true,if_false,Bool.and_true,Bool.true_and,Bool.and_false,Bool.false_and,ade,true_and,and_true,false_and,and_false,ac9,q1,q2,q3,q4,q6,q7,qa]
    rfl
  have q7:¬ (c0.toNat:Int)<240:=by omega
  have qa:(240:Int)<=(c0.toNat:Int):=by omega
  by_cases g4:c0.toNat<245
  ·have qb:(c0.toNat:Int)<245:=by omega
   by_cases q4:1<l.length/\128<=c1.toNat/\c1.toNat<192
   ·by_cases q5:2<l.length/\128<=c2.toNat/\c2.toNat<192
    ·by_cases q8:3<l.length/\128<=c3.toNat/\c3.toNat<192
     ·obtain ⟨z1,z2,z3⟩:=q4
      obtain ⟨z4,z5,z6⟩:=q5;obtain ⟨z7,z8,z9⟩:=q8;simp only[t1,t2,t3,cK,cL,ite_self,ada,Option.bind_none,Bool.if_false_right,Bool.if_false_left,dY,aA,bd,decide_true,decide_false,if_true,if_false,Bool.and_true,Bool.true_and,Bool.and_false,Bool.false_and,ade,true_and,and_true,false_and,and_false,ac9,q1,q2,q3,q6,q7,qa,qb,z1,z2,z3,z4,z5,z6,z7,z8,z9,i1,i2,i3];simp (disch:=omega) only[wrap64];by_cases r1:(65536:Int)<=((c0.toNat:Int)-240)*262144+((c1.toNat:Int)-128)*4096+((c2.toNat:Int)-128)*64+(c3.toNat:Int)-128
      ·have r2:¬ ((c0.toNat:Int)-240)*262144+((c1.toNat:Int)-128)*4096+((c2.toNat:Int)-128)*64+(c3.toNat:Int)-128<=1114111:=by omega
       simp only[t1,t2,t3,cK,cL,ite_self,ada,Option.bind_none,Bool.if_false_right,Bool.if_false_left,dY,aA,bd,decide_true,decide_false,if_true,if_false,Bool.and_true,Bool.true_and,Bool.and_false,Bool.false_and,ade,true_and,and_true,false_and,and_false,ac9,r1,r2];rfl
      ·simp only[t1,t2,t3,cK,cL,ite_self,ada,Option.bind_none,Bool.if_false_right,Bool.if_false_left,dY,aA,bd,decide_true,decide_false,if_true,if_false,Bool.and_true,Bool.true_and,Bool.and_false,Bool.false_and,ade,true_and,and_true,false_and,and_false,ac9,r1]
       rfl
     ·simp only[t1,t2,t3,cK,cL,ite_self,ada,Option.bind_none,Bool.if_false_right,Bool.if_false_left,dY,aA,bd,decide_true,decide_false,if_true,if_false,Bool.and_true,Bool.true_and,Bool.and_false,Bool.false_and,ade,true_and,and_true,false_and,and_false,ac9,q1,q2,q3,q4,q5,q6,q7,q8,qa,qb]
      rfl
    ·simp only[t1,t2,t3,cK,cL,ite_self,ada,Option.bind_none,Bool.if_false_right,Bool.if_false_left,dY,aA,bd,decide_true,decide_false,if_true,if_false,Bool.and_true,Bool.true_and,Bool.and_false,Bool.false_and,ade,true_and,and_true,false_and,and_false,ac9,q1,q2,q3,q4,q5,q6,q7,qa,qb]
     rfl
   ·simp only[t1,t2,t3,cK,cL,ite_self,ada,Option.bind_none,Bool.if_false_right,Bool.if_false_left,dY,aA,bd,decide_true,decide_false,if_true,if_false,Bool.and_true,Bool.true_and,Bool.and_false,Bool.false_and,ade,true_and,and_true,false_and,and_false,ac9,q1,q2,q3,q4,q6,q7,qa,qb]
    rfl
  have qb:¬ (c0.toNat:Int)<245:=by omega
  simp only[t1,t2,t3,cK,cL,ite_self,ada,Option.bind_none,Bool.if_false_right,Bool.if_false_left,dY,aA,bd,decide_true,decide_false,if_true,if_false,Bool.and_true,Bool.true_and,Bool.and_false,Bool.false_and,ade,true_and,and_true,false_and,and_false,ac9,q1,q2,q3,q6,q7,qa,qb];rfl
end Go.Vm
