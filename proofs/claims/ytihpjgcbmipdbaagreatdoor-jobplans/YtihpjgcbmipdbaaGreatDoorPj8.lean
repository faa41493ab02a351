import Derived.Test.YtihpjgcbmipdbaaGreatDoorFjrd
import Derived.Test.YtihpjgcbmipdbaaGreatDoorPj7
set_option linter.unusedVariables false
set_option linter.unusedSimpArgs false
namespace Go.Vm
open Go.Lib (decodeL decodeN decodeL_N decode_N decodeN_shape decodeL_le)
abbrev RS:=By×Int×Int×Int×Unit
def st (s r:By) (k e:Int):RS:=(s,((s.length-r.length:Nat):Int),k,e,())
theorem fw {r s:By} (h:r <:+ s):r.length<=s.length:=h.length_le
theorem kp {s q:By} {c:UInt8} (h:c::q <:+ s):idx s ((s.length-(c::q).length:Nat):Int)=some c:=by
 obtain ⟨t,rfl⟩:=h;rw[idx_nat'];have:(t++c::q).length-(c::q).length=t.length:=by simp
 rw[this];simp
where
 idx_nat' {α:Type} {l:List α} {k:Nat}:idx l (k:Int)=l[k]? := by
  unfold idx;rw[if_pos (by omega)];simp
theorem Au {s r:By} (h:r <:+ s):sub s ((s.length-r.length:Nat):Int) (s.length:Int)=some r:=by
 rw[hZ s _ (by omega)];obtain ⟨t,rfl⟩:=h;simp
theorem el {s q:By} {c:UInt8} (h:c::q <:+ s) (hs:s.length<=1000):IntKind.i64.wrap (((s.length-(c::q).length:Nat):Int)+1)=((s.length-q.length:Nat):Int):=by
 have:=fw h;rw[adb] at this ⊢
 rw[wrap64 _ (by omega) (by omega)];omega
theorem KB {s:By}:¬ ((s.length-([]:By).length:Nat):Int)<(s.length:Int):=by simp
theorem tI {s q:By} {c:UInt8} (h:c::q <:+ s):((s.length-(c::q).length:Nat):Int)<(s.length:Int):=by
 have:=fw h;rw[adb] at this ⊢
 omega
theorem cQ {s q:By} {c:UInt8} (h:c::q <:+ s):q <:+ s:=(List.suffix_cons c q).trans h
theorem kr (F:Nat) (s:By) (p k e e':Int):aK F ((s,p,k,e,()),e')=some ((),s,p,k,(if e=0 then e' else e),()):=by
 unfold aK;simp only;split
 ·rename_i h
  rw[if_pos (of_decide_eq_true h)]
 ·rename_i h
  rw[if_neg (by simpa using h)]
theorem Sw:∀ c:Fin 256,(aL 0 (([32,9,10,13]:By),((c.val:Nat):Int))).map (fun i=>decide (0<=i))=some (qi (UInt8.ofNat c.val)):=by decide +kernel
theorem PN (F:Nat) (c:UInt8):∃ i,aL F (([32,9,10,13]:By),(c.toNat:Int))=some i/\decide (0<=i)=qi c:=by
 have h:=Sw ⟨c.toNat,c.toNat_lt⟩;have h':(aL F (([32,9,10,13]:By),(c.toNat:Int))).map (fun i=>decide (0<=i))=some (qi (UInt8.ofNat c.toNat)):=h;obtain ⟨i,h1,h2⟩:=Option.map_eq_some_iff.1 h';refine ⟨i,h1,?_⟩;rw[h2];simp
theorem EJ (s:By) (hs:s.length<=1000) (k e:Int):∀ r:By,r <:+ s->ag fj ((),st s r k e,()) ((),st s (skp r) k e,())
 | [],h=>by
  refine ag.fin (.of fun F => ?_);unfold fj st;simp only;rw[if_neg (by simp)];rfl
 | c::q,h=>by
  have ih:=EJ s hs k e q (cQ h);by_cases hb:qi c=true
  ·rw[Lj hb]
   refine ag.step (.of fun F => ?_) ih;obtain ⟨i,h1,h2⟩:=PN F c;unfold fj st;simp only[tI h,decide_true,if_true,kp h,ada,h1,h2,hb];rw[el h hs]
  ·have hb:qi c=false:=by simpa using hb
   rw[OM hb];refine ag.fin (.of fun F => ?_);obtain ⟨i,h1,h2⟩:=PN F c;unfold fj st;simp only[tI h,decide_true,if_true,kp h,ada,h1,h2,hb,ade,if_false]
def hd (r:By):Int:=match r with
 | []=>0
 | c :: _=>(c.toNat:Int)
theorem rR (s r:By) (h:r <:+ s) (hs:s.length<=1000) (k e:Int):ae (fun F=>bE F (st s r k e)) (if e=0 then hd (skp r) else 0,st s (skp r) k e):=by
 unfold bE;refine (EJ s hs k e r h).run.bind ?_;have uC:skp r <:+ s:=(aw r).trans h;refine .of fun F => ?_
 unfold st;simp only;by_cases he:e=0
 ·simp only[he,decide_true,Bool.not_true,if_true,ade,if_false]
  cases hr:skp r with
  | nil=>simp[hd]
  | cons c q =>
   rw[hr] at uC;have h1:=tI uC;have h2:¬ (s.length:Int)<=((s.length-(c::q).length:Nat):Int):=by omega
   simp only[h2,decide_false,ada,ade,if_false,kp uC,hd]
 ·simp only[he,decide_false,Bool.not_false,if_false,Bool.true_eq_false,ada,if_true]
theorem xC (s r:By) (h:r <:+ s) (hs:s.length<=1000) (k e:Int) (z:UInt8) (hz:z≠0) (hk : -1000<=k/\k<=1000):ae (fun F=>cI F (st s r k e,(z.toNat:Int)))
  (if e=0/\(skp r).head? = some z then (true,st s (skp r).tail (k-1) e) else (false,st s (skp r) k e)):=by
 unfold cI;refine (rR s r h hs k e).bind ?_;have uC:skp r <:+ s:=(aw r).trans h;have RX:(z.toNat:Int)≠0:=by
  intro hh;apply hz;apply UInt8.toNat_inj.1;show z.toNat=0;omega
 by_cases he:e=0
 ·subst he
  cases hr:skp r with
  | nil =>
   refine .of fun F => ?_
   unfold st;have:¬ (0:Int)=(z.toNat:Int):=fun hh=>RX hh.symm
   simp[hd,this]
  | cons c q =>
   rw[hr] at uC;refine .of fun F => ?_
   by_cases hc:c=z
   ·subst hc
    unfold st;simp only[hd,if_true,decide_true,Bool.not_true,ade,if_false,List.head?_cons,and_self,List.tail_cons];rw[el uC hs,wrap64 _ (by omega) (by omega)]
   ·have:¬ (c.toNat:Int)=(z.toNat:Int):=by
     intro hh;exact hc (UInt8.toNat_inj.1 (by omega))
    unfold st;simp[hd,this,hc]
 ·refine .of fun F => ?_
  unfold st;have:¬ (0:Int)=(z.toNat:Int):=fun hh=>RX hh.symm
  simp[he,this]
theorem EU (s r:By) (h:r <:+ s) (hs:s.length<=1000) (k e:Int) (z:UInt8) (hz:z≠0) (hk : -1000<=k/\k<=1000) (hzc:z≠44):ae (fun F=>bu F (st s r k e,(z.toNat:Int)))
  (if e=0/\(skp r).head? = some 44 then (true,st s (skp r).tail k e) else if e=0/\(skp r).head? = some z then (false,st s (skp r).tail (k-1) e) else (false,st s (skp r) k (if e=0 then 3 else e))):=by
 unfold bu;refine (rR s r h hs k e).bind ?_;have uC:skp r <:+ s:=(aw r).trans h;have hl:=xC s (skp r) uC hs k e z hz hk;rw[QV] at hl;by_cases hc:e=0/\(skp r).head? = some 44
 ·rw[if_pos hc]
  obtain ⟨rfl,hc⟩:=hc;cases hr:skp r with
  | nil=>rw[hr] at hc; cases hc
  | cons c q =>
   rw[hr] at hc uC
   injection hc with hc
   subst hc;refine .of fun F => ?_
   unfold st;have e44:hd ((44:UInt8)::q)=44:=rfl;simp only[if_true,e44,decide_true,List.tail_cons];rw[el uC hs]
 ·rw[if_neg hc]
  have iv:¬ (if e=0 then hd (skp r) else 0)=(44:Int):=by
   intro hh;apply hc;by_cases he:e=0
   ·rw[if_pos he] at hh
    refine ⟨he,?_⟩;cases hr:skp r with
    | nil=>rw[hr] at hh; exact absurd hh (by decide)
    | cons c q =>
     rw[hr] at hh;have h2:(c.toNat:Int)=44:=hh;have:c=44:=UInt8.toNat_inj.1 (show c.toNat=44 by omega);rw[this]; rfl
   ·rw[if_neg he] at hh; exact absurd hh (by decide)
  refine ae.neg (by simpa using iv) ?_;refine hl.bind ?_;by_cases h2:e=0/\(skp r).head? = some z
  ·rw[if_pos h2,if_pos h2]
   exact .of fun F=>rfl
  ·rw[if_neg h2,if_neg h2]
   refine .of fun F => ?_
   unfold st;simp only[Bool.not_false,if_true,kr,ada]
theorem Ln (s q:By) (c:UInt8) (h:c::q <:+ s) (hs:s.length<=1000) (k:Int) (hk:0<=k/\k<=100):ae (fun F=>dH F (st s (c::q) k 0)) ((),st s q (k+1) (if 8<k+1 then 10 else 0)):=by
 unfold dH;refine .of fun F => ?_
 unfold st;simp only;rw[wrap64 (k+1) (by omega) (by omega)];by_cases h8:8<k+1
 ·simp only[h8,decide_true,if_true,kr,ada]
  rw[el h hs]
 ·simp only[h8,decide_false,ade,if_false,ada]
  rw[el h hs]
theorem Ai (n:Int) (h : -2147483648<=n) (h':n<=2147483647):IntKind.i32.wrap n=n:=by
 simp only[IntKind.wrap,IntKind.signed,IntKind.bits];simp;omega
theorem JP (n v:Nat) (hn:n<4096) (hv:v<16):ior .i32 (shl .i32 ((n:Nat):Int) 4) ((v:Nat):Int)=((n*16+v:Nat):Int):=by
 have hb:IntKind.i32.bits=32:=rfl;have e1:shl .i32 ((n:Nat):Int) 4=((n*16:Nat):Int):=by
  unfold shl;have:min (4:Int).toNat IntKind.i32.bits=4:=rfl;rw[this,Ai _ (by omega) (by omega)];omega
 rw[e1];unfold ior;rw[hb,BitVec.ofInt_natCast,BitVec.ofInt_natCast,BitVec.toNat_or,BitVec.toNat_ofNat,BitVec.toNat_ofNat,Nat.mod_eq_of_lt (by omega),Nat.mod_eq_of_lt (by omega)];have e2:n*16 ||| v=n*16+v:=by
  have:=Nat.shiftLeft_add_eq_or_of_lt (i:=4) (b:=v) hv n;rw[Nat.shiftLeft_eq] at this;exact this.symm
 rw[e2,Ai _ (by omega) (by omega)]
theorem Pt:∀ c:Fin 256,(if 48<=c.val then decide (c.val<=57) else false)=true->pf (UInt8.ofNat c.val)=some (IntKind.i32.wrap (IntKind.u8.wrap (((c.val:Nat):Int)-48))).toNat/\0<=IntKind.i32.wrap (IntKind.u8.wrap (((c.val:Nat):Int)-48)):=by decide +kernel
theorem MR:∀ c:Fin 256,(if 48<=c.val then decide (c.val<=57) else false)=false->(if 97<=ior .u8 ((c.val:Nat):Int) 32 then decide (ior .u8 ((c.val:Nat):Int) 32<=102) else false)=true ->
  pf (UInt8.ofNat c.val)=some (IntKind.i32.wrap (IntKind.u8.wrap (IntKind.u8.wrap (ior .u8 ((c.val:Nat):Int) 32-97)+10))).toNat/\0<=IntKind.i32.wrap (IntKind.u8.wrap (IntKind.u8.wrap (ior .u8 ((c.val:Nat):Int) 32-97)+10)):=by decide +kernel
theorem MT:∀ c:Fin 256,(if 48<=c.val then decide (c.val<=57) else false)=false->(if 97<=ior .u8 ((c.val:Nat):Int) 32 then decide (ior .u8 ((c.val:Nat):Int) 32<=102) else false)=false->pf (UInt8.ofNat c.val)=none:=by decide +kernel
theorem xw (F:Nat) (s:By) (n i:Nat) (c:UInt8) (hc:idx s (i:Int)=some c) (hn:n<4096) (hi:i<4):iX F (s,(n:Int),(i:Int),())=some (match pf c with
  | some v => .inl (s,((n*16+v:Nat):Int),((i+1:Nat):Int),())
  | none => .inr (.inr (0,false,()))):=by
 have hb:=c.toNat_lt;have hx:UInt8.ofNat c.toNat=c:=by simp
 have h1:=Pt ⟨c.toNat,hb⟩;have h2:=MR ⟨c.toNat,hb⟩;have h3:=MT ⟨c.toNat,hb⟩;simp only[hx] at h1 h2 h3;have i4:(i:Int)<4:=by omega
 have iw:IntKind.i64.wrap ((i:Int)+1)=((i+1:Nat):Int):=by rw[wrap64 _ (by omega) (by omega)]; rfl
 unfold iX;simp only[i4,decide_true,if_true,hc,ada,aA,bd,iw];by_cases d1:48<=c.toNat
 ·have d1':(48:Int)<=(c.toNat:Int):=by omega
  by_cases d2:c.toNat<=57
  ·have d2':(c.toNat:Int)<=57:=by omega
   obtain ⟨q1,q2⟩:=h1 (by simp[d1,d2]);have q3:=JP n _ hn (jc q1);simp only[d1',d2',decide_true,if_true,ada,aA,bd,iw,hc,q1] at q3 ⊢
   rw[Int.toNat_of_nonneg q2] at q3;rw[q3]
  ·have d2':¬ (c.toNat:Int)<=57:=by omega
   by_cases d3:(if 97<=ior .u8 (c.toNat:Int) 32 then decide (ior .u8 (c.toNat:Int) 32<=102) else false)=true
   ·obtain ⟨q1,q2⟩:=h2 (by simp[d1,d2]) d3
    have q3:=JP n _ hn (jc q1);have d4:97<=ior .u8 (c.toNat:Int) 32:=by by_cases hh:97<=ior .u8 (c.toNat:Int) 32; exact hh; rw[if_neg hh] at d3; cases d3
    rw[if_pos d4] at d3;simp only[d1',d2',decide_true,decide_false,if_true,ade,if_false,ada,aA,bd,iw,hc,q1,d4,d3] at q3 ⊢
    rw[Int.toNat_of_nonneg q2] at q3;rw[q3]
   ·have d3:(if 97<=ior .u8 (c.toNat:Int) 32 then decide (ior .u8 (c.toNat:Int) 32<=102) else false)=false:=by simpa using d3
    have q1:=h3 (by simp[d1,d2]) d3;by_cases d4:97<=ior .u8 (c.toNat:Int) 32
    ·rw[if_pos d4] at d3
     simp only[d1',d2',decide_true,decide_false,if_true,ade,if_false,ada,aA,bd,iw,hc,q1,d4,d3]
    ·simp only[d1',d2',decide_true,decide_false,if_true,ade,if_false,ada,aA,bd,iw,hc,q1,d4]
 ·have d1':¬ (48:Int)<=(c.toNat:Int):=by omega
  by_cases d3:(if 97<=ior .u8 (c.toNat:Int) 32 then decide (ior .u8 (c.toNat:Int) 32<=102) else false)=true
  ·obtain ⟨q1,q2⟩:=h2 (by simp[d1]) d3
   have q3:=JP n _ hn (jc q1);have d4:97<=ior .u8 (c.toNat:Int) 32:=by by_cases hh:97<=ior .u8 (c.toNat:Int) 32; exact hh; rw[if_neg hh] at d3; cases d3
   rw[if_pos d4] at d3;simp only[d1',decide_true,decide_false,if_true,ade,if_false,ada,aA,bd,iw,hc,q1,d4,d3] at q3 ⊢
   rw[Int.toNat_of_nonneg q2] at q3;rw[q3]
  ·have d3:(if 97<=ior .u8 (c.toNat:Int) 32 then decide (ior .u8 (c.toNat:Int) 32<=102) else false)=false:=by simpa using d3
   have q1:=h3 (by simp[d1]) d3;by_cases d4:97<=ior .u8 (c.toNat:Int) 32
   ·rw[if_pos d4] at d3
    simp only[d1',decide_true,decide_false,if_true,ade,if_false,ada,aA,bd,iw,hc,q1,d4,d3]
   ·simp only[d1',decide_true,decide_false,if_true,ade,if_false,ada,aA,bd,iw,hc,q1,d4]
def Ra (s:By):Int×Bool:=match qy s with
 | some n=>((n:Int),true)
 | none=>(0,false)
theorem Cf {s:By} (h:s.length<4):qy s=none:=by
 unfold qy;split
 ·simp at h; omega
 ·rfl
theorem bU {α:Type} (l:List α) (k:Nat) (x:α) (h:l[k]? = some x):idx l (k:Int)=some x:=by
 unfold idx;rw[if_pos (by omega),Int.toNat_natCast,h]
theorem FP {s:By} (h:4<=s.length):∃ a b c d r,s=a::b::c::d::r:=by
 rcases s with _ | ⟨a,_ | ⟨b,_ | ⟨c,_ | ⟨d,r⟩⟩⟩⟩
 ·simp at h
 ·simp at h
 ·simp at h
 ·simp at h
 ·exact ⟨a,b,c,d,r,rfl⟩
theorem Ux (s:By):ae (fun F=>jn F s) (Ra s):=by
 unfold jn;by_cases h4:s.length<4
 ·refine ae.pos (by have:(s.length:Int)<4:=by omega
                    simpa using this) ?_
  unfold Ra;rw[Cf h4];exact .ret _
 ·refine ae.neg (by have:¬ (s.length:Int)<4:=by omega
                    simpa using this) ?_
  obtain ⟨a,b,c,d,r,rfl⟩:=FP (by omega:4<=s.length)
  ·have key:ag iX (a::b::c::d::r,0,0,()) (match qy (a::b::c::d::r) with
     | some n => .inl ((n:Int),())
     | none => .inr (0,false,())):=by
    have s0:=fun F=>xw F (a::b::c::d::r) 0 0 a (bU _ 0 _ rfl) (by omega) (by omega)
    show ag iX (a::b::c::d::r,((0:Nat):Int),((0:Nat):Int),()) _;unfold qy;simp only;cases ha:pf a with
    | none =>
     simp only[ha] at s0;exact ag.fin (.of s0)
    | some na =>
     have l1:=jc ha;simp only[ha] at s0;refine ag.step (.of s0) ?_;have s1:=fun F=>xw F (a::b::c::d::r) (0*16+na) 1 b (bU _ 1 _ rfl) (by omega) (by omega)
     simp only[ada];cases hb:pf b with
     | none =>
      simp only[hb] at s1;exact ag.fin (.of s1)
     | some nb =>
      have l2:=jc hb;simp only[hb] at s1;refine ag.step (.of s1) ?_;have s2:=fun F=>xw F (a::b::c::d::r) ((0*16+na)*16+nb) 2 c (bU _ 2 _ rfl) (by omega) (by omega)
      simp only[ada];cases hc:pf c with
      | none =>
       simp only[hc] at s2;exact ag.fin (.of s2)
      | some nc =>
       have l3:=jc hc;simp only[hc] at s2;refine ag.step (.of s2) ?_;have s3:=fun F=>xw F (a::b::c::d::r) (((0*16+na)*16+nb)*16+nc) 3 d (bU _ 3 _ rfl) (by omega) (by omega)
       simp only[ada];cases hd:pf d with
       | none =>
        simp only[hd] at s3;exact ag.fin (.of s3)
       | some nd =>
        simp only[hd] at s3;refine ag.step (.of s3) (ag.fin (.of fun F => ?_));unfold iX;have:¬ ((3+1:Nat):Int)<4:=by decide
        simp only[this,decide_false,ade,if_false,ada];congr 5;omega
   refine key.run.bind ?_;unfold Ra;cases qy (a::b::c::d::r) with
   | none=>exact .ret _
   | some n=>exact .ret _
theorem Aq (F:Nat) (a p:By):aX F (a,p)=some (decide (a.take p.length=p)):=by
 unfold aX eI;simp only;by_cases h:p.length<=a.length
 ·have h':(p.length:Int)<=(a.length:Int):=by omega
  have e:=jM a 0 p.length (Nat.zero_le _) h;simp only[Nat.sub_zero,List.drop_zero] at e;have e2:sub a 0 (p.length:Int)=some (a.take p.length):=e;simp only[h',decide_true,if_true,e2,ada]
 ·have h':¬ (p.length:Int)<=(a.length:Int):=by omega
  have:¬ a.take p.length=p:=by
   intro hh;have:=congrArg List.length hh;rw[List.length_take] at this;omega
  simp only[h',decide_false,ade,if_false,ada,this]
def OV (x:Option (Nat×Nat)):Int×Int:=match x with
 | some (c,k)=>((c:Int),(k:Int))
 | none=>(0,0)
theorem kH (c k:Nat):OV (some (c,k))=((c:Int),(k:Int)):=rfl
theorem kL:OV none=(0,0):=rfl
def ptR (r:By):Int×Int:=OV (zY r)
theorem Xt:∀ a:Fin 1024,shl .i32 ((a.val:Nat):Int) 10=((a.val*1024:Nat):Int):=by decide +kernel
theorem Uh {q:By} (h:q.take 2=[92,117]):∃ q',q=92::117::q':=by
 rcases q with _ | ⟨x,_ | ⟨y,q⟩⟩
 ·cases h
 ·cases h
 ·injection h with h1 h2
  injection h2 with h2 _
  exact ⟨q,by rw[h1,h2]⟩
theorem Eg {n:Nat} {r:By} (h:¬ r.take 2=[92,117]):yG n r=none:=by
 unfold yG;split
 ·exact absurd rfl h
 ·rfl
theorem Pu (F n m:Nat) (h1:¬ n<55296) (h2:¬ 56320<=n) (h3:56320<=m/\m<=57343) :
  IntKind.i32.wrap (IntKind.i32.wrap (IntKind.i32.wrap (65536+shl .i32 (IntKind.i32.wrap ((n:Int)-55296)) 10)+(m:Int))-56320)=(xG n m:Int):=by
 unfold xG;have e9:IntKind.i32.wrap ((n:Int)-55296)=((n-55296:Nat):Int):=by rw[Ai _ (by omega) (by omega)]; omega
 have e10:=Xt ⟨n-55296,by omega⟩;simp only at e10;rw[e9,e10];simp (disch:=omega) only[Ai];omega
theorem Vh (lo hi be:Int) (x:By) (n:Int) (K:By->Int->Option (Int×Int)) :
  ((if decide (lo<=n)=true then some (x,n,decide (n<be),()) else some (x,n,false,()):Option (By×Int×Bool×Unit)).bind fun v2=>if v2.2.2.1=true then some (0,0) else
    (if decide (v2.2.1<hi)=false then some (v2.1,v2.2.1,decide (be<=v2.2.1),()) else some (v2.1,v2.2.1,true,()):Option (By×Int×Bool×Unit)).bind fun v3=>if v3.2.2.1=true then some (v3.2.1,6) else K v3.1 v3.2.1) =
  if lo<=n/\n<be then some (0,0) else if n<hi\/be<=n then some (n,6) else K x n:=by
 by_cases h1:lo<=n <;> by_cases h2:n<be <;> by_cases h3:n<hi <;> by_cases h4:be<=n <;> first
  | (exfalso; omega)
  | simp only[h1,h2,h3,h4,decide_true,decide_false,if_true,if_false,ade,Bool.true_eq_false,ada,and_self,and_true,and_false,false_and,true_and,or_self,or_true,true_or,or_false,false_or]
theorem Sf (lo be n m:Int) (K:Int->Int->Int) :
  ((if (!true)=false then some (n,m,decide (m<lo),()) else some (n,m,true,()):Option (Int×Int×Bool×Unit)).bind fun v8 =>
    (if v8.2.2.1=false then some (v8.1,v8.2.1,decide (be<=v8.2.1),()) else some (v8.1,v8.2.1,true,()):Option (Int×Int×Bool×Unit)).bind fun v9=>if v9.2.2.1=true then some (0,0) else some (K v9.1 v9.2.1,12)) =
  if m<lo\/be<=m then some (0,0) else some (K n m,(12:Int)):=by
 by_cases h1:m<lo <;> by_cases h2:be<=m <;> simp[h1,h2]
noncomputable def ptK (F:Nat) (x:By) (n:Int):Option (Int×Int):=(sub x 6 (x.length:Int)).bind fun v4=>(aX F (v4,[92,117])).bind fun v5=>if (!v5)=true then some (0,0) else (sub x 8 (x.length:Int)).bind fun v6=>(jn F v6).bind fun v7=>(if (!v7.2)=false then some (n,v7.1,decide (v7.1<56320),()) else some (n,v7.1,true,())).bind fun v8=>(if v8.2.2.1=false then some (v8.1,v8.2.1,decide (57344<=v8.2.1),()) else some (v8.1,v8.2.1,true,())).bind fun v9=>if v9.2.2.1=true then some (0,0) else some (IntKind.i32.wrap (IntKind.i32.wrap (IntKind.i32.wrap (65536+shl IntKind.i32 (IntKind.i32.wrap (v9.1-55296)) 10)+v9.2.1)-56320),12)
theorem O0 (F:Nat) (x:By):nN F x=(sub x 2 (x.length:Int)).bind fun v0=>(jn F v0).bind fun v1 =>
  (if (!v1.2)=false then if decide (56320<=v1.1)=true then some (x,v1.1,decide (v1.1<57344),()) else some (x,v1.1,false,()) else some (x,v1.1,true,())).bind fun v2 =>
   if v2.2.2.1=true then some (0,0)
   else (if decide (v2.2.1<55296)=false then some (v2.1,v2.2.1,decide (57344<=v2.2.1),()) else some (v2.1,v2.2.1,true,())).bind fun v3=>if v3.2.2.1=true then some (v3.2.1,6) else ptK F v3.1 v3.2.1:=rfl
theorem XI (a b:UInt8) (r:By) (hr:4<=r.length) (n:Nat) (c1:¬ n<55296) (c3:¬ 56320<=n):ae (fun F=>ptK F (a::b::r) (n:Int)) (OV (yG n (r.drop 4))):=by
 unfold ptK;have e6:sub (a::b::r) 6 ((a::b::r).length:Int)=some (r.drop 4):=hZ (a::b::r) 6 (by simp; omega);have Yr:([92,117]:By).length=2:=rfl;refine ae.congr (m:=fun F=>if (!decide ((r.drop 4).take 2=[92,117]))=true then some (0,0) else (sub (a::b::r) 8 ((a::b::r).length:Int)).bind fun v6=>(jn F v6).bind fun v7 =>
      (if (!v7.2)=false then some ((n:Int),v7.1,decide (v7.1<56320),()) else some ((n:Int),v7.1,true,())).bind fun v8 =>
       (if v8.2.2.1=false then some (v8.1,v8.2.1,decide (57344<=v8.2.1),()) else some (v8.1,v8.2.1,true,())).bind fun v9 =>
        if v9.2.2.1=true then some (0,0)
        else
         some
          (IntKind.i32.wrap
            (IntKind.i32.wrap (IntKind.i32.wrap (65536+shl IntKind.i32 (IntKind.i32.wrap (v9.1-55296)) 10)+v9.2.1)-56320),
           12)) ?_ fun F=>by rw[e6,ada,Aq,ada]; rfl
 by_cases hp:(r.drop 4).take 2=[92,117]
 ·obtain ⟨q,hq⟩:=Uh hp
  have hl:=congrArg List.length hq;simp at hl;have e8:sub (a::b::r) 8 ((a::b::r).length:Int)=some q:=by
   have h8:=hZ (a::b::r) 8 (by simp; omega);rw[show (a::b::r).drop 8=(r.drop 4).drop 2 by simp,hq] at h8;exact h8
  refine ae.neg (by simp[hp]) ?_;rw[e8];refine ae.bind (.ret q) ?_;refine (Ux q).bind ?_;rw[hq];unfold yG Ra;simp only;cases hm:qy q with
  | none=>exact .of fun F=>by rw[Option.bind_none,kL]; rfl
  | some m =>
   obtain ⟨m1,m2⟩:=uD hm;rw[ada];refine ae.congr (m:=fun _ => _) ?_ fun F=>Sf 56320 57344 (n:Int) (m:Int) fun x y=>IntKind.i32.wrap (IntKind.i32.wrap (IntKind.i32.wrap (65536+shl IntKind.i32 (IntKind.i32.wrap (x-55296)) 10)+y)-56320)
   by_cases c5:56320<=m/\m<=57343
   ·have hv:=Pu 0 n m c1 c3 c5
    refine ae.neg (by omega) ?_;rw[if_pos c5,kH,hv];exact .ret _
   ·refine ae.pos (by omega) ?_
    rw[if_neg c5,kL];exact .ret _
 ·rw[Eg hp,kL]
  exact ae.pos (by simp[hp]) (.ret _)
theorem R2 (a b:UInt8) (r:By):ae (fun F=>nN F (a::b::r)) (ptR r):=by
 have e2:sub (a::b::r) 2 ((a::b::r).length:Int)=some r:=hZ (a::b::r) 2 (by simp);refine ae.congr ?_ fun F=>O0 F _
 rw[e2];refine ae.bind (.ret r) ?_;refine (Ux r).bind ?_;unfold ptR zY Ra;cases hn:qy r with
 | none=>exact .of fun F=>by rw[Option.bind_none,kL]; rfl
 | some n =>
  obtain ⟨n1,n2⟩:=uD hn;rw[ada];refine ae.congr (m:=fun F => _) ?_ fun F=>Vh 56320 55296 57344 (a::b::r) (n:Int) (ptK F)
  by_cases c1:n<55296\/57343<n
  ·rw[if_pos c1,kH]
   exact ae.neg (by omega) (ae.pos (by omega) (.ret _))
  rw[if_neg c1];by_cases c3:56320<=n
  ·rw[if_pos c3,kL]
   exact ae.pos (by omega) (.ret _)
  ·rw[if_neg c3]
   exact ae.neg (by omega) (ae.neg (by omega) (XI a b r n2 n (by omega) c3))
def Vk (r:By):Int×Int:=OV (sD r)
theorem Rn (r:By):ae (fun F=>mu F (92::r)) (Vk r):=by
 unfold mu Vk;cases r with
 | nil=>exact .of fun F=>by simp[sD,kL]
 | cons c r =>
  have h2:¬ (((92:UInt8)::c::r).length:Int)<2:=by simp; omega
  have hi:idx ((92:UInt8)::c::r) 1=some c:=bU _ 1 _ rfl;have hp:=R2 92 c r;have nv:∀ k:UInt8,((c.toNat:Int)=(k.toNat:Int))=(c=k):=by
   intro k;apply propext;constructor
   ·intro hh; exact UInt8.toNat_inj.1 (by omega)
   ·intro hh; rw[hh]
  have n34:=nv 34; have n92:=nv 92; have n47:=nv 47; have n98:=nv 98; have n102:=nv 102; have n110:=nv 110; have n114:=nv 114; have n116:=nv 116; have n117:=nv 117;have t34:((34:UInt8).toNat:Int)=34:=rfl;have t92:((92:UInt8).toNat:Int)=92:=rfl;have t47:((47:UInt8).toNat:Int)=47:=rfl;have t98:((98:UInt8).toNat:Int)=98:=rfl;have t102:((102:UInt8).toNat:Int)=102:=rfl;have t110:((110:UInt8).toNat:Int)=110:=rfl;have t114:((114:UInt8).toNat:Int)=114:=rfl;have t116:((116:UInt8).toNat:Int)=116:=rfl;have t117:((117:UInt8).toNat:Int)=117:=rfl;rw[t34] at n34; rw[t92] at n92; rw[t47] at n47; rw[t98] at n98; rw[t102] at n102; rw[t110] at n110; rw[t114] at n114; rw[t116] at n116; rw[t117] at n117;simp only[h2,decide_false,ade,if_false,hi,ada,n34,n92,n47,n98,n102,n110,n114,n116,n117];unfold sD;simp only;by_cases c1:c=34\/c=92\/c=47
  ·refine .of fun F => ?_
   rcases c1 with rfl | rfl | rfl <;> rfl
  ·have a1:¬ c=34:=fun hh=>c1 (.inl hh)
   have a2:¬ c=92:=fun hh=>c1 (.inr (.inl hh))
   have a3:¬ c=47:=fun hh=>c1 (.inr (.inr hh))
   simp only[a1,a2,a3,decide_false,ade,if_false,ada,or_self];by_cases b1:c=98
   ·refine .of fun F => ?_
    simp only[b1,decide_true,if_true,kH];rfl
   simp only[b1,decide_false,ade,if_false];by_cases b2:c=102
   ·refine .of fun F => ?_
    simp only[b2,decide_true,if_true,kH];rfl
   simp only[b2,decide_false,ade,if_false];by_cases b3:c=110
   ·refine .of fun F => ?_
    simp only[b3,decide_true,if_true,kH];rfl
   simp only[b3,decide_false,ade,if_false];by_cases b4:c=114
   ·refine .of fun F => ?_
    simp only[b4,decide_true,if_true,kH];rfl
   simp only[b4,decide_false,ade,if_false];by_cases b5:c=116
   ·refine .of fun F => ?_
    simp only[b5,decide_true,if_true,kH];rfl
   simp only[b5,decide_false,ade,if_false];by_cases b6:c=117
   ·simp only[n98,n102,n110,n114,n116,n117,b1,b2,b3,b4,b5,b6,decide_true,if_true,decide_false,ade,if_false]
    subst b6;unfold ptR at hp;exact hp.bind (.ret _)
   ·refine .of fun F => ?_
    simp only[n98,n102,n110,n114,n116,n117,b1,b2,b3,b4,b5,b6,decide_false,ade,if_false,kL]
end Go.Vm
