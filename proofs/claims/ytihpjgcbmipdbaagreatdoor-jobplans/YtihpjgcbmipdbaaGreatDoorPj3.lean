import Derived.Test.YtihpjgcbmipdbaaGreatDoorPm1
import Derived.Lib.ItoaNum
set_option linter.unusedVariables false
set_option linter.unusedSimpArgs false
namespace Go.Vm
open Go.Proofs
abbrev CfT:=Int×Int×Int×Int×Int×Int×Unit
def brT (n lo hi:Int):Int:=if n<lo then lo else if hi<n then hi else n
def ze (n:Int):Int:=brT n 0 1099511627776
def tL (now span:Int):Int:=ze (ze now+span)
def uu (c:CfT):Int:=brT c.2.1 1 1073741824
def Ba (c:CfT):Int:=brT c.2.2.1 1 1073741824
theorem FX (n:Int) {lo hi:Int} (h:lo<=hi):lo<=brT n lo hi/\brT n lo hi<=hi:=by
 unfold brT
 repeat' split
 all_goals omega
theorem Hq (n:Int):0<=ze n/\ze n<=1099511627776:=FX n (by decide)
theorem M5 (n s:Int):0<=tL n s/\tL n s<=1099511627776:=FX _ (by decide)
theorem Ec (c:CfT):1<=uu c/\uu c<=1073741824:=FX _ (by decide)
theorem LZ (c:CfT):1<=Ba c/\Ba c<=1073741824:=FX _ (by decide)
def vz (e:Ent) (now:Int):Bool:=decide (e.st=1)&&decide (ze now<e.le)
def okP (e:Ent) (tok:Int):Int:=if (decide (e.st=1)&&iC e)=true then (if e.tk=tok then 0 else 9) else 1
def nK (e:Ent) (tok now:Int) (c:CfT):Ent×Int :=
 if okP e tok=0 then (if e.pt=5 then (Ent.zero,10) else ({ e with pt:=e.pt+1,le:=tL now (uu c) },0)) else (Ent.zero,okP e tok)
def zg (e:Ent) (s:Int):Ent:={ e with st:=s,le:=0,me:=[],pa:=[],bo:=[] }
def vm (e:Ent) (tok status:Int) (text:B8) (now:Int) (c:CfT):Ent×Int :=
 if okP e tok=0 then (if iC { zg e 2 with su:=status,tx:=text,ex:=tL now (Ba c) }=true then ({ zg e 2 with su:=status,tx:=text,ex:=tL now (Ba c) },0) else (Ent.zero,1)) else (Ent.zero,okP e tok)
def sa (e:Ent) (tok:Int):Ent×Int:=if okP e tok=0 then (zg e 3,0) else (Ent.zero,okP e tok)
def yR (e:Ent) (tok now:Int):Ent×Int:=if okP e tok=0 then ({ e with le:=ze now },0) else (Ent.zero,okP e tok)
theorem Ck {e:Ent} {tok:Int} (h:okP e tok=0):e.st=1/\iC e=true/\e.tk=tok:=by
 unfold okP at h;split at h
 ·rename_i h1
  rw[adi,ac9] at h1;split at h
  ·rename_i h2; exact ⟨h1.1,h1.2,h2⟩
  ·cases h
 ·cases h
theorem P8 {e:Ent} (h1:e.st=1) (h:iC e=true):e.su=0/\e.tx=[]/\lu e.te e.key=true/\Bc e=true/\oI e=true:=by
 unfold iC at h;rw[adi,adi] at h;obtain ⟨⟨a,b⟩,c⟩:=h;unfold zb at c;rw[if_pos h1,adi,ac9] at c;exact ⟨c.2.1,c.2.2,a,b,c.1⟩
end Go.Vm
namespace Go.Vm
open Go.Lib (decodeL decodeN decodeL_N decode_N decodeN_shape decodeL_le)
def qi (c:UInt8):Bool:=c == 32 || c == 9 || c == 10 || c == 13
def skp (s:By):By:=s.dropWhile qi
def pf (c:UInt8):Option Nat:=if 48<=c.toNat/\c.toNat<=57 then some (c.toNat-48) else if 97<=c.toNat/\c.toNat<=102 then some (c.toNat-87) else if 65<=c.toNat/\c.toNat<=70 then some (c.toNat-55) else none
def qy (s:By):Option Nat:=match s with
 | a::b::c::d :: _=>(pf a).bind fun a=>(pf b).bind fun b=>(pf c).bind fun c=>(pf d).bind fun d=>some (((a*16+b)*16+c)*16+d)
 | _=>none
def xG (n m:Nat):Nat:=65536+(n-55296)*1024+(m-56320)
def yG (n:Nat) (r:By):Option (Nat×Nat):=match r with
 | 92::117::q=>(qy q).bind fun m=>if 56320<=m/\m<=57343 then some (xG n m,12) else none
 | _=>none
def zY (r:By):Option (Nat×Nat) :=
 (qy r).bind fun n=>if n<55296\/57343<n then some (n,6) else if 56320<=n then none else yG n (r.drop 4)
def sD (s:By):Option (Nat×Nat):=match s with
 | []=>none
 | c::r=>if c=34\/c=92\/c=47 then some (c.toNat,2) else if c=98 then some (8,2) else if c=102 then some (12,2) else if c=110 then some (10,2) else if c=114 then some (13,2) else if c=116 then some (9,2) else if c=117 then zY r else none
def Kp:Nat->By->Option (By×By)
 | 0,_=>none
 | n+1,s=>match s with
  | []=>none
  | c::r=>if c=34 then some ([],r) else if c=92 then (sD r).bind fun x=>(Kp n (s.drop x.2)).map fun y=>(bR x.1++y.1,y.2)
   else if (decodeL s).1<32\/((decodeL s).1=65533/\(decodeL s).2=1) then none else (Kp n (s.drop (decodeL s).2)).map fun y=>(s.take (decodeL s).2++y.1,y.2)
def txt (s:By):Option (By×By):=Kp s.length s
def bN (c:UInt8):Bool:=decide (48<=c.toNat)&&decide (c.toNat<=57)
def ed (s:By):By:=match s with
 | [] => []
 | c :: _=>if c=48 then [48] else (s.takeWhile bN).take 15
def sY (ds:By):Nat:=ds.foldl (fun n c=>n*10+(c.toNat-48)) 0
def yq (s:By):Option (Int×By):=match s with
 | []=>none
 | c::r=>if c=45 then (if ed r=[] then none else some (-(sY (ed r):Int),r.drop (ed r).length))
  else if ed s=[] then none else some ((sY (ed s):Int),s.drop (ed s).length)
def ve (V:By->Except Nat (JV×By)):Nat->By->Except Nat (List JV×By)
 | 0,_ => .error 3
 | n+1,s=>match V s with
  | .error e => .error e
  | .ok (v,r)=>match skp r with
   | 44::r'=>match ve V n r' with
    | .error e => .error e
    | .ok (l,r'') => .ok (v::l,r'')
   | 93::r' => .ok ([v],r')
   | _ => .error 3
def wm (V:By->Except Nat (JV×By)):Nat->List Me->By->Except Nat (List Me×By)
 | 0,_,_ => .error 3
 | n+1,acc,s=>match skp s with
  | 34::r=>match txt r with
   | none => .error 3
   | some (name,r)=>if acc.any (fun m=>m.1 == name) then .error 7 else match skp r with
    | 58::r=>match V r with
     | .error e => .error e
     | .ok (v,r)=>match skp r with
      | 44::r=>wm V n (acc++[(name,v,())]) r
      | 125::r => .ok (acc++[(name,v,())],r)
      | _ => .error 3
    | _ => .error 3
  | _ => .error 3
def H6 (V:Option (By->Except Nat (JV×By))) (s:By):Except Nat (JV×By) :=
 match skp s with
 | [] => .error 3
 | c::r =>
  if c=123 then match V with
   | none => .error 10
   | some V=>match skp r with
    | 125::r => .ok (.obj [],r)
    | r=>match wm V (r.length+1) [] r with
     | .error e => .error e
     | .ok (l,r) => .ok (.obj (bt l),r)
  else if c=91 then match V with
   | none => .error 10
   | some V=>match skp r with
    | 93::r => .ok (.list [],r)
    | r=>match ve V (r.length+1) r with
     | .error e => .error e
     | .ok (l,r) => .ok (.list l,r)
  else if c=34 then match txt r with
   | none => .error 3
   | some (t,r) => .ok (.str t,r)
  else if (c::r).take 4=[110,117,108,108] then .ok (.null,r.drop 3)
  else if (c::r).take 4=[116,114,117,101] then .ok (.bool true,r.drop 3)
  else if (c::r).take 5=[102,97,108,115,101] then .ok (.bool false,r.drop 4)
  else match yq (c::r) with
   | none => .error 3
   | some (n,r) => .ok (.int n,r)
def jF:Nat->By->Except Nat (JV×By)
 | 0,s=>H6 none s
 | d+1,s=>H6 (some (jF d)) s
def CT (s:By):Except Nat JV:=if 400<s.length then .error 5 else match jF 8 s with
 | .error e => .error e
 | .ok (v,r)=>if skp r=[] then .ok v else .error 3
def HC (n:Nat):UInt8:=if n<10 then UInt8.ofNat (48+n) else UInt8.ofNat (87+n)
def u9 (c:UInt8):By:=if c=34\/c=92 then [92,c] else if c=8 then [92,98] else if c=9 then [92,116] else if c=10 then [92,110] else if c=12 then [92,102] else if c=13 then [92,114] else if c.toNat<32 then [92,117,48,48,HC (c.toNat / 16),HC (c.toNat % 16)] else [c]
def kQ (t:By):By:=t.flatMap u9
def quo (t:By):By:=34::(kQ t++[34])
def eF:List By->By
 | [] => []
 | [x]=>x
 | x::y::l=>x++44::eF (y::l)
def Bz (L:Option (JV->By)):JV->By
 | .nil => [110,117,108,108]
 | .null => [110,117,108,108]
 | .bool true => [116,114,117,101]
 | .bool false => [102,97,108,115,101]
 | .int n=>Go.Lib.itoa n
 | .str t=>quo t
 | .list l=>match L with
  | none => []
  | some L=>91::(eF (l.map L)++[93])
 | .obj l=>match L with
  | none => []
  | some L=>123::(eF (l.map fun m=>quo m.1++58::L m.2.1)++[125])
def cg:Nat->JV->By
 | 0,v=>Bz none v
 | d+1,v=>Bz (some (cg d)) v
theorem fD (s:By):(skp s).length<=s.length:=by unfold skp; exact (List.dropWhile_suffix qi).length_le
theorem aw (s:By):skp s <:+ s:=List.dropWhile_suffix qi
theorem QV (s:By):skp (skp s)=skp s:=by
 unfold skp;induction s with
 | nil=>rfl
 | cons c s ih =>
  by_cases h:qi c=true
  ·rw[List.dropWhile_cons_of_pos h]; exact ih
  ·rw[List.dropWhile_cons_of_neg h,List.dropWhile_cons_of_neg h]
theorem Vq {n:Nat} {r:By} {x:Nat×Nat} (h:yG n r=some x):2<=x.2:=by
 unfold yG at h;split at h
 ·obtain ⟨m,hm,h⟩:=adk.1 h
  clear hm;by_cases hc:56320<=m/\m<=57343
  ·rw[if_pos hc] at h
   injection h with h
   subst h;exact Nat.le_of_ble_eq_true rfl
  ·rw[if_neg hc] at h
   cases h
 ·cases h
theorem Vp {r:By} {x:Nat×Nat} (h:zY r=some x):2<=x.2:=by
 unfold zY at h;obtain ⟨k,hk,h⟩:=adk.1 h;clear hk;by_cases c1:k<55296\/57343<k
 ·rw[if_pos c1] at h; cases h; exact Nat.le_of_ble_eq_true rfl
 rw[if_neg c1] at h;by_cases c2:56320<=k
 ·rw[if_pos c2] at h; cases h
 rw[if_neg c2] at h;exact Vq h
theorem PL {s:By} {x:Nat×Nat} (h:sD s=some x):2<=x.2:=by
 unfold sD at h;split at h
 ·cases h
 ·repeat' split at h
  all_goals first | (cases h; done) | (cases h; exact Nat.le_of_ble_eq_true rfl) | exact Vp h
theorem uT:∀ (n m:Nat) (s:By),s.length<=n->s.length<=m->Kp n s=Kp m s
 | 0,0,s,h,h'=>rfl
 | 0,m+1,s,h,h'=>by
  obtain rfl:s=[]:=List.length_eq_zero_iff.1 (by omega);rfl
 | n+1,0,s,h,h'=>by
  obtain rfl:s=[]:=List.length_eq_zero_iff.1 (by omega);rfl
 | n+1,m+1,s,h,h'=>by
  cases s with
  | nil=>rfl
  | cons c r =>
   have hp:=bH (c::r);simp only[adb] at h h';unfold Kp;simp only;split
   ·rfl
   split
   ·cases he:sD r with
    | none=>rfl
    | some x =>
     simp only[ada];have hx:=PL he;rw[uT n m ((c::r).drop x.2) (by simp; omega) (by simp; omega)]
   split
   ·rfl
   ·rw[uT n m ((c::r).drop (decodeL (c::r)).2) (by simp; omega) (by simp; omega)]
end Go.Vm
namespace Go.Vm
open Go.Lib (decodeL decodeN decodeL_N decode_N decodeN_shape decodeL_le)
instance (c:Nat):Decidable (okR c):=by unfold okR; infer_instance
theorem BP (c:Nat) (h:okR c) (r:By):decodeL (bR c++r)=(c,(bR c).length):=by
 obtain ⟨h1,h2⟩:=h;rw[decodeL_N];unfold bR;by_cases c1:c<128
 ·simp only[c1,if_true]
  have a0:(UInt8.ofNat c).toNat=c:=by simp; omega
  simp only[List.cons_append,List.nil_append,List.getD_cons_zero,adb,List.length_nil,a0];unfold decodeN;rw[if_pos c1]
 by_cases c2:c<2048
 ·simp only[c1,c2,if_true,if_false]
  have a0:(UInt8.ofNat (192+c / 64)).toNat=192+c / 64:=by simp; omega
  have a1:(UInt8.ofNat (128+c % 64)).toNat=128+c % 64:=by simp; omega
  simp only[List.cons_append,List.nil_append,List.getD_cons_zero,List.getD_cons_succ,adb,List.length_nil,a0,a1];unfold decodeN;rw[if_neg (by omega),if_pos ⟨by omega,by omega,by omega⟩,if_pos (by omega)];congr 1;omega
 by_cases c3:c<65536
 ·simp only[c1,c2,c3,if_true,if_false]
  have a0:(UInt8.ofNat (224+c / 4096)).toNat=224+c / 4096:=by simp; omega
  have a1:(UInt8.ofNat (128+c / 64 % 64)).toNat=128+c / 64 % 64:=by simp; omega
  have a2:(UInt8.ofNat (128+c % 64)).toNat=128+c % 64:=by simp; omega
  simp only[List.cons_append,List.nil_append,List.getD_cons_zero,List.getD_cons_succ,adb,List.length_nil,a0,a1,a2];unfold decodeN;rw[if_neg (by omega),if_neg (by omega),if_pos ⟨by omega,⟨by omega,by omega⟩,by omega,by omega⟩,if_pos (by omega)];congr 1;omega
 ·simp only[c1,c2,c3,if_false]
  have a0:(UInt8.ofNat (240+c / 262144)).toNat=240+c / 262144:=by simp; omega
  have a1:(UInt8.ofNat (128+c / 4096 % 64)).toNat=128+c / 4096 % 64:=by simp; omega
  have a2:(UInt8.ofNat (128+c / 64 % 64)).toNat=128+c / 64 % 64:=by simp; omega
  have a3:(UInt8.ofNat (128+c % 64)).toNat=128+c % 64:=by simp; omega
  simp only[List.cons_append,List.nil_append,List.getD_cons_zero,List.getD_cons_succ,adb,List.length_nil,a0,a1,a2,a3];unfold decodeN;rw[if_neg (by omega),if_neg (by omega),if_neg (by omega),if_pos ⟨by omega,⟨by omega,by omega⟩,⟨by omega,by omega⟩,by omega,by omega⟩,if_pos (by omega)];congr 1;omega
theorem VF (c:Nat) (h:okR c):Go.Lib.encodeRune (c:Int)=bR c:=by
 obtain ⟨h1,h2⟩:=h;unfold Go.Lib.encodeRune bR;have q:∀ z:Int,∀ n:Nat,z=(n:Int)->z.toNat.toUInt8=UInt8.ofNat n:=by intro z n e; subst e; rfl
 by_cases c1:c<128
 ·rw[if_pos c1,Go.Lib.encodeRuneZ_one (by omega) (by omega)]
  simp only[List.map_cons,List.map_nil];rw[q _ c rfl]
 by_cases c2:c<2048
 ·rw[if_neg c1,if_pos c2,Go.Lib.encodeRuneZ_two (by omega) (by omega)]
  simp only[List.map_cons,List.map_nil];rw[q _ (192+c / 64) (by omega),q _ (128+c % 64) (by omega)]
 by_cases c3:c<65536
 ·rw[if_neg c1,if_neg c2,if_pos c3,Go.Lib.encodeRuneZ_three (by omega)]
  simp only[List.map_cons,List.map_nil];rw[q _ (224+c / 4096) (by omega),q _ (128+c / 64 % 64) (by omega),q _ (128+c % 64) (by omega)]
 ·rw[if_neg c1,if_neg c2,if_neg c3,Go.Lib.encodeRuneZ_four (by omega) (by omega)]
  simp only[List.map_cons,List.map_nil];rw[q _ (240+c / 262144) (by omega),q _ (128+c / 4096 % 64) (by omega),q _ (128+c / 64 % 64) (by omega),q _ (128+c % 64) (by omega)]
theorem jK (l:By) (iv:l ≠ []) (hv:¬ ((decodeL l).1=65533/\(decodeL l).2=1)):l.take (decodeL l).2=bR (decodeL l).1:=by
 rw[<-Go.Lib.encode_decode l iv hv,VF _ (pG l)]
theorem SF (c:Nat):bR c ≠ []:=by unfold bR; repeat' split
                                 all_goals simp
theorem xq (c:Nat):1<=(bR c).length:=by have:=List.length_pos_iff.2 (SF c); omega
inductive OkT:By->Prop
 | nil:OkT []
 | cons (c:Nat) (t:By):okR c->OkT t->OkT (bR c++t)
theorem OkT.app {a b:By} (h:OkT a) (h':OkT b):OkT (a++b):=by
 induction h with
 | nil=>exact h'
 | cons c t hc _ ih=>rw[List.append_assoc]; exact .cons c _ hc ih
theorem jc {c:UInt8} {n:Nat} (h:pf c=some n):n<16:=by
 unfold pf at h
 repeat' split at h
 all_goals first | (cases h; done) | (cases h; omega)
theorem uD {s:By} {n:Nat} (h:qy s=some n):n<65536/\4<=s.length:=by
 unfold qy at h;split at h
 ·obtain ⟨a,ha,h⟩:=adk.1 h
  obtain ⟨b,hb,h⟩:=adk.1 h;obtain ⟨c,hc,h⟩:=adk.1 h;obtain ⟨d,hd,h⟩:=adk.1 h;cases h;have:=jc ha; have:=jc hb; have:=jc hc; have:=jc hd;refine ⟨by omega,by simp⟩
 ·cases h
theorem Sq {n:Nat} {r:By} {c k:Nat} (h:yG n r=some (c,k)) (h1:¬ (n<55296\/57343<n)) (h2:¬ 56320<=n):okR c/\k=12/\6<=r.length:=by
 unfold yG at h;split at h
 ·rename_i q
  obtain ⟨m,hm,h⟩:=adk.1 h;have h3:=uD hm;by_cases hc:56320<=m/\m<=57343
  ·rw[if_pos hc] at h
   injection h with h
   injection h with h4 h5
   subst h5;unfold xG at h4;unfold okR;exact ⟨by omega,rfl,by simp; omega⟩
  ·rw[if_neg hc] at h
   cases h
 ·cases h
theorem Ty {r:By} {c k:Nat} (h:zY r=some (c,k)):okR c/\(k=6/\c<65536\/k=12)/\k<=r.length+2:=by
 unfold zY at h;obtain ⟨n,hn,h⟩:=adk.1 h;have h1:=uD hn;by_cases c1:n<55296\/57343<n
 ·rw[if_pos c1] at h
  injection h with h
  injection h with h2 h3
  subst h3;unfold okR;exact ⟨by omega,.inl ⟨rfl,by omega⟩,by omega⟩
 rw[if_neg c1] at h;by_cases c2:56320<=n
 ·rw[if_pos c2] at h; cases h
 rw[if_neg c2] at h;obtain ⟨q1,q2,q3⟩:=Sq h c1 c2;simp at q3;exact ⟨q1,.inr q2,by omega⟩
theorem A1 (c:UInt8):(u9 c).length<=6:=by
 unfold u9
 repeat' split
 all_goals simp
theorem lh (n:Nat) (h:128<=n) (h':n<256):u9 (UInt8.ofNat n)=[UInt8.ofNat n]:=by
 have e:(UInt8.ofNat n).toNat=n:=by simp; omega
 have ne:∀ k:UInt8,k.toNat<128->UInt8.ofNat n≠k:=by
  intro k hk hh;rw[<-hh,e] at hk;omega
 unfold u9;rw[if_neg (by rintro (hh | hh) <;> exact ne _ (by decide) hh),if_neg (ne _ (by decide)),if_neg (ne _ (by decide)),if_neg (ne _ (by decide)),if_neg (ne _ (by decide)),if_neg (ne _ (by decide)),if_neg (by omega)]
theorem CA (c:Nat) (h:c<128):kQ (bR c)=u9 (UInt8.ofNat c):=by
 unfold bR kQ;rw[if_pos h];simp
theorem Bn (c:Nat) (h:¬ c<128) (h':c<=1114111):kQ (bR c)=bR c:=by
 unfold bR kQ;rw[if_neg h];split
 ·simp only[List.flatMap_cons,List.flatMap_nil]
  rw[lh _ (by omega) (by omega),lh _ (by omega) (by omega)];rfl
 split
 ·simp only[List.flatMap_cons,List.flatMap_nil]
  rw[lh _ (by omega) (by omega),lh _ (by omega) (by omega),lh _ (by omega) (by omega)];rfl
 ·simp only[List.flatMap_cons,List.flatMap_nil]
  rw[lh _ (by omega) (by omega),lh _ (by omega) (by omega),lh _ (by omega) (by omega),lh _ (by omega) (by omega)];rfl
theorem Oa (c:Nat) (h:c<=1114111):(kQ (bR c)).length<=6:=by
 by_cases h1:c<128
 ·rw[CA c h1]; exact A1 _
 ·rw[Bn c h1 h]; have:=qs c; omega
theorem FD {s:By} {c k:Nat} (h:sD s=some (c,k)):okR c/\2<=k/\k<=s.length+1/\(kQ (bR c)).length<=k:=by
 unfold sD at h;split at h
 ·cases h
 ·rename_i x r
  by_cases h1:x=34\/x=92\/x=47
  ·rw[if_pos h1] at h
   cases h;rcases h1 with rfl | rfl | rfl <;> exact ⟨by decide,by decide,by simp,by decide⟩
  rw[if_neg h1] at h;by_cases h2:x=98
  ·rw[if_pos h2] at h; cases h; exact ⟨by decide,by decide,by simp,by decide⟩
  rw[if_neg h2] at h;by_cases h3:x=102
  ·rw[if_pos h3] at h; cases h; exact ⟨by decide,by decide,by simp,by decide⟩
  rw[if_neg h3] at h;by_cases h4:x=110
  ·rw[if_pos h4] at h; cases h; exact ⟨by decide,by decide,by simp,by decide⟩
  rw[if_neg h4] at h;by_cases h5:x=114
  ·rw[if_pos h5] at h; cases h; exact ⟨by decide,by decide,by simp,by decide⟩
  rw[if_neg h5] at h;by_cases h6:x=116
  ·rw[if_pos h6] at h; cases h; exact ⟨by decide,by decide,by simp,by decide⟩
  rw[if_neg h6] at h;by_cases h7:x=117
  ·rw[if_pos h7] at h
   obtain ⟨q1,q2,q3⟩:=Ty h;have q4:=Oa c q1.1;refine ⟨q1,by omega,by simp; omega,by omega⟩
  ·rw[if_neg h7] at h; cases h
end Go.Vm
namespace Go.Vm
open Go.Lib (decodeL decodeN decodeL_N decode_N decodeN_shape decodeL_le)
theorem xh:txt []=none:=rfl
theorem lv (c:UInt8) (r:By):txt (c::r)=if c=34 then some ([],r) else if c=92 then (sD r).bind fun x=>(txt ((c::r).drop x.2)).map fun y=>(bR x.1++y.1,y.2)
  else if (decodeL (c::r)).1<32\/((decodeL (c::r)).1=65533/\(decodeL (c::r)).2=1) then none else (txt ((c::r).drop (decodeL (c::r)).2)).map fun y=>((c::r).take (decodeL (c::r)).2++y.1,y.2):=by
 have hp:=bH (c::r);unfold txt;conv=>lhs; rw[adb,Kp]
 by_cases h1:c=34
 ·rw[if_pos h1,if_pos h1]
 rw[if_neg h1,if_neg h1];by_cases h2:c=92
 ·rw[if_pos h2,if_pos h2]
  cases he:sD r with
  | none=>rfl
  | some x =>
   have:=PL he;simp only[ada];rw[uT r.length ((c::r).drop x.2).length ((c::r).drop x.2) (by simp; omega) (Nat.le_refl _)]
 rw[if_neg h2,if_neg h2];split
 ·rfl
 ·rw[uT r.length ((c::r).drop (decodeL (c::r)).2).length ((c::r).drop (decodeL (c::r)).2) (by simp; omega) (Nat.le_refl _)]
theorem Sv {p:By->Prop} (h:∀ s,(∀ k,1<=k->s ≠ []->p (s.drop k))->p s) (s:By):p s:=by
 have:∀ n (s:By),s.length<=n->p s:=by
  intro n;induction n with
  | zero=>intro s hs; exact h s fun k _ iv=>absurd (List.length_eq_zero_iff.1 (by omega)) iv
  | succ n ih=>intro s hs; exact h s fun k hk iv=>ih _ (by have:=List.length_pos_iff.2 iv; simp; omega)
 exact this s.length s (Nat.le_refl _)
theorem xU (a b:By):kQ (a++b)=kQ a++kQ b:=by unfold kQ; simp
theorem yu (s:By):∀ {t r:By},txt s=some (t,r)->OkT t/\r <:+ s/\(kQ t).length+1+r.length<=s.length:=by
 refine Sv (p:=fun s => ∀ {t r:By},txt s=some (t,r)->OkT t/\r <:+ s/\(kQ t).length+1+r.length<=s.length) ?_ s;intro s ih t r h;cases s with
 | nil=>rw[xh] at h; cases h
 | cons c s =>
  rw[lv] at h;by_cases h1:c=34
  ·rw[if_pos h1] at h
   cases h;exact ⟨.nil,List.suffix_cons _ _,by simp[kQ]; omega⟩
  rw[if_neg h1] at h;by_cases h2:c=92
  ·rw[if_pos h2] at h
   obtain ⟨x,he,h⟩:=adk.1 h;obtain ⟨y,hy,h⟩:=Option.map_eq_some_iff.1 h;obtain ⟨y1,y2⟩:=y;cases h;obtain ⟨q1,q2,q3,q4⟩:=FD (c:=x.1) (k:=x.2) he;obtain ⟨i1,i2,i3⟩:=ih x.2 (by omega) (by simp) hy;refine ⟨.cons _ _ q1 i1,i2.trans (List.drop_suffix _ _),?_⟩;rw[xU];simp at i3 ⊢
   omega
  rw[if_neg h2] at h;split at h
  ·cases h
  ·rename_i hb
   obtain ⟨y,hy,h⟩:=Option.map_eq_some_iff.1 h;obtain ⟨y1,y2⟩:=y;cases h;have hp:=bH (c::s);have hl:=decodeL_le (c::s) (by simp);obtain ⟨i1,i2,i3⟩:=ih (decodeL (c::s)).2 hp (by simp) hy;have hk:=pG (c::s);rw[jK (c::s) (by simp) (fun hh=>hb (.inr hh))];refine ⟨.cons _ _ hk i1,i2.trans (List.drop_suffix _ _),?_⟩;have e:(kQ (bR (decodeL (c::s)).1)).length<=(decodeL (c::s)).2:=by
    have e2:=congrArg List.length (jK (c::s) (by simp) (fun hh=>hb (.inr hh)));rw[List.length_take,Nat.min_eq_left hl] at e2;by_cases hc:(decodeL (c::s)).1<128
    ·rw[CA _ hc]
     have e3:bR (decodeL (c::s)).1=[UInt8.ofNat (decodeL (c::s)).1]:=by unfold bR; rw[if_pos hc]
     have e4:(decodeL (c::s)).2=1:=by rw[e2,e3]; rfl
     have e5:=jK (c::s) (by simp) (fun hh=>hb (.inr hh));rw[e4,e3] at e5;simp at e5;have WO:¬ c.toNat<32:=by
      intro hh;apply hb
      left
      have:=congrArg UInt8.toNat e5;simp at this;omega
     rw[<-e5,e4];unfold u9;have n8:c≠8:=by rintro rfl; exact WO (by decide)
     have n9:c≠9:=by rintro rfl; exact WO (by decide)
     have n10:c≠10:=by rintro rfl; exact WO (by decide)
     have n12:c≠12:=by rintro rfl; exact WO (by decide)
     have n13:c≠13:=by rintro rfl; exact WO (by decide)
     rw[if_neg (fun hh=>hh.elim h1 h2),if_neg n8,if_neg n9,if_neg n10,if_neg n12,if_neg n13,if_neg WO];exact Nat.le_refl _
    ·rw[Bn _ hc hk.1]; omega
   rw[xU];simp at i3 ⊢
   omega
end Go.Vm
