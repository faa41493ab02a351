import Derived.Test.YtihpjgcbmipdbaaGreatDoorPjob1
import Derived.Test.YtihpjgcbmipdbaaGreatDoorFref21
import Derived.Test.YtihpjgcbmipdbaaGreatDoorFlaw28
set_option linter.unusedVariables false
set_option linter.unusedSimpArgs false
namespace Go.Vm
open Go.Proofs
theorem Lh (F:Nat) (n lo hi:Int) (h:lo≤hi):mO F (n,lo,hi)=some (brT n lo hi):=by
 unfold mO brT;by_cases h1:n<lo
 ·have h2 : ¬ hi<lo:=by omega
  simp [h1,h2]
 ·simp [h1]
theorem HW (F:Nat) (n:Int):nE F n=some (wz n):=by
 unfold nE;rw [Lh F n 0 1099511627776 (by decide)];rfl
end Go.Vm
namespace Go.Vm
open Go.Proofs
theorem Ka {p:By} (h:(gD p).2=true):(gD p).1.length≤60:=by
 cases p with
 | nil=>cases h
 | cons c t =>
  by_cases hc:59<t.length∨c≠47
  ·rw [ki hc] at h; cases h
  ·have h1 : ¬ 59<t.length:=fun x=>hc (.inl x)
   have h2:c=47:=by
    by_cases e:c=47
    ·exact e
    ·exact absurd (.inr e) hc
   subst h2;rw [jR h1] at h ⊢
   cases hw:eI (bz t) [] with
   | none=>rw [hw] at h; cases h
   | some l =>
    rw [hw] at h;show (wH l).1.length≤60;change (wH l).2=true at h;unfold wH at h ⊢
    by_cases h3:60<(if bW l = [] then [47] else bW l).length
    ·rw [if_pos h3] at h; cases h
    ·rw [if_neg h3]
     show (if bW l = [] then [47] else bW l).length≤60;omega
theorem OE (b:By):(ofP b).2=(kN b).2∧((kN b).2=0→(ofP b).1.2.1=(kN b).1∨(400<b.length)):=by
 unfold ofP kN;cases h:pV b with
 | ok v=>exact ⟨rfl,fun _ => .inl rfl⟩
 | error e =>
  refine ⟨rfl,fun h0 => ?_⟩;by_cases hl:b.length≤1000
  ·exact absurd h0 (by have:=zI h hl; simpa using this)
  ·exact .inr (by omega)
theorem Ut (l:List RlT) (m s:By) (hl:l.length≤1000000) (hb : ∀ r∈l,Ey r) (hs:s.length≤900):ae (fun F=>j5 F (l,m,s)) (match jz l m s with
  | none=>(([],false):List PhT×Bool)
  | some p=>(p,true)):=by
 unfold j5 jz;refine ae.bind (TR l m s hl hb (by omega)) ?_;by_cases hf:eR l m s<0
 ·rw [if_pos hf]
  exact ae.pos (abt hf) (.ret _)
 ·rw [if_neg hf]
  obtain ⟨h1,_⟩:=As l m s;have hi:(eR l m s).toNat<l.length:=by omega
  have hg:l[(eR l m s).toNat]? = some l[(eR l m s).toNat]:=List.getElem?_eq_getElem hi;have hx:idx l (eR l m s)=some l[(eR l m s).toNat]:=by
   have:=bc l (eR l m s).toNat _ hg
   rwa [show (((eR l m s).toNat:Nat):Int)=eR l m s by omega] at this
  rw [hg];exact ae.neg (by rw [abn]; exact hf) (ae.bind (.of fun F=>hx) (.ret _))
theorem F7 {l:List RlT} {m s:By} {p:List PhT} (hb : ∀ r∈l,Ey r) (h:jz l m s=some p):p.length≤100000:=by
 unfold jz at h;split at h
 ·cases h
 ·obtain ⟨r,hr,rfl⟩:=Option.map_eq_some_iff.1 h
  exact (hb r (List.mem_of_getElem? hr)).2.2.1
theorem Kh (r:Rq) (l:List RlT) (VG:r.bo.length≤1000) (hl:l.length≤1000000) (hb : ∀ r∈l,Ey r):ae (fun F=>fV F (r,l)) (kK r l):=by
 unfold fV kK;by_cases h1:80<r.bo.length
 ·rw [if_pos h1]
  exact ae.pos (by rw [abn]; show (80:Int)<(r.bo.length:Int); omega) (.ret _)
 rw [if_neg h1];refine ae.neg (by rw [abn]; show ¬ (80:Int)<(r.bo.length:Int); omega) ?_;refine ae.bind (SE r.bo VG) ?_;have hq:ae (fun F=>iF F (r.1,r.2.1,r.2.2.1,r.2.2.2.1,r.2.2.2.2.1,r.2.2.2.2.2.1,bM r.bo,())) (rq4 r (bM r.bo)):=UC r.1 r.2.1 r.2.2.1 r.2.2.2.1 r.2.2.2.2.1 r.2.2.2.2.2.1 (bM r.bo);refine ae.bind (r:=((l,(),(),(r.1,r.2.1,r.2.2.1,r.2.2.2.1,r.2.2.2.2.1,r.2.2.2.2.2.1,bM r.bo,()),(0,0,0,[],[],[],[],()),()):List RlT×Unit×Unit×Rq×Rq×Unit)) ?_ ?_
 ·unfold bM
  by_cases h2:(kN r.bo).2=0
  ·rw [if_pos h2]; exact ae.pos (abt h2) (.ret _)
  ·rw [if_neg h2]; exact ae.neg (by rw [abn]; exact h2) (.ret _)
 have oe:=D5 (r:=r) (b:=bM r.bo);generalize rq4 r (bM r.bo)=q at hq oe ⊢
 refine ae.bind hq ?_;obtain ⟨x,ok⟩:=q;cases ok with
 | false=>exact ae.pos rfl (.ret _)
 | true =>
  rw [if_neg (show ¬ ((x,true):Rq×Bool).2=false by simp)];refine ae.neg (by simp) ?_;obtain ⟨_,p1,e1⟩:=oe rfl;have ux:=Ka p1;have hx:x.pa=(gD r.pa).1:=by
   have e2:x = _:=e1;rw [e2]
  have hp:=Ut l x.me x.pa hl hb (by rw [hx]; omega);cases hc:jz l x.me x.pa with
  | none =>
   rw [hc] at hp;exact ae.bind (ae.bind hp (.ret _)) (ae.pos rfl (.ret _))
  | some p =>
   rw [hc] at hp;have Zf:=F7 hb hc;refine ae.bind (ae.bind hp (.ret _)) (ae.neg (by simp) ?_);exact ae.pos (by rw [abn]; show (0+p.length) * 48≤140737488355328; omega) (.ret _)
theorem TU (r:Rq) (l:List RlT) (VG:r.bo.length≤1000) (hl:l.length≤1000000) (hb : ∀ r∈l,zz r):ae (fun F=>fS F (r,l)) (kK r l):=by
 unfold fS kK;by_cases h1:80<r.bo.length
 ·rw [if_pos h1]
  exact ae.pos (by rw [abn]; show (80:Int)<(r.bo.length:Int); omega) (.ret _)
 rw [if_neg h1];refine ae.neg (by rw [abn]; show ¬ (80:Int)<(r.bo.length:Int); omega) ?_;refine ae.bind (Wm r.bo VG) ?_;have hq:ae (fun F=>dH F (r.1,r.2.1,r.2.2.1,r.2.2.2.1,r.2.2.2.2.1,r.2.2.2.2.2.1,bM r.bo,())) (rq4 r (bM r.bo)):=Q6 r.1 r.2.1 r.2.2.1 r.2.2.2.1 r.2.2.2.2.1 r.2.2.2.2.2.1 (bM r.bo);refine ae.bind (r:=((l,(),(),(r.1,r.2.1,r.2.2.1,r.2.2.2.1,r.2.2.2.2.1,r.2.2.2.2.2.1,bM r.bo,()),(0,0,0,[],[],[],[],()),()):List RlT×Unit×Unit×Rq×Rq×Unit)) ?_ ?_
 ·obtain ⟨f1,f2⟩:=OE r.bo
  unfold bM;by_cases h2:(kN r.bo).2=0
  ·rw [if_pos h2]
   have f3:=(f2 h2).resolve_right (by omega);exact ae.pos (by show decide ((ofP r.bo).2=0)=true; rw [f1]; exact abt h2) (.of fun F=>by rw [← f3])
  ·rw [if_neg h2]
   exact ae.neg (by show ¬ decide ((ofP r.bo).2=0)=true; rw [f1,abn]; exact h2) (.ret _)
 have oe:=D5 (r:=r) (b:=bM r.bo);generalize rq4 r (bM r.bo)=q at hq oe ⊢
 refine ae.bind hq ?_;obtain ⟨x,ok⟩:=q;cases ok with
 | false=>exact ae.pos rfl (.ret _)
 | true =>
  rw [if_neg (show ¬ ((x,true):Rq×Bool).2=false by simp)];refine ae.neg (by simp) ?_;obtain ⟨_,p1,e1⟩:=oe rfl;have ux:=Ka p1;have hx:x.pa=(gD r.pa).1:=by
   have e2:x = _:=e1;rw [e2]
  refine ae.bind (RH l x.me x.pa hl hb (by rw [hx]; omega)) ?_;by_cases hf:eR l x.me x.pa<0
  ·have hc:jz l ((x,true):Rq×Bool).1.me ((x,true):Rq×Bool).1.pa=none:=by show jz l x.me x.pa=none; unfold jz; rw [if_pos hf]
   rw [hc];exact ae.pos (abt hf) (.ret _)
  ·obtain ⟨h1,_⟩:=As l x.me x.pa
   have hi:(eR l x.me x.pa).toNat<l.length:=by omega
   have hg:l[(eR l x.me x.pa).toNat]? = some l[(eR l x.me x.pa).toNat]:=List.getElem?_eq_getElem hi;have hxx:idx l (eR l x.me x.pa)=some l[(eR l x.me x.pa).toNat]:=by
    have:=bc l (eR l x.me x.pa).toNat _ hg
    rwa [show (((eR l x.me x.pa).toNat:Nat):Int)=eR l x.me x.pa by omega] at this
   have hc:jz l ((x,true):Rq×Bool).1.me ((x,true):Rq×Bool).1.pa=some l[(eR l x.me x.pa).toNat].2.2.1:=by
    show jz l x.me x.pa = _;unfold jz;rw [if_neg hf,hg];rfl
   rw [hc];exact ae.neg (by rw [abn]; exact hf) (ae.bind (ae.bind (.of fun F=>hxx) (.ret _)) (.ret _))
theorem CO (r:Rq) (l:List RlT):(∃ s:Int,s≠0∧kK r l=(mM,[],s))∨(r.bo.length≤80 ∧ ∃ x m s p,x.bo=bM r.bo∧jz l m s=some p∧kK r l=(x,p,0)):=by
 unfold kK;by_cases h1:80<r.bo.length
 ·rw [if_pos h1]; exact .inl ⟨413,by decide,rfl⟩
 rw [if_neg h1];by_cases h2:(rq4 r (bM r.bo)).2=false
 ·rw [if_pos h2]; exact .inl ⟨400,by decide,rfl⟩
 rw [if_neg h2];obtain ⟨_,_,e1⟩:=D5 (r:=r) (b:=bM r.bo) (by simpa using h2);cases hc:jz l (rq4 r (bM r.bo)).1.me (rq4 r (bM r.bo)).1.pa with
 | none=>exact .inl ⟨400,by decide,rfl⟩
 | some p=>exact .inr ⟨by omega,_,_,_,p,by rw [e1],hc,rfl⟩
theorem N1 (r:Rq) (l:List RlT) (hb : ∀ r∈l,Ey r):(kK r l).2.1.length≤1000000:=by
 rcases CO r l with ⟨s,_,h⟩ | ⟨_,x,m,s,p,_,hp,h⟩
 ·rw [h]; exact Nat.zero_le _
 ·rw [h]; have:=F7 hb hp; show p.length≤1000000; omega
theorem Pm (r:Rq) (l:List RlT):(kK r l).1.bo.length≤80:=by
 rcases CO r l with ⟨s,_,h⟩ | ⟨h8,x,m,s,p,hx,hp,h⟩
 ·rw [h]; exact Nat.zero_le _
 ·rw [h]; have:=Gr r.bo; show x.bo.length≤80; rw [hx]; omega
def Ox (now until':Int):Int:=if wz until' - wz now<1 then 1 else wz until' - wz now
theorem P0 (F:Nat) (a b:Int):lD F (a,b)=some (Ox a b):=by
 have h1:=Gw a;have h2:=Gw b;unfold lD vo Ox;simp only [HW,abo];rw [wrap64 _ (by omega) (by omega)];by_cases c:wz b - wz a<0
 ·rw [if_pos c,if_pos (by decide),if_pos (by omega)]
 ·rw [if_neg c]
end Go.Vm
namespace Go.Vm
open Go.Lib (decodeL decodeN decodeL_N decode_N decodeN_shape decodeL_le)
end Go.Vm
namespace Go.Vm
open Go.Proofs
open Go.Lib (decodeL decodeN decodeL_N decode_N decodeN_shape decodeL_le)
end Go.Vm
namespace Go.Vm
open Go.Proofs
end Go.Vm
namespace Go.Vm
open Go.Proofs
open Go.Lib (itoa decDigits)
theorem y9 (l:List PhT) (hl:l.length≤1000000) : ∀ (n i:Nat),i+n=l.length→af fh (l,l,(l.length:Int),(i:Int),()) (.inl ())
 | 0,i,h=>by
  refine af.fin (.of fun F => ?_);unfold fh;rw [if_neg (by rw [abn]; simp only; omega)]
 | n+1,i,h=>by
  have hi:i<l.length:=by omega
  have hx:idx l (i:Int)=some l[i]:=bc _ _ _ (List.getElem?_eq_getElem hi);have hw:IntKind.i64.wrap ((i:Int)+1)=((i+1:Nat):Int):=by rw [wrap64 _ (by omega) (by omega)]; omega
  refine af.step (.of fun F => ?_) (y9 l hl n (i+1) (by omega));unfold fh;rw [if_pos (by rw [abn]; simp only; omega)];simp only [hx,abo,decide_true,Bool.and_self,Bool.not_true,abq,if_false,hw]
theorem Hu (l:List PhT) (hl:l.length≤1000000):ae (fun F=>eO F (l,l)) true:=by
 unfold eO;refine ae.neg (by simp) ?_;exact ae.bind (y9 l hl l.length 0 (by omega)).run (.ret _)
end Go.Vm
namespace Go.Vm
open Go.Proofs
theorem G9:ae (fun F=>ey F []) oi:=by
 unfold ey;have h0:=Aa [] (by decide);have e0:xo []=([],false):=by kernel_rfl
 rw [e0] at h0;have Lb:=Aa Uj (of_decide_eq_true (by kernel_rfl));rw [← DO,Ck oi Kl,DO] at Lb;have xq:ae (fun F=>gy F ()) Uj := .of fun F=>rfl
 exact ae.bind h0 (ae.neg (by decide) (ae.bind xq (ae.bind Lb (.ret _))))
abbrev jwB:By := [123,32,34,115,117,109,34,58,32,53,32,125]
abbrev jw1:Rq:=(0,0,0,[107],[112,111,115,116],[47,112,97,121,47],jwB,())
abbrev jw2:Rq:=(0,0,0,[107],[112,117,116],[47,112,97,121],[],())
theorem Pv:yc [107]=true:=by
 unfold yc;rw [if_neg (by decide),yF _ (by decide)]
 kernel_rfl
theorem Rp:gQ [112,111,115,116]=(lj,true):=by kernel_rfl
theorem UP:gQ [112,117,116]=(zB,true):=by kernel_rfl
theorem Gm:jP iA=(iA,true):=by
 have h1:gY iA=some iA:=rZ iA (by decide);rw [kc h1,CU iA 60 (by decide) (by decide) (KU iA (by decide))];rfl
theorem P5:gD [47,112,97,121,47]=(47 :: iA,true):=by
 rw [jR (by decide)];have e:bz [112,97,121,47] = [iA,[]]:=by decide
 have hw:eI (bz [112,97,121,47]) []=some [iA]:=by
  rw [e,eI,Gm,if_neg (by simp),if_neg (by decide),if_neg (by decide),eI,xO,if_neg (by simp),if_pos (.inl rfl),eI];rfl
 rw [hw];rfl
theorem OZ:gD [47,112,97,121]=(47 :: iA,true):=by
 rw [jR (by decide)];have e:bz [112,97,121] = [iA]:=by decide
 have hw:eI (bz [112,97,121]) []=some [iA]:=by
  rw [e,eI,Gm,if_neg (by simp),if_neg (by decide),if_neg (by decide),eI];rfl
 rw [hw];rfl
theorem Sf:dv 8 (.obj [([115,117,109], .int 5,())])=wkB:=by kernel_rfl
theorem Sa:kN jwB=(wkB,0):=by
 have h:pV jwB = .ok (.obj [([115,117,109], .int 5,())]):=by kernel_rfl
 unfold kN;rw [h];show (dv 8 (.obj [([115,117,109], .int 5,())]),(0:Int)) = _;rw [Sf]
theorem all_nil:(match pV [] with | .ok _=>true | .error _=>false)=false:=by kernel_rfl
theorem Un:(kN []).2≠0:=by
 have h0:=all_nil;unfold kN;cases h:pV [] with
 | ok v=>rw [h] at h0; cases h0
 | error e =>
  have:=zI h (by decide);simpa using this
theorem Ra:kK jw1 oi=((0,0,0,[107],lj,47 :: iA,wkB,()),wF,0):=by
 have hb:bM jwB=wkB:=by unfold bM; rw [Sa]; rfl
 have hq:rq4 jw1 wkB=((0,0,0,[107],lj,47 :: iA,wkB,()),true):=by
  unfold rq4 rqG sW;simp [Pv,Rp,P5]
 have pL:bM jw1.bo=wkB:=hb;have hp:jz oi (((0,0,0,[107],lj,47 :: iA,wkB,()),true):Rq×Bool).1.me (((0,0,0,[107],lj,47 :: iA,wkB,()),true):Rq×Bool).1.pa=some wF:=by
  show jz oi lj (47 :: iA)=some wF;unfold jz;rw [NQ,if_neg (by decide)];rfl
 unfold kK;rw [if_neg (by decide),pL,hq,if_neg (by decide),hp]
theorem Rj:(kK jw2 oi).2.2=400:=by
 have hb:bM [] = []:=by unfold bM; rw [if_neg Un]
 have hq:rq4 jw2 []=((0,0,0,[107],zB,47 :: iA,[],()),true):=by
  unfold rq4 rqG sW;simp [Pv,UP,OZ]
 have pL:bM jw2.bo = []:=hb;have hp:jz oi (((0,0,0,[107],zB,47 :: iA,[],()),true):Rq×Bool).1.me (((0,0,0,[107],zB,47 :: iA,[],()),true):Rq×Bool).1.pa=none:=by
  show jz oi zB (47 :: iA)=none;unfold jz;rw [Pk,if_pos (by decide)]
 unfold kK;rw [if_neg (by decide),pL,hq,if_neg (by decide),hp]
theorem To : ∀ r∈oi,Ey r:=fun r hr=>(R4 r hr).r
theorem M8:ae (fun F=>fK F ()) true:=by
 have h1:=Kh jw1 oi (by decide) (by decide) To;have h2:=Kh jw2 oi (by decide) (by decide) To;rw [Ra] at h1;have e2:=Rj;generalize kK jw2 oi=q at *
 unfold fK;refine ae.bind (ae.bind G9 (ae.bind h1 (.ret _))) (ae.bind (ae.bind G9 (ae.bind h2 (.ret _))) ?_);refine ae.bind (ae.pos rfl (.ret _)) (ae.bind (ae.pos (by kernel_rfl) (.ret _)) (ae.bind (ae.pos (by kernel_rfl) (.ret _)) (ae.bind (ae.pos (by show decide (q.2.2=400)=true; exact abt e2) (ae.bind (.of fun F=>P0 F 5 9) (.ret _))) (.of fun F => ?_))));rfl
def E2 (r:Rq) (l:List RlT) (n m:Nat):Bool:=decide (r.key.length≤100) && decide (r.me.length≤100) && decide (r.pa.length≤n) && decide (r.bo.length≤m) && Bx l
theorem Cd (r:Rq) (l:List RlT):ae (fun F=>dP F (r,l)) true:=by
 unfold dP;refine ae.bind M8 (ae.neg (by decide) ?_);have dn : ∀ a:By,decide ((100:Int)<(a.length:Int)) = !decide (a.length≤100):=fun a=>by rw [← decide_not,decide_eq_decide]; omega
 refine ae.bind (r:=((l,(), !(decide (r.key.length≤100) && decide (r.me.length≤100)),r,()):List RlT×Unit×Bool×Rq×Unit)) ?_ ?_
 ·show ae (fun F=>if decide ((100:Int)<(r.key.length:Int))=false then some (l,(),decide ((100:Int)<(r.me.length:Int)),r,()) else some (l,(),true,r,())) _
  rw [dn,dn];cases decide (r.key.length≤100) with
  | true=>exact ae.pos rfl (.ret _)
  | false=>exact ae.neg (by decide) (.ret _)
 refine ae.bind (r:=((l,(), !(decide (r.key.length≤100) && decide (r.me.length≤100) && decide (r.pa.length≤100)),r,()):List RlT×Unit×Bool×Rq×Unit)) ?_ ?_
 ·cases (decide (r.key.length≤100) && decide (r.me.length≤100)) with
  | true =>
   refine ae.pos rfl (.of fun F => ?_);show some (l,(),decide ((100:Int)<(r.pa.length:Int)),r,()) = _;rw [dn];rfl
  | false=>exact ae.neg (by simp) (.ret _)
 refine ae.bind (r:=((l,(), !(decide (r.key.length≤100) && decide (r.me.length≤100) && decide (r.pa.length≤100) && decide (r.bo.length≤100)),r,()):List RlT×Unit×Bool×Rq×Unit)) ?_ ?_
 ·cases (decide (r.key.length≤100) && decide (r.me.length≤100) && decide (r.pa.length≤100)) with
  | true =>
   refine ae.pos rfl (.of fun F => ?_);show some (l,(),decide ((100:Int)<(r.bo.length:Int)),r,()) = _;rw [dn];rfl
  | false=>exact ae.neg (by simp) (.ret _)
 refine ae.bind (r:=((l,(), !E2 r l 100 100,r,()):List RlT×Unit×Bool×Rq×Unit)) ?_ ?_
 ·unfold E2
  cases (decide (r.key.length≤100) && decide (r.me.length≤100) && decide (r.pa.length≤100) && decide (r.bo.length≤100)) with
  | true=>exact ae.pos rfl (ae.bind (Ov l) (.ret _))
  | false=>exact ae.neg (by simp) (.ret _)
 cases hs:E2 r l 100 100 with
 | false=>exact ae.pos rfl (.ret _)
 | true =>
  unfold E2 at hs;simp only [abv,abn] at hs;obtain ⟨⟨_,VG⟩,YZ⟩:=hs;obtain ⟨hl,hb⟩:=JJ YZ;have Zd : ∀ r∈l,Ey r:=fun r hr=>(hb r hr).r
  refine ae.neg abw ?_;have h1:=Kh r l (by omega) (by omega) Zd;have h2:=TU r l (by omega) (by omega) hb;have ux:=N1 r l Zd;have W5:=Ni r l;have rX:=Pm r l;have h3:(kK r l).2.2=0→ae (fun F=>fV F ((kK r l).1,l)) (kK r l):=by
   intro h0;have:=Kh (kK r l).1 l (by have:=rX; omega) (by omega) Zd;rw [W5 h0] at this;exact this
  generalize kK r l=q at *
  refine ae.bind (ae.bind h1 (.ret _)) (ae.bind (ae.bind h2 (.ret _)) ?_);refine ae.bind (r:=((l,(),q.2.1,q.2.2,q.2.1,false,q.1,()):List RlT×Unit×List PhT×Int×List PhT×Bool×Rq×Unit)) (ae.pos (by simp) (.of fun F=>by simp)) ?_;refine ae.bind (r:=((l,(),q.2.1,q.2.2,false,q.1,()):List RlT×Unit×List PhT×Int×Bool×Rq×Unit)) (ae.pos rfl (ae.bind (Hu q.2.1 ux) (.ret _))) ?_;refine ae.neg abw ?_;by_cases h0:q.2.2=0
  ·refine ae.neg (by simp [h0]) (ae.bind (ae.bind (h3 h0) (.ret _)) ?_)
   refine ae.bind (r:=((q.2.1,q.2.1,true,()):List PhT×List PhT×Bool×Unit)) (ae.pos (by simp) (.of fun F=>by simp [h0])) ?_;exact ae.bind (r:=((true,()):Bool×Unit)) (ae.pos rfl (ae.bind (Hu q.2.1 ux) (.ret _))) (.ret _)
  ·exact ae.pos (by simp [h0]) (.ret _)
theorem pure_conciergelaw28_AdmitJudges (r:Rq) (l:List RlT) : ∃ F,dP F (r,l)=some true:=(Cd r l).ex
end Go.Vm
