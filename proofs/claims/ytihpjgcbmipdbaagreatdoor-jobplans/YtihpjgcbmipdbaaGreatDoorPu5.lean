import Derived.Test.YtihpjgcbmipdbaaGreatDoorFphr
import Derived.Test.YtihpjgcbmipdbaaGreatDoorPj9
import Derived.Test.YtihpjgcbmipdbaaGreatDoorFr9
set_option linter.unusedVariables false
set_option linter.unusedSimpArgs false
namespace Go.Vm
open Go.Lib (decodeL decodeN decodeL_N decode_N decodeN_shape decodeL_le)
theorem E3 (p:UInt8->Bool):∀ l:By,l.dropWhile p=[] ↔ ∀ x∈l,p x=true
 | []=>by simp
 | c::l=>by
  by_cases h:p c=true
  ·rw[List.dropWhile_cons_of_pos h,E3 p l]
   simp[h]
  ·rw[List.dropWhile_cons_of_neg h]
   simp[h]
theorem Ob (l cs:By):Go.Lib.trimS l cs=[] ↔ l.all (fun c=>cs.contains c)=true:=by
 unfold Go.Lib.trimS Go.Lib.trimLeftS Go.Lib.trimRightS;rw[List.all_eq_true];constructor
 ·intro h
  rw[E3] at h;have hn:l.reverse.dropWhile (fun c=>cs.contains c)=[]:=by
   cases hx:l.reverse.dropWhile (fun c=>cs.contains c) with
   | nil=>rfl
   | cons y t =>
    have iv:l.reverse.dropWhile (fun c=>cs.contains c) ≠ []:=by rw[hx]; simp
    have h1:=List.head_dropWhile_not (fun c=>cs.contains c) iv;simp only[hx,List.head_cons] at h1;have h2:=h y (by rw[hx]; simp);rw[h1] at h2;cases h2
  rw[E3] at hn;intro x hx;exact hn x (by simpa using hx)
 ·intro h
  have:l.reverse.dropWhile (fun c=>cs.contains c)=[]:=by
   rw[E3];intro x hx;exact h x (by simpa using hx)
  rw[this];rfl
abbrev nmS:By:=[97,98,99,100,101,102,103,104,105,106,107,108,109,110,111,112,113,114,115,116,117,118,119,120,121,122,48,49,50,51,52,53,54,55,56,57]
theorem VW:∀ c:Fin 256,nmS.contains (UInt8.ofNat c.val)=zL (UInt8.ofNat c.val):=by decide +kernel
theorem Xu (c:UInt8):nmS.contains c=zL c:=by
 have:=VW ⟨c.toNat,c.toNat_lt⟩;simpa using this
theorem F1 (F:Nat) (x:By):iV F x=some (nmP x):=by
 unfold iV nmP;by_cases h0:x=[]
 ·subst h0; rfl
 ·have uB:=List.length_pos_iff.2 h0
  rw[adh h0];by_cases W7:x.length<=12
  ·have WR:(x.length:Int)<=12:=by omega
   have ht:lq F (x,nmS)=some (Go.Lib.trimS x nmS):=by
    unfold lq Mc;rw[if_pos (by rw[ac9]; simp only; omega),if_pos (by show decide (nmS.length<=4294967280)=true; decide),if_pos (by show (nmS.all fun b=>decide (b.toNat<128))=true; decide)]
   simp only[Bool.not_false,if_true,adg WR,ada,ht];rw[adg (show 1<=x.length from uB),adg W7,Bool.and_true,Bool.and_true];congr 1;rw[Bool.eq_iff_iff,ac9,Ob];have:(fun c=>nmS.contains c)=zL:=funext Xu;rw[this]
  ·have WR:¬ (x.length:Int)<=12:=by omega
   simp only[Bool.not_false,if_true,adh WR,ada,ade,if_false,adh W7,Bool.and_false]
theorem Tb:∀ c:Fin 256,(aL 0 (([37,98,107,109,112]:By),((c.val:Nat):Int))).map (fun i=>decide (0<=i))=some (decide (UInt8.ofNat c.val=37\/UInt8.ofNat c.val=98\/UInt8.ofNat c.val=107\/UInt8.ofNat c.val=109\/UInt8.ofNat c.val=112)):=by decide +kernel
theorem Ve (F:Nat) (c:UInt8):∃ i,aL F (([37,98,107,109,112]:By),(c.toNat:Int))=some i/\decide (0<=i)=decide (c=37\/c=98\/c=107\/c=109\/c=112):=by
 have h:=Tb ⟨c.toNat,c.toNat_lt⟩;have h':(aL F (([37,98,107,109,112]:By),(c.toNat:Int))).map (fun i=>decide (0<=i)) = _:=h;obtain ⟨i,h1,h2⟩:=Option.map_eq_some_iff.1 h';refine ⟨i,h1,?_⟩;rw[h2];simp
theorem Q7:∀ q:By,Go.Lib.indexByte q 125=if (q.takeWhile (fun c=>c != 125)).length<q.length then ((q.takeWhile (fun c=>c != 125)).length:Int) else -1
 | []=>rfl
 | c::q=>by
  have ih:=Q7 q;unfold Go.Lib.indexByte;by_cases hc:c=125
  ·subst hc
   rw[if_pos (by decide),List.takeWhile_cons_of_neg (by decide),if_pos (by simp)];rfl
  ·rw[if_neg (by simpa using hc),List.takeWhile_cons_of_pos (by simpa using hc),adb,adb]
   by_cases hl:(q.takeWhile (fun c=>c != 125)).length<q.length
   ·have e:Go.Lib.indexByte q 125=((q.takeWhile (fun c=>c != 125)).length:Int):=by rw[ih,if_pos hl]
    rw[e,if_neg (by simp),if_pos (by omega)];rfl
   ·have e:Go.Lib.indexByte q 125 = -1:=by rw[ih,if_neg hl]
    rw[e,if_pos (by decide),if_neg (by omega)]
theorem Sg (F:Nat) (x:By):aL F (x,125)=some (Go.Lib.indexByte x 125):=rfl
theorem VJ (F:Nat) (r:By) (hr:r.length<=1000):nW F (37::r)=some ((37::r:By).take (cr (37::r))):=by
 unfold nW;cases r with
 | nil=>rfl
 | cons b q =>
  have h2:¬ (((37::b::q:By).length:Nat):Int)<2:=by simp; omega
  have hi:idx (37::b::q:By) 1=some b:=bU _ 1 _ rfl;obtain ⟨i,g1,g2⟩:=Ve F b;rw[if_neg (by rw[ac9]; exact h2),hi,ada,g1,ada,g2];unfold cr;simp only;by_cases hc:b=37\/b=98\/b=107\/b=109\/b=112
  ·rw[if_pos (adg hc),if_pos hc]
   have hs:=jM (37::b::q:By) 0 2 (by decide) (by simp);have W4:sub (37::b::q:By) 0 2=some ((37::b::q:By).take 2):=hs;rw[W4,ada]
  ·rw[if_neg (by rw[ac9]; exact hc),if_neg hc]
   have n123:=nv b 123;rw[show ((123:UInt8).toNat:Int)=123 from rfl] at n123;simp only[Sg,ada,n123];by_cases hb:b=123
   ·subst hb
    have e:Go.Lib.indexByte (37::123::q) 125=if (q.takeWhile (fun c=>c != 125)).length<q.length then (((q.takeWhile (fun c=>c != 125)).length+2:Nat):Int) else -1:=by
     rw[Q7,List.takeWhile_cons_of_pos (by decide),List.takeWhile_cons_of_pos (by decide)];simp only[adb];by_cases hl:(q.takeWhile (fun c=>c != 125)).length<q.length
     ·rw[if_pos hl,if_pos (by omega)]
     ·rw[if_neg hl,if_neg (by omega)]
    rw[e];rw[if_pos rfl];by_cases hl:(q.takeWhile (fun c=>c != 125)).length<q.length
    ·rw[if_pos hl]
     have OA:¬ (((q.takeWhile (fun c=>c != 125)).length+2:Nat):Int)<0:=by omega
     have hs:sub (37::123::q:By) 2 (((q.takeWhile (fun c=>c != 125)).length+2:Nat):Int)=some (q.takeWhile (fun c=>c != 125)):=by
      have:=jM (37::123::q:By) 2 ((q.takeWhile (fun c=>c != 125)).length+2) (by omega) (by simp; omega);refine (this : _ = _).trans ?_;rw[show (37::123::q:By).drop 2=q from rfl,Nat.add_sub_cancel];congr 1;conv=>rhs; rw[<-List.take_length (l:=q.takeWhile (fun c=>c != 125))]
      exact (congrArg (List.take _) (List.takeWhile_append_dropWhile (p:=fun c=>c != 125) (l:=q)).symm).trans (List.take_append_of_le_length (Nat.le_refl _))
     simp only[decide_true,Bool.not_true,if_true,adh OA,ada,hs,F1];by_cases hn:nmP (q.takeWhile (fun c=>c != 125))=true
     ·have hg:(if (q.takeWhile (fun c=>c != 125)).length<q.length/\nmP (q.takeWhile (fun c=>c != 125))=true then (q.takeWhile (fun c=>c != 125)).length+3 else 0)=(q.takeWhile (fun c=>c != 125)).length+3:=if_pos ⟨hl,hn⟩
      rw[hg,hn];have RW:sub (37::123::q:By) 0 (IntKind.i64.wrap ((((q.takeWhile (fun c=>c != 125)).length+2:Nat):Int)+1))=some ((37::123::q:By).take ((q.takeWhile (fun c=>c != 125)).length+3)):=by
       have h3:IntKind.i64.wrap ((((q.takeWhile (fun c=>c != 125)).length+2:Nat):Int)+1)=(((q.takeWhile (fun c=>c != 125)).length+3:Nat):Int):=by
        simp only[adb] at hr;rw[wrap64 _ (by omega) (by omega)];omega
       rw[h3];have:=jM (37::123::q:By) 0 ((q.takeWhile (fun c=>c != 125)).length+3) (by omega) (by simp; omega);rw[List.drop_zero,Nat.sub_zero] at this;exact this
      simp only[Bool.not_true,ade,if_false,RW,ada]
     ·have UN:nmP (q.takeWhile (fun c=>c != 125))=false:=by simpa using hn
      have hg:(if (q.takeWhile (fun c=>c != 125)).length<q.length/\nmP (q.takeWhile (fun c=>c != 125))=true then (q.takeWhile (fun c=>c != 125)).length+3 else 0)=0:=if_neg (fun hh=>hn hh.2);rw[hg,UN];rfl
    ·have hg:(if (q.takeWhile (fun c=>c != 125)).length<q.length/\nmP (q.takeWhile (fun c=>c != 125))=true then (q.takeWhile (fun c=>c != 125)).length+3 else 0)=0:=if_neg (fun hh=>hl hh.1)
     rw[hg,if_neg hl];rfl
   ·rw[if_neg hb,adh hb]
    rfl
where
 nv (c k:UInt8):((c.toNat:Int)=(k.toNat:Int))=(c=k):=by
  apply propext;constructor
  ·intro hh; exact UInt8.toNat_inj.1 (by omega)
  ·intro hh; rw[hh]
abbrev CS:=By×Unit×Int×Unit×(By×Nat)×List Pc×Unit
def cS (s:By) (b:Int) (p:Nat) (out:List Pc):CS:=(s,(),b,(),(s,p),out,())
theorem P6 (F:Nat) (s:By) (b:Int) (p:Nat) (out:List Pc) (h:p<s.length) (hb:(p:Int)<b):bZ F (cS s b p out)=some (.inl (cS s b (p+runeLen s p) out)):=by
 unfold bZ cS;rw[if_pos (by rw[ac9]; exact h),if_pos (by rw[ac9]; exact hb)]
theorem Em (s:By) (out:List Pc) (y:Unit×List Pc×Unit ⊕ Unit×Bool×List Pc×Unit):∀ (n p:Nat),p+n<=s.length->(∀ b∈(s.drop p).take n,KZ b)->ag bZ (cS s ((p+n:Nat):Int) (p+n) out) y->ag bZ (cS s ((p+n:Nat):Int) p out) y
 | 0,p,h,hb,hy=>hy
 | n+1,p,h,hb,hy=>by
  have hp:p<s.length:=by omega
  have hd:s.drop p=s[p]::s.drop (p+1):=ado hp;have u7:KZ s[p]:=hb s[p] (by rw[hd,List.take_succ_cons]; exact adn ..);have Dp:runeLen s p=1:=by rw[gu,hd,xp _ (by have:=u7.2; omega)]
  have e:p+(n+1)=p+1+n:=by omega
  rw[e] at hy ⊢
  refine ag.step (.of fun F=>P6 F s _ p out hp (by omega)) ?_;rw[Dp];exact Em s out y n (p+1) (by omega) (fun b qI=>hb b (by rw[hd,List.take_succ_cons]; exact adm _ qI)) hy
def SC (out:List Pc) (x:Option (List Pc)):Unit×List Pc×Unit ⊕ Unit×Bool×List Pc×Unit:=match x with
 | some l => .inl ((),out++l,())
 | none => .inr ((),false,[],())
theorem Qc (s:By) (hs:s.length<=1000):∀ (n p:Nat) (b:Int) (out:List Pc),p<=s.length->s.length-p<=n->b<=(p:Int)->out.length+(s.length-p)<=1000->ag bZ (cS s b p out) (SC out (oM (s.drop p))):=by
 intro n;induction n with
 | zero =>
  intro p b out hp hn hb ho;rw[List.drop_eq_nil_of_le (by omega),xj];refine ag.fin (.of fun F => ?_);unfold bZ cS;rw[if_neg (by rw[ac9]; simp only; omega)];show _=some (Sum.inr (Sum.inl ((),out++[],())));rw[List.append_nil]
 | succ n ih =>
  intro p b out hp hn hb ho;by_cases aH:p<s.length
  case neg =>
   rw[List.drop_eq_nil_of_le (by omega),xj];refine ag.fin (.of fun F => ?_);unfold bZ cS;rw[if_neg (by rw[ac9]; exact aH)];show _=some (Sum.inr (Sum.inl ((),out++[],())));rw[List.append_nil]
  have hd:s.drop p=s[p]::s.drop (p+1):=ado aH;have I8:=jI s p;have Dp:=gu s p;have CN:¬ (p:Int)<b:=by omega
  have hlen:(s.drop p).length=s.length-p:=List.length_drop;rw[hd] at I8 Dp hlen ⊢
  rw[yA];generalize hr:s.drop (p+1)=r at *
  generalize hc:s[p]=c at *
  have hle:=decodeL_le (c::r) (by simp);have uB:=bH (c::r);have zI:=pG (c::r);by_cases RR:bw ((decodeL (c::r)).1:Int)=0
  ·rw[if_pos RR]
   refine ag.fin (.of fun F => ?_);unfold bZ cS;rw[if_pos (by rw[ac9]; exact aH),if_neg (by rw[ac9]; exact CN)];simp only[I8,mc,ada,RR];rfl
  rw[if_neg RR];have La:¬ ((decodeL (c::r)).1=65533/\(decodeL (c::r)).2=1):=by
   rintro ⟨h1,_⟩
   rw[h1] at RR;exact RR (by decide)
  have I9:=jK (c::r) (by simp) La;have Mm:(bR (decodeL (c::r)).1).length=(decodeL (c::r)).2:=by rw[<-I9,List.length_take]; omega
  have OB:=fun F=>qn F _ zI
  have jf:∀ m:Nat,m<=(c::r:By).length->sub s (p:Int) (IntKind.i64.wrap ((p:Int)+(m:Int)))=some ((c::r).take m):=by
   intro m hm;have hw:IntKind.i64.wrap ((p:Int)+(m:Int))=((p+m:Nat):Int):=by rw[wrap64 _ (by omega) (by omega)]; omega
   rw[hw,jM s p (p+m) (by omega) (by omega),hd,Nat.add_sub_cancel_left]
  have UU:=jf (decodeL (c::r)).2 hle;have hpm:p+(decodeL (c::r)).2<=s.length:=by omega
  have G2:∀ m,(c::r:By).drop m=s.drop (p+m):=by
   intro m;rw[<-List.drop_drop,hd]
  by_cases Ja:c=37
  ·rw[if_pos Ja]
   subst Ja;have G0:decodeL (37::r)=(37,1):=xp 37 (by decide) r;have UW:sub s (p:Int) (s.length:Int)=some (37::r):=by rw[hZ s p (by omega),hd]
   have hgp:=fun F=>VJ F r (by simp only[adb] at hlen; omega)
   have YF:=Am (37::r);have YG:cT s p=37:=by rw[I8,G0]; rfl
   have YH:runeLen s p=1:=by rw[Dp,G0]
   have YI:decide (bw 37=0)=false:=by decide
   have UX:∀ F,bL F 37=some 1:=fun F=>rfl
   have RG:sub s (p:Int) (IntKind.i64.wrap ((p:Int)+1))=some [37]:=jf 1 (by simp);by_cases hg:cr (37::r)=0
   ·rw[if_pos hg]
    refine ag.fin (.of fun F => ?_);have YJ:=hgp F;rw[hg,List.take_zero] at YJ;unfold bZ cS;rw[if_pos (by rw[ac9]; exact aH),if_neg (by rw[ac9]; exact CN)];simp only[YG,YH,mc,ada,YI,ade,if_false,UX,RG,decide_true,if_true,UW,YJ];rfl
   ·rw[if_neg hg]
    have Ad:((37::r:By).take (cr (37::r))).length=cr (37::r):=by rw[List.length_take]; omega
    have aam:¬ (37::r:By).take (cr (37::r))=[]:=by
     intro hh;rw[hh] at Ad;exact hg Ad.symm
    have hw:IntKind.i64.wrap ((p:Int)+(cr (37::r):Int))=((p+cr (37::r):Nat):Int):=by rw[wrap64 _ (by omega) (by omega)]; omega
    have h1:=ox (37::r);refine ag.step (x':=cS s ((p+cr (37::r):Nat):Int) (p+1) (out++[(true,(37::r:By).take (cr (37::r)),())])) (.of fun F => ?_) ?_
    ·unfold bZ cS
     rw[if_pos (by rw[ac9]; exact aH),if_neg (by rw[ac9]; exact CN)];simp only[YG,YH,mc,ada,YI,ade,if_false,UX,RG,decide_true,if_true,UW,hgp F,adh aam,aA,Ad,hw];rw[if_pos (by rw[ac9]; simp only[List.length_singleton]; omega)]
    ·have qJ:=Em s (out++[(true,(37::r:By).take (cr (37::r)),())]) (SC out ((oM ((37::r:By).drop (cr (37::r)))).map fun l=>(true,(37::r:By).take (cr (37::r)),())::l)) (cr (37::r)-1) (p+1) (by omega) ?_ ?_
     ·rw[show p+1+(cr (37::r)-1)=p+cr (37::r) by omega] at qJ
      exact qJ
     ·intro b qI
      refine Bt r b ?_;rw[hr] at qI;obtain ⟨k,hk⟩:∃ k,cr (37::r)=k+1:=⟨cr (37::r)-1,by omega⟩
      rw[hk] at qI ⊢
      rw[List.take_succ_cons];exact adm _ qI
     ·rw[show p+1+(cr (37::r)-1)=p+cr (37::r) by omega]
      have:=ih (p+cr (37::r)) ((p+cr (37::r):Nat):Int) (out++[(true,(37::r:By).take (cr (37::r)),())]) (by omega) (by omega) (by omega) (by rw[adf,List.length_singleton]; omega);rw[<-G2] at this;cases hx:oM ((37::r:By).drop (cr (37::r))) with
      | none=>rw[hx] at this; exact this
      | some l =>
       rw[hx] at this;unfold SC at this ⊢
       simp only[Option.map_some] at this ⊢
       rw[List.append_assoc] at this;exact this
  ·rw[if_neg Ja]
   have aan:¬ ((decodeL (c::r)).1:Int)=37:=by
    intro hh;have h1:(decodeL (c::r)).1=37:=by omega
    rw[h1] at I9;have e:bR 37=[37]:=rfl;obtain ⟨k,hk⟩:∃ k,(decodeL (c::r)).2=k+1:=⟨(decodeL (c::r)).2-1,by omega⟩
    rw[e,hk,List.take_succ_cons] at I9
    injection I9 with h2 _
    exact Ja h2
   have TN:((c::r).take (decodeL (c::r)).2).length=(decodeL (c::r)).2:=by rw[List.length_take]; omega
   have hw:IntKind.i64.wrap ((p:Int)+((decodeL (c::r)).2:Int))=((p+(decodeL (c::r)).2:Nat):Int):=by rw[wrap64 _ (by omega) (by omega)]; omega
   rw[hw] at UU;refine ag.step (x':=cS s ((p+(decodeL (c::r)).2:Nat):Int) (p+(decodeL (c::r)).2) (out++[(false,(c::r).take (decodeL (c::r)).2,())])) (.of fun F => ?_) ?_
   ·unfold bZ cS
    rw[if_pos (by rw[ac9]; exact aH),if_neg (by rw[ac9]; exact CN)];simp only[I8,Dp,mc,ada,adh RR,ade,if_false,OB F,Mm,UU,adh aan,aA,TN,hw];rw[if_pos (by rw[ac9]; simp only[List.length_singleton]; omega)]
   ·have:=ih (p+(decodeL (c::r)).2) ((p+(decodeL (c::r)).2:Nat):Int) (out++[(false,(c::r).take (decodeL (c::r)).2,())]) hpm (by omega) (by omega) (by rw[adf,List.length_singleton]; omega)
    rw[<-G2] at this;cases hx:oM ((c::r).drop (decodeL (c::r)).2) with
    | none=>rw[hx] at this; exact this
    | some l =>
     rw[hx] at this;unfold SC at this ⊢
     simp only[Option.map_some] at this ⊢
     rw[List.append_assoc] at this;exact this
def TC (s:By):List Pc×Bool:=if 60<s.length then ([],false) else match oM s with
 | some l=>(l,true)
 | none=>([],false)
theorem Uf (s:By) (hs:s.length<=1000):ae (fun F=>lf F s) (TC s):=by
 unfold lf TC;by_cases h6:60<s.length
 ·rw[if_pos h6]
  exact ae.pos (by rw[ac9]; omega) (.ret _)
 ·rw[if_neg h6]
  refine ae.neg (by rw[ac9]; omega) ?_;have h:=Qc s hs s.length 0 0 [] (by omega) (by omega) (by decide) (by simp; omega);rw[List.drop_zero] at h;refine ae.bind h.run ?_;cases oM s with
  | none=>exact .of fun F=>rfl
  | some l=>exact .of fun F=>rfl
end Go.Vm
namespace Go.Vm
open Go.Lib (decodeL decodeN decodeL_N decode_N decodeN_shape decodeL_le)
theorem ub (F c:Nat) (h:okR c):aQ F (c:Int)=some (ru (c:Int)):=by
 obtain ⟨h1,h2⟩:=h;rw[k6 c ⟨h1,h2⟩];unfold aQ bR;have d1:(c:Int).tdiv 64=((c / 64:Nat):Int):=by rw[Int.tdiv_eq_ediv_of_nonneg (by omega)]; omega
 have d2:(c:Int).tdiv 4096=((c / 4096:Nat):Int):=by rw[Int.tdiv_eq_ediv_of_nonneg (by omega)]; omega
 have d3:(c:Int).tdiv 262144=((c / 262144:Nat):Int):=by rw[Int.tdiv_eq_ediv_of_nonneg (by omega)]; omega
 have m1:∀ d:Nat,(d:Int).tmod 64=((d % 64:Nat):Int):=fun d=>by rw[Int.tmod_eq_emod_of_nonneg (by omega)]; omega
 simp only[d1,d2,d3];simp (disch:=omega) only[wrap64];simp only[m1];simp (disch:=omega) only[wrap64];by_cases c1:c<128
 ·have:(c:Int)<128:=by omega
  simp only[c1,this,if_true,decide_true];rw[kY _ (by omega) (by omega)];simp
 have n1:¬ (c:Int)<128:=by omega
 by_cases c2:c<2048
 ·have:(c:Int)<2048:=by omega
  simp only[c1,n1,c2,this,if_true,if_false,decide_true,decide_false,ade];rw[kY _ (by omega) (by omega),kY _ (by omega) (by omega)];congr 3 <;> omega
 have n2:¬ (c:Int)<2048:=by omega
 by_cases c3:c<65536
 ·have:(c:Int)<65536:=by omega
  simp only[c1,n1,c2,n2,c3,this,if_true,if_false,decide_true,decide_false,ade];rw[kY _ (by omega) (by omega),kY _ (by omega) (by omega),kY _ (by omega) (by omega)];congr 3
  all_goals first | omega | (congr 2 <;> omega)
 have n3:¬ (c:Int)<65536:=by omega
 simp only[c1,n1,c2,n2,c3,n3,if_true,if_false,decide_true,decide_false,ade];rw[kY _ (by omega) (by omega),kY _ (by omega) (by omega),kY _ (by omega) (by omega),kY _ (by omega) (by omega)];congr 3
 all_goals first | omega | (congr 2 <;> omega)
end Go.Vm
