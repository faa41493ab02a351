import Derived.Test.YtihpjgcbmipdbaaGreatDoorPk1
set_option linter.unusedVariables false
namespace Go.Vm
open Go Go.Proofs
def byteOf (a b:UInt8):UInt8:=UInt8.ofNat (16*(dgt a).toNat+(dgt b).toNat)
def kj:B8->Option B8
 | []=>some []
 | c::s=>if c≠37 then (kj s).map (c :: ·) else match s with
  | a::b::t=>if 0<=dgt a/\0<=dgt b then (kj t).map (byteOf a b :: ·) else none
  | _=>none
theorem uP:kj []=some []:=by rw[kj]
theorem Gv {c:UInt8} {s:B8} (h:c≠37):kj (c::s)=(kj s).map (c :: ·):=by rw[kj.eq_def]; exact if_pos h
theorem Ga (a b:UInt8) (t:B8):kj (37::a::b::t)=if 0<=dgt a/\0<=dgt b then (kj t).map (byteOf a b :: ·) else none:=by rw[kj.eq_def]; simp
theorem pB {s:B8} (h:s.length<=1):kj (37::s)=none:=by
 rw[kj.eq_def]
 match s,h with
 | [],_=>simp
 | [a],_=>simp
theorem u3:∀ (m:Nat) (s t:B8),s.length<=m->kj s=some t->t.length<=s.length
 | m,[],t,_,h=>by rw[uP] at h; cases h; simp
 | 0,c::s,t,hm,h=>by simp at hm
 | m+1,c::s,t,hm,h=>by
  by_cases hc:c=37
  ·subst hc
   match s,hm,h with
   | [],_,h=>rw[pB (by simp)] at h; cases h
   | [a],_,h=>rw[pB (by simp)] at h; cases h
   | a::b::u,hm,h =>
    rw[Ga] at h;split at h
    ·obtain ⟨v,hv,rfl⟩:=Option.map_eq_some_iff.1 h
     have:=u3 m u v (by simp at hm; omega) hv;simp; omega
    ·cases h
  ·rw[Gv hc] at h
   obtain ⟨v,hv,rfl⟩:=Option.map_eq_some_iff.1 h;have:=u3 m s v (by simpa using hm) hv;simp; omega
def rdQ (out:B8):Option B8->(Unit×acX×B8×Unit) ⊕ (B8×Bool×Unit)
 | none => .inr ([],false,())
 | some t => .inl ((),((),(),()),out++t,())
theorem Ly (out:B8) (x:UInt8) (o:Option B8):rdQ out (o.map (x :: ·))=rdQ (out++[x]) o:=by
 cases o with
 | none=>rfl
 | some t=>simp[rdQ]
def Rm (out:B8):Option B8->(B8×Unit) ⊕ (B8×Bool×Unit)
 | none => .inr ([],false,())
 | some t => .inl (out++t,())
theorem Ia (out:B8) (x:UInt8) (o:Option B8):Rm out (o.map (x :: ·))=Rm (out++[x]) o:=by
 cases o with
 | none=>rfl
 | some t=>simp[Rm]
theorem Px:∀ a b:Fin 16,IntKind.u8.wrap (ior .i64 (shl .i64 ((a.val:Nat):Int) 4) ((b.val:Nat):Int))=((16*a.val+b.val:Nat):Int):=by decide +kernel
theorem byte_at {a b:UInt8} (ha:0<=dgt a) (hb:0<=dgt b):IntKind.u8.wrap (ior .i64 (shl .i64 (dgt a) 4) (dgt b))=((16*(dgt a).toNat+(dgt b).toNat:Nat):Int):=by
 have h1:=FT a;have h2:=FT b;have:=Px ⟨(dgt a).toNat,by omega⟩ ⟨(dgt b).toNat,by omega⟩;simp only[Int.toNat_of_nonneg ha,Int.toNat_of_nonneg hb] at this;exact this
theorem OO {a b:UInt8} (ha:0<=dgt a) (hb:0<=dgt b):IntKind.u8.wrap (IntKind.i64.wrap (IntKind.i64.wrap (dgt a*16)+dgt b))=((16*(dgt a).toNat+(dgt b).toNat:Nat):Int):=by
 have h1:=FT a;have h2:=FT b;rw[wrap64 (dgt a*16) (by omega) (by omega),wrap64 _ (by omega) (by omega),PY _ (by omega)];omega
theorem Sc (k j:Nat) (h:k+j<=1000000):IntKind.i64.wrap ((k:Int)+(j:Int))=((k+j:Nat):Int):=by rw[wrap64] <;> omega
theorem vg (k:Nat) (h:k<=1000000):IntKind.i64.wrap ((k:Int)+1)=((k+1:Nat):Int):=gw k (by omega)
theorem vU (k:Nat) (h:k<=900000):IntKind.i64.wrap ((k:Int)+2)=((k+2:Nat):Int):=Sc k 2 (by omega)
theorem yH (s:B8) (hs:s.length<=1000):∀ (m k:Nat) (out:B8),s.length-k<=m->k<=s.length->out.length+(s.length-k)<=5000 ->
  ag eU (s,(),(k:Int),((),(),()),out,()) (rdQ out (kj (s.drop k)))
 | m,k,out,hm,hk,ho=>by
  by_cases aH:k<s.length
  ·have hx:=vW s k (k:Int) rfl aH
   have hd:=ado aH;cases m with
   | zero=>omega
   | succ m =>
   by_cases hc:s[k]=37
   ·by_cases h2:k+2<s.length
    ·have yk:=vW s (k+1) ((k+1:Nat):Int) rfl (by omega)
     have K9:=vW s (k+2) ((k+2:Nat):Int) rfl h2;have G0:=ado (show k+1<s.length by omega);have Om:=ado h2;rw[hd,G0,Om,hc,Ga];by_cases ha:0<=dgt s[k+1]
     ·by_cases hb:0<=dgt s[k+2]
      ·rw[if_pos ⟨ha,hb⟩,Ly]
       refine ag.step (.of fun F => ?_) (yH s hs m (k+3) (out++[byteOf s[k+1] s[k+2]]) (by omega) (by omega) (by simp; omega));unfold eU;refine (if_pos (by simp; omega)).trans ?_;refine bY (a := .inl (s,(),((k+2:Nat):Int),((),(),()),out++[byteOf s[k+1] s[k+2]],())) ?_ ?_
       ·refine bY hx ?_
        rw[if_neg (by simp[hc])];refine bY (a:=(s,(),(k:Int),false,((),(),()),out,())) ?_ (bY (a:=(s,(),(k:Int),false,((),(),()),out,())) ?_ ?_)
        ·rw[if_pos (by rw[vU k (by omega)]; simp; omega)]
         simp only[vg k (by omega),yk,ada,qB];rw[adh (by omega)]
        ·rw[if_pos rfl]
         simp only[vU k (by omega),K9,ada,qB];rw[adh (by omega)]
        ·rw[if_neg (by simp)]
         simp only[vg k (by omega),vU k (by omega),yk,K9,ada,qB,byte_at ha hb,oQ F out _ (by omega),Int.toNat_natCast];rfl
       ·simp only[dq]
        rw[vg (k+2) (by omega)]
      ·rw[if_neg (by rintro ⟨_,h⟩; exact hb h)]
       refine ag.fin (.of fun F => ?_);unfold eU;refine (if_pos (by simp; omega)).trans ?_;refine bY (a := .inr ([],false,())) ?_ rfl;refine bY hx ?_;rw[if_neg (by simp[hc])];refine bY (a:=(s,(),(k:Int),false,((),(),()),out,())) ?_ (bY (a:=(s,(),(k:Int),true,((),(),()),out,())) ?_ (if_pos rfl))
       ·rw[if_pos (by rw[vU k (by omega)]; simp; omega)]
        simp only[vg k (by omega),yk,ada,qB];rw[adh (by omega)]
       ·rw[if_pos rfl]
        simp only[vU k (by omega),K9,ada,qB];rw[adg (by omega)]
     ·rw[if_neg (by rintro ⟨h,_⟩; exact ha h)]
      refine ag.fin (.of fun F => ?_);unfold eU;refine (if_pos (by simp; omega)).trans ?_;refine bY (a := .inr ([],false,())) ?_ rfl;refine bY hx ?_;rw[if_neg (by simp[hc])];refine bY (a:=(s,(),(k:Int),true,((),(),()),out,())) ?_ (bY (a:=(s,(),(k:Int),true,((),(),()),out,())) (if_neg (by simp)) (if_pos rfl));rw[if_pos (by rw[vU k (by omega)]; simp; omega)];simp only[vg k (by omega),yk,ada,qB];rw[adg (by omega)]
    ·rw[hd,hc,pB (by simp; omega)]
     refine ag.fin (.of fun F => ?_);unfold eU;refine (if_pos (by simp; omega)).trans ?_;refine bY (a := .inr ([],false,())) ?_ rfl;refine bY hx ?_;rw[if_neg (by simp[hc])];refine bY (a:=(s,(),(k:Int),true,((),(),()),out,())) (if_neg ?_) (bY (a:=(s,(),(k:Int),true,((),(),()),out,())) (if_neg (by simp)) (if_pos rfl));rw[vU k (by omega)];simp;omega
   ·rw[hd,Gv hc,Ly]
    refine ag.step (.of fun F => ?_) (yH s hs m (k+1) (out++[s[k]]) (by omega) (by omega) (by simp; omega));unfold eU;refine (if_pos (by simp; omega)).trans ?_;refine bY (a := .inl (s,(),(k:Int),((),(),()),out++[s[k]],())) ?_ ?_
    ·refine bY hx ?_
     have yh:¬ ((s[k].toNat:Int)=37):=fun h=>hc (UInt8.toNat_inj.1 (by show s[k].toNat=37; omega))
     rw[if_pos (by simpa using yh)];simp only[hx,ada,oQ F out _ (by omega),byte_back]
    ·simp only[dq]
     rw[vg k (by omega)]
  ·have:k=s.length:=by omega
   subst this;rw[List.drop_eq_nil_of_le (Nat.le_refl _),uP];refine ag.fin (.of fun F => ?_);unfold eU;refine (if_neg (by simp)).trans ?_;simp[rdQ]
def mA (s:B8):B8×Bool:=match kj s with
 | none=>([],false)
 | some t=>(t,decide (t=[]) || tN t 60)
theorem AA {s:B8} (h:kj s=none):mA s=([],false):=by unfold mA; rw[h]
theorem vT {s t:B8} (h:kj s=some t):mA s=(t,decide (t=[]) || tN t 60):=by unfold mA; rw[h]
theorem Kj (s:B8) (hs:s.length<=1000):ae (fun F=>nZ F s) (mA s):=by
 unfold nZ;have hl:=yH s hs _ 0 [] (Nat.le_refl _) (by omega) (by simp; omega);rw[List.drop_zero] at hl;refine ae.bind hl.run ?_;cases hr:kj s with
 | none =>
  rw[AA hr];exact .ret _
 | some t =>
  rw[vT hr];simp only[rdQ,dq,List.nil_append];refine ae.bind (r:=(t,((),(),()))) (.of fun F=>rfl) ?_;by_cases h0:t=[]
  ·refine ae.bind (r:=(t,true,())) (.of fun F=>if_neg (by simp[h0])) ?_
   rw[adg h0,Bool.true_or];exact .ret _
  ·refine ae.bind (r:=(t,tN t 60,())) (ae.pos (by simpa using h0) (ae.bind (H8 t 60) (.ret _))) ?_
   rw[adh h0,Bool.false_or];exact .ret _
theorem wA (s:B8) (hs:s.length<=1000):∀ (m k:Nat) (out:B8),s.length-k<=m->k<=s.length->out.length+(s.length-k)<=5000 ->
  ag bD (s,out,(k:Int),()) (Rm out (kj (s.drop k)))
 | m,k,out,hm,hk,ho=>by
  by_cases aH:k<s.length
  ·have hx:=vW s k (k:Int) rfl aH
   have hd:=ado aH;cases m with
   | zero=>omega
   | succ m =>
   by_cases hc:s[k]=37
   ·by_cases h2:k+2<s.length
    ·have yk:=vW s (k+1) ((k+1:Nat):Int) rfl (by omega)
     have K9:=vW s (k+2) ((k+2:Nat):Int) rfl h2;have G0:=ado (show k+1<s.length by omega);have Om:=ado h2;rw[hd,G0,Om,hc,Ga];by_cases ha:0<=dgt s[k+1]
     ·by_cases hb:0<=dgt s[k+2]
      ·rw[if_pos ⟨ha,hb⟩,Ia]
       refine ag.step (.of fun F => ?_) (wA s hs m (k+3) (out++[byteOf s[k+1] s[k+2]]) (by omega) (by omega) (by simp; omega));unfold bD;refine (if_pos (by simp; omega)).trans ?_;refine bY (a := .inl (s,out++[byteOf s[k+1] s[k+2]],((k+2:Nat):Int),())) ?_ ?_
       ·refine bY hx ?_
        rw[if_neg (by simp[hc])];refine bY (a:=(s,out,(k:Int),false,())) ?_ (bY (a:=(s,out,(k:Int),false,())) ?_ ?_)
        ·rw[if_pos (by rw[vU k (by omega)]; simp; omega)]
         simp only[vg k (by omega),yk,ada,ov];rw[adh (by omega)]
        ·rw[if_pos rfl]
         simp only[vU k (by omega),K9,ada,ov];rw[adh (by omega)]
        ·rw[if_neg (by simp)]
         simp only[vg k (by omega),vU k (by omega),yk,K9,ada,ov,OO ha hb,Int.toNat_natCast];rw[if_pos (by simp; omega),ada];simp only[vU k (by omega)];rfl
       ·simp only[dq]
        rw[vg (k+2) (by omega)]
      ·rw[if_neg (by rintro ⟨_,h⟩; exact hb h)]
       refine ag.fin (.of fun F => ?_);unfold bD;refine (if_pos (by simp; omega)).trans ?_;refine bY (a := .inr ([],false,())) ?_ rfl;refine bY hx ?_;rw[if_neg (by simp[hc])];refine bY (a:=(s,out,(k:Int),false,())) ?_ (bY (a:=(s,out,(k:Int),true,())) ?_ (if_pos rfl))
       ·rw[if_pos (by rw[vU k (by omega)]; simp; omega)]
        simp only[vg k (by omega),yk,ada,ov];rw[adh (by omega)]
       ·rw[if_pos rfl]
        simp only[vU k (by omega),K9,ada,ov];rw[adg (by omega)]
     ·rw[if_neg (by rintro ⟨h,_⟩; exact ha h)]
      refine ag.fin (.of fun F => ?_);unfold bD;refine (if_pos (by simp; omega)).trans ?_;refine bY (a := .inr ([],false,())) ?_ rfl;refine bY hx ?_;rw[if_neg (by simp[hc])];refine bY (a:=(s,out,(k:Int),true,())) ?_ (bY (a:=(s,out,(k:Int),true,())) (if_neg (by simp)) (if_pos rfl));rw[if_pos (by rw[vU k (by omega)]; simp; omega)];simp only[vg k (by omega),yk,ada,ov];rw[adg (by omega)]
    ·rw[hd,hc,pB (by simp; omega)]
     refine ag.fin (.of fun F => ?_);unfold bD;refine (if_pos (by simp; omega)).trans ?_;refine bY (a := .inr ([],false,())) ?_ rfl;refine bY hx ?_;rw[if_neg (by simp[hc])];refine bY (a:=(s,out,(k:Int),true,())) (if_neg ?_) (bY (a:=(s,out,(k:Int),true,())) (if_neg (by simp)) (if_pos rfl));rw[vU k (by omega)];simp;omega
   ·rw[hd,Gv hc,Ia]
    refine ag.step (.of fun F => ?_) (wA s hs m (k+1) (out++[s[k]]) (by omega) (by omega) (by simp; omega));unfold bD;refine (if_pos (by simp; omega)).trans ?_;refine bY (a := .inl (s,out++[s[k]],(k:Int),())) ?_ ?_
    ·refine bY hx ?_
     have yh:¬ ((s[k].toNat:Int)=37):=fun h=>hc (UInt8.toNat_inj.1 (by show s[k].toNat=37; omega))
     rw[if_pos (by simpa using yh)];have jf:sub s (k:Int) ((k+1:Nat):Int)=some [s[k]]:=by
      rw[Vz s k (k+1) (by omega) (by omega),hd,show k+1-k=1 by omega];rfl
     refine bY (a:=[s[k]]) (by rw[vg k (by omega)]; exact jf) ?_;rw[if_pos (by simp; omega)]
    ·simp only[dq]
     rw[vg k (by omega)]
  ·have:k=s.length:=by omega
   subst this;rw[List.drop_eq_nil_of_le (Nat.le_refl _),uP];refine ag.fin (.of fun F => ?_);unfold bD;refine (if_neg (by simp)).trans ?_;simp[Rm]
theorem IX (s:B8) (hs:s.length<=1000):ae (fun F=>gJ F s) (mA s):=by
 unfold gJ;have hl:=wA s hs _ 0 [] (Nat.le_refl _) (by omega) (by simp; omega);rw[List.drop_zero] at hl;refine ae.bind hl.run ?_;cases hr:kj s with
 | none =>
  rw[AA hr];exact .ret _
 | some t =>
  have ht:=u3 _ s t (Nat.le_refl _) hr;rw[vT hr];by_cases h0:t=[]
  ·refine ae.bind (r:=(t,true,())) (.of fun F=>if_neg (by simp[h0])) ?_
   rw[adg h0,Bool.true_or];exact .ret _
  ·refine ae.bind (r:=(t,tN t 60,())) (ae.pos (by simpa using h0) (ae.bind (B0 t (by omega) 60) (.ret _))) ?_
   rw[adh h0,Bool.false_or];exact .ret _
def wr1 (c:UInt8):B8:=if BF c=true then [c] else [37,HR (c.toNat / 16),HR (c.toNat % 16)]
def iI (s:B8):B8:=s.flatMap wr1
theorem GH (c:UInt8):(wr1 c).length<=3:=by unfold wr1; split <;> simp
theorem A8 (s:B8):(iI s).length<=3*s.length:=by
 unfold iI;induction s with
 | nil=>simp
 | cons c s ih=>rw[List.flatMap_cons,adf,adb]; have:=GH c; omega
theorem TB:∀ c:Fin 256,shr .u8 ((c.val:Nat):Int) 4=((c.val / 16:Nat):Int)/\pX .u8 ((c.val:Nat):Int) 15=((c.val % 16:Nat):Int):=by decide +kernel
theorem zn (s:B8) (hs:s.length<=1000):∀ (m k:Nat) (out:B8),k+m=s.length->out.length+3*m<=50000 ->
  ag jJ (s,(),(s.length:Int),(k:Int),((),(),()),out,()) ((),((),(),()),out++iI (s.drop k),())
 | 0,k,out,h,ho=>by
  refine ag.fin (.of fun F => ?_);unfold jJ;refine (if_neg (by simp; omega)).trans ?_;rw[List.drop_eq_nil_of_le (by omega)];simp[iI]
 | m+1,k,out,h,ho=>by
  have hk:k<s.length:=by omega
  have hx:=vW s k (k:Int) rfl hk;have hw:=GH s[k];rw[ado hk];have e:out++iI (s[k]::s.drop (k+1))=(out++wr1 s[k])++iI (s.drop (k+1)):=by unfold iI; rw[List.flatMap_cons,List.append_assoc]
  rw[e];refine ag.step (.of fun F => ?_) (zn s hs m (k+1) (out++wr1 s[k]) (by omega) (by simp; omega));unfold jJ;refine (if_pos (by simp; omega)).trans ?_;refine bY (a:=(s,(),(s.length:Int),(k:Int),((),(),()),out++wr1 s[k],())) ?_ ?_
  ·refine bY hx (bY (Pf F s[k]) ?_)
   cases hp:BF s[k]
   ·rw[if_neg (by simp)]
    have ht:=TB ⟨s[k].toNat,s[k].toNat_lt⟩;have hn:s[k].toNat<256:=s[k].toNat_lt;simp only at ht;simp only[oQ F out _ (by omega),ada,hx,ht.1,ht.2,HJ _ (show s[k].toNat / 16<16 by omega),HJ _ (show s[k].toNat % 16<16 by omega)];rw[oQ F _ _ (by simp; omega)];simp only[ada];rw[oQ F _ _ (by simp; omega)];simp only[ada,byte_back];unfold wr1;rw[hp,if_neg (by simp)];simp
   ·rw[if_pos rfl]
    simp only[hx,ada,oQ F out _ (by omega),byte_back];unfold wr1;rw[hp,if_pos rfl]
  ·simp only
   rw[vg k (by omega)]
theorem Fe (s:B8) (hs:s.length<=1000):ae (fun F=>mq F s) (iI s):=by
 unfold mq;have hl:=zn s hs s.length 0 [] (by omega) (by simp; omega);rw[List.drop_zero,List.nil_append] at hl;exact ae.bind hl.run (.of fun F=>rfl)
theorem y9 (s:B8) (hs:s.length<=1000):∀ (m k:Nat) (out:B8),k+m=s.length->out.length+3*m<=50000 ->
  ag eW (s,out,(k:Int),()) (out++iI (s.drop k),())
 | 0,k,out,h,ho=>by
  refine ag.fin (.of fun F => ?_);unfold eW;refine (if_neg (by simp; omega)).trans ?_;rw[List.drop_eq_nil_of_le (by omega)];simp[iI]
 | m+1,k,out,h,ho=>by
  have hk:k<s.length:=by omega
  have hx:=vW s k (k:Int) rfl hk;have hw:=GH s[k];have hd:=ado hk;have jf:sub s (k:Int) ((k+1:Nat):Int)=some [s[k]]:=by
   rw[Vz s k (k+1) (by omega) (by omega),hd,show k+1-k=1 by omega];rfl
  rw[hd];have e:out++iI (s[k]::s.drop (k+1))=(out++wr1 s[k])++iI (s.drop (k+1)):=by unfold iI; rw[List.flatMap_cons,List.append_assoc]
  rw[e];refine ag.step (.of fun F => ?_) (y9 s hs m (k+1) (out++wr1 s[k]) (by omega) (by simp; omega));unfold eW;refine (if_pos (by simp; omega)).trans ?_;refine bY (a:=(s,out++wr1 s[k],(k:Int),())) ?_ ?_
  ·refine bY hx ?_
   have hn:s[k].toNat<256:=s[k].toNat_lt;have hI:BF s[k]=Bo s[k].toNat:=rfl;have hW:wr1 s[k]=if BF s[k]=true then [s[k]] else [37,HR (s[k].toNat / 16),HR (s[k].toNat % 16)]:=rfl
   rw[hW,hI];generalize hg:s[k].toNat=n at hn;obtain ⟨b1,h1⟩:∃ b,b=decide (65<=n/\n<=90):=⟨_,rfl⟩
   obtain ⟨b2,h2⟩:∃ b,b=(b1 || decide (97<=n/\n<=122)):=⟨_,rfl⟩
   obtain ⟨b3,h3⟩:∃ b,b=(b2 || decide (48<=n/\n<=57)):=⟨_,rfl⟩
   obtain ⟨b4,h4⟩:∃ b,b=(b3 || decide ((n:Int)=45)):=⟨_,rfl⟩
   obtain ⟨b5,h5⟩:∃ b,b=(b4 || decide ((n:Int)=46)):=⟨_,rfl⟩
   obtain ⟨b6,h6⟩:∃ b,b=(b5 || decide ((n:Int)=95)):=⟨_,rfl⟩
   obtain ⟨b7,h7⟩:∃ b,b=(b6 || decide ((n:Int)=126)):=⟨_,rfl⟩
   have hp:Bo n=b7:=by
    unfold Bo;rw[h7,h6,h5,h4,h3,h2,h1,Bool.eq_iff_iff];simp only[ac9,Bool.or_eq_true];omega
   have dn:∀ a b:Nat,(if decide (((a:Nat):Int)<=(n:Int))=true then some (s,out,(k:Int),(n:Int),decide ((n:Int)<=((b:Nat):Int)),()) else some (s,out,(k:Int),(n:Int),false,()))=some (s,out,(k:Int),(n:Int),decide (a<=n/\n<=b),()):=by
    intro a b;by_cases ha:a<=n
    ·rw[if_pos (adg (by omega))]
     simp only[Option.some.injEq,Prod.mk.injEq,true_and,and_true,decide_eq_decide];omega
    ·rw[if_neg (by simp; omega),adh (by omega)]
   refine bY (a:=(s,out,(k:Int),(n:Int),b1,())) (by rw[h1]; exact dn 65 90) ?_;refine bY (a:=(s,out,(k:Int),(n:Int),b2,())) (by cases b1 <;> rw[h2] <;> first | exact (if_pos rfl).trans (dn 97 122) | exact if_neg (by simp)) ?_;refine bY (a:=(s,out,(k:Int),(n:Int),b3,())) (by cases b2 <;> rw[h3] <;> first | exact (if_pos rfl).trans (dn 48 57) | exact if_neg (by simp)) ?_;refine bY (a:=(s,out,(k:Int),(n:Int),b4,())) (by cases b3 <;> rw[h4] <;> first | exact if_pos rfl | exact if_neg (by simp)) ?_;refine bY (a:=(s,out,(k:Int),(n:Int),b5,())) (by cases b4 <;> rw[h5] <;> first | exact if_pos rfl | exact if_neg (by simp)) ?_;refine bY (a:=(s,out,(k:Int),(n:Int),b6,())) (by cases b5 <;> rw[h6] <;> first | exact if_pos rfl | exact if_neg (by simp)) ?_;refine bY (a:=(s,out,(k:Int),(n:Int),b7,())) (by cases b6 <;> rw[h7] <;> first | exact if_pos rfl | exact if_neg (by simp)) ?_;rw[hp];cases b7
   ·simp only[ade,if_false]
    rw[if_pos (by simp; omega)];have w1:IntKind.i64.wrap (n:Int)=(n:Int):=wrap64 _ (by omega) (by omega);have w2:IntKind.i64.wrap ((n:Int).tdiv 16)=((n / 16:Nat):Int):=by
     rw[Int.tdiv_eq_ediv_of_nonneg (by omega),wrap64 _ (by omega) (by omega)];omega
    have w3:(n:Int).tmod 16=((n % 16:Nat):Int):=by
     rw[Int.tmod_eq_emod_of_nonneg (by omega)];omega
    simp only[w1,w2,w3,Rl F _ (show n / 16<16 by omega),Rl F _ (show n % 16<16 by omega),ada];rw[if_pos (by simp; omega),if_pos (by simp; omega)];simp
   ·rw[if_pos rfl,if_pos rfl]
    refine bY (a:=[s[k]]) (by rw[vg k (by omega)]; exact jf) ?_;rw[if_pos (by simp; omega)]
  ·simp only
   rw[vg k (by omega)]
theorem Fm (s:B8) (hs:s.length<=1000):ae (fun F=>fW F s) (iI s):=by
 unfold fW;have hl:=y9 s hs s.length 0 [] (by omega) (by simp; omega);rw[List.drop_zero,List.nil_append] at hl;exact ae.bind hl.run (.of fun F=>rfl)
end Go.Vm
