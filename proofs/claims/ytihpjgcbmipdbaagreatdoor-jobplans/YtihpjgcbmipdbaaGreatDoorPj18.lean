import Derived.Test.YtihpjgcbmipdbaaGreatDoorPj16
set_option linter.unusedVariables false
set_option linter.unusedSimpArgs false
namespace Go.Vm
open Go.Lib (decodeL decDigits itoa)
abbrev Pr:=By×By
def gM (d:Nat) (m:Me):Pr:=(m.1,cg d m.2.1)
def mB (p:Pr):By:=quo p.1++58::p.2
def lZ (m:List Pr):Nat:=(m.map fun p=>(mB p).length+1).sum
abbrev OS9:=Unit×Unit×Unit×RS×V9×V9×Unit
def oV (m:List Pr) (form:By):V9:=(6,form,[],0,m.map (·.1),m.map (·.2),())
def oS (m:List Pr) (form:By) (x:RS):OS9:=((),(),(),x,z9,oV m form,())
theorem HB (m:List Pr):m.length<=lZ m:=by
 unfold lZ;induction m with
 | nil=>exact Nat.le_refl _
 | cons b l ih=>simp only[List.map_cons,List.sum_cons,adb]; omega
theorem Bf (a b:List Pr):lZ (a++b)=lZ a+lZ b:=by unfold lZ; rw[List.map_append,List.sum_append]
theorem HD (m:List Pr) (p:Nat) (x:Pr):lZ (GD m p x)=lZ m+((mB x).length+1):=by
 have h:lZ m=lZ (m.take p)+lZ (m.drop p):=by rw[<-Bf,List.take_append_drop]
 have h1:lZ [x]=(mB x).length+1:=rfl;unfold GD;rw[Bf,Bf,h,h1];omega
theorem yy:∀ m:List Pr,(eF (m.map mB)).length<=lZ m
 | []=>Nat.le_refl _
 | [b]=>by unfold lZ; simp[eF]
 | b::c::l=>by
  have ih:=yy (c::l);rw[List.map_cons,List.map_cons];unfold eF;unfold lZ at ih ⊢
  rw[List.map_cons,List.sum_cons,adf,adb,<-List.map_cons];omega
theorem PO {m:List Pr} {p:Pr} (h:p∈m):(mB p).length<=lZ m:=by
 induction m with
 | nil=>cases h
 | cons b l ih =>
  unfold lZ at ih ⊢
  rw[List.map_cons,List.sum_cons];rcases List.mem_cons.1 h with rfl | h
  ·omega
  ·have:=ih h; omega
theorem PE (c:UInt8):1<=(u9 c).length:=by
 unfold u9
 repeat' split
 all_goals exact Nat.le_of_ble_eq_true rfl
theorem Gu (t:By):t.length<=(kQ t).length:=by
 induction t with
 | nil=>exact Nat.le_refl _
 | cons c t ih =>
  have:=PE c;show _<=(u9 c++kQ t).length;rw[adf,adb];omega
theorem GL (p:Pr):(mB p).length=(kQ p.1).length+p.2.length+3:=by unfold mB quo; simp; omega
def Kv (V:By->Except Nat (JV×By)) (acc:List Me) (s:By):Except Nat (Me×By):=match skp s with
 | 34::r=>match txt r with
  | none => .error 3
  | some (name,r)=>if acc.any (fun m=>m.1 == name) then .error 7 else match skp r with
   | 58::r=>match V r with
    | .error e => .error e
    | .ok (v,r) => .ok ((name,v,()),r)
   | _ => .error 3
 | _ => .error 3
theorem QG (V:By->Except Nat (JV×By)) (n:Nat) (acc:List Me) (s:By):wm V (n+1) acc s=match Kv V acc s with
  | .error e => .error e
  | .ok (m,r)=>match skp r with
   | 44::r=>wm V n (acc++[m]) r
   | 125::r => .ok (acc++[m],r)
   | _ => .error 3:=by
 rw[wm];unfold Kv;cases skp s with
 | nil=>rfl
 | cons c r =>
  by_cases hc:c=34
  ·subst hc
   simp only;cases txt r with
   | none=>rfl
   | some w =>
    obtain ⟨name,r1⟩:=w;simp only;split
    ·rfl
    ·cases skp r1 with
     | nil=>rfl
     | cons c r2 =>
      by_cases hc:c=58
      ·subst hc
       simp only;cases V r2 with
       | error e=>rfl
       | ok w=>rfl
      ·simp[hc]
  ·simp[hc]
noncomputable def Hh (F:Nat) (R:RS->Option (V9×RS)) (v6:Unit×Unit×Unit×By×Int×RS×V9×V9×Unit):Option (V9×RS):=(av F (v6.2.2.2.2.2.1.1,v6.2.2.2.2.2.1.2.1,v6.2.2.2.2.2.1.2.2.1,v6.2.2.2.2.2.1.2.2.2.1,())).bind fun v7=>(al F ((v7.2.1,v7.2.2.1,v7.2.2.2.1,v7.2.2.2.2.1,()),58)).bind fun v8=>if (!v8.1)=true then (ao F ((v8.2.1,v8.2.2.1,v8.2.2.2.1,v8.2.2.2.2.1,()),3)).bind fun v9=>some (v6.2.2.2.2.2.2.1,v9.2.1,v9.2.2.1,v9.2.2.2.1,v9.2.2.2.2.1,()) else (R (v8.2.1,IntKind.i64.wrap (v8.2.2.1+1),v8.2.2.2.1,v8.2.2.2.2.1,())).bind fun v10=>(cj F (v6.2.2.2.2.2.2.1.2.2.2.2.1,v6.2.2.2.2.1,v6.2.2.2.1)).bind fun v11=>(cj F (v6.2.2.2.2.2.2.1.2.2.2.2.2.1,v6.2.2.2.2.1,v10.1.2.1)).bind fun v12=>some ((v6.2.2.2.2.2.2.1.1,v6.2.2.2.2.2.2.1.2.1,v6.2.2.2.2.2.2.1.2.2.1,v6.2.2.2.2.2.2.1.2.2.2.1,v11,v12,()),v10.2.1,v10.2.2.1,v10.2.2.2.1,v10.2.2.2.2.1,())
theorem ED (F:Nat) (R:RS->Option (V9×RS)) (x:RS×V9):aZ F R x=(av F (x.1.1,x.1.2.1,x.1.2.2.1,x.1.2.2.2.1,())).bind fun v0=>(al F ((v0.2.1,v0.2.2.1,v0.2.2.2.1,v0.2.2.2.2.1,()),34)).bind fun v1=>if (!v1.1)=true then (ao F ((v1.2.1,v1.2.2.1,v1.2.2.2.1,v1.2.2.2.2.1,()),3)).bind fun v2=>some (x.2,v2.2.1,v2.2.2.1,v2.2.2.2.1,v2.2.2.2.2.1,()) else (aM F (v1.2.1,v1.2.2.1,v1.2.2.2.1,v1.2.2.2.2.1,())).bind fun v3=>(dj F (x.2.2.2.2.2.1,v3.1)).bind fun v4=>(if v4.2=true then (ao F ((v3.2.1,v3.2.2.1,v3.2.2.2.1,v3.2.2.2.2.1,()),7)).bind fun v5=>some ((),(),(),v3.1,v4.1,(v5.2.1,v5.2.2.1,v5.2.2.2.1,v5.2.2.2.2.1,()),x.2,z9,()) else some ((),(),(),v3.1,v4.1,(v3.2.1,v3.2.2.1,v3.2.2.2.1,v3.2.2.2.2.1,()),x.2,z9,()):Option (Unit×Unit×Unit×By×Int×RS×V9×V9×Unit)).bind (Hh F R):=rfl
theorem Bp (s:By) (hs:s.length<=1000) (R:Nat->RS->Option (V9×RS)) (name:By) (p:Int) (V:V9) (r:By) (hr:r <:+ s) (k e:Int) (h:isH (skp r) e 58=false):ae (fun F=>Hh F (R F) ((),(),(),name,p,st s r k e,V,z9,())) (V,st s (skp r) k (if e=0 then 3 else e)):=by
 have h1:=fun F=>lA s r hr F k e 58
 simp only[h] at h1;unfold Hh;refine ae.bind (ki s r hr hs k e) ?_;refine ae.bind (.of h1) ?_;refine ae.pos rfl (.of fun F => ?_);unfold st;simp only[bad_eq,ada]
def Zb (s:By) (d:Nat) (acc:List Me) (x:Except Nat (Me×By)) (y:V9×RS):Prop:=match x with
 | .ok (me,q)=>y=(oV ((bt (acc++[me])).map (gM d)) [],st s q (8-(d:Int)) 0)
 | .error e => ∃ m x',y=(oV m [],x')/\Bad s e x'/\lZ m<=3000+9000*(d+1)
theorem G5 (x:By) {l l':List Me} (h:l.Perm l'):l.any (fun m=>m.1 == x)=l'.any (fun m=>m.1 == x):=by
 rw[Bool.eq_iff_iff,List.any_eq_true,List.any_eq_true];constructor
 ·rintro ⟨m,hm,h2⟩; exact ⟨m,h.mem_iff.1 hm,h2⟩
 ·rintro ⟨m,hm,h2⟩; exact ⟨m,h.mem_iff.2 hm,h2⟩
theorem M4 (s:By) (hs:s.length<=1000) (d:Nat) (hd:d<=8) (R:Nat->RS->Option (V9×RS)) (hR:VT9 s d R) (r:By) (hr:r <:+ s) (acc:List Me) (hu:Uni acc) (ha:lZ ((bt acc).map (gM d))+r.length<=1001) :
  ∃ y,ae (fun F=>aZ F (R F) (st s r (8-(d:Int)) 0,oV ((bt acc).map (gM d)) [])) y/\Zb s d acc (Kv (jF d) acc r) y:=by
 have hml:((bt acc).map (gM d)).length<=1001:=Nat.le_trans (HB _) (by omega);have jB:skp r <:+ s:=(aw r).trans hr;have WV:=fun F=>lA s r hr F (8-(d:Int)) 0 34
 have hb:=ki s r hr hs (8-(d:Int)) 0;have zF:(((bt acc).map (gM d)).map (·.1))=(bt acc).map (·.1):=by rw[List.map_map]; rfl
 unfold Kv;split
 ·rename_i r0 h0
  rw[h0] at jB hb;simp only[h0,j9,decide_true] at WV;obtain ⟨y,t1,t2⟩:=LS s r0 jB hs (8-(d:Int));have pl:=fun x=>Tu (((bt acc).map (gM d)).map (·.1)) x (by rw[List.length_map]; omega)
  have ahead:∀ (v6:Unit×Unit×Unit×By×Int×RS×V9×V9×Unit) (z:V9×RS),(∀ F:Nat,(if decide ((((bt acc).map (gM d)).map (·.1))[lj (((bt acc).map (gM d)).map (·.1)) y.1]? = some y.1)=true then (ao F ((y.2.1,y.2.2.1,y.2.2.2.1,y.2.2.2.2.1,()),7)).bind fun v5=>some ((),(),(),y.1,(lj (((bt acc).map (gM d)).map (·.1)) y.1:Int),(v5.2.1,v5.2.2.1,v5.2.2.2.1,v5.2.2.2.2.1,()),oV ((bt acc).map (gM d)) [],z9,()) else some ((),(),(),y.1,(lj (((bt acc).map (gM d)).map (·.1)) y.1:Int),(y.2.1,y.2.2.1,y.2.2.2.1,y.2.2.2.2.1,()),oV ((bt acc).map (gM d)) [],z9,()):Option (Unit×Unit×Unit×By×Int×RS×V9×V9×Unit))=some v6)->ae (fun F=>Hh F (R F) v6) z->ae (fun F=>aZ F (R F) (st s r (8-(d:Int)) 0,oV ((bt acc).map (gM d)) [])) z:=by
   intro v6 z h6 hz;refine ae.congr (m:=fun F => _) ?_ fun F=>ED F (R F) _
   refine ae.bind hb ?_;refine ae.bind (.of WV) ?_;refine ae.neg (by show ¬ (!true)=true; decide) ?_;refine ae.bind t1 ?_;refine ae.bind (pl y.1) ?_;exact ae.bind (.of h6) hz
  split
  ·rename_i ht
   rw[ht] at t2;obtain ⟨r',si,rfl⟩:=t2;have YS:=Bp s hs R [] (lj (((bt acc).map (gM d)).map (·.1)) []:Int) (oV ((bt acc).map (gM d)) []) r' si (8-(d:Int)) 3 (uG _ _ (by decide) _);refine ⟨_,ahead _ _ (fun F => ?_) YS,(bt acc).map (gM d),_,rfl,⟨by decide,skp r',_,rfl,(aw r').trans si,by omega,by omega⟩,by omega⟩;unfold st;simp only[bad_eq,ada];split <;> rfl
  ·rename_i name r1 ht
   rw[ht] at t2;subst t2;obtain ⟨tx1,tx2,tx3⟩:=yu r0 ht;have Dw:=tx2.trans (cQ jB);have GY:decide ((((bt acc).map (gM d)).map (·.1))[lj (((bt acc).map (gM d)).map (·.1)) name]? = some name)=acc.any (fun m=>m.1 == name):=by
    rw[zF,DZ name (bt acc) (yM acc hu),G5 name (jl acc)]
   simp only at ahead;rw[GY] at ahead;split
   ·rename_i OC
    have YS:=Bp s hs R name (lj (((bt acc).map (gM d)).map (·.1)) name:Int) (oV ((bt acc).map (gM d)) []) r1 Dw (8-(d:Int)) 7 (uG _ _ (by decide) _);refine ⟨_,ahead _ _ (fun F => ?_) YS,(bt acc).map (gM d),_,rfl,⟨by decide,skp r1,_,rfl,(aw r1).trans Dw,by omega,by omega⟩,by omega⟩;rw[if_pos OC];unfold st;simp only[bad_eq,ada,if_true]
   ·rename_i OC
    have ahead':=fun z h=>ahead ((),(),(),name,(lj (((bt acc).map (gM d)).map (·.1)) name:Int),st s r1 (8-(d:Int)) 0,oV ((bt acc).map (gM d)) [],z9,()) z (fun F=>by rw[if_neg OC]) h
    have Mn:skp r1 <:+ s:=(aw r1).trans Dw;split
    ·rename_i r2 h2
     rw[h2] at Mn;have Y4:=cQ Mn;have Xg:=fun F=>lA s r1 Dw F (8-(d:Int)) 0 58
     simp only[h2,j9,decide_true] at Xg;have OD:=ki s r1 Dw hs (8-(d:Int)) 0;rw[h2] at OD;obtain ⟨⟨v,x⟩,v1,v2⟩:=hR r2 Y4;have u7:=LX (((bt acc).map (gM d)).map (·.1)) name;have aaw:(((bt acc).map (gM d)).map (·.1)).length<=1000000:=by rw[List.length_map]; omega
     have aax:(((bt acc).map (gM d)).map (·.2)).length<=1000000:=by rw[List.length_map]; omega
     have aay:lj (((bt acc).map (gM d)).map (·.1)) name<=(((bt acc).map (gM d)).map (·.2)).length:=by rw[List.length_map] at u7 ⊢; first | done | exact u7
     have hp1:=fun F=>Up F (((bt acc).map (gM d)).map (·.1)) _ name aaw u7
     have OK:=fun F=>Up F (((bt acc).map (gM d)).map (·.2)) _ v.2.1 aax aay
     have j3:ae (fun F=>aZ F (R F) (st s r (8-(d:Int)) 0,oV ((bt acc).map (gM d)) [])) (oV (GD ((bt acc).map (gM d)) (lj (((bt acc).map (gM d)).map (·.1)) name) (name,v.2.1)) [],x):=by
      refine ahead' _ ?_;unfold Hh;refine ae.bind OD ?_;refine ae.bind (.of Xg) ?_;refine ae.neg (by show ¬ (!true)=true; decide) ?_;have hn:=el Mn hs;have v1':ae (fun F=>R F (s,IntKind.i64.wrap (((s.length-((58:UInt8)::r2).length:Nat):Int)+1),8-(d:Int),0,())) (v,x):=by rw[hn]; exact v1
      refine ae.bind v1' ?_;refine ae.bind (.of hp1) ?_;refine ae.bind (.of OK) (.of fun F => ?_);unfold oV;simp only[BX]
     refine ⟨_,j3,?_⟩;have Aw:=fD r;rw[h0] at Aw;have RW:=fD r1;rw[h2] at RW;simp only[adb] at Aw RW;cases hv:jF d r2 with
     | error e =>
      rw[hv] at v2;obtain ⟨w1,w2⟩:Bad s e x/\v.2.1.length<=9000*(d+1):=v2;refine ⟨_,_,rfl,w1,?_⟩;rw[HD,GL];simp only;have UQ:=fw hr;omega
     | ok w =>
      obtain ⟨v',q⟩:=w;rw[hv] at v2;have v2:(v,x)=(qj d v',st s q (8-(d:Int)) 0):=v2
      injection v2 with q1 q2
      subst q1; subst q2;have iv:∀ m∈bt acc,m.1≠name:=by
       intro m hm hh;apply OC;rw[<-G5 name (jl acc)];exact List.any_eq_true.2 ⟨m,hm,beq_iff_eq.2 hh⟩
      show _ = _;have aaz:=BK ((name,v',()):Me) (bt acc) iv;rw[rJ,aaz,BX,zF];rfl
    ·rename_i Xg
     have YS:=Bp s hs R name (lj (((bt acc).map (gM d)).map (·.1)) name:Int) (oV ((bt acc).map (gM d)) []) r1 Dw (8-(d:Int)) 0 (tO (fun q h=>Xg q h) 0);exact ⟨_,ahead' _ YS,(bt acc).map (gM d),_,rfl,⟨by decide,skp r1,_,rfl,Mn,by omega,by omega⟩,by omega⟩
 ·rename_i GS
  simp only[tO (fun q h=>GS q h)] at WV;refine ⟨(oV ((bt acc).map (gM d)) [],st s (skp r) (8-(d:Int)) 3),?_,(bt acc).map (gM d),_,rfl,⟨by decide,skp r,_,rfl,jB,by omega,by omega⟩,by omega⟩;refine ae.congr (m:=fun F => _) ?_ fun F=>ED F (R F) _
  refine ae.bind hb ?_;refine ae.bind (.of WV) ?_;refine ae.pos rfl (.of fun F => ?_);unfold st;simp only[bad_eq,ada,if_true]
theorem Sd {d:Nat} {acc:List Me} {r:By} {me:Me} {q:By} (h:Kv (jF d) acc r = .ok (me,q)):q <:+ r/\(mB (gM d me)).length+q.length<=r.length/\(∀ m∈acc,m.1≠me.1):=by
 unfold Kv at h;split at h
 ·rename_i r0 h0
  split at h
  ·cases h
  ·rename_i name r1 ht
   split at h
   ·cases h
   ·rename_i OC
    split at h
    ·rename_i r2 h2
     split at h
     ·cases h
     ·rename_i v r3 hv
      cases h;obtain ⟨t1,t2,t3⟩:=yu r0 ht;obtain ⟨_,o2,o3,o4⟩:=vX d r2 v q hv;have Aw:=fD r;rw[h0] at Aw;have RW:=fD r1;rw[h2] at RW;simp only[adb] at Aw RW;refine ⟨?_,?_,?_⟩
      ·exact o2.trans (((List.suffix_cons 58 r2).trans (h2 ▸ aw r1)).trans (t2.trans ((List.suffix_cons 34 r0).trans (h0 ▸ aw r))))
      ·rw[GL]
       show (kQ name).length+(cg d v).length+3+q.length<=r.length;omega
      ·intro m hm hh
       apply OC;exact List.any_eq_true.2 ⟨m,hm,beq_iff_eq.2 hh⟩
    ·cases h
 ·cases h
theorem Qu {acc:List Me} {me:Me} (hu:Uni acc) (h:∀ m∈acc,m.1≠me.1):Uni (acc++[me]):=by
 unfold Uni;rw[List.pairwise_append];refine ⟨hu,List.pairwise_singleton _ _,fun a ha b hb => ?_⟩;rw[List.mem_singleton] at hb;subst hb;exact h a ha
end Go.Vm
namespace Go.Vm
open Go.Lib (decodeL decDigits itoa)
def RO9 (s:By) (d:Nat) (x:Except Nat (List Me×By)) (y:OS9):Prop:=∃ m x',y=oS m [] x'/\lZ m<=4000+9000*(d+1)/\match x with
 | .ok (l,q)=>m=(bt l).map (gM d)/\x'=st s q (8-(d:Int)-1) 0
 | .error e=>Bad s e x'
theorem wJ (s:By) (hs:s.length<=1000) (d:Nat) (hd:d<=8) (R:Nat->RS->Option (V9×RS)) (hR:VT9 s d R):∀ (n:Nat) (r:By) (acc:List Me),r <:+ s->r.length+1<=n->Uni acc->lZ ((bt acc).map (gM d))+r.length<=1001 ->
  ∃ y,ag (fun F=>bS F (R F)) (oS ((bt acc).map (gM d)) [] (st s r (8-(d:Int)) 0)) y/\RO9 s d (wm (jF d) n acc r) y
 | 0,r,acc,hr,hn,hu,ha=>by omega
 | n+1,r,acc,hr,hn,hu,ha=>by
  obtain ⟨⟨V,x⟩,h1,h2⟩:=M4 s hs d hd R hR r hr acc hu ha;have cO:∀ (m:List Pr) (b:Bool) (x':RS),V=oV m []->ae (fun F=>ax F (x,((125:UInt8).toNat:Int))) (b,x')->ae (fun F=>bS F (R F) (oS ((bt acc).map (gM d)) [] (st s r (8-(d:Int)) 0))) (if (!b)=true then .inr (oS m [] x') else .inl (oS m [] x')):=by
   intro m b x' hV dh;subst hV;unfold bS;refine ae.pos (by rfl) ?_;refine ae.bind h1 ?_;refine ae.bind dh ?_;cases b <;> exact .ret _
  rw[QG];cases hm:Kv (jF d) acc r with
  | error e =>
   rw[hm] at h2;obtain ⟨m,x1,h3,hb,nf⟩:=h2
   injection h3 with q1 q2
   subst q1; subst q2;obtain ⟨x',h5,h6⟩:=DF s e x hb hs 125;have T4:lZ m<=4000+9000*(d+1):=Nat.le_trans nf (Nat.add_le_add_right (by decide) _);exact ⟨_,ag.fin (cO m false x' rfl h5),m,x',rfl,T4,h6⟩
  | ok w =>
   obtain ⟨me,q⟩:=w;rw[hm] at h2;have h2:(V,x) = _:=h2
   injection h2 with q1 q2
   subst q1; subst q2;obtain ⟨o1,o2,o3⟩:=Sd hm;have hq:=o1.trans hr;have qJ:=fD q;have wG:=Qu hu o3;have aau:lZ ((bt (acc++[me])).map (gM d))=lZ ((bt acc).map (gM d))+((mB (gM d me)).length+1):=by
    rw[rJ,BK me (bt acc) (fun y hy=>o3 y ((jl acc).mem_iff.1 hy)),BX,HD]
   have UQ:=fw hr;simp only;split
   ·rename_i r' yY
    rw[yY] at qJ;simp only[adb] at qJ;have si:r' <:+ s:=((List.suffix_cons 44 r').trans (yY ▸ aw q)).trans hq;have hmb:1<=(mB (gM d me)).length:=by rw[GL]; omega
    obtain ⟨y,i1,i2⟩:=wJ s hs d hd R hR n r' (acc++[me]) si (by omega) wG (by omega);exact ⟨y,ag.step (cO _ true _ rfl (Hs s q r' hq hs _ 125 yY)) i1,i2⟩
   ·rename_i r' RH
    exact ⟨_,ag.fin (cO _ false _ rfl (Mb s q r' hq hs _ (by omega) 125 (by decide) RH)),_,_,rfl,by omega,rfl,rfl⟩
   ·rename_i WT Lc
    have GS:=BQ s q hq hs (8-(d:Int)) 0 125 (tO (fun q h=>WT q h) 0) (tO (fun q h=>Lc q h) 0);exact ⟨_,ag.fin (cO _ false _ rfl GS),_,_,rfl,by omega,by decide,skp q,_,rfl,(aw q).trans hq,by omega,by omega⟩
theorem A4 (R:Nat->RS->Option (V9×RS)) (m:List Pr) (x:RS) (hl:m.length<=1000000) (ht:∀ p∈m,p.1.length<=1000000):∀ (n i:Nat) (form:By),i+n=m.length->form.length+(iz mB i (m.drop i)).length<=1000000 ->
  ag (fun F=>cP F (R F)) ((),(),(),(i:Int),x,z9,oV m form,()) (oS m (form++iz mB i (m.drop i)) x)
 | 0,i,form,h,hb=>by
  refine ag.fin (.of fun F => ?_);unfold cP oV;rw[if_neg (by simp; omega),List.drop_eq_nil_of_le (by omega)];have:iz mB i ([]:List Pr)=[]:=by unfold iz; split <;> rfl
  rw[this,List.append_nil];rfl
 | n+1,i,form,h,hb=>by
  have hi:i<m.length:=by omega
  have yk:idx (m.map (·.1)) (i:Int)=some m[i].1:=bU _ _ _ (by simp[hi]);have K9:idx (m.map (·.2)) (i:Int)=some m[i].2:=bU _ _ _ (by simp[hi]);have hqt:=Cv m[i].1 (ht _ (List.getElem_mem hi));rw[ado hi,qN] at hb ⊢
  rw[adf,adf] at hb;have hmb:(mB m[i]).length=(quo m[i].1).length+(1+m[i].2.length):=by unfold mB; simp; omega
  have hw:IntKind.i64.wrap ((i:Int)+1)=((i+1:Nat):Int):=by rw[wrap64 _ (by omega) (by omega)]; omega
  refine ag.step (x':=((),(),(),((i+1:Nat):Int),x,z9,oV m (form++(if i=0 then [] else [44])++mB m[i]),())) ?_ ?_
  ·unfold cP
   refine ae.pos (by unfold oV; simpa using hi) ?_;refine ae.bind (r:=(((),(),(),(i:Int),x,z9,oV m (form++(if i=0 then [] else [44])),()):Unit×Unit×Unit×Int×RS×V9×V9×Unit)) ?_ ?_
   ·by_cases h0:i=0
    ·subst h0
     refine ae.neg (by show ¬ decide ((0:Int)<((0:Nat):Int))=true; decide) ?_;rw[if_pos rfl,List.append_nil];exact .ret _
    ·refine ae.pos (by show decide ((0:Int)<(i:Int))=true; rw[ac9]; omega) ?_
     rw[if_neg h0] at hb ⊢
     exact ae.pos (by unfold oV; rw[ac9]; simp only[List.length_singleton] at hb ⊢; omega) (.ret _)
   ·unfold oV
    refine ae.bind (.of fun F=>yk) ?_;refine ae.bind hqt ?_;refine ae.pos (by rw[ac9,adf]; omega) ?_;refine ae.pos (by rw[ac9]; simp only[adf,List.length_singleton]; omega) ?_;refine ae.bind (.of fun F=>K9) ?_;refine ae.pos (by rw[ac9]; simp only[adf,List.length_singleton]; omega) (.of fun F => ?_);have e:form++(if i=0 then ([]:By) else [44])++quo m[i].1++[58]++m[i].2=form++(if i=0 then ([]:By) else [44])++mB m[i]:=by unfold mB; simp only[List.append_assoc,List.singleton_append]
    simp only[hw,e]
  ·have:=A4 R m x hl ht n (i+1) (form++(if i=0 then [] else [44])++mB m[i]) (by omega) (by rw[adf,adf]; omega)
   rw[<-List.append_assoc (if i=0 then ([]:By) else [44])];simpa only[List.append_assoc] using this
theorem M9 (s:By) (hs:s.length<=1000) (d:Nat) (hd:d<=8) (R:Nat->RS->Option (V9×RS)) (hR:∀ d',d=d'+1->VT9 s d' R) (q:By) (hq:123::q <:+ s) :
  ∃ y,ae (fun F=>aO F (R F) (st s (123::q) (8-(d:Int)) 0)) y/\RV9 s d (match (match d with | 0=>none | d+1=>some (jF d):Option (By->Except Nat (JV×By))) with
   | none => .error 10
   | some V=>match skp q with
    | 125::r => .ok (.obj [],r)
    | r=>match wm V (r.length+1) [] r with
     | .error e => .error e
     | .ok (l,r) => .ok (.obj (bt l),r)) y:=by
 have Je:=cQ hq;have qJ:skp q <:+ s:=(aw q).trans Je;have o9:=LF s q 123 hq hs (8-(d:Int)) (by omega);have Lc:=fun e k=>fun F=>lA s q Je F k e 125
 -- behind the first loop
 have ahead:∀ (m:List Pr) (x x':RS),lZ m<=900000->ae (fun F=>aV F (st s (123::q) (8-(d:Int)) 0)) ((),x)->ae (fun F=>al F (x,((125:UInt8).toNat:Int))) (false,x)->ag (fun F=>bS F (R F)) (oS [] [] x) (oS m [] x')->ae (fun F=>aO F (R F) (st s (123::q) (8-(d:Int)) 0)) (oV m (123::(eF (m.map mB)++[125])),x'):=by
  intro m x x' hj h1 h2 h3;have Rx:=yy m;have ES:=HB m;have hml:∀ p∈m,p.1.length<=1000000:=by
   intro p hp;have a1:=PO hp;rw[GL] at a1;have a2:=Gu p.1;omega
  have e0:iz mB 0 m=eF (m.map mB):=by unfold iz; rw[if_pos rfl]
  have Xi:=A4 R m x' (by omega) hml m.length 0 [] (by omega) (by rw[List.drop_zero,e0]; simp only[List.length_nil]; omega);rw[List.drop_zero,e0,List.nil_append] at Xi;unfold aO;refine ae.bind h1 ?_;refine ae.bind h2 ?_;refine ae.neg adj ?_;refine ae.bind h3.run ?_;refine ae.bind Xi.run ?_;unfold oS oV;refine ae.pos (by rw[ac9]; simp only[List.length_singleton]; omega) ?_;refine ae.pos (by rw[ac9,adf]; simp only[List.length_singleton]; omega) (.of fun F=>rfl)
 cases d with
 | zero =>
  rw[if_pos (by decide)] at o9;have h2:=Lc 10 (8-((0:Nat):Int)+1);simp only[uG _ (10:Int) (by decide) _] at h2;refine ⟨_,ahead [] _ _ (by decide) o9 (.of h2) (ag.fin (.of fun F=>rfl)),⟨by decide,skp q,8-((0:Nat):Int)+1,rfl,qJ,by decide,by decide⟩,?_⟩;show (2:Nat)<=9000*(0+1)
  decide
 | succ d =>
  rw[if_neg (by omega)] at o9;have e8:(8:Int)-((d+1:Nat):Int)+1=8-(d:Int):=by omega
  rw[e8] at o9;have e9:(8:Int)-(d:Int)-1=8-((d+1:Nat):Int):=by omega
  have h2:=Lc 0 (8-(d:Int));simp only;split
  ·rename_i r hr
   rw[hr] at o9 qJ;simp only[hr,j9,decide_true] at h2;refine ⟨((6,[123,125],[],0,[],[],()),st s r (8-((d+1:Nat):Int)) 0),?_,rfl⟩;unfold aO;refine ae.bind o9 ?_;refine ae.bind (.of h2) ?_;refine ae.pos rfl (.of fun F => ?_);unfold st;simp only[el qJ hs];rw[wrap64 _ (by omega) (by omega),e9]
  ·rename_i hr
   simp only[tO (fun q h=>hr q h)] at h2;have UQ:=fw qJ;have hz:lZ (([]:List Me).map (gM d))=0:=rfl;have nf:bt []=[]:=rfl;obtain ⟨y,i1,m,x',rfl,i3,i4⟩:=wJ s hs d (by omega) R (hR d rfl) ((skp q).length+1) (skp q) [] qJ (Nat.le_refl _) .nil (by rw[nf,hz]; omega);have hd9:d<=8:=by omega
   have hj9:lZ m<=900000:=Nat.le_trans i3 (by clear i3 i4 i1 o9 h2 Lc ahead; omega);have Rx:=yy m;refine ⟨_,ahead m _ _ hj9 o9 (.of h2) i1,?_⟩;cases hl:wm (jF d) ((skp q).length+1) [] (skp q) with
   | error e =>
    rw[hl] at i4;refine ⟨i4,?_⟩;unfold oV;simp only[adb,adf,List.length_nil];omega
   | ok w =>
    obtain ⟨l,r⟩:=w;rw[hl] at i4;obtain ⟨rfl,rfl⟩:=i4;rw[e9];unfold RV9 qj oV;simp only[pI,y8,Bi,Cw,FV,cg,Bz,List.map_map];rfl
end Go.Vm
