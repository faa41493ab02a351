import Derived.Test.YtihpjgcbmipdbaaGreatDoorPj16
set_option linter.unusedVariables false
set_option linter.unusedSimpArgs false
namespace Go.Vm
open Go.Lib (decodeL decDigits itoa)
abbrev Pr:=By×By
def gM (d:Nat) (m:Me):Pr:=(m.1,dv d m.2.1)
def mB (p:Pr):By:=quo p.1 ++ 58 :: p.2
def lq (m:List Pr):Nat:=(m.map fun p=>(mB p).length+1).sum
abbrev OS9:=Unit×Unit×Unit×RS×V9×V9×Unit
def oV (m:List Pr) (form:By):V9:=(6,form,[],0,m.map (·.1),m.map (·.2),())
def oS (m:List Pr) (form:By) (x:RS):OS9:=((),(),(),x,z9,oV m form,())
theorem Hc (m:List Pr):m.length≤lq m:=by
 unfold lq;induction m with
 | nil=>exact Nat.le_refl _
 | cons b l ih=>simp only [List.map_cons,List.sum_cons,abp]; omega
theorem AO (a b:List Pr):lq (a ++ b)=lq a+lq b:=by unfold lq; rw [List.map_append,List.sum_append]
theorem GQ (m:List Pr) (p:Nat) (x:Pr):lq (EK m p x)=lq m+((mB x).length+1):=by
 have h:lq m=lq (m.take p)+lq (m.drop p):=by rw [← AO,List.take_append_drop]
 have h1:lq [x]=(mB x).length+1:=rfl;unfold EK;rw [AO,AO,h,h1];omega
theorem xP : ∀ m:List Pr,(bE (m.map mB)).length≤lq m
 | []=>Nat.le_refl _
 | [b]=>by unfold lq; simp [bE]
 | b :: c :: l=>by
  have ih:=xP (c :: l);rw [List.map_cons,List.map_cons];unfold bE;unfold lq at ih ⊢
  rw [List.map_cons,List.sum_cons,abr,abp, ← List.map_cons];omega
theorem Oo {m:List Pr} {p:Pr} (h:p∈m):(mB p).length≤lq m:=by
 induction m with
 | nil=>cases h
 | cons b l ih =>
  unfold lq at ih ⊢
  rw [List.map_cons,List.sum_cons];rcases List.mem_cons.1 h with rfl | h
  ·omega
  ·have:=ih h; omega
theorem NT (c:UInt8):1≤(ta c).length:=by
 unfold ta
 repeat' split
 all_goals exact Nat.le_of_ble_eq_true rfl
theorem KB (t:By):t.length≤(jV t).length:=by
 induction t with
 | nil=>exact Nat.le_refl _
 | cons c t ih =>
  have:=NT c;show _≤(ta c ++ jV t).length;rw [abr,abp];omega
theorem Eh (p:Pr):(mB p).length=(jV p.1).length+p.2.length+3:=by unfold mB quo; simp; omega
def Jo (V:By→Except Nat (JV×By)) (acc:List Me) (s:By):Except Nat (Me×By):=match skp s with
 | 34 :: r=>match txt r with
  | none => .error 3
  | some (name,r)=>if acc.any (fun m=>m.1 == name) then .error 7 else match skp r with
   | 58 :: r=>match V r with
    | .error e => .error e
    | .ok (v,r) => .ok ((name,v,()),r)
   | _ => .error 3
 | _ => .error 3
theorem PS (V:By→Except Nat (JV×By)) (n:Nat) (acc:List Me) (s:By):qi V (n+1) acc s=match Jo V acc s with
  | .error e => .error e
  | .ok (m,r)=>match skp r with
   | 44 :: r=>qi V n (acc ++ [m]) r
   | 125 :: r => .ok (acc ++ [m],r)
   | _ => .error 3:=by
 rw [qi];unfold Jo;cases skp s with
 | nil=>rfl
 | cons c r =>
  by_cases hc:c=34
  ·subst hc
   simp only;cases txt r with
   | none=>rfl
   | some w =>
    obtain ⟨name,r1⟩:=w;simp only;split
    ·rfl
    ·cases skp r1 with
     | nil=>rfl
     | cons c r2 =>
      by_cases hc:c=58
      ·subst hc
       simp only;cases V r2 with
       | error e=>rfl
       | ok w=>rfl
      ·simp [hc]
  ·simp [hc]
noncomputable def GG (F:Nat) (R:RS→Option (V9×RS)) (v6:Unit×Unit×Unit×By×Int×RS×V9×V9×Unit):Option (V9×RS):=(au F (v6.2.2.2.2.2.1.1,v6.2.2.2.2.2.1.2.1,v6.2.2.2.2.2.1.2.2.1,v6.2.2.2.2.2.1.2.2.2.1,())).bind fun v7=>(ak F ((v7.2.1,v7.2.2.1,v7.2.2.2.1,v7.2.2.2.2.1,()),58)).bind fun v8=>if (!v8.1)=true then (al F ((v8.2.1,v8.2.2.1,v8.2.2.2.1,v8.2.2.2.2.1,()),3)).bind fun v9=>some (v6.2.2.2.2.2.2.1,v9.2.1,v9.2.2.1,v9.2.2.2.1,v9.2.2.2.2.1,()) else (R (v8.2.1,IntKind.i64.wrap (v8.2.2.1+1),v8.2.2.2.1,v8.2.2.2.2.1,())).bind fun v10=>(bU F (v6.2.2.2.2.2.2.1.2.2.2.2.1,v6.2.2.2.2.1,v6.2.2.2.1)).bind fun v11=>(bU F (v6.2.2.2.2.2.2.1.2.2.2.2.2.1,v6.2.2.2.2.1,v10.1.2.1)).bind fun v12=>some ((v6.2.2.2.2.2.2.1.1,v6.2.2.2.2.2.2.1.2.1,v6.2.2.2.2.2.2.1.2.2.1,v6.2.2.2.2.2.2.1.2.2.2.1,v11,v12,()),v10.2.1,v10.2.2.1,v10.2.2.2.1,v10.2.2.2.2.1,())
theorem DD (F:Nat) (R:RS→Option (V9×RS)) (x:RS×V9):aT F R x=(au F (x.1.1,x.1.2.1,x.1.2.2.1,x.1.2.2.2.1,())).bind fun v0=>(ak F ((v0.2.1,v0.2.2.1,v0.2.2.2.1,v0.2.2.2.2.1,()),34)).bind fun v1=>if (!v1.1)=true then (al F ((v1.2.1,v1.2.2.1,v1.2.2.2.1,v1.2.2.2.2.1,()),3)).bind fun v2=>some (x.2,v2.2.1,v2.2.2.1,v2.2.2.2.1,v2.2.2.2.2.1,()) else (aI F (v1.2.1,v1.2.2.1,v1.2.2.2.1,v1.2.2.2.2.1,())).bind fun v3=>(cY F (x.2.2.2.2.2.1,v3.1)).bind fun v4=>(if v4.2=true then (al F ((v3.2.1,v3.2.2.1,v3.2.2.2.1,v3.2.2.2.2.1,()),7)).bind fun v5=>some ((),(),(),v3.1,v4.1,(v5.2.1,v5.2.2.1,v5.2.2.2.1,v5.2.2.2.2.1,()),x.2,z9,()) else some ((),(),(),v3.1,v4.1,(v3.2.1,v3.2.2.1,v3.2.2.2.1,v3.2.2.2.2.1,()),x.2,z9,()):Option (Unit×Unit×Unit×By×Int×RS×V9×V9×Unit)).bind (GG F R):=rfl
theorem BP (s:By) (hs:s.length≤1000) (R:Nat→RS→Option (V9×RS)) (name:By) (p:Int) (V:V9) (r:By) (hr:r <:+ s) (k e:Int) (h:isH (skp r) e 58=false):ae (fun F=>GG F (R F) ((),(),(),name,p,st s r k e,V,z9,())) (V,st s (skp r) k (if e=0 then 3 else e)):=by
 have h1:=fun F=>kz s r hr F k e 58
 simp only [h] at h1;unfold GG;refine ae.bind (jU s r hr hs k e) ?_;refine ae.bind (.of h1) ?_;refine ae.pos rfl (.of fun F => ?_);unfold st;simp only [bad_eq,abo]
def XK (s:By) (d:Nat) (acc:List Me) (x:Except Nat (Me×By)) (y:V9×RS):Prop:=match x with
 | .ok (me,q)=>y=(oV ((bg (acc ++ [me])).map (gM d)) [],st s q (8 - (d:Int)) 0)
 | .error e => ∃ m x',y=(oV m [],x')∧Bad s e x'∧lq m≤3000+9000 * (d+1)
theorem G5 (x:By) {l l':List Me} (h:l.Perm l'):l.any (fun m=>m.1 == x)=l'.any (fun m=>m.1 == x):=by
 rw [Bool.eq_iff_iff,List.any_eq_true,List.any_eq_true];constructor
 ·rintro ⟨m,hm,h2⟩; exact ⟨m,h.mem_iff.1 hm,h2⟩
 ·rintro ⟨m,hm,h2⟩; exact ⟨m,h.mem_iff.2 hm,h2⟩
theorem Mz (s:By) (hs:s.length≤1000) (d:Nat) (hd:d≤8) (R:Nat→RS→Option (V9×RS)) (hR:VT9 s d R) (r:By) (hr:r <:+ s) (acc:List Me) (hu:Uni acc) (ha:lq ((bg acc).map (gM d))+r.length≤1001) :
  ∃ y,ae (fun F=>aT F (R F) (st s r (8 - (d:Int)) 0,oV ((bg acc).map (gM d)) [])) y∧XK s d acc (Jo (hP d) acc r) y:=by
 have ZM:((bg acc).map (gM d)).length≤1001:=Nat.le_trans (Hc _) (by omega);have jn:skp r <:+ s:=(av r).trans hr;have Vt:=fun F=>kz s r hr F (8 - (d:Int)) 0 34
 have hb:=jU s r hr hs (8 - (d:Int)) 0;have yk:(((bg acc).map (gM d)).map (·.1))=(bg acc).map (·.1):=by rw [List.map_map]; rfl
 unfold Jo;split
 ·rename_i r0 h0
  rw [h0] at jn hb;simp only [h0,jS,decide_true] at Vt;obtain ⟨y,t1,t2⟩:=KN s r0 jn hs (8 - (d:Int));have pl:=fun x=>Sk (((bg acc).map (gM d)).map (·.1)) x (by rw [List.length_map]; omega)
  have ahead : ∀ (v6:Unit×Unit×Unit×By×Int×RS×V9×V9×Unit) (z:V9×RS),(∀ F:Nat,(if decide ((((bg acc).map (gM d)).map (·.1))[k6 (((bg acc).map (gM d)).map (·.1)) y.1]? = some y.1)=true then (al F ((y.2.1,y.2.2.1,y.2.2.2.1,y.2.2.2.2.1,()),7)).bind fun v5=>some ((),(),(),y.1,(k6 (((bg acc).map (gM d)).map (·.1)) y.1:Int),(v5.2.1,v5.2.2.1,v5.2.2.2.1,v5.2.2.2.2.1,()),oV ((bg acc).map (gM d)) [],z9,()) else some ((),(),(),y.1,(k6 (((bg acc).map (gM d)).map (·.1)) y.1:Int),(y.2.1,y.2.2.1,y.2.2.2.1,y.2.2.2.2.1,()),oV ((bg acc).map (gM d)) [],z9,()):Option (Unit×Unit×Unit×By×Int×RS×V9×V9×Unit))=some v6)→ae (fun F=>GG F (R F) v6) z→ae (fun F=>aT F (R F) (st s r (8 - (d:Int)) 0,oV ((bg acc).map (gM d)) [])) z:=by
   intro v6 z h6 hz;refine ae.congr (m:=fun F => _) ?_ fun F=>DD F (R F) _
   refine ae.bind hb ?_;refine ae.bind (.of Vt) ?_;refine ae.neg (by show ¬ (!true)=true; decide) ?_;refine ae.bind t1 ?_;refine ae.bind (pl y.1) ?_;exact ae.bind (.of h6) hz
  split
  ·rename_i ht
   rw [ht] at t2;obtain ⟨r',rn,rfl⟩:=t2;have Xq:=BP s hs R [] (k6 (((bg acc).map (gM d)).map (·.1)) []:Int) (oV ((bg acc).map (gM d)) []) r' rn (8 - (d:Int)) 3 (tK _ _ (by decide) _);refine ⟨_,ahead _ _ (fun F => ?_) Xq,(bg acc).map (gM d),_,rfl,⟨by decide,skp r',_,rfl,(av r').trans rn,by omega,by omega⟩,by omega⟩;unfold st;simp only [bad_eq,abo];split <;> rfl
  ·rename_i name r1 ht
   rw [ht] at t2;subst t2;obtain ⟨tx1,tx2,tx3⟩:=yf r0 ht;have uA:=tx2.trans (cT jn);have FN:decide ((((bg acc).map (gM d)).map (·.1))[k6 (((bg acc).map (gM d)).map (·.1)) name]? = some name)=acc.any (fun m=>m.1 == name):=by
    rw [yk,DP name (bg acc) (yd acc hu),G5 name (jh acc)]
   simp only at ahead;rw [FN] at ahead;split
   ·rename_i Nx
    have Xq:=BP s hs R name (k6 (((bg acc).map (gM d)).map (·.1)) name:Int) (oV ((bg acc).map (gM d)) []) r1 uA (8 - (d:Int)) 7 (tK _ _ (by decide) _);refine ⟨_,ahead _ _ (fun F => ?_) Xq,(bg acc).map (gM d),_,rfl,⟨by decide,skp r1,_,rfl,(av r1).trans uA,by omega,by omega⟩,by omega⟩;rw [if_pos Nx];unfold st;simp only [bad_eq,abo,if_true]
   ·rename_i Nx
    have ahead':=fun z h=>ahead ((),(),(),name,(k6 (((bg acc).map (gM d)).map (·.1)) name:Int),st s r1 (8 - (d:Int)) 0,oV ((bg acc).map (gM d)) [],z9,()) z (fun F=>by rw [if_neg Nx]) h
    have Lc:skp r1 <:+ s:=(av r1).trans uA;split
    ·rename_i r2 h2
     rw [h2] at Lc;have XF:=cT Lc;have VR:=fun F=>kz s r1 uA F (8 - (d:Int)) 0 58
     simp only [h2,jS,decide_true] at VR;have Nz:=jU s r1 uA hs (8 - (d:Int)) 0;rw [h2] at Nz;obtain ⟨⟨v,x⟩,v1,v2⟩:=hR r2 XF;have ux:=Ky (((bg acc).map (gM d)).map (·.1)) name;have Y2:(((bg acc).map (gM d)).map (·.1)).length≤1000000:=by rw [List.length_map]; omega
     have Y3:(((bg acc).map (gM d)).map (·.2)).length≤1000000:=by rw [List.length_map]; omega
     have Y4:k6 (((bg acc).map (gM d)).map (·.1)) name≤(((bg acc).map (gM d)).map (·.2)).length:=by rw [List.length_map] at ux ⊢; first | done | exact ux
     have hp1:=fun F=>Tf F (((bg acc).map (gM d)).map (·.1)) _ name Y2 ux
     have NH:=fun F=>Tf F (((bg acc).map (gM d)).map (·.2)) _ v.2.1 Y3 Y4
     have jM:ae (fun F=>aT F (R F) (st s r (8 - (d:Int)) 0,oV ((bg acc).map (gM d)) [])) (oV (EK ((bg acc).map (gM d)) (k6 (((bg acc).map (gM d)).map (·.1)) name) (name,v.2.1)) [],x):=by
      refine ahead' _ ?_;unfold GG;refine ae.bind Nz ?_;refine ae.bind (.of VR) ?_;refine ae.neg (by show ¬ (!true)=true; decide) ?_;have hn:=ek Lc hs;have v1':ae (fun F=>R F (s,IntKind.i64.wrap (((s.length - ((58:UInt8) :: r2).length:Nat):Int)+1),8 - (d:Int),0,())) (v,x):=by rw [hn]; exact v1
      refine ae.bind v1' ?_;refine ae.bind (.of hp1) ?_;refine ae.bind (.of NH) (.of fun F => ?_);unfold oV;simp only [Ba]
     refine ⟨_,jM,?_⟩;have BW:=eZ r;rw [h0] at BW;have TH:=eZ r1;rw [h2] at TH;simp only [abp] at BW TH;cases hv:hP d r2 with
     | error e =>
      rw [hv] at v2;obtain ⟨w1,w2⟩:Bad s e x∧v.2.1.length≤9000 * (d+1):=v2;refine ⟨_,_,rfl,w1,?_⟩;rw [GQ,Eh];simp only;have QE:=eY hr;omega
     | ok w =>
      obtain ⟨v',q⟩:=w;rw [hv] at v2;have v2:(v,x)=(pn d v',st s q (8 - (d:Int)) 0):=v2
      injection v2 with q1 q2
      subst q1; subst q2;have ib : ∀ m∈bg acc,m.1≠name:=by
       intro m hm hh;apply Nx;rw [← G5 name (jh acc)];exact List.any_eq_true.2 ⟨m,hm,beq_iff_eq.2 hh⟩
      show _ = _;have Y5:=Bn ((name,v',()):Me) (bg acc) ib;rw [pR,Y5,Ba,yk];rfl
    ·rename_i VR
     have Xq:=BP s hs R name (k6 (((bg acc).map (gM d)).map (·.1)) name:Int) (oV ((bg acc).map (gM d)) []) r1 uA (8 - (d:Int)) 0 (sL (fun q h=>VR q h) 0);exact ⟨_,ahead' _ Xq,(bg acc).map (gM d),_,rfl,⟨by decide,skp r1,_,rfl,Lc,by omega,by omega⟩,by omega⟩
 ·rename_i FG
  simp only [sL (fun q h=>FG q h)] at Vt;refine ⟨(oV ((bg acc).map (gM d)) [],st s (skp r) (8 - (d:Int)) 3),?_,(bg acc).map (gM d),_,rfl,⟨by decide,skp r,_,rfl,jn,by omega,by omega⟩,by omega⟩;refine ae.congr (m:=fun F => _) ?_ fun F=>DD F (R F) _
  refine ae.bind hb ?_;refine ae.bind (.of Vt) ?_;refine ae.pos rfl (.of fun F => ?_);unfold st;simp only [bad_eq,abo,if_true]
theorem Q1 {d:Nat} {acc:List Me} {r:By} {me:Me} {q:By} (h:Jo (hP d) acc r = .ok (me,q)):q <:+ r∧(mB (gM d me)).length+q.length≤r.length∧(∀ m∈acc,m.1≠me.1):=by
 unfold Jo at h;split at h
 ·rename_i r0 h0
  split at h
  ·cases h
  ·rename_i name r1 ht
   split at h
   ·cases h
   ·rename_i Nx
    split at h
    ·rename_i r2 h2
     split at h
     ·cases h
     ·rename_i v r3 hv
      cases h;obtain ⟨t1,t2,t3⟩:=yf r0 ht;obtain ⟨_,o2,o3,o4⟩:=vc d r2 v q hv;have BW:=eZ r;rw [h0] at BW;have TH:=eZ r1;rw [h2] at TH;simp only [abp] at BW TH;refine ⟨?_,?_,?_⟩
      ·exact o2.trans (((List.suffix_cons 58 r2).trans (h2 ▸ av r1)).trans (t2.trans ((List.suffix_cons 34 r0).trans (h0 ▸ av r))))
      ·rw [Eh]
       show (jV name).length+(dv d v).length+3+q.length≤r.length;omega
      ·intro m hm hh
       apply Nx;exact List.any_eq_true.2 ⟨m,hm,beq_iff_eq.2 hh⟩
    ·cases h
 ·cases h
theorem OK {acc:List Me} {me:Me} (hu:Uni acc) (h : ∀ m∈acc,m.1≠me.1):Uni (acc ++ [me]):=by
 unfold Uni;rw [List.pairwise_append];refine ⟨hu,List.pairwise_singleton _ _,fun a ha b hb => ?_⟩;rw [List.mem_singleton] at hb;subst hb;exact h a ha
end Go.Vm
namespace Go.Vm
open Go.Lib (decodeL decDigits itoa)
def RO9 (s:By) (d:Nat) (x:Except Nat (List Me×By)) (y:OS9):Prop := ∃ m x',y=oS m [] x'∧lq m≤4000+9000 * (d+1)∧match x with
 | .ok (l,q)=>m=(bg l).map (gM d)∧x'=st s q (8 - (d:Int) - 1) 0
 | .error e=>Bad s e x'
theorem wI (s:By) (hs:s.length≤1000) (d:Nat) (hd:d≤8) (R:Nat→RS→Option (V9×RS)) (hR:VT9 s d R) : ∀ (n:Nat) (r:By) (acc:List Me),r <:+ s→r.length+1≤n→Uni acc→lq ((bg acc).map (gM d))+r.length≤1001 →
  ∃ y,af (fun F=>bK F (R F)) (oS ((bg acc).map (gM d)) [] (st s r (8 - (d:Int)) 0)) y∧RO9 s d (qi (hP d) n acc r) y
 | 0,r,acc,hr,hn,hu,ha=>by omega
 | n+1,r,acc,hr,hn,hu,ha=>by
  obtain ⟨⟨V,x⟩,h1,h2⟩:=Mz s hs d hd R hR r hr acc hu ha;have a7 : ∀ (m:List Pr) (b:Bool) (x':RS),V=oV m []→ae (fun F=>aw F (x,((125:UInt8).toNat:Int))) (b,x')→ae (fun F=>bK F (R F) (oS ((bg acc).map (gM d)) [] (st s r (8 - (d:Int)) 0))) (if (!b)=true then .inr (oS m [] x') else .inl (oS m [] x')):=by
   intro m b x' hV dc;subst hV;unfold bK;refine ae.pos (by rfl) ?_;refine ae.bind h1 ?_;refine ae.bind dc ?_;cases b <;> exact .ret _
  rw [PS];cases hm:Jo (hP d) acc r with
  | error e =>
   rw [hm] at h2;obtain ⟨m,x1,h3,hb,mh⟩:=h2
   injection h3 with q1 q2
   subst q1; subst q2;obtain ⟨x',h5,h6⟩:=Dw s e x hb hs 125;have S2:lq m≤4000+9000 * (d+1):=Nat.le_trans mh (Nat.add_le_add_right (by decide) _);exact ⟨_,af.fin (a7 m false x' rfl h5),m,x',rfl,S2,h6⟩
  | ok w =>
   obtain ⟨me,q⟩:=w;rw [hm] at h2;have h2:(V,x) = _:=h2
   injection h2 with q1 q2
   subst q1; subst q2;obtain ⟨o1,o2,o3⟩:=Q1 hm;have hq:=o1.trans hr;have pM:=eZ q;have vH:=OK hu o3;have Y0:lq ((bg (acc ++ [me])).map (gM d))=lq ((bg acc).map (gM d))+((mB (gM d me)).length+1):=by
    rw [pR,Bn me (bg acc) (fun y hy=>o3 y ((jh acc).mem_iff.1 hy)),Ba,GQ]
   have QE:=eY hr;simp only;split
   ·rename_i r' yq
    rw [yq] at pM;simp only [abp] at pM;have rn:r' <:+ s:=((List.suffix_cons 44 r').trans (yq ▸ av q)).trans hq;have hmb:1≤(mB (gM d me)).length:=by rw [Eh]; omega
    obtain ⟨y,i1,i2⟩:=wI s hs d hd R hR n r' (acc ++ [me]) rn (by omega) vH (by omega);exact ⟨y,af.step (a7 _ true _ rfl (HC s q r' hq hs _ 125 yq)) i1,i2⟩
   ·rename_i r' QI
    exact ⟨_,af.fin (a7 _ false _ rfl (Kn s q r' hq hs _ (by omega) 125 (by decide) QI)),_,_,rfl,by omega,rfl,rfl⟩
   ·rename_i Vs J4
    have FG:=BN s q hq hs (8 - (d:Int)) 0 125 (sL (fun q h=>Vs q h) 0) (sL (fun q h=>J4 q h) 0);exact ⟨_,af.fin (a7 _ false _ rfl FG),_,_,rfl,by omega,by decide,skp q,_,rfl,(av q).trans hq,by omega,by omega⟩
theorem AH (R:Nat→RS→Option (V9×RS)) (m:List Pr) (x:RS) (hl:m.length≤1000000) (ht : ∀ p∈m,p.1.length≤1000000) : ∀ (n i:Nat) (form:By),i+n=m.length→form.length+(iq mB i (m.drop i)).length≤1000000 →
  af (fun F=>cK F (R F)) ((),(),(),(i:Int),x,z9,oV m form,()) (oS m (form ++ iq mB i (m.drop i)) x)
 | 0,i,form,h,hb=>by
  refine af.fin (.of fun F => ?_);unfold cK oV;rw [if_neg (by simp; omega),List.drop_eq_nil_of_le (by omega)];have:iq mB i ([]:List Pr) = []:=by unfold iq; split <;> rfl
  rw [this,List.append_nil];rfl
 | n+1,i,form,h,hb=>by
  have hi:i<m.length:=by omega
  have xu:idx (m.map (·.1)) (i:Int)=some m[i].1:=bc _ _ _ (by simp [hi]);have FQ:idx (m.map (·.2)) (i:Int)=some m[i].2:=bc _ _ _ (by simp [hi]);have hqt:=AY m[i].1 (ht _ (List.getElem_mem hi));rw [List.drop_eq_getElem_cons hi,qk] at hb ⊢
  rw [abr,abr] at hb;have hmb:(mB m[i]).length=(quo m[i].1).length+(1+m[i].2.length):=by unfold mB; simp; omega
  have hw:IntKind.i64.wrap ((i:Int)+1)=((i+1:Nat):Int):=by rw [wrap64 _ (by omega) (by omega)]; omega
  refine af.step (x':=((),(),(),((i+1:Nat):Int),x,z9,oV m (form ++ (if i=0 then [] else [44]) ++ mB m[i]),())) ?_ ?_
  ·unfold cK
   refine ae.pos (by unfold oV; simpa using hi) ?_;refine ae.bind (r:=(((),(),(),(i:Int),x,z9,oV m (form ++ (if i=0 then [] else [44])),()):Unit×Unit×Unit×Int×RS×V9×V9×Unit)) ?_ ?_
   ·by_cases h0:i=0
    ·subst h0
     refine ae.neg (by show ¬ decide ((0:Int)<((0:Nat):Int))=true; decide) ?_;rw [if_pos rfl,List.append_nil];exact .ret _
    ·refine ae.pos (by show decide ((0:Int)<(i:Int))=true; rw [abn]; omega) ?_
     rw [if_neg h0] at hb ⊢
     exact ae.pos (by unfold oV; rw [abn]; simp only [List.length_singleton] at hb ⊢; omega) (.ret _)
   ·unfold oV
    refine ae.bind (.of fun F=>xu) ?_;refine ae.bind hqt ?_;refine ae.pos (by rw [abn,abr]; omega) ?_;refine ae.pos (by rw [abn]; simp only [abr,List.length_singleton]; omega) ?_;refine ae.bind (.of fun F=>FQ) ?_;refine ae.pos (by rw [abn]; simp only [abr,List.length_singleton]; omega) (.of fun F => ?_);have e:form ++ (if i=0 then ([]:By) else [44]) ++ quo m[i].1 ++ [58] ++ m[i].2=form ++ (if i=0 then ([]:By) else [44]) ++ mB m[i]:=by unfold mB; simp only [List.append_assoc,List.singleton_append]
    simp only [hw,e]
  ·have:=AH R m x hl ht n (i+1) (form ++ (if i=0 then [] else [44]) ++ mB m[i]) (by omega) (by rw [abr,abr]; omega)
   rw [← List.append_assoc (if i=0 then ([]:By) else [44])];simpa only [List.append_assoc] using this
theorem Lg (s:By) (hs:s.length≤1000) (d:Nat) (hd:d≤8) (R:Nat→RS→Option (V9×RS)) (hR : ∀ d',d=d'+1→VT9 s d' R) (q:By) (hq:123 :: q <:+ s) :
  ∃ y,ae (fun F=>aK F (R F) (st s (123 :: q) (8 - (d:Int)) 0)) y∧RV9 s d (match (match d with | 0=>none | d+1=>some (hP d):Option (By→Except Nat (JV×By))) with
   | none => .error 10
   | some V=>match skp q with
    | 125 :: r => .ok (.obj [],r)
    | r=>match qi V (r.length+1) [] r with
     | .error e => .error e
     | .ok (l,r) => .ok (.obj (bg l),r)) y:=by
 have HU:=cT hq;have pM:skp q <:+ s:=(av q).trans HU;have uz:=Kp s q 123 hq hs (8 - (d:Int)) (by omega);have J4:=fun e k=>fun F=>kz s q HU F k e 125
 -- behind the first loop
 have ahead : ∀ (m:List Pr) (x x':RS),lq m≤900000→ae (fun F=>aR F (st s (123 :: q) (8 - (d:Int)) 0)) ((),x)→ae (fun F=>ak F (x,((125:UInt8).toNat:Int))) (false,x)→af (fun F=>bK F (R F)) (oS [] [] x) (oS m [] x')→ae (fun F=>aK F (R F) (st s (123 :: q) (8 - (d:Int)) 0)) (oV m (123 :: (bE (m.map mB) ++ [125])),x'):=by
  intro m x x' hj h1 h2 h3;have Qx:=xP m;have QR:=Hc m;have ZM : ∀ p∈m,p.1.length≤1000000:=by
   intro p hp;have a1:=Oo hp;rw [Eh] at a1;have a2:=KB p.1;omega
  have e0:iq mB 0 m=bE (m.map mB):=by unfold iq; rw [if_pos rfl]
  have VS:=AH R m x' (by omega) ZM m.length 0 [] (by omega) (by rw [List.drop_zero,e0]; simp only [List.length_nil]; omega);rw [List.drop_zero,e0,List.nil_append] at VS;unfold aK;refine ae.bind h1 ?_;refine ae.bind h2 ?_;refine ae.neg abw ?_;refine ae.bind h3.run ?_;refine ae.bind VS.run ?_;unfold oS oV;refine ae.pos (by rw [abn]; simp only [List.length_singleton]; omega) ?_;refine ae.pos (by rw [abn,abr]; simp only [List.length_singleton]; omega) (.of fun F=>rfl)
 cases d with
 | zero =>
  rw [if_pos (by decide)] at uz;have h2:=J4 10 (8 - ((0:Nat):Int)+1);simp only [tK _ (10:Int) (by decide) _] at h2;refine ⟨_,ahead [] _ _ (by decide) uz (.of h2) (af.fin (.of fun F=>rfl)),⟨by decide,skp q,8 - ((0:Nat):Int)+1,rfl,pM,by decide,by decide⟩,?_⟩;show (2:Nat)≤9000 * (0+1)
  decide
 | succ d =>
  rw [if_neg (by omega)] at uz;have e8:(8:Int) - ((d+1:Nat):Int)+1=8 - (d:Int):=by omega
  rw [e8] at uz;have e9:(8:Int) - (d:Int) - 1=8 - ((d+1:Nat):Int):=by omega
  have h2:=J4 0 (8 - (d:Int));simp only;split
  ·rename_i r hr
   rw [hr] at uz pM;simp only [hr,jS,decide_true] at h2;refine ⟨((6,[123,125],[],0,[],[],()),st s r (8 - ((d+1:Nat):Int)) 0),?_,rfl⟩;unfold aK;refine ae.bind uz ?_;refine ae.bind (.of h2) ?_;refine ae.pos rfl (.of fun F => ?_);unfold st;simp only [ek pM hs];rw [wrap64 _ (by omega) (by omega),e9]
  ·rename_i hr
   simp only [sL (fun q h=>hr q h)] at h2;have QE:=eY pM;have hz:lq (([]:List Me).map (gM d))=0:=rfl;have mh:bg [] = []:=rfl;obtain ⟨y,i1,m,x',rfl,i3,i4⟩:=wI s hs d (by omega) R (hR d rfl) ((skp q).length+1) (skp q) [] pM (Nat.le_refl _) .nil (by rw [mh,hz]; omega);have hd9:d≤8:=by omega
   have Y1:lq m≤900000:=Nat.le_trans i3 (by clear i3 i4 i1 uz h2 J4 ahead; omega);have Qx:=xP m;refine ⟨_,ahead m _ _ Y1 uz (.of h2) i1,?_⟩;cases hl:qi (hP d) ((skp q).length+1) [] (skp q) with
   | error e =>
    rw [hl] at i4;refine ⟨i4,?_⟩;unfold oV;simp only [abp,abr,List.length_nil];omega
   | ok w =>
    obtain ⟨l,r⟩:=w;rw [hl] at i4;obtain ⟨rfl,rfl⟩:=i4;rw [e9];unfold RV9 pn oV;simp only [Oy,Qb,UM,Io,JF,dv,yi,List.map_map];rfl
end Go.Vm
