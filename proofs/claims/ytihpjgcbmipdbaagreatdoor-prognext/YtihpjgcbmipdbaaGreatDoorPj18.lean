import Derived.Test.YtihpjgcbmipdbaaGreatDoorPj16
/- JSON: the document's objects are the plain ones. No condition but on lengths. -/
namespace Go.Vm
open Go.Lib (decodeL decDigits itoa)
set_option linter.unusedVariables false
set_option linter.unusedSimpArgs false
abbrev Pr:=By×By
def gM (d:Nat) (m:Me):Pr:=(m.1,bG d m.2.1)
def mB (p:Pr):By:=quo p.1 ++ 58 :: p.2
def jM (m:List Pr):Nat:=(m.map fun p=>(mB p).length+1).sum
abbrev OS9:=Unit×Unit×Unit×RS×V9×V9×Unit
def oV (m:List Pr) (form:By):V9:=(6,form,[],0,m.map (·.1),m.map (·.2),())
def oS (m:List Pr) (form:By) (x:RS):OS9:=((),(),(),x,z9,oV m form,())
theorem BK (m:List Pr):m.length≤jM m:=by
 unfold jM
 induction m with
 | nil=>exact Nat.le_refl _
 | cons b l ih=>simp only [List.map_cons,List.sum_cons,List.length_cons]; omega
theorem uT (a b:List Pr):jM (a ++ b)=jM a+jM b:=by unfold jM; rw [List.map_append,List.sum_append]
theorem BR (m:List Pr) (p:Nat) (x:Pr):jM (Aj m p x)=jM m+((mB x).length+1):=by
 have h:jM m=jM (m.take p)+jM (m.drop p):=by rw [← uT,List.take_append_drop]
 have h1:jM [x]=(mB x).length+1:=rfl
 unfold Aj
 rw [uT,uT,h,h1]
 omega
theorem sO : ∀ m:List Pr,(dq (m.map mB)).length≤jM m
 | []=>Nat.le_refl _
 | [b]=>by unfold jM; simp [dq]
 | b :: c :: l=>by
  have ih:=sO (c :: l)
  rw [List.map_cons,List.map_cons]
  unfold dq
  unfold jM at ih ⊢
  rw [List.map_cons,List.sum_cons,List.length_append,List.length_cons, ← List.map_cons]
  omega
theorem GU {m:List Pr} {p:Pr} (h:p∈m):(mB p).length≤jM m:=by
 induction m with
 | nil=>cases h
 | cons b l ih =>
  unfold jM at ih ⊢
  rw [List.map_cons,List.sum_cons]
  rcases List.mem_cons.1 h with rfl | h
  ·omega
  ·have:=ih h; omega
theorem HS (c:UInt8):1≤(qu c).length:=by
 unfold qu
 repeat' split
 all_goals exact Nat.le_of_ble_eq_true rfl
theorem zX (t:By):t.length≤(iU t).length:=by
 induction t with
 | nil=>exact Nat.le_refl _
 | cons c t ih =>
  have:=HS c
  show _≤(qu c ++ iU t).length
  rw [List.length_append,List.length_cons]
  omega
theorem zB (p:Pr):(mB p).length=(iU p.1).length+p.2.length+3:=by unfold mB quo; simp; omega
/-! ### one member -/
def C5 (V:By→Except Nat (JV×By)) (acc:List Me) (s:By):Except Nat (Me×By):=match skp s with
 | 34 :: r=>match txt r with
  | none => .error 3
  | some (name,r)=>if acc.any (fun m=>m.1 == name) then .error 7 else match skp r with
   | 58 :: r=>match V r with
    | .error e => .error e
    | .ok (v,r) => .ok ((name,v,()),r)
   | _ => .error 3
 | _ => .error 3
theorem Im (V:By→Except Nat (JV×By)) (n:Nat) (acc:List Me) (s:By):qL V (n+1) acc s=match C5 V acc s with
  | .error e => .error e
  | .ok (m,r)=>match skp r with
   | 44 :: r=>qL V n (acc ++ [m]) r
   | 125 :: r => .ok (acc ++ [m],r)
   | _ => .error 3:=by
 rw [qL]
 unfold C5
 cases skp s with
 | nil=>rfl
 | cons c r =>
  by_cases hc:c=34
  ·subst hc
   simp only
   cases txt r with
   | none=>rfl
   | some w =>
    obtain ⟨name,r1⟩:=w
    simp only
    split
    ·rfl
    ·cases skp r1 with
     | nil=>rfl
     | cons c r2 =>
      by_cases hc:c=58
      ·subst hc
       simp only
       cases V r2 with
       | error e=>rfl
       | ok w=>rfl
      ·simp [hc]
  ·simp [hc]
noncomputable def BC (F:Nat) (R:RS→Option (V9×RS)) (v6:Unit×Unit×Unit×By×Int×RS×V9×V9×Unit):Option (V9×RS):=(au F (v6.2.2.2.2.2.1.1,v6.2.2.2.2.2.1.2.1,v6.2.2.2.2.2.1.2.2.1,v6.2.2.2.2.2.1.2.2.2.1,())).bind fun v7=>(aj F ((v7.2.1,v7.2.2.1,v7.2.2.2.1,v7.2.2.2.2.1,()),58)).bind fun v8=>if (!v8.1)=true then (ak F ((v8.2.1,v8.2.2.1,v8.2.2.2.1,v8.2.2.2.2.1,()),3)).bind fun v9=>some (v6.2.2.2.2.2.2.1,v9.2.1,v9.2.2.1,v9.2.2.2.1,v9.2.2.2.2.1,()) else (R (v8.2.1,IntKind.i64.wrap (v8.2.2.1+1),v8.2.2.2.1,v8.2.2.2.2.1,())).bind fun v10=>(bI F (v6.2.2.2.2.2.2.1.2.2.2.2.1,v6.2.2.2.2.1,v6.2.2.2.1)).bind fun v11=>(bI F (v6.2.2.2.2.2.2.1.2.2.2.2.2.1,v6.2.2.2.2.1,v10.1.2.1)).bind fun v12=>some ((v6.2.2.2.2.2.2.1.1,v6.2.2.2.2.2.2.1.2.1,v6.2.2.2.2.2.2.1.2.2.1,v6.2.2.2.2.2.2.1.2.2.2.1,v11,v12,()),v10.2.1,v10.2.2.1,v10.2.2.2.1,v10.2.2.2.2.1,())
theorem xZ (F:Nat) (R:RS→Option (V9×RS)) (x:RS×V9):aS F R x=(au F (x.1.1,x.1.2.1,x.1.2.2.1,x.1.2.2.2.1,())).bind fun v0=>(aj F ((v0.2.1,v0.2.2.1,v0.2.2.2.1,v0.2.2.2.2.1,()),34)).bind fun v1=>if (!v1.1)=true then (ak F ((v1.2.1,v1.2.2.1,v1.2.2.2.1,v1.2.2.2.2.1,()),3)).bind fun v2=>some (x.2,v2.2.1,v2.2.2.1,v2.2.2.2.1,v2.2.2.2.2.1,()) else (aG F (v1.2.1,v1.2.2.1,v1.2.2.2.1,v1.2.2.2.2.1,())).bind fun v3=>(cz F (x.2.2.2.2.2.1,v3.1)).bind fun v4=>(if v4.2=true then (ak F ((v3.2.1,v3.2.2.1,v3.2.2.2.1,v3.2.2.2.2.1,()),7)).bind fun v5=>some ((),(),(),v3.1,v4.1,(v5.2.1,v5.2.2.1,v5.2.2.2.1,v5.2.2.2.2.1,()),x.2,z9,()) else some ((),(),(),v3.1,v4.1,(v3.2.1,v3.2.2.1,v3.2.2.2.1,v3.2.2.2.2.1,()),x.2,z9,()):Option (Unit×Unit×Unit×By×Int×RS×V9×V9×Unit)).bind (BC F R):=rfl
theorem wD (s:By) (hs:s.length≤1000) (R:Nat→RS→Option (V9×RS)) (name:By) (p:Int) (V:V9) (r:By) (hr:r <:+ s) (k e:Int) (h:isH (skp r) e 58=false):ae (fun F=>BC F (R F) ((),(),(),name,p,st s r k e,V,z9,())) (V,st s (skp r) k (if e=0 then 3 else e)):=by
 have h1:=fun F=>iX s r hr F k e 58
 simp only [h] at h1
 unfold BC
 refine ae.bind (ie s r hr hs k e) ?_
 refine ae.bind (.of h1) ?_
 refine ae.pos rfl (.of fun F => ?_)
 unfold st
 simp only [bad_eq,Option.bind_some]
def ML (s:By) (d:Nat) (acc:List Me) (x:Except Nat (Me×By)) (y:V9×RS):Prop:=match x with
 | .ok (me,q)=>y=(oV ((a7 (acc ++ [me])).map (gM d)) [],st s q (8 - (d:Int)) 0)
 | .error e => ∃ m x',y=(oV m [],x')∧Bad s e x'∧jM m≤3000+9000 * (d+1)
theorem A2 (x:By) {l l':List Me} (h:l.Perm l'):l.any (fun m=>m.1 == x)=l'.any (fun m=>m.1 == x):=by
 rw [Bool.eq_iff_iff,List.any_eq_true,List.any_eq_true]
 constructor
 ·rintro ⟨m,hm,h2⟩; exact ⟨m,h.mem_iff.1 hm,h2⟩
 ·rintro ⟨m,hm,h2⟩; exact ⟨m,h.mem_iff.2 hm,h2⟩
theorem Fl (s:By) (hs:s.length≤1000) (d:Nat) (hd:d≤8) (R:Nat→RS→Option (V9×RS)) (hR:VT9 s d R) (r:By) (hr:r <:+ s) (acc:List Me) (hu:Uni acc) (ha:jM ((a7 acc).map (gM d))+r.length≤1001) :
  ∃ y,ae (fun F=>aS F (R F) (st s r (8 - (d:Int)) 0,oV ((a7 acc).map (gM d)) [])) y∧ML s d acc (C5 (gT d) acc r) y:=by
 have hml:((a7 acc).map (gM d)).length≤1001:=Nat.le_trans (BK _) (by omega)
 have hskr:skp r <:+ s:=(av r).trans hr
 have h34:=fun F=>iX s r hr F (8 - (d:Int)) 0 34
 have hb:=ie s r hr hs (8 - (d:Int)) 0
 have hnm:(((a7 acc).map (gM d)).map (·.1))=(a7 acc).map (·.1):=by rw [List.map_map]; rfl
 unfold C5
 split
 ·rename_i r0 h0
  rw [h0] at hskr hb
  simp only [h0,ir,decide_true] at h34
  obtain ⟨y,t1,t2⟩:=DZ s r0 hskr hs (8 - (d:Int))
  have pl:=fun x=>Kf (((a7 acc).map (gM d)).map (·.1)) x (by rw [List.length_map]; omega)
  have ahead : ∀ (v6:Unit×Unit×Unit×By×Int×RS×V9×V9×Unit) (z:V9×RS),(∀ F:Nat,(if decide ((((a7 acc).map (gM d)).map (·.1))[jy (((a7 acc).map (gM d)).map (·.1)) y.1]? = some y.1)=true then (ak F ((y.2.1,y.2.2.1,y.2.2.2.1,y.2.2.2.2.1,()),7)).bind fun v5=>some ((),(),(),y.1,(jy (((a7 acc).map (gM d)).map (·.1)) y.1:Int),(v5.2.1,v5.2.2.1,v5.2.2.2.1,v5.2.2.2.2.1,()),oV ((a7 acc).map (gM d)) [],z9,()) else some ((),(),(),y.1,(jy (((a7 acc).map (gM d)).map (·.1)) y.1:Int),(y.2.1,y.2.2.1,y.2.2.2.1,y.2.2.2.2.1,()),oV ((a7 acc).map (gM d)) [],z9,()):Option (Unit×Unit×Unit×By×Int×RS×V9×V9×Unit))=some v6)→ae (fun F=>BC F (R F) v6) z→ae (fun F=>aS F (R F) (st s r (8 - (d:Int)) 0,oV ((a7 acc).map (gM d)) [])) z:=by
   intro v6 z h6 hz
   refine ae.congr (m:=fun F => _) ?_ fun F=>xZ F (R F) _
   refine ae.bind hb ?_
   refine ae.bind (.of h34) ?_
   refine ae.neg (by show ¬ (!true)=true; decide) ?_
   refine ae.bind t1 ?_
   refine ae.bind (pl y.1) ?_
   exact ae.bind (.of h6) hz
  split
  ·rename_i ht
   rw [ht] at t2
   obtain ⟨r',hr',rfl⟩:=t2
   have hbd:=wD s hs R [] (jy (((a7 acc).map (gM d)).map (·.1)) []:Int) (oV ((a7 acc).map (gM d)) []) r' hr' (8 - (d:Int)) 3 (pM _ _ (by decide) _)
   refine ⟨_,ahead _ _ (fun F => ?_) hbd,(a7 acc).map (gM d),_,rfl,⟨by decide,skp r',_,rfl,(av r').trans hr',by omega,by omega⟩,by omega⟩
   unfold st
   simp only [bad_eq,Option.bind_some]
   split <;> rfl
  ·rename_i name r1 ht
   rw [ht] at t2
   subst t2
   obtain ⟨tx1,tx2,tx3⟩:=tu r0 ht
   have hr1:=tx2.trans (cj hskr)
   have hany:decide ((((a7 acc).map (gM d)).map (·.1))[jy (((a7 acc).map (gM d)).map (·.1)) name]? = some name)=acc.any (fun m=>m.1 == name):=by
    rw [hnm,yQ name (a7 acc) (sV acc hu),A2 name (gH acc)]
   simp only at ahead
   rw [hany] at ahead
   split
   ·rename_i hdup
    have hbd:=wD s hs R name (jy (((a7 acc).map (gM d)).map (·.1)) name:Int) (oV ((a7 acc).map (gM d)) []) r1 hr1 (8 - (d:Int)) 7 (pM _ _ (by decide) _)
    refine ⟨_,ahead _ _ (fun F => ?_) hbd,(a7 acc).map (gM d),_,rfl,⟨by decide,skp r1,_,rfl,(av r1).trans hr1,by omega,by omega⟩,by omega⟩
    rw [if_pos hdup]
    unfold st
    simp only [bad_eq,Option.bind_some,if_true]
   ·rename_i hdup
    have ahead':=fun z h=>ahead ((),(),(),name,(jy (((a7 acc).map (gM d)).map (·.1)) name:Int),st s r1 (8 - (d:Int)) 0,oV ((a7 acc).map (gM d)) [],z9,()) z (fun F=>by rw [if_neg hdup]) h
    have hskr1:skp r1 <:+ s:=(av r1).trans hr1
    split
    ·rename_i r2 h2
     rw [h2] at hskr1
     have hr2:=cj hskr1
     have h58:=fun F=>iX s r1 hr1 F (8 - (d:Int)) 0 58
     simp only [h2,ir,decide_true] at h58
     have hb1:=ie s r1 hr1 hs (8 - (d:Int)) 0
     rw [h2] at hb1
     obtain ⟨⟨v,x⟩,v1,v2⟩:=hR r2 hr2
     have hpl:=EC (((a7 acc).map (gM d)).map (·.1)) name
     have hml1:(((a7 acc).map (gM d)).map (·.1)).length≤1000000:=by rw [List.length_map]; omega
     have hml2:(((a7 acc).map (gM d)).map (·.2)).length≤1000000:=by rw [List.length_map]; omega
     have hpl2:jy (((a7 acc).map (gM d)).map (·.1)) name≤(((a7 acc).map (gM d)).map (·.2)).length:=by rw [List.length_map] at hpl ⊢; first | done | exact hpl
     have hp1:=fun F=>KM F (((a7 acc).map (gM d)).map (·.1)) _ name hml1 hpl
     have hp2:=fun F=>KM F (((a7 acc).map (gM d)).map (·.2)) _ v.2.1 hml2 hpl2
     have hrun:ae (fun F=>aS F (R F) (st s r (8 - (d:Int)) 0,oV ((a7 acc).map (gM d)) [])) (oV (Aj ((a7 acc).map (gM d)) (jy (((a7 acc).map (gM d)).map (·.1)) name) (name,v.2.1)) [],x):=by
      refine ahead' _ ?_
      unfold BC
      refine ae.bind hb1 ?_
      refine ae.bind (.of h58) ?_
      refine ae.neg (by show ¬ (!true)=true; decide) ?_
      have hn:=dv hskr1 hs
      have v1':ae (fun F=>R F (s,IntKind.i64.wrap (((s.length - ((58:UInt8) :: r2).length:Nat):Int)+1),8 - (d:Int),0,())) (v,x):=by rw [hn]; exact v1
      refine ae.bind v1' ?_
      refine ae.bind (.of hp1) ?_
      refine ae.bind (.of hp2) (.of fun F => ?_)
      unfold oV
      simp only [uY]
     refine ⟨_,hrun,?_⟩
     have hs1:=dV r
     rw [h0] at hs1
     have hs2:=dV r1
     rw [h2] at hs2
     simp only [List.length_cons] at hs1 hs2
     cases hv:gT d r2 with
     | error e =>
      rw [hv] at v2
      obtain ⟨w1,w2⟩:Bad s e x∧v.2.1.length≤9000 * (d+1):=v2
      refine ⟨_,_,rfl,w1,?_⟩
      rw [BR,zB]
      simp only
      have hsl:=dW hr
      omega
     | ok w =>
      obtain ⟨v',q⟩:=w
      rw [hv] at v2
      have v2:(v,x)=(mM d v',st s q (8 - (d:Int)) 0):=v2
      injection v2 with q1 q2
      subst q1; subst q2
      have hne : ∀ m∈a7 acc,m.1≠name:=by
       intro m hm hh
       apply hdup
       rw [← A2 name (gH acc)]
       exact List.any_eq_true.2 ⟨m,hm,beq_iff_eq.2 hh⟩
      show _ = _
      have hins:=wA ((name,v',()):Me) (a7 acc) hne
      rw [nq,hins,uY,hnm]
      rfl
    ·rename_i h58
     have hbd:=wD s hs R name (jy (((a7 acc).map (gM d)).map (·.1)) name:Int) (oV ((a7 acc).map (gM d)) []) r1 hr1 (8 - (d:Int)) 0 (oN (fun q h=>h58 q h) 0)
     exact ⟨_,ahead' _ hbd,(a7 acc).map (gM d),_,rfl,⟨by decide,skp r1,_,rfl,hskr1,by omega,by omega⟩,by omega⟩
 ·rename_i hno
  simp only [oN (fun q h=>hno q h)] at h34
  refine ⟨(oV ((a7 acc).map (gM d)) [],st s (skp r) (8 - (d:Int)) 3),?_,(a7 acc).map (gM d),_,rfl,⟨by decide,skp r,_,rfl,hskr,by omega,by omega⟩,by omega⟩
  refine ae.congr (m:=fun F => _) ?_ fun F=>xZ F (R F) _
  refine ae.bind hb ?_
  refine ae.bind (.of h34) ?_
  refine ae.pos rfl (.of fun F => ?_)
  unfold st
  simp only [bad_eq,Option.bind_some,if_true]
theorem J5 {d:Nat} {acc:List Me} {r:By} {me:Me} {q:By} (h:C5 (gT d) acc r = .ok (me,q)):q <:+ r∧(mB (gM d me)).length+q.length≤r.length∧(∀ m∈acc,m.1≠me.1):=by
 unfold C5 at h
 split at h
 ·rename_i r0 h0
  split at h
  ·cases h
  ·rename_i name r1 ht
   split at h
   ·cases h
   ·rename_i hdup
    split at h
    ·rename_i r2 h2
     split at h
     ·cases h
     ·rename_i v r3 hv
      cases h
      obtain ⟨t1,t2,t3⟩:=tu r0 ht
      obtain ⟨_,o2,o3,o4⟩:=qM d r2 v q hv
      have hs1:=dV r
      rw [h0] at hs1
      have hs2:=dV r1
      rw [h2] at hs2
      simp only [List.length_cons] at hs1 hs2
      refine ⟨?_,?_,?_⟩
      ·exact o2.trans (((List.suffix_cons 58 r2).trans (h2 ▸ av r1)).trans (t2.trans ((List.suffix_cons 34 r0).trans (h0 ▸ av r))))
      ·rw [zB]
       show (iU name).length+(bG d v).length+3+q.length≤r.length
       omega
      ·intro m hm hh
       apply hdup
       exact List.any_eq_true.2 ⟨m,hm,beq_iff_eq.2 hh⟩
    ·cases h
 ·cases h
theorem IJ {acc:List Me} {me:Me} (hu:Uni acc) (h : ∀ m∈acc,m.1≠me.1):Uni (acc ++ [me]):=by
 unfold Uni
 rw [List.pairwise_append]
 refine ⟨hu,List.pairwise_singleton _ _,fun a ha b hb => ?_⟩
 rw [List.mem_singleton] at hb
 subst hb
 exact h a ha
end Go.Vm
/- JSON: the document's objects and values are the plain ones. No condition but on lengths. -/
namespace Go.Vm
open Go.Lib (decodeL decDigits itoa)
set_option linter.unusedVariables false
set_option linter.unusedSimpArgs false
def RO9 (s:By) (d:Nat) (x:Except Nat (List Me×By)) (y:OS9):Prop := ∃ m x',y=oS m [] x'∧jM m≤4000+9000 * (d+1)∧match x with
 | .ok (l,q)=>m=(a7 l).map (gM d)∧x'=st s q (8 - (d:Int) - 1) 0
 | .error e=>Bad s e x'
theorem sy (s:By) (hs:s.length≤1000) (d:Nat) (hd:d≤8) (R:Nat→RS→Option (V9×RS)) (hR:VT9 s d R) : ∀ (n:Nat) (r:By) (acc:List Me),r <:+ s→r.length+1≤n→Uni acc→jM ((a7 acc).map (gM d))+r.length≤1001 →
  ∃ y,af (fun F=>bu F (R F)) (oS ((a7 acc).map (gM d)) [] (st s r (8 - (d:Int)) 0)) y∧RO9 s d (qL (gT d) n acc r) y
 | 0,r,acc,hr,hn,hu,ha=>by omega
 | n+1,r,acc,hr,hn,hu,ha=>by
  obtain ⟨⟨V,x⟩,h1,h2⟩:=Fl s hs d hd R hR r hr acc hu ha
  have hbody : ∀ (m:List Pr) (b:Bool) (x':RS),V=oV m []→ae (fun F=>aw F (x,((125:UInt8).toNat:Int))) (b,x')→ae (fun F=>bu F (R F) (oS ((a7 acc).map (gM d)) [] (st s r (8 - (d:Int)) 0))) (if (!b)=true then .inr (oS m [] x') else .inl (oS m [] x')):=by
   intro m b x' hV hcc
   subst hV
   unfold bu
   refine ae.pos (by rfl) ?_
   refine ae.bind h1 ?_
   refine ae.bind hcc ?_
   cases b <;> exact .ret _
  rw [Im]
  cases hm:C5 (gT d) acc r with
  | error e =>
   rw [hm] at h2
   obtain ⟨m,x1,h3,hb,hsz⟩:=h2
   injection h3 with q1 q2
   subst q1; subst q2
   obtain ⟨x',h5,h6⟩:=xR s e x hb hs 125
   have hsz':jM m≤4000+9000 * (d+1):=Nat.le_trans hsz (Nat.add_le_add_right (by decide) _)
   exact ⟨_,af.fin (hbody m false x' rfl h5),m,x',rfl,hsz',h6⟩
  | ok w =>
   obtain ⟨me,q⟩:=w
   rw [hm] at h2
   have h2:(V,x) = _:=h2
   injection h2 with q1 q2
   subst q1; subst q2
   obtain ⟨o1,o2,o3⟩:=J5 hm
   have hq:=o1.trans hr
   have hsk:=dV q
   have hu':=IJ hu o3
   have hsum:jM ((a7 (acc ++ [me])).map (gM d))=jM ((a7 acc).map (gM d))+((mB (gM d me)).length+1):=by
    rw [nq,wA me (a7 acc) (fun y hy=>o3 y ((gH acc).mem_iff.1 hy)),uY,BR]
   have hsl:=dW hr
   simp only
   split
   ·rename_i r' hs44
    rw [hs44] at hsk
    simp only [List.length_cons] at hsk
    have hr':r' <:+ s:=((List.suffix_cons 44 r').trans (hs44 ▸ av q)).trans hq
    have hmb:1≤(mB (gM d me)).length:=by rw [zB]; omega
    obtain ⟨y,i1,i2⟩:=sy s hs d hd R hR n r' (acc ++ [me]) hr' (by omega) hu' (by omega)
    exact ⟨y,af.step (hbody _ true _ rfl (Bo s q r' hq hs _ 125 hs44)) i1,i2⟩
   ·rename_i r' hs125
    exact ⟨_,af.fin (hbody _ false _ rfl (EI s q r' hq hs _ (by omega) 125 (by decide) hs125)),_,_,rfl,by omega,rfl,rfl⟩
   ·rename_i h44 h125
    have hno:=wK s q hq hs (8 - (d:Int)) 0 125 (oN (fun q h=>h44 q h) 0) (oN (fun q h=>h125 q h) 0)
    exact ⟨_,af.fin (hbody _ false _ rfl hno),_,_,rfl,by omega,by decide,skp q,_,rfl,(av q).trans hq,by omega,by omega⟩
theorem w9 (R:Nat→RS→Option (V9×RS)) (m:List Pr) (x:RS) (hl:m.length≤1000000) (ht : ∀ p∈m,p.1.length≤1000000) : ∀ (n i:Nat) (form:By),i+n=m.length→form.length+(fK mB i (m.drop i)).length≤1000000 →
  af (fun F=>cg F (R F)) ((),(),(),(i:Int),x,z9,oV m form,()) (oS m (form ++ fK mB i (m.drop i)) x)
 | 0,i,form,h,hb=>by
  refine af.fin (.of fun F => ?_)
  unfold cg oV
  rw [if_neg (by simp; omega),List.drop_eq_nil_of_le (by omega)]
  have:fK mB i ([]:List Pr) = []:=by unfold fK; split <;> rfl
  rw [this,List.append_nil]
  rfl
 | n+1,i,form,h,hb=>by
  have hi:i<m.length:=by omega
  have hx1:idx (m.map (·.1)) (i:Int)=some m[i].1:=bn _ _ _ (by simp [hi])
  have hx2:idx (m.map (·.2)) (i:Int)=some m[i].2:=bn _ _ _ (by simp [hi])
  have hqt:=uP m[i].1 (ht _ (List.getElem_mem hi))
  rw [List.drop_eq_getElem_cons hi,nE] at hb ⊢
  rw [List.length_append,List.length_append] at hb
  have hmb:(mB m[i]).length=(quo m[i].1).length+(1+m[i].2.length):=by unfold mB; simp; omega
  have hw:IntKind.i64.wrap ((i:Int)+1)=((i+1:Nat):Int):=by rw [wrap64 _ (by omega) (by omega)]; omega
  refine af.step (x':=((),(),(),((i+1:Nat):Int),x,z9,oV m (form ++ (if i=0 then [] else [44]) ++ mB m[i]),())) ?_ ?_
  ·unfold cg
   refine ae.pos (by unfold oV; simpa using hi) ?_
   refine ae.bind (r:=(((),(),(),(i:Int),x,z9,oV m (form ++ (if i=0 then [] else [44])),()):Unit×Unit×Unit×Int×RS×V9×V9×Unit)) ?_ ?_
   ·by_cases h0:i=0
    ·subst h0
     refine ae.neg (by show ¬ decide ((0:Int)<((0:Nat):Int))=true; decide) ?_
     rw [if_pos rfl,List.append_nil]
     exact .ret _
    ·refine ae.pos (by show decide ((0:Int)<(i:Int))=true; rw [decide_eq_true_eq]; omega) ?_
     rw [if_neg h0] at hb ⊢
     exact ae.pos (by unfold oV; rw [decide_eq_true_eq]; simp only [List.length_singleton] at hb ⊢; omega) (.ret _)
   ·unfold oV
    refine ae.bind (.of fun F=>hx1) ?_
    refine ae.bind hqt ?_
    refine ae.pos (by rw [decide_eq_true_eq,List.length_append]; omega) ?_
    refine ae.pos (by rw [decide_eq_true_eq]; simp only [List.length_append,List.length_singleton]; omega) ?_
    refine ae.bind (.of fun F=>hx2) ?_
    refine ae.pos (by rw [decide_eq_true_eq]; simp only [List.length_append,List.length_singleton]; omega) (.of fun F => ?_)
    have e:form ++ (if i=0 then ([]:By) else [44]) ++ quo m[i].1 ++ [58] ++ m[i].2=form ++ (if i=0 then ([]:By) else [44]) ++ mB m[i]:=by unfold mB; simp only [List.append_assoc,List.singleton_append]
    simp only [hw,e]
  ·have:=w9 R m x hl ht n (i+1) (form ++ (if i=0 then [] else [44]) ++ mB m[i]) (by omega) (by rw [List.length_append,List.length_append]; omega)
   rw [← List.append_assoc (if i=0 then ([]:By) else [44])]
   simpa only [List.append_assoc] using this
theorem Gf (s:By) (hs:s.length≤1000) (d:Nat) (hd:d≤8) (R:Nat→RS→Option (V9×RS)) (hR : ∀ d',d=d'+1→VT9 s d' R) (q:By) (hq:123 :: q <:+ s) :
  ∃ y,ae (fun F=>aK F (R F) (st s (123 :: q) (8 - (d:Int)) 0)) y∧RV9 s d (match (match d with | 0=>none | d+1=>some (gT d):Option (By→Except Nat (JV×By))) with
   | none => .error 10
   | some V=>match skp q with
    | 125 :: r => .ok (.obj [],r)
    | r=>match qL V (r.length+1) [] r with
     | .error e => .error e
     | .ok (l,r) => .ok (.obj (a7 l),r)) y:=by
 have hqs:=cj hq
 have hsk:skp q <:+ s:=(av q).trans hqs
 have hop:=DW s q 123 hq hs (8 - (d:Int)) (by omega)
 have h125:=fun e k=>fun F=>iX s q hqs F k e 125
 -- behind the first loop
 have ahead : ∀ (m:List Pr) (x x':RS),jM m≤900000→ae (fun F=>aP F (st s (123 :: q) (8 - (d:Int)) 0)) ((),x)→ae (fun F=>aj F (x,((125:UInt8).toNat:Int))) (false,x)→af (fun F=>bu F (R F)) (oS [] [] x) (oS m [] x')→ae (fun F=>aK F (R F) (st s (123 :: q) (8 - (d:Int)) 0)) (oV m (123 :: (dq (m.map mB) ++ [125])),x'):=by
  intro m x x' hj h1 h2 h3
  have hjl:=sO m
  have hil:=BK m
  have hml : ∀ p∈m,p.1.length≤1000000:=by
   intro p hp
   have a1:=GU hp
   rw [zB] at a1
   have a2:=zX p.1
   omega
  have e0:fK mB 0 m=dq (m.map mB):=by unfold fK; rw [if_pos rfl]
  have hjn:=w9 R m x' (by omega) hml m.length 0 [] (by omega) (by rw [List.drop_zero,e0]; simp only [List.length_nil]; omega)
  rw [List.drop_zero,e0,List.nil_append] at hjn
  unfold aK
  refine ae.bind h1 ?_
  refine ae.bind h2 ?_
  refine ae.neg Bool.false_ne_true ?_
  refine ae.bind h3.run ?_
  refine ae.bind hjn.run ?_
  unfold oS oV
  refine ae.pos (by rw [decide_eq_true_eq]; simp only [List.length_singleton]; omega) ?_
  refine ae.pos (by rw [decide_eq_true_eq,List.length_append]; simp only [List.length_singleton]; omega) (.of fun F=>rfl)
 cases d with
 | zero =>
  rw [if_pos (by decide)] at hop
  have h2:=h125 10 (8 - ((0:Nat):Int)+1)
  simp only [pM _ (10:Int) (by decide) _] at h2
  refine ⟨_,ahead [] _ _ (by decide) hop (.of h2) (af.fin (.of fun F=>rfl)),⟨by decide,skp q,8 - ((0:Nat):Int)+1,rfl,hsk,by decide,by decide⟩,?_⟩
  show (2:Nat)≤9000 * (0+1)
  decide
 | succ d =>
  rw [if_neg (by omega)] at hop
  have e8:(8:Int) - ((d+1:Nat):Int)+1=8 - (d:Int):=by omega
  rw [e8] at hop
  have e9:(8:Int) - (d:Int) - 1=8 - ((d+1:Nat):Int):=by omega
  have h2:=h125 0 (8 - (d:Int))
  simp only
  split
  ·rename_i r hr
   rw [hr] at hop hsk
   simp only [hr,ir,decide_true] at h2
   refine ⟨((6,[123,125],[],0,[],[],()),st s r (8 - ((d+1:Nat):Int)) 0),?_,rfl⟩
   unfold aK
   refine ae.bind hop ?_
   refine ae.bind (.of h2) ?_
   refine ae.pos rfl (.of fun F => ?_)
   unfold st
   simp only [dv hsk hs]
   rw [wrap64 _ (by omega) (by omega),e9]
  ·rename_i hr
   simp only [oN (fun q h=>hr q h)] at h2
   have hsl:=dW hsk
   have hz:jM (([]:List Me).map (gM d))=0:=rfl
   have hsz:a7 [] = []:=rfl
   obtain ⟨y,i1,m,x',rfl,i3,i4⟩:=sy s hs d (by omega) R (hR d rfl) ((skp q).length+1) (skp q) [] hsk (Nat.le_refl _) .nil (by rw [hsz,hz]; omega)
   have hd9:d≤8:=by omega
   have hj9:jM m≤900000:=Nat.le_trans i3 (by clear i3 i4 i1 hop h2 h125 ahead; omega)
   have hjl:=sO m
   refine ⟨_,ahead m _ _ hj9 hop (.of h2) i1,?_⟩
   cases hl:qL (gT d) ((skp q).length+1) [] (skp q) with
   | error e =>
    rw [hl] at i4
    refine ⟨i4,?_⟩
    unfold oV
    simp only [List.length_cons,List.length_append,List.length_nil]
    omega
   | ok w =>
    obtain ⟨l,r⟩:=w
    rw [hl] at i4
    obtain ⟨rfl,rfl⟩:=i4
    rw [e9]
    unfold RV9 mM oV
    simp only [lF,rC,wH,u4,zv,bG,wT,List.map_map]
    rfl
end Go.Vm
