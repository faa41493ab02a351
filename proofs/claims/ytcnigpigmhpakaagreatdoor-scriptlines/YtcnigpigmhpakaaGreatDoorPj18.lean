import Derived.Test.YtcnigpigmhpakaaGreatDoorPj16
/- JSON: the document's objects are the plain ones. No condition but on lengths. -/
namespace Go.Vm
open Go.Lib (decodeL decDigits itoa)
set_option linter.unusedVariables false
set_option linter.unusedSimpArgs false
abbrev Pr:=By×By
def gM (d:Nat) (m:Me):Pr:=(m.1,gE d m.2.1)
def mB (p:Pr):By:=quo p.1 ++ 58 :: p.2
def jC (m:List Pr):Nat:=(m.map fun p=>(mB p).length+1).sum
abbrev OS9:=Unit×Unit×Unit×RS×V9×V9×Unit
def oV (m:List Pr) (form:By):V9:=(6,form,[],0,m.map (·.1),m.map (·.2),())
def oS (m:List Pr) (form:By) (x:RS):OS9:=((),(),(),x,z9,oV m form,())
theorem AY (m:List Pr):m.length≤jC m:=by
 unfold jC
 induction m with
 | nil=>exact Nat.le_refl _
 | cons b l ih=>simp only [List.map_cons,List.sum_cons,List.length_cons]; omega
theorem ux (a b:List Pr):jC (a ++ b)=jC a+jC b:=by unfold jC; rw [List.map_append,List.sum_append]
theorem zT (m:List Pr) (p:Nat) (x:Pr):jC (yk m p x)=jC m+((mB x).length+1):=by
 have h:jC m=jC (m.take p)+jC (m.drop p):=by rw [← ux,List.take_append_drop]
 have h1:jC [x]=(mB x).length+1:=rfl
 unfold yk
 rw [ux,ux,h,h1]
 omega
theorem sB : ∀ m:List Pr,(bV (m.map mB)).length≤jC m
 | []=>Nat.le_refl _
 | [b]=>by unfold jC; simp [bV]
 | b :: c :: l=>by
  have ih:=sB (c :: l)
  rw [List.map_cons,List.map_cons]
  unfold bV
  unfold jC at ih ⊢
  rw [List.map_cons,List.sum_cons,List.length_append,List.length_cons, ← List.map_cons]
  omega
theorem Gy {m:List Pr} {p:Pr} (h:p∈m):(mB p).length≤jC m:=by
 induction m with
 | nil=>cases h
 | cons b l ih =>
  unfold jC at ih ⊢
  rw [List.map_cons,List.sum_cons]
  rcases List.mem_cons.1 h with rfl | h
  ·omega
  ·have:=ih h; omega
theorem Gj (c:UInt8):1≤(kT c).length:=by
 unfold kT
 repeat' split
 all_goals exact Nat.le_of_ble_eq_true rfl
theorem CY (t:By):t.length≤(fS t).length:=by
 induction t with
 | nil=>exact Nat.le_refl _
 | cons c t ih =>
  have:=Gj c
  show _≤(kT c ++ fS t).length
  rw [List.length_append,List.length_cons]
  omega
theorem yz (p:Pr):(mB p).length=(fS p.1).length+p.2.length+3:=by unfold mB quo; simp; omega
/-! ### one member -/
def B7 (V:By→Except Nat (JV×By)) (acc:List Me) (s:By):Except Nat (Me×By):=match skp s with
 | 34 :: r=>match txt r with
  | none => .error 3
  | some (name,r)=>if acc.any (fun m=>m.1 == name) then .error 7 else match skp r with
   | 58 :: r=>match V r with
    | .error e => .error e
    | .ok (v,r) => .ok ((name,v,()),r)
   | _ => .error 3
 | _ => .error 3
theorem Hj (V:By→Except Nat (JV×By)) (n:Nat) (acc:List Me) (s:By):nz V (n+1) acc s=match B7 V acc s with
  | .error e => .error e
  | .ok (m,r)=>match skp r with
   | 44 :: r=>nz V n (acc ++ [m]) r
   | 125 :: r => .ok (acc ++ [m],r)
   | _ => .error 3:=by
 rw [nz]
 unfold B7
 cases skp s with
 | nil=>rfl
 | cons c r =>
  by_cases hc:c=34
  ·subst hc
   simp only
   cases txt r with
   | none=>rfl
   | some w =>
    obtain ⟨name,r1⟩:=w
    simp only
    split
    ·rfl
    ·cases skp r1 with
     | nil=>rfl
     | cons c r2 =>
      by_cases hc:c=58
      ·subst hc
       simp only
       cases V r2 with
       | error e=>rfl
       | ok w=>rfl
      ·simp [hc]
  ·simp [hc]
noncomputable def AX (F:Nat) (R:RS→Option (V9×RS)) (v6:Unit×Unit×Unit×By×Int×RS×V9×V9×Unit):Option (V9×RS):=(au F (v6.2.2.2.2.2.1.1,v6.2.2.2.2.2.1.2.1,v6.2.2.2.2.2.1.2.2.1,v6.2.2.2.2.2.1.2.2.2.1,())).bind fun v7=>(ai F ((v7.2.1,v7.2.2.1,v7.2.2.2.1,v7.2.2.2.2.1,()),58)).bind fun v8=>if (!v8.1)=true then (aj F ((v8.2.1,v8.2.2.1,v8.2.2.2.1,v8.2.2.2.2.1,()),3)).bind fun v9=>some (v6.2.2.2.2.2.2.1,v9.2.1,v9.2.2.1,v9.2.2.2.1,v9.2.2.2.2.1,()) else (R (v8.2.1,IntKind.i64.wrap (v8.2.2.1+1),v8.2.2.2.1,v8.2.2.2.2.1,())).bind fun v10=>(bJ F (v6.2.2.2.2.2.2.1.2.2.2.2.1,v6.2.2.2.2.1,v6.2.2.2.1)).bind fun v11=>(bJ F (v6.2.2.2.2.2.2.1.2.2.2.2.2.1,v6.2.2.2.2.1,v10.1.2.1)).bind fun v12=>some ((v6.2.2.2.2.2.2.1.1,v6.2.2.2.2.2.2.1.2.1,v6.2.2.2.2.2.2.1.2.2.1,v6.2.2.2.2.2.2.1.2.2.2.1,v11,v12,()),v10.2.1,v10.2.2.1,v10.2.2.2.1,v10.2.2.2.2.1,())
theorem xB (F:Nat) (R:RS→Option (V9×RS)) (x:RS×V9):aV F R x=(au F (x.1.1,x.1.2.1,x.1.2.2.1,x.1.2.2.2.1,())).bind fun v0=>(ai F ((v0.2.1,v0.2.2.1,v0.2.2.2.1,v0.2.2.2.2.1,()),34)).bind fun v1=>if (!v1.1)=true then (aj F ((v1.2.1,v1.2.2.1,v1.2.2.2.1,v1.2.2.2.2.1,()),3)).bind fun v2=>some (x.2,v2.2.1,v2.2.2.1,v2.2.2.2.1,v2.2.2.2.2.1,()) else (aI F (v1.2.1,v1.2.2.1,v1.2.2.2.1,v1.2.2.2.2.1,())).bind fun v3=>(cA F (x.2.2.2.2.2.1,v3.1)).bind fun v4=>(if v4.2=true then (aj F ((v3.2.1,v3.2.2.1,v3.2.2.2.1,v3.2.2.2.2.1,()),7)).bind fun v5=>some ((),(),(),v3.1,v4.1,(v5.2.1,v5.2.2.1,v5.2.2.2.1,v5.2.2.2.2.1,()),x.2,z9,()) else some ((),(),(),v3.1,v4.1,(v3.2.1,v3.2.2.1,v3.2.2.2.1,v3.2.2.2.2.1,()),x.2,z9,()):Option (Unit×Unit×Unit×By×Int×RS×V9×V9×Unit)).bind (AX F R):=rfl
theorem uO (s:By) (hs:s.length≤1000) (R:Nat→RS→Option (V9×RS)) (name:By) (p:Int) (V:V9) (r:By) (hr:r <:+ s) (k e:Int) (h:isH (skp r) e 58=false):ae (fun F=>AX F (R F) ((),(),(),name,p,st s r k e,V,z9,())) (V,st s (skp r) k (if e=0 then 3 else e)):=by
 have h1:=fun F=>jh s r hr F k e 58
 simp only [h] at h1
 unfold AX
 refine ae.bind (il s r hr hs k e) ?_
 refine ae.bind (.of h1) ?_
 refine ae.pos rfl (.of fun F => ?_)
 unfold st
 simp only [bad_eq,Option.bind_some]
def KQ (s:By) (d:Nat) (acc:List Me) (x:Except Nat (Me×By)) (y:V9×RS):Prop:=match x with
 | .ok (me,q)=>y=(oV ((a8 (acc ++ [me])).map (gM d)) [],st s q (8 - (d:Int)) 0)
 | .error e => ∃ m x',y=(oV m [],x')∧Bad s e x'∧jC m≤3000+9000 * (d+1)
theorem A3 (x:By) {l l':List Me} (h:l.Perm l'):l.any (fun m=>m.1 == x)=l'.any (fun m=>m.1 == x):=by
 rw [Bool.eq_iff_iff,List.any_eq_true,List.any_eq_true]
 constructor
 ·rintro ⟨m,hm,h2⟩; exact ⟨m,h.mem_iff.1 hm,h2⟩
 ·rintro ⟨m,hm,h2⟩; exact ⟨m,h.mem_iff.2 hm,h2⟩
theorem E0 (s:By) (hs:s.length≤1000) (d:Nat) (hd:d≤8) (R:Nat→RS→Option (V9×RS)) (hR:VT9 s d R) (r:By) (hr:r <:+ s) (acc:List Me) (hu:Uni acc) (ha:jC ((a8 acc).map (gM d))+r.length≤1001) :
  ∃ y,ae (fun F=>aV F (R F) (st s r (8 - (d:Int)) 0,oV ((a8 acc).map (gM d)) [])) y∧KQ s d acc (B7 (fG d) acc r) y:=by
 have hml:((a8 acc).map (gM d)).length≤1001:=Nat.le_trans (AY _) (by omega)
 have hskr:skp r <:+ s:=(av r).trans hr
 have h34:=fun F=>jh s r hr F (8 - (d:Int)) 0 34
 have hb:=il s r hr hs (8 - (d:Int)) 0
 have hnm:(((a8 acc).map (gM d)).map (·.1))=(a8 acc).map (·.1):=by rw [List.map_map]; rfl
 unfold B7
 split
 ·rename_i r0 h0
  rw [h0] at hskr hb
  simp only [h0,iB,decide_true] at h34
  obtain ⟨y,t1,t2⟩:=Dh s r0 hskr hs (8 - (d:Int))
  have pl:=fun x=>HU (((a8 acc).map (gM d)).map (·.1)) x (by rw [List.length_map]; omega)
  have ahead : ∀ (v6:Unit×Unit×Unit×By×Int×RS×V9×V9×Unit) (z:V9×RS),(∀ F:Nat,(if decide ((((a8 acc).map (gM d)).map (·.1))[ju (((a8 acc).map (gM d)).map (·.1)) y.1]? = some y.1)=true then (aj F ((y.2.1,y.2.2.1,y.2.2.2.1,y.2.2.2.2.1,()),7)).bind fun v5=>some ((),(),(),y.1,(ju (((a8 acc).map (gM d)).map (·.1)) y.1:Int),(v5.2.1,v5.2.2.1,v5.2.2.2.1,v5.2.2.2.2.1,()),oV ((a8 acc).map (gM d)) [],z9,()) else some ((),(),(),y.1,(ju (((a8 acc).map (gM d)).map (·.1)) y.1:Int),(y.2.1,y.2.2.1,y.2.2.2.1,y.2.2.2.2.1,()),oV ((a8 acc).map (gM d)) [],z9,()):Option (Unit×Unit×Unit×By×Int×RS×V9×V9×Unit))=some v6)→ae (fun F=>AX F (R F) v6) z→ae (fun F=>aV F (R F) (st s r (8 - (d:Int)) 0,oV ((a8 acc).map (gM d)) [])) z:=by
   intro v6 z h6 hz
   refine ae.congr (m:=fun F => _) ?_ fun F=>xB F (R F) _
   refine ae.bind hb ?_
   refine ae.bind (.of h34) ?_
   refine ae.neg (by show ¬ (!true)=true; decide) ?_
   refine ae.bind t1 ?_
   refine ae.bind (pl y.1) ?_
   exact ae.bind (.of h6) hz
  split
  ·rename_i ht
   rw [ht] at t2
   obtain ⟨r',hr',rfl⟩:=t2
   have hbd:=uO s hs R [] (ju (((a8 acc).map (gM d)).map (·.1)) []:Int) (oV ((a8 acc).map (gM d)) []) r' hr' (8 - (d:Int)) 3 (px _ _ (by decide) _)
   refine ⟨_,ahead _ _ (fun F => ?_) hbd,(a8 acc).map (gM d),_,rfl,⟨by decide,skp r',_,rfl,(av r').trans hr',by omega,by omega⟩,by omega⟩
   unfold st
   simp only [bad_eq,Option.bind_some]
   split <;> rfl
  ·rename_i name r1 ht
   rw [ht] at t2
   subst t2
   obtain ⟨tx1,tx2,tx3⟩:=sl r0 ht
   have hr1:=tx2.trans (cr hskr)
   have hany:decide ((((a8 acc).map (gM d)).map (·.1))[ju (((a8 acc).map (gM d)).map (·.1)) name]? = some name)=acc.any (fun m=>m.1 == name):=by
    rw [hnm,w6 name (a8 acc) (sr acc hu),A3 name (gz acc)]
   simp only at ahead
   rw [hany] at ahead
   split
   ·rename_i hdup
    have hbd:=uO s hs R name (ju (((a8 acc).map (gM d)).map (·.1)) name:Int) (oV ((a8 acc).map (gM d)) []) r1 hr1 (8 - (d:Int)) 7 (px _ _ (by decide) _)
    refine ⟨_,ahead _ _ (fun F => ?_) hbd,(a8 acc).map (gM d),_,rfl,⟨by decide,skp r1,_,rfl,(av r1).trans hr1,by omega,by omega⟩,by omega⟩
    rw [if_pos hdup]
    unfold st
    simp only [bad_eq,Option.bind_some,if_true]
   ·rename_i hdup
    have ahead':=fun z h=>ahead ((),(),(),name,(ju (((a8 acc).map (gM d)).map (·.1)) name:Int),st s r1 (8 - (d:Int)) 0,oV ((a8 acc).map (gM d)) [],z9,()) z (fun F=>by rw [if_neg hdup]) h
    have hskr1:skp r1 <:+ s:=(av r1).trans hr1
    split
    ·rename_i r2 h2
     rw [h2] at hskr1
     have hr2:=cr hskr1
     have h58:=fun F=>jh s r1 hr1 F (8 - (d:Int)) 0 58
     simp only [h2,iB,decide_true] at h58
     have hb1:=il s r1 hr1 hs (8 - (d:Int)) 0
     rw [h2] at hb1
     obtain ⟨⟨v,x⟩,v1,v2⟩:=hR r2 hr2
     have hpl:=CD (((a8 acc).map (gM d)).map (·.1)) name
     have hml1:(((a8 acc).map (gM d)).map (·.1)).length≤1000000:=by rw [List.length_map]; omega
     have hml2:(((a8 acc).map (gM d)).map (·.2)).length≤1000000:=by rw [List.length_map]; omega
     have hpl2:ju (((a8 acc).map (gM d)).map (·.1)) name≤(((a8 acc).map (gM d)).map (·.2)).length:=by rw [List.length_map] at hpl ⊢; first | done | exact hpl
     have hp1:=fun F=>I8 F (((a8 acc).map (gM d)).map (·.1)) _ name hml1 hpl
     have hp2:=fun F=>I8 F (((a8 acc).map (gM d)).map (·.2)) _ v.2.1 hml2 hpl2
     have hrun:ae (fun F=>aV F (R F) (st s r (8 - (d:Int)) 0,oV ((a8 acc).map (gM d)) [])) (oV (yk ((a8 acc).map (gM d)) (ju (((a8 acc).map (gM d)).map (·.1)) name) (name,v.2.1)) [],x):=by
      refine ahead' _ ?_
      unfold AX
      refine ae.bind hb1 ?_
      refine ae.bind (.of h58) ?_
      refine ae.neg (by show ¬ (!true)=true; decide) ?_
      have hn:=dk hskr1 hs
      have v1':ae (fun F=>R F (s,IntKind.i64.wrap (((s.length - ((58:UInt8) :: r2).length:Nat):Int)+1),8 - (d:Int),0,())) (v,x):=by rw [hn]; exact v1
      refine ae.bind v1' ?_
      refine ae.bind (.of hp1) ?_
      refine ae.bind (.of hp2) (.of fun F => ?_)
      unfold oV
      simp only [uN]
     refine ⟨_,hrun,?_⟩
     have hs1:=dT r
     rw [h0] at hs1
     have hs2:=dT r1
     rw [h2] at hs2
     simp only [List.length_cons] at hs1 hs2
     cases hv:fG d r2 with
     | error e =>
      rw [hv] at v2
      obtain ⟨w1,w2⟩:Bad s e x∧v.2.1.length≤9000 * (d+1):=v2
      refine ⟨_,_,rfl,w1,?_⟩
      rw [zT,yz]
      simp only
      have hsl:=dS hr
      omega
     | ok w =>
      obtain ⟨v',q⟩:=w
      rw [hv] at v2
      have v2:(v,x)=(mH d v',st s q (8 - (d:Int)) 0):=v2
      injection v2 with q1 q2
      subst q1; subst q2
      have hne : ∀ m∈a8 acc,m.1≠name:=by
       intro m hm hh
       apply hdup
       rw [← A3 name (gz acc)]
       exact List.any_eq_true.2 ⟨m,hm,beq_iff_eq.2 hh⟩
      show _ = _
      have hins:=vh ((name,v',()):Me) (a8 acc) hne
      rw [mO,hins,uN,hnm]
      rfl
    ·rename_i h58
     have hbd:=uO s hs R name (ju (((a8 acc).map (gM d)).map (·.1)) name:Int) (oV ((a8 acc).map (gM d)) []) r1 hr1 (8 - (d:Int)) 0 (ot (fun q h=>h58 q h) 0)
     exact ⟨_,ahead' _ hbd,(a8 acc).map (gM d),_,rfl,⟨by decide,skp r1,_,rfl,hskr1,by omega,by omega⟩,by omega⟩
 ·rename_i hno
  simp only [ot (fun q h=>hno q h)] at h34
  refine ⟨(oV ((a8 acc).map (gM d)) [],st s (skp r) (8 - (d:Int)) 3),?_,(a8 acc).map (gM d),_,rfl,⟨by decide,skp r,_,rfl,hskr,by omega,by omega⟩,by omega⟩
  refine ae.congr (m:=fun F => _) ?_ fun F=>xB F (R F) _
  refine ae.bind hb ?_
  refine ae.bind (.of h34) ?_
  refine ae.pos rfl (.of fun F => ?_)
  unfold st
  simp only [bad_eq,Option.bind_some,if_true]
theorem Ib {d:Nat} {acc:List Me} {r:By} {me:Me} {q:By} (h:B7 (fG d) acc r = .ok (me,q)):q <:+ r∧(mB (gM d me)).length+q.length≤r.length∧(∀ m∈acc,m.1≠me.1):=by
 unfold B7 at h
 split at h
 ·rename_i r0 h0
  split at h
  ·cases h
  ·rename_i name r1 ht
   split at h
   ·cases h
   ·rename_i hdup
    split at h
    ·rename_i r2 h2
     split at h
     ·cases h
     ·rename_i v r3 hv
      cases h
      obtain ⟨t1,t2,t3⟩:=sl r0 ht
      obtain ⟨_,o2,o3,o4⟩:=qA d r2 v q hv
      have hs1:=dT r
      rw [h0] at hs1
      have hs2:=dT r1
      rw [h2] at hs2
      simp only [List.length_cons] at hs1 hs2
      refine ⟨?_,?_,?_⟩
      ·exact o2.trans (((List.suffix_cons 58 r2).trans (h2 ▸ av r1)).trans (t2.trans ((List.suffix_cons 34 r0).trans (h0 ▸ av r))))
      ·rw [yz]
       show (fS name).length+(gE d v).length+3+q.length≤r.length
       omega
      ·intro m hm hh
       apply hdup
       exact List.any_eq_true.2 ⟨m,hm,beq_iff_eq.2 hh⟩
    ·cases h
 ·cases h
theorem FG {acc:List Me} {me:Me} (hu:Uni acc) (h : ∀ m∈acc,m.1≠me.1):Uni (acc ++ [me]):=by
 unfold Uni
 rw [List.pairwise_append]
 refine ⟨hu,List.pairwise_singleton _ _,fun a ha b hb => ?_⟩
 rw [List.mem_singleton] at hb
 subst hb
 exact h a ha
end Go.Vm
/- JSON: the document's objects and values are the plain ones. No condition but on lengths. -/
namespace Go.Vm
open Go.Lib (decodeL decDigits itoa)
set_option linter.unusedVariables false
set_option linter.unusedSimpArgs false
def RO9 (s:By) (d:Nat) (x:Except Nat (List Me×By)) (y:OS9):Prop := ∃ m x',y=oS m [] x'∧jC m≤4000+9000 * (d+1)∧match x with
 | .ok (l,q)=>m=(a8 l).map (gM d)∧x'=st s q (8 - (d:Int) - 1) 0
 | .error e=>Bad s e x'
theorem rm (s:By) (hs:s.length≤1000) (d:Nat) (hd:d≤8) (R:Nat→RS→Option (V9×RS)) (hR:VT9 s d R) : ∀ (n:Nat) (r:By) (acc:List Me),r <:+ s→r.length+1≤n→Uni acc→jC ((a8 acc).map (gM d))+r.length≤1001 →
  ∃ y,af (fun F=>bD F (R F)) (oS ((a8 acc).map (gM d)) [] (st s r (8 - (d:Int)) 0)) y∧RO9 s d (nz (fG d) n acc r) y
 | 0,r,acc,hr,hn,hu,ha=>by omega
 | n+1,r,acc,hr,hn,hu,ha=>by
  obtain ⟨⟨V,x⟩,h1,h2⟩:=E0 s hs d hd R hR r hr acc hu ha
  have hbody : ∀ (m:List Pr) (b:Bool) (x':RS),V=oV m []→ae (fun F=>ax F (x,((125:UInt8).toNat:Int))) (b,x')→ae (fun F=>bD F (R F) (oS ((a8 acc).map (gM d)) [] (st s r (8 - (d:Int)) 0))) (if (!b)=true then .inr (oS m [] x') else .inl (oS m [] x')):=by
   intro m b x' hV hcc
   subst hV
   unfold bD
   refine ae.pos (by rfl) ?_
   refine ae.bind h1 ?_
   refine ae.bind hcc ?_
   cases b <;> exact .ret _
  rw [Hj]
  cases hm:B7 (fG d) acc r with
  | error e =>
   rw [hm] at h2
   obtain ⟨m,x1,h3,hb,hsz⟩:=h2
   injection h3 with q1 q2
   subst q1; subst q2
   obtain ⟨x',h5,h6⟩:=xL s e x hb hs 125
   have hsz':jC m≤4000+9000 * (d+1):=Nat.le_trans hsz (Nat.add_le_add_right (by decide) _)
   exact ⟨_,af.fin (hbody m false x' rfl h5),m,x',rfl,hsz',h6⟩
  | ok w =>
   obtain ⟨me,q⟩:=w
   rw [hm] at h2
   have h2:(V,x) = _:=h2
   injection h2 with q1 q2
   subst q1; subst q2
   obtain ⟨o1,o2,o3⟩:=Ib hm
   have hq:=o1.trans hr
   have hsk:=dT q
   have hu':=FG hu o3
   have hsum:jC ((a8 (acc ++ [me])).map (gM d))=jC ((a8 acc).map (gM d))+((mB (gM d me)).length+1):=by
    rw [mO,vh me (a8 acc) (fun y hy=>o3 y ((gz acc).mem_iff.1 hy)),uN,zT]
   have hsl:=dS hr
   simp only
   split
   ·rename_i r' hs44
    rw [hs44] at hsk
    simp only [List.length_cons] at hsk
    have hr':r' <:+ s:=((List.suffix_cons 44 r').trans (hs44 ▸ av q)).trans hq
    have hmb:1≤(mB (gM d me)).length:=by rw [yz]; omega
    obtain ⟨y,i1,i2⟩:=rm s hs d hd R hR n r' (acc ++ [me]) hr' (by omega) hu' (by omega)
    exact ⟨y,af.step (hbody _ true _ rfl (An s q r' hq hs _ 125 hs44)) i1,i2⟩
   ·rename_i r' hs125
    exact ⟨_,af.fin (hbody _ false _ rfl (Db s q r' hq hs _ (by omega) 125 (by decide) hs125)),_,_,rfl,by omega,rfl,rfl⟩
   ·rename_i h44 h125
    have hno:=vz s q hq hs (8 - (d:Int)) 0 125 (ot (fun q h=>h44 q h) 0) (ot (fun q h=>h125 q h) 0)
    exact ⟨_,af.fin (hbody _ false _ rfl hno),_,_,rfl,by omega,by decide,skp q,_,rfl,(av q).trans hq,by omega,by omega⟩
theorem vl (R:Nat→RS→Option (V9×RS)) (m:List Pr) (x:RS) (hl:m.length≤1000000) (ht : ∀ p∈m,p.1.length≤1000000) : ∀ (n i:Nat) (form:By),i+n=m.length→form.length+(ky mB i (m.drop i)).length≤1000000 →
  af (fun F=>ck F (R F)) ((),(),(),(i:Int),x,z9,oV m form,()) (oS m (form ++ ky mB i (m.drop i)) x)
 | 0,i,form,h,hb=>by
  refine af.fin (.of fun F => ?_)
  unfold ck oV
  rw [if_neg (by simp; omega),List.drop_eq_nil_of_le (by omega)]
  have:ky mB i ([]:List Pr) = []:=by unfold ky; split <;> rfl
  rw [this,List.append_nil]
  rfl
 | n+1,i,form,h,hb=>by
  have hi:i<m.length:=by omega
  have hx1:idx (m.map (·.1)) (i:Int)=some m[i].1:=eQ _ _ _ (by simp [hi])
  have hx2:idx (m.map (·.2)) (i:Int)=some m[i].2:=eQ _ _ _ (by simp [hi])
  have hqt:=j1 m[i].1 (ht _ (List.getElem_mem hi))
  rw [List.drop_eq_getElem_cons hi,uE] at hb ⊢
  rw [List.length_append,List.length_append] at hb
  have hmb:(mB m[i]).length=(quo m[i].1).length+(1+m[i].2.length):=by unfold mB; simp; omega
  have hw:IntKind.i64.wrap ((i:Int)+1)=((i+1:Nat):Int):=by rw [wrap64 _ (by omega) (by omega)]; omega
  refine af.step (x':=((),(),(),((i+1:Nat):Int),x,z9,oV m (form ++ (if i=0 then [] else [44]) ++ mB m[i]),())) ?_ ?_
  ·unfold ck
   refine ae.pos (by unfold oV; simpa using hi) ?_
   refine ae.bind (r:=(((),(),(),(i:Int),x,z9,oV m (form ++ (if i=0 then [] else [44])),()):Unit×Unit×Unit×Int×RS×V9×V9×Unit)) ?_ ?_
   ·by_cases h0:i=0
    ·subst h0
     refine ae.neg (by show ¬ decide ((0:Int)<((0:Nat):Int))=true; decide) ?_
     rw [if_pos rfl,List.append_nil]
     exact .ret _
    ·refine ae.pos (by show decide ((0:Int)<(i:Int))=true; rw [decide_eq_true_eq]; omega) ?_
     rw [if_neg h0] at hb ⊢
     exact ae.pos (by unfold oV; rw [decide_eq_true_eq]; simp only [List.length_singleton] at hb ⊢; omega) (.ret _)
   ·unfold oV
    refine ae.bind (.of fun F=>hx1) ?_
    refine ae.bind hqt ?_
    refine ae.pos (by rw [decide_eq_true_eq,List.length_append]; omega) ?_
    refine ae.pos (by rw [decide_eq_true_eq]; simp only [List.length_append,List.length_singleton]; omega) ?_
    refine ae.bind (.of fun F=>hx2) ?_
    refine ae.pos (by rw [decide_eq_true_eq]; simp only [List.length_append,List.length_singleton]; omega) (.of fun F => ?_)
    have e:form ++ (if i=0 then ([]:By) else [44]) ++ quo m[i].1 ++ [58] ++ m[i].2=form ++ (if i=0 then ([]:By) else [44]) ++ mB m[i]:=by unfold mB; simp only [List.append_assoc,List.singleton_append]
    simp only [hw,e]
  ·have:=vl R m x hl ht n (i+1) (form ++ (if i=0 then [] else [44]) ++ mB m[i]) (by omega) (by rw [List.length_append,List.length_append]; omega)
   rw [← List.append_assoc (if i=0 then ([]:By) else [44])]
   simpa only [List.append_assoc] using this
theorem Ec (s:By) (hs:s.length≤1000) (d:Nat) (hd:d≤8) (R:Nat→RS→Option (V9×RS)) (hR : ∀ d',d=d'+1→VT9 s d' R) (q:By) (hq:123 :: q <:+ s) :
  ∃ y,ae (fun F=>aK F (R F) (st s (123 :: q) (8 - (d:Int)) 0)) y∧RV9 s d (match (match d with | 0=>none | d+1=>some (fG d):Option (By→Except Nat (JV×By))) with
   | none => .error 10
   | some V=>match skp q with
    | 125 :: r => .ok (.obj [],r)
    | r=>match nz V (r.length+1) [] r with
     | .error e => .error e
     | .ok (l,r) => .ok (.obj (a8 l),r)) y:=by
 have hqs:=cr hq
 have hsk:skp q <:+ s:=(av q).trans hqs
 have hop:=De s q 123 hq hs (8 - (d:Int)) (by omega)
 have h125:=fun e k=>fun F=>jh s q hqs F k e 125
 -- behind the first loop
 have ahead : ∀ (m:List Pr) (x x':RS),jC m≤900000→ae (fun F=>aQ F (st s (123 :: q) (8 - (d:Int)) 0)) ((),x)→ae (fun F=>ai F (x,((125:UInt8).toNat:Int))) (false,x)→af (fun F=>bD F (R F)) (oS [] [] x) (oS m [] x')→ae (fun F=>aK F (R F) (st s (123 :: q) (8 - (d:Int)) 0)) (oV m (123 :: (bV (m.map mB) ++ [125])),x'):=by
  intro m x x' hj h1 h2 h3
  have hjl:=sB m
  have hil:=AY m
  have hml : ∀ p∈m,p.1.length≤1000000:=by
   intro p hp
   have a1:=Gy hp
   rw [yz] at a1
   have a2:=CY p.1
   omega
  have e0:ky mB 0 m=bV (m.map mB):=by unfold ky; rw [if_pos rfl]
  have hjn:=vl R m x' (by omega) hml m.length 0 [] (by omega) (by rw [List.drop_zero,e0]; simp only [List.length_nil]; omega)
  rw [List.drop_zero,e0,List.nil_append] at hjn
  unfold aK
  refine ae.bind h1 ?_
  refine ae.bind h2 ?_
  refine ae.neg Bool.false_ne_true ?_
  refine ae.bind h3.run ?_
  refine ae.bind hjn.run ?_
  unfold oS oV
  refine ae.pos (by rw [decide_eq_true_eq]; simp only [List.length_singleton]; omega) ?_
  refine ae.pos (by rw [decide_eq_true_eq,List.length_append]; simp only [List.length_singleton]; omega) (.of fun F=>rfl)
 cases d with
 | zero =>
  rw [if_pos (by decide)] at hop
  have h2:=h125 10 (8 - ((0:Nat):Int)+1)
  simp only [px _ (10:Int) (by decide) _] at h2
  refine ⟨_,ahead [] _ _ (by decide) hop (.of h2) (af.fin (.of fun F=>rfl)),⟨by decide,skp q,8 - ((0:Nat):Int)+1,rfl,hsk,by decide,by decide⟩,?_⟩
  show (2:Nat)≤9000 * (0+1)
  decide
 | succ d =>
  rw [if_neg (by omega)] at hop
  have e8:(8:Int) - ((d+1:Nat):Int)+1=8 - (d:Int):=by omega
  rw [e8] at hop
  have e9:(8:Int) - (d:Int) - 1=8 - ((d+1:Nat):Int):=by omega
  have h2:=h125 0 (8 - (d:Int))
  simp only
  split
  ·rename_i r hr
   rw [hr] at hop hsk
   simp only [hr,iB,decide_true] at h2
   refine ⟨((6,[123,125],[],0,[],[],()),st s r (8 - ((d+1:Nat):Int)) 0),?_,rfl⟩
   unfold aK
   refine ae.bind hop ?_
   refine ae.bind (.of h2) ?_
   refine ae.pos rfl (.of fun F => ?_)
   unfold st
   simp only [dk hsk hs]
   rw [wrap64 _ (by omega) (by omega),e9]
  ·rename_i hr
   simp only [ot (fun q h=>hr q h)] at h2
   have hsl:=dS hsk
   have hz:jC (([]:List Me).map (gM d))=0:=rfl
   have hsz:a8 [] = []:=rfl
   obtain ⟨y,i1,m,x',rfl,i3,i4⟩:=rm s hs d (by omega) R (hR d rfl) ((skp q).length+1) (skp q) [] hsk (Nat.le_refl _) .nil (by rw [hsz,hz]; omega)
   have hd9:d≤8:=by omega
   have hj9:jC m≤900000:=Nat.le_trans i3 (by clear i3 i4 i1 hop h2 h125 ahead; omega)
   have hjl:=sB m
   refine ⟨_,ahead m _ _ hj9 hop (.of h2) i1,?_⟩
   cases hl:nz (fG d) ((skp q).length+1) [] (skp q) with
   | error e =>
    rw [hl] at i4
    refine ⟨i4,?_⟩
    unfold oV
    simp only [List.length_cons,List.length_append,List.length_nil]
    omega
   | ok w =>
    obtain ⟨l,r⟩:=w
    rw [hl] at i4
    obtain ⟨rfl,rfl⟩:=i4
    rw [e9]
    unfold RV9 mH oV
    simp only [xR,p8,wz,yN,yB,gE,su,List.map_map]
    rfl
end Go.Vm
