/- JSON: the document's lists and objects are the plain ones. No condition but on lengths. -/
import Derived.Test.YtcnigpigmhpakaaGreatDoorFr9v
import Derived.Test.YtcnigpigmhpakaaGreatDoorPj15
namespace Go.Vm
open Go.Lib (decodeL decDigits itoa)
set_option linter.unusedVariables false
set_option linter.unusedSimpArgs false
/-! ### what is told -/
def xR:JV→Int
 | .nil=>0
 | .null=>1
 | .bool _=>2
 | .int _=>3
 | .str _=>4
 | .list _=>5
 | .obj _=>6
def p8:JV→By
 | .str t=>t
 | _ => []
def wz:JV→Int
 | .int n=>n
 | _=>0
def yN:JV→List By
 | .obj l=>l.map (·.1)
 | _ => []
def Kh (d:Nat) (v:JV):By:=match d with
 | 0 => []
 | d+1=>gE d v
def yB (d:Nat):JV→List By
 | .list l=>l.map (Kh d)
 | .obj l=>l.map fun m=>Kh d m.2.1
 | _ => []
def mH (d:Nat) (v:JV):V9:=(xR v,gE d v,p8 v,wz v,yN v,yB d v,())
def RV9 (s:By) (d:Nat) (x:Except Nat (JV×By)) (y:V9×RS):Prop:=match x with
 | .ok (v,q)=>y=(mH d v,st s q (8 - (d:Int)) 0)
 | .error e=>Bad s e y.2∧y.1.2.1.length≤9000 * (d+1)
def VT9 (s:By) (d:Nat) (R:Nat→RS→Option (V9×RS)):Prop := ∀ r,r <:+ s → ∃ y,ae (fun F=>R F (st s r (8 - (d:Int)) 0)) y∧RV9 s d (fG d r) y
/-! ### lists -/
abbrev LS9:=Unit×Unit×Unit×RS×V9×(Int×By×By×Int×List By×Unit×Unit)×List By×Unit
def lS (its:List By) (form:By) (x:RS):LS9:=((),(),(),x,z9,(5,form,[],0,[],(),()),its,())
def sC (l:List By):Nat:=(l.map fun b=>b.length+1).sum
theorem xP (l:List By) (b:By):sC (l ++ [b])=sC l+(b.length+1):=by unfold sC; simp
theorem AH (l:List By):l.length≤sC l:=by
 unfold sC
 induction l with
 | nil=>exact Nat.le_refl _
 | cons b l ih=>simp only [List.map_cons,List.sum_cons,List.length_cons]; omega
theorem sK : ∀ l:List By,(bV l).length≤sC l
 | []=>Nat.le_refl _
 | [b]=>by unfold bV sC; simp
 | b :: c :: l=>by
  have ih:=sK (c :: l)
  unfold bV
  unfold sC at ih ⊢
  rw [List.map_cons,List.sum_cons,List.length_append,List.length_cons]
  omega
def RL9 (s:By) (d:Nat) (its:List By) (x:Except Nat (List JV×By)) (y:LS9):Prop := ∃ its' x',y=lS its' [] x'∧sC its'≤2000+9000 * (d+1)∧match x with
 | .ok (l,q)=>its'=its ++ l.map (gE d)∧x'=st s q (8 - (d:Int) - 1) 0
 | .error e=>Bad s e x'
theorem vI (s:By) (hs:s.length≤1000) (d:Nat) (hd:d≤8) (R:Nat→RS→Option (V9×RS)) (hR:VT9 s d R) : ∀ (n:Nat) (r:By) (its:List By),r <:+ s→r.length+1≤n→sC its+r.length≤1001 →
  ∃ y,af (fun F=>bI F (R F)) (lS its [] (st s r (8 - (d:Int)) 0)) y∧RL9 s d its (nM (fG d) n r) y
 | 0,r,its,hr,hn,ha=>by omega
 | n+1,r,its,hr,hn,ha=>by
  obtain ⟨⟨v,x⟩,h1,h2⟩:=hR r hr
  have hil:=AH its
  have hlen:decide ((its.length+1) * 16≤140737488355328)=true:=by rw [decide_eq_true_eq]; omega
  have hbody : ∀ (b:Bool) (x':RS),ae (fun F=>ax F (x,((93:UInt8).toNat:Int))) (b,x')→ae (fun F=>bI F (R F) (lS its [] (st s r (8 - (d:Int)) 0))) (if (!b)=true then .inr (lS (its ++ [v.2.1]) [] x') else .inl (lS (its ++ [v.2.1]) [] x')):=by
   intro b x' hcc
   unfold bI lS st
   refine ae.pos (by rfl) ?_
   refine ae.bind (r:=lS (its ++ [v.2.1]) [] x) ?_ ?_
   ·refine ae.bind h1 ?_
    refine ae.pos (by simpa using hlen) ?_
    exact .ret _
   ·refine ae.bind hcc ?_
    cases b <;> exact .ret _
  unfold nM
  cases hv:fG d r with
  | error e =>
   rw [hv] at h2
   obtain ⟨hb,hsz⟩:Bad s e x∧v.2.1.length≤9000 * (d+1):=h2
   obtain ⟨x',h3,h4⟩:=xL s e x hb hs 93
   exact ⟨_,af.fin (hbody false x' h3),_,x',rfl,by rw [xP]; omega,h4⟩
  | ok w =>
   obtain ⟨v',r1⟩:=w
   rw [hv] at h2
   have h2:(v,x)=(mH d v',st s r1 (8 - (d:Int)) 0):=h2
   injection h2 with h2 h2'
   subst h2; subst h2'
   have hform:(mH d v').2.1=gE d v':=rfl
   rw [hform] at hbody
   obtain ⟨_,o2,o3,o4⟩:=qA d r v' r1 hv
   have hr1:=o2.trans hr
   have hsk:=dT r1
   have hsum:=xP its (gE d v')
   simp only
   split
   ·rename_i r' hs44
    rw [hs44] at hsk
    simp only [List.length_cons] at hsk
    have hr':r' <:+ s:=((List.suffix_cons 44 r').trans (hs44 ▸ av r1)).trans hr1
    obtain ⟨y,i1,its',x',i2,i3,i4⟩:=vI s hs d hd R hR n r' (its ++ [gE d v']) hr' (by omega) (by omega)
    refine ⟨y,af.step (hbody true _ (An s r1 r' hr1 hs _ 93 hs44)) i1,its',x',i2,i3,?_⟩
    cases hl:nM (fG d) n r' with
    | error e=>rw [hl] at i4; exact i4
    | ok w =>
     obtain ⟨l,q⟩:=w
     rw [hl] at i4
     obtain ⟨i4,i5⟩:=i4
     refine ⟨?_,i5⟩
     rw [i4,List.map_cons,List.append_assoc,List.singleton_append]
   ·rename_i r' hs93
    exact ⟨_,af.fin (hbody false _ (Db s r1 r' hr1 hs _ (by omega) 93 (by decide) hs93)),_,_,rfl,by omega,rfl,rfl⟩
   ·rename_i h44 h93
    have hno:=vz s r1 hr1 hs (8 - (d:Int)) 0 93 (ot (fun q h=>h44 q h) 0) (ot (fun q h=>h93 q h) 0)
    exact ⟨_,af.fin (hbody false _ hno),_,_,rfl,by omega,by decide,skp r1,_,rfl,(av r1).trans hr1,by omega,by omega⟩
theorem uZ (R:Nat→RS→Option (V9×RS)) (its:List By) (x:RS) (hl:its.length≤1000000) : ∀ (n i:Nat) (form:By),i+n=its.length→form.length+(ky (fun b:By=>b) i (its.drop i)).length≤1000000 →
  af (fun F=>cL F (R F)) ((),(),(),(i:Int),x,z9,(5,form,[],0,[],(),()),its,()) (lS its (form ++ ky (fun b:By=>b) i (its.drop i)) x)
 | 0,i,form,h,hb=>by
  refine af.fin (.of fun F => ?_)
  unfold cL
  rw [if_neg (by simp; omega),List.drop_eq_nil_of_le (by omega)]
  have:ky (fun b:By=>b) i ([]:List By) = []:=by unfold ky; split <;> rfl
  rw [this,List.append_nil]
  rfl
 | n+1,i,form,h,hb=>by
  have hi:i<its.length:=by omega
  have hx:idx its (i:Int)=some its[i]:=eQ _ _ _ (List.getElem?_eq_getElem hi)
  rw [List.drop_eq_getElem_cons hi,uE] at hb ⊢
  rw [List.length_append,List.length_append] at hb
  have hw:IntKind.i64.wrap ((i:Int)+1)=((i+1:Nat):Int):=by rw [wrap64 _ (by omega) (by omega)]; omega
  refine af.step (x':=((),(),(),((i+1:Nat):Int),x,z9,(5,form ++ (if i=0 then [] else [44]) ++ its[i],[],0,[],(),()),its,())) ?_ ?_
  ·unfold cL
   refine ae.pos (by simpa using hi) ?_
   refine ae.bind (r:=(((),(),(),(i:Int),x,z9,(5,form ++ (if i=0 then [] else [44]),[],0,[],(),()),its,()):Unit×Unit×Unit×Int×RS×V9×(Int×By×By×Int×List By×Unit×Unit)×List By×Unit)) ?_ ?_
   ·by_cases h0:i=0
    ·subst h0
     refine ae.neg (by show ¬ decide ((0:Int)<((0:Nat):Int))=true; decide) ?_
     rw [if_pos rfl,List.append_nil]
     exact .ret _
    ·refine ae.pos (by show decide ((0:Int)<(i:Int))=true; rw [decide_eq_true_eq]; omega) ?_
     rw [if_neg h0] at hb ⊢
     exact ae.pos (by rw [decide_eq_true_eq]; simp only [List.length_singleton] at hb ⊢; omega) (.ret _)
   ·refine ae.bind (.of fun F=>hx) ?_
    refine ae.pos (by rw [decide_eq_true_eq,List.length_append]; omega) (.of fun F => ?_)
    simp only [hw]
  ·have:=uZ R its x hl n (i+1) (form ++ (if i=0 then [] else [44]) ++ its[i]) (by omega) (by rw [List.length_append,List.length_append]; omega)
   rw [List.append_assoc,List.append_assoc] at this
   rw [← List.append_assoc (if i=0 then ([]:By) else [44])]
   simpa only [List.append_assoc] using this
theorem IA (s:By) (hs:s.length≤1000) (d:Nat) (hd:d≤8) (R:Nat→RS→Option (V9×RS)) (hR : ∀ d',d=d'+1→VT9 s d' R) (q:By) (hq:91 :: q <:+ s) :
  ∃ y,ae (fun F=>aR F (R F) (st s (91 :: q) (8 - (d:Int)) 0)) y∧RV9 s d (match (match d with | 0=>none | d+1=>some (fG d):Option (By→Except Nat (JV×By))) with
   | none => .error 10
   | some V=>match skp q with
    | 93 :: r => .ok (.list [],r)
    | r=>match nM V (r.length+1) r with
     | .error e => .error e
     | .ok (l,r) => .ok (.list l,r)) y:=by
 have hqs:=cr hq
 have hsk:skp q <:+ s:=(av q).trans hqs
 have hop:=De s q 91 hq hs (8 - (d:Int)) (by omega)
 have h93:=fun e k=>fun F=>jh s q hqs F k e 93
 -- behind the first loop
 have ahead : ∀ (its:List By) (x x':RS),sC its≤900000→ae (fun F=>aQ F (st s (91 :: q) (8 - (d:Int)) 0)) ((),x)→ae (fun F=>ai F (x,((93:UInt8).toNat:Int))) (false,x)→af (fun F=>bI F (R F)) (lS [] [] x) (lS its [] x')→ae (fun F=>aR F (R F) (st s (91 :: q) (8 - (d:Int)) 0)) ((5,91 :: (bV its ++ [93]),[],0,[],its,()),x'):=by
  intro its x x' hj h1 h2 h3
  have hjl:=sK its
  have hil:=AH its
  have hjn:=uZ R its x' (by omega) its.length 0 [] (by omega) (by unfold ky; rw [if_pos rfl,List.drop_zero,List.map_id']; simp; omega)
  rw [List.drop_zero] at hjn
  have e0:ky (fun b:By=>b) 0 its=bV its:=by unfold ky; rw [if_pos rfl,List.map_id']
  rw [e0,List.nil_append] at hjn
  unfold aR
  refine ae.bind h1 ?_
  refine ae.bind h2 ?_
  refine ae.neg Bool.false_ne_true ?_
  refine ae.bind h3.run ?_
  refine ae.bind hjn.run ?_
  unfold lS
  refine ae.pos (by rw [decide_eq_true_eq]; simp only [List.length_singleton]; omega) ?_
  refine ae.pos (by rw [decide_eq_true_eq,List.length_append]; simp only [List.length_singleton]; omega) (.of fun F=>rfl)
 cases d with
 | zero =>
  rw [if_pos (by decide)] at hop
  have h2:=h93 10 (8 - ((0:Nat):Int)+1)
  simp only [px _ (10:Int) (by decide) _] at h2
  refine ⟨_,ahead [] _ _ (by decide) hop (.of h2) (af.fin (.of fun F=>rfl)),⟨by decide,skp q,8 - ((0:Nat):Int)+1,rfl,hsk,by decide,by decide⟩,?_⟩
  show (2:Nat)≤9000 * (0+1)
  decide
 | succ d =>
  rw [if_neg (by omega)] at hop
  have e8:(8:Int) - ((d+1:Nat):Int)+1=8 - (d:Int):=by omega
  rw [e8] at hop
  have e9:(8:Int) - (d:Int) - 1=8 - ((d+1:Nat):Int):=by omega
  have h2:=h93 0 (8 - (d:Int))
  simp only
  split
  ·rename_i r hr
   rw [hr] at hop hsk
   simp only [hr,iB,decide_true] at h2
   refine ⟨((5,[91,93],[],0,[],[],()),st s r (8 - ((d+1:Nat):Int)) 0),?_,rfl⟩
   unfold aR
   refine ae.bind hop ?_
   refine ae.bind (.of h2) ?_
   refine ae.pos rfl (.of fun F => ?_)
   unfold st
   simp only [dk hsk hs]
   rw [wrap64 _ (by omega) (by omega),e9]
  ·rename_i hr
   simp only [ot (fun q h=>hr q h)] at h2
   have hsl:=dS hsk
   obtain ⟨y,i1,its,x',rfl,i3,i4⟩:=vI s hs d (by omega) R (hR d rfl) ((skp q).length+1) (skp q) [] hsk (Nat.le_refl _) (by unfold sC; simp; omega)
   have hjl:=sK its
   have hd9:d≤8:=by omega
   have hj9:sC its≤900000:=Nat.le_trans i3 (by clear i3 i4 i1 hop h2 h93 ahead; omega)
   refine ⟨_,ahead its _ _ hj9 hop (.of h2) i1,?_⟩
   cases hl:nM (fG d) ((skp q).length+1) (skp q) with
   | error e =>
    rw [hl] at i4
    refine ⟨i4,?_⟩
    simp only [List.length_cons,List.length_append,List.length_nil]
    omega
   | ok w =>
    obtain ⟨l,r⟩:=w
    rw [hl] at i4
    obtain ⟨rfl,rfl⟩:=i4
    rw [e9,List.nil_append]
    unfold RV9 mH
    simp only [xR,p8,wz,yN,yB,gE,su]
    rfl
end Go.Vm
