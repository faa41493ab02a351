import Derived.Test.YtcnigpigmhpakaaGreatDoorPj18
import Derived.Test.YtcnigpigmhpakaaGreatDoorPsc1
import Derived.Test.YtcnigpigmhpakaaGreatDoorPu2
/- JSON: the document's values are the plain ones. No condition but on lengths. -/
namespace Go.Vm
open Go.Lib (decodeL decDigits itoa)
set_option linter.unusedVariables false
set_option linter.unusedSimpArgs false
theorem vJ (d:Nat) (v:JV):gE d v=su (match d with | 0=>none | d+1=>some (gE d)) v:=by cases d <;> rfl
theorem DT (d:Nat):mH d .null=(1,[110,117,108,108],[],0,[],[],()):=by unfold mH; rw [vJ]; rfl
theorem Eg (d:Nat):mH d (.bool true)=(2,[116,114,117,101],[],0,[],[],()):=by unfold mH; rw [vJ]; rfl
theorem Cd (d:Nat):mH d (.bool false)=(2,[102,97,108,115,101],[],0,[],[],()):=by unfold mH; rw [vJ]; rfl
theorem Gi (d:Nat) (n:Int):mH d (.int n)=(3,itoa n,[],n,[],[],()):=by unfold mH; rw [vJ]; rfl
theorem Fv (d:Nat) (t:By):mH d (.str t)=(4,quo t,t,0,[],[],()):=by unfold mH; rw [vJ]; rfl
abbrev wQ:By := [110,117,108,108]
abbrev wO:By := [116,114,117,101]
abbrev sv:By := [102,97,108,115,101]
noncomputable def wL (F:Nat) (x:RS):Option (V9×RS):=(ar F ((x.1,x.2.1,x.2.2.1,x.2.2.2.1,()),wQ)).bind fun v8=>if v8.1=true then some ((1,[110,117,108,108],[],0,[],[],()),v8.2.1,v8.2.2.1,v8.2.2.2.1,v8.2.2.2.2.1,()) else (ar F ((v8.2.1,v8.2.2.1,v8.2.2.2.1,v8.2.2.2.2.1,()),wO)).bind fun v9=>if v9.1=true then some ((2,[116,114,117,101],[],0,[],[],()),v9.2.1,v9.2.2.1,v9.2.2.2.1,v9.2.2.2.2.1,()) else (ar F ((v9.2.1,v9.2.2.1,v9.2.2.2.1,v9.2.2.2.2.1,()),sv)).bind fun v10=>if v10.1=true then some ((2,[102,97,108,115,101],[],0,[],[],()),v10.2.1,v10.2.2.1,v10.2.2.2.1,v10.2.2.2.2.1,()) else (bc F (v10.2.1,v10.2.2.1,v10.2.2.2.1,v10.2.2.2.2.1,())).bind fun v11=>some v11
theorem qR (F:Nat) (R:RS→Option (V9×RS)) (x:RS):bU F R x=(au F (x.1,x.2.1,x.2.2.1,x.2.2.2.1,())).bind fun v0 =>
  if (!decide (v0.2.2.2.2.1=0))=true then some ((0,[],[],0,[],[],()),v0.2.1,v0.2.2.1,v0.2.2.2.1,v0.2.2.2.2.1,())
  else (ai F ((v0.2.1,v0.2.2.1,v0.2.2.2.1,v0.2.2.2.2.1,()),123)).bind fun v1 =>
   if v1.1=true then (aK F R (v1.2.1,v1.2.2.1,v1.2.2.2.1,v1.2.2.2.2.1,())).bind fun v2=>some v2
   else (ai F ((v1.2.1,v1.2.2.1,v1.2.2.2.1,v1.2.2.2.2.1,()),91)).bind fun v3 =>
    if v3.1=true then (aR F R (v3.2.1,v3.2.2.1,v3.2.2.2.1,v3.2.2.2.2.1,())).bind fun v4=>some v4
    else (ai F ((v3.2.1,v3.2.2.1,v3.2.2.2.1,v3.2.2.2.2.1,()),34)).bind fun v5 =>
     if v5.1=true then (aI F (v5.2.1,v5.2.2.1,v5.2.2.2.1,v5.2.2.2.2.1,())).bind fun v6=>(aC F v6.1).bind fun v7=>some ((4,v7,v6.1,0,[],[],()),v6.2.1,v6.2.2.1,v6.2.2.2.1,v6.2.2.2.2.1,())
     else wL F v5.2:=rfl
theorem vK (s x:By) (hx:x <:+ s) (hs:s.length≤1000) (d:Nat) (hd:d≤8) : ∃ y,ae (fun F=>wL F (st s x (8 - (d:Int)) 0)) y∧RV9 s d (if x.take 4=wQ then .ok (.null,x.drop 4) else if x.take 4=wO then .ok (.bool true,x.drop 4) else if x.take 5=sv then .ok (.bool false,x.drop 5) else match pM x with
  | none => .error 3
  | some (n,r) => .ok (.int n,r)) y:=by
 have e1:=fun F=>zj F s x wQ hx hs (by decide) (8 - (d:Int)) 0
 have e2:=fun F=>zj F s x wO hx hs (by decide) (8 - (d:Int)) 0
 have e3:=fun F=>zj F s x sv hx hs (by decide) (8 - (d:Int)) 0
 by_cases w1:x.take 4=wQ
 ·have f1 : ∀ F,ar F (st s x (8 - (d:Int)) 0,wQ)=some (true,st s (x.drop 4) (8 - (d:Int)) 0):=fun F=>(e1 F).trans (congrArg some (if_pos w1))
  rw [if_pos w1]
  refine ⟨_,?_,by show _ = _; rw [DT]⟩
  unfold wL
  refine ae.bind (.of f1) ?_
  exact ae.pos rfl (.ret _)
 have f1 : ∀ F,ar F (st s x (8 - (d:Int)) 0,wQ)=some (false,st s x (8 - (d:Int)) 0):=fun F=>(e1 F).trans (congrArg some (if_neg w1))
 rw [if_neg w1]
 by_cases w2:x.take 4=wO
 ·have f2 : ∀ F,ar F (st s x (8 - (d:Int)) 0,wO)=some (true,st s (x.drop 4) (8 - (d:Int)) 0):=fun F=>(e2 F).trans (congrArg some (if_pos w2))
  rw [if_pos w2]
  refine ⟨_,?_,by show _ = _; rw [Eg]⟩
  unfold wL
  refine ae.bind (.of f1) ?_
  refine ae.neg Bool.false_ne_true ?_
  refine ae.bind (.of f2) ?_
  exact ae.pos rfl (.ret _)
 have f2 : ∀ F,ar F (st s x (8 - (d:Int)) 0,wO)=some (false,st s x (8 - (d:Int)) 0):=fun F=>(e2 F).trans (congrArg some (if_neg w2))
 rw [if_neg w2]
 by_cases w3:x.take 5=sv
 ·have f3 : ∀ F,ar F (st s x (8 - (d:Int)) 0,sv)=some (true,st s (x.drop 5) (8 - (d:Int)) 0):=fun F=>(e3 F).trans (congrArg some (if_pos w3))
  rw [if_pos w3]
  refine ⟨_,?_,by show _ = _; rw [Cd]⟩
  unfold wL
  refine ae.bind (.of f1) ?_
  refine ae.neg Bool.false_ne_true ?_
  refine ae.bind (.of f2) ?_
  refine ae.neg Bool.false_ne_true ?_
  refine ae.bind (.of f3) ?_
  exact ae.pos rfl (.ret _)
 have f3 : ∀ F,ar F (st s x (8 - (d:Int)) 0,sv)=some (false,st s x (8 - (d:Int)) 0):=fun F=>(e3 F).trans (congrArg some (if_neg w3))
 rw [if_neg w3]
 obtain ⟨y,n1,n2⟩:=Dz s x hx hs (8 - (d:Int))
 refine ⟨y,?_,?_⟩
 ·unfold wL
  refine ae.bind (.of f1) ?_
  refine ae.neg Bool.false_ne_true ?_
  refine ae.bind (.of f2) ?_
  refine ae.neg Bool.false_ne_true ?_
  refine ae.bind (.of f3) ?_
  refine ae.neg Bool.false_ne_true ?_
  exact ae.bind n1 (.ret _)
 ·cases hn:pM x with
  | none =>
   rw [hn] at n2
   obtain ⟨r',hr',rfl⟩:=n2
   refine ⟨⟨by decide,r',_,rfl,hr',by omega,by omega⟩,?_⟩
   show (1:Nat)≤9000 * (d+1)
   omega
  | some w =>
   obtain ⟨n,q⟩:=w
   rw [hn] at n2
   subst n2
   show _ = _
   rw [Gi]
theorem sZ (s:By) (hs:s.length≤1000) (d:Nat) (hd8:d≤8) (R:Nat→RS→Option (V9×RS)) (hR : ∀ d',d=d'+1→VT9 s d' R):VT9 s d (fun F=>bU F (R F)):=by
 intro r hr
 have hv:fG d r=nL (match d with | 0=>none | d+1=>some (fG d)) r:=by cases d <;> rfl
 rw [hv]
 have hb:=il s r hr hs (8 - (d:Int)) 0
 have hskr:skp r <:+ s:=(av r).trans hr
 have hi:=fun z F=>jh s r hr F (8 - (d:Int)) 0 z
 unfold nL
 have n0 : ¬ (!decide ((0:Int)=0))=true:=by decide
 cases hc:skp r with
 | nil =>
  rw [hc] at hb hskr
  simp only [hc,Dk] at hi
  obtain ⟨y,w1,w2⟩:=vK s [] hskr hs d hd8
  refine ⟨y,?_,w2⟩
  refine ae.congr (m:=fun F => _) ?_ fun F=>qR F (R F) _
  refine ae.bind hb ?_
  refine ae.neg n0 ?_
  refine ae.bind (.of (hi 123)) ?_
  refine ae.neg Bool.false_ne_true ?_
  refine ae.bind (.of (hi 91)) ?_
  refine ae.neg Bool.false_ne_true ?_
  refine ae.bind (.of (hi 34)) ?_
  exact ae.neg Bool.false_ne_true w1
 | cons c t =>
  rw [hc] at hb hskr
  simp only [hc,iB] at hi
  have hts:=cr hskr
  have hl:=dS hskr
  simp only [List.length_cons] at hl
  simp only
  by_cases c1:c=123
  ·subst c1
   have h1:=hi 123
   simp only [decide_true] at h1
   rw [if_pos rfl]
   obtain ⟨y,o1,o2⟩:=Ec s hs d hd8 R hR t hskr
   refine ⟨y,?_,o2⟩
   refine ae.congr (m:=fun F => _) ?_ fun F=>qR F (R F) _
   refine ae.bind hb ?_
   refine ae.neg n0 ?_
   refine ae.bind (.of h1) ?_
   refine ae.pos rfl ?_
   exact ae.bind o1 (.ret _)
  rw [if_neg c1]
  have h1:=hi 123
  simp only [decide_eq_false c1] at h1
  by_cases c2:c=91
  ·subst c2
   have h2:=hi 91
   simp only [decide_true] at h2
   rw [if_pos rfl]
   obtain ⟨y,o1,o2⟩:=IA s hs d hd8 R hR t hskr
   refine ⟨y,?_,o2⟩
   refine ae.congr (m:=fun F => _) ?_ fun F=>qR F (R F) _
   refine ae.bind hb ?_
   refine ae.neg n0 ?_
   refine ae.bind (.of h1) ?_
   refine ae.neg Bool.false_ne_true ?_
   refine ae.bind (.of h2) ?_
   refine ae.pos rfl ?_
   exact ae.bind o1 (.ret _)
  rw [if_neg c2]
  have h2:=hi 91
  simp only [decide_eq_false c2] at h2
  by_cases c3:c=34
  ·subst c3
   have h3:=hi 34
   simp only [decide_true] at h3
   rw [if_pos rfl]
   obtain ⟨y,t1,t2⟩:=Dh s t hskr hs (8 - (d:Int))
   have run : ∀ (q:By),ae (fun F=>aC F y.1) q→ae (fun F=>bU F (R F) (st s r (8 - (d:Int)) 0)) ((4,q,y.1,0,[],[],()),y.2):=by
    intro q hq
    refine ae.congr (m:=fun F => _) ?_ fun F=>qR F (R F) _
    refine ae.bind hb ?_
    refine ae.neg n0 ?_
    refine ae.bind (.of h1) ?_
    refine ae.neg Bool.false_ne_true ?_
    refine ae.bind (.of h2) ?_
    refine ae.neg Bool.false_ne_true ?_
    refine ae.bind (.of h3) ?_
    refine ae.pos rfl ?_
    refine ae.bind t1 ?_
    exact ae.bind hq (.ret _)
   cases ht:txt t with
   | none =>
    rw [ht] at t2
    obtain ⟨r',hr',rfl⟩:=t2
    refine ⟨_,run _ (j1 [] (by simp)),⟨by decide,r',_,rfl,hr',by omega,by omega⟩,?_⟩
    show (2:Nat)≤9000 * (d+1)
    omega
   | some w =>
    obtain ⟨tx,q⟩:=w
    rw [ht] at t2
    subst t2
    obtain ⟨_,_,t3⟩:=sl t ht
    have:=CY tx
    refine ⟨_,run _ (j1 tx (by omega)),?_⟩
    show _ = _
    rw [Fv]
  rw [if_neg c3]
  have h3:=hi 34
  simp only [decide_eq_false c3] at h3
  obtain ⟨y,w1,w2⟩:=vK s (c :: t) hskr hs d hd8
  refine ⟨y,?_,w2⟩
  refine ae.congr (m:=fun F => _) ?_ fun F=>qR F (R F) _
  refine ae.bind hb ?_
  refine ae.neg n0 ?_
  refine ae.bind (.of h1) ?_
  refine ae.neg Bool.false_ne_true ?_
  refine ae.bind (.of h2) ?_
  refine ae.neg Bool.false_ne_true ?_
  refine ae.bind (.of h3) ?_
  exact ae.neg Bool.false_ne_true w1
theorem Fq (s:By) (hs:s.length≤1000) : ∀ (d:Nat),d≤8 → ∀ j,VT9 s d (fun F=>az F (F - j)):=by
 intro d
 induction d with
 | zero =>
  intro hd j r hr
  obtain ⟨y,h1,h2⟩:=sZ s hs 0 hd (fun F=>az F (F - (j+1))) (fun d' h=>by omega) r hr
  refine ⟨y,h1.evt (j+1) fun F hF => ?_,h2⟩
  show az F (F - j) _ = _
  rw [show F - j=(F - (j+1))+1 by omega]
  rfl
 | succ d ih =>
  intro hd j r hr
  obtain ⟨y,h1,h2⟩:=sZ s hs (d+1) hd (fun F=>az F (F - (j+1))) (fun d' h=>(Nat.succ.inj h) ▸ ih (by omega) (j+1)) r hr
  refine ⟨y,h1.evt (j+1) fun F hF => ?_,h2⟩
  show az F (F - j) _ = _
  rw [show F - j=(F - (j+1))+1 by omega]
  rfl
def ofP (s:By):V9×Int:=match ry s with
 | .ok v=>(mH 8 v,0)
 | .error e=>(z9,(e:Int))
theorem KG (s:By) (hs:s.length≤1000):ae (fun F=>fD F s) (ofP s):=by
 unfold fD ofP ry
 by_cases h4:400<s.length
 ·rw [if_pos h4]
  exact ae.pos (by have:(400:Int)<(s.length:Int):=by omega
                   simpa using this) (.ret _)
 ·rw [if_neg h4]
  refine ae.neg (by have : ¬ (400:Int)<(s.length:Int):=by omega
                    simpa using this) ?_
  obtain ⟨⟨v,x⟩,h1,h2⟩:=Fq s hs 8 (Nat.le_refl _) 0 s (List.suffix_refl s)
  have e0:st s s (8 - ((8:Nat):Int)) 0=(s,0,0,0,()):=by unfold st; rw [Nat.sub_self]; rfl
  rw [e0] at h1
  have h1':ae (fun F=>eF F (s,0,0,0,())) (v,x):=h1
  refine ae.bind h1' ?_
  cases hv:fG 8 s with
  | error e =>
   rw [hv] at h2
   obtain ⟨⟨he,r,k,hx,hr,hk⟩,_⟩:Bad s e x ∧ _:=h2
   subst hx
   have hp:=il s r hr hs k e
   refine ae.bind hp ?_
   have he' : ¬ (e:Int)=0:=by omega
   refine ae.bind (r:=(((),(),(),z9,st s (skp r) k e,v,()):Unit×Unit×Unit×V9×RS×V9×Unit)) ?_ ?_
   ·refine .of fun F => ?_
    unfold st
    simp only [bad_eq,Option.bind_some,if_neg he',ite_self]
    rfl
   ·exact ae.pos (by simpa [st] using he) (.ret _)
  | ok w =>
   obtain ⟨v',r⟩:=w
   rw [hv] at h2
   have h2:(v,x)=(mH 8 v',st s r (8 - ((8:Nat):Int)) 0):=h2
   injection h2 with h2 h2'
   subst h2; subst h2'
   obtain ⟨_,o2,_,_⟩:=qA 8 s v' r hv
   have hp:=il s r o2 hs (8 - ((8:Nat):Int)) 0
   refine ae.bind hp ?_
   have hsk:skp r <:+ s:=(av r).trans o2
   by_cases hq:skp r = []
   ·simp only
    rw [if_pos hq,hq]
    refine ae.bind (r:=(((),(),(),z9,st s [] (8 - ((8:Nat):Int)) 0,mH 8 v',()):Unit×Unit×Unit×V9×RS×V9×Unit)) ?_ ?_
    ·exact ae.neg (by simp [st]) (.ret _)
    ·exact ae.neg (by simp [st]) (.ret _)
   ·simp only
    rw [if_neg hq]
    have hl:=dS hsk
    have hpos:=List.length_pos_iff.2 hq
    refine ae.bind (r:=(((),(),(),z9,st s (skp r) (8 - ((8:Nat):Int)) 3,mH 8 v',()):Unit×Unit×Unit×V9×RS×V9×Unit)) ?_ ?_
    ·refine ae.pos (by rw [decide_eq_true_eq]; show ((s.length - (skp r).length:Nat):Int)<(s.length:Int); omega) (.of fun F => ?_)
     unfold st
     simp only [bad_eq,Option.bind_some,if_true]
     rfl
    ·exact ae.pos (by simp [st]) (.ret _)
end Go.Vm
/- JSON: what the program tells of a text's parts, for those that ask it. No condition but on lengths. -/
namespace Go.Vm
open Go.Proofs
open Go.Lib (decodeL decDigits itoa)
set_option linter.unusedVariables false
set_option linter.unusedSimpArgs false
def vP (s:By):JV:=match ry s with
 | .ok v=>v
 | .error _ => .nil
theorem Di (s:By) (hs:s.length≤1000):ae (fun F=>gV F s) (vP s,(ofP s).2):=by
 refine ae.eq (Ix s hs) ?_
 unfold vP ofP
 cases ry s <;> rfl
theorem EN (s:By):(ofP s).1.1=xR (vP s)∧(ofP s).1.2.2.1=p8 (vP s)∧(ofP s).1.2.2.2.1=wz (vP s)∧(ofP s).1.2.2.2.2.1=yN (vP s)∧(ofP s).1.2.2.2.2.2.1=yB 8 (vP s):=by
 unfold ofP vP
 cases ry s <;> exact ⟨rfl,rfl,rfl,rfl,rfl⟩
theorem J4 (s:By) (hs:s.length≤1000):ae (fun F=>mf F s) (p8 (vP s),decide (xR (vP s)=4)):=by
 unfold mf
 refine ae.bind (Di s hs) ?_
 cases vP s <;> exact .ret _
theorem Gn (s:By) (hs:s.length≤1000):ae (fun F=>jM F s) (wz (vP s),decide (xR (vP s)=3)):=by
 unfold jM
 refine ae.bind (Di s hs) ?_
 cases vP s <;> exact .ret _
theorem Jc (s:By):vP s = .nil∨(okV 8 (vP s)∧(gE 8 (vP s)).length≤400):=by
 unfold vP
 cases h:ry s with
 | error e=>exact .inl rfl
 | ok v =>
  obtain ⟨o1,o2,o3⟩:=JL h
  exact .inr ⟨o1,Nat.le_trans o2 o3⟩
end Go.Vm
/- Acts as lines, plainly: what a number's and a string's text is read as. No condition. -/
namespace Go.Vm
open Go.Lib (decDigits itoa)
set_option linter.unusedVariables false
set_option linter.unusedSimpArgs false
theorem CZ {v:JV} (h:okV 8 v) (hl:(gE 8 v).length≤400):ry (gE 8 v) = .ok v:=by
 unfold ry
 rw [if_neg (by omega)]
 have:=EI 8 8 v [] h (by intro c q e; cases e)
 rw [List.append_nil,if_pos (BH 8 v h)] at this
 rw [this]
 rfl
theorem mN {n:Int} (h:okI n=true):okN n:=by
 unfold okI at h
 rw [Bool.and_eq_true,decide_eq_true_eq,decide_eq_true_eq] at h
 exact h
theorem nK {n:Int} (h:okN n):(itoa n).length≤16:=by
 obtain ⟨h1,h2⟩:=h
 by_cases hn:0≤n
 ·have:=(vY n.toNat 15 (by omega) (by rw [p15]; omega)).1
  rw [Int.toNat_of_nonneg hn] at this
  omega
 ·have:=(vY (-n).toNat 15 (by omega) (by rw [p15]; omega)).2
  rw [Int.toNat_of_nonneg (by omega),Int.neg_neg] at this
  omega
theorem Al {n:Int} (h:okI n=true):wz (vP (itoa n))=n:=by
 have h':=mN h
 have e:ry (itoa n) = .ok (.int n):=CZ (v := .int n) h' (by have:=nK h'; show (itoa n).length≤400; omega)
 unfold vP
 rw [e]; rfl
theorem AB {t:By} (h:OkT t) (hl:(quo t).length≤400):p8 (vP (quo t))=t:=by
 have e:ry (quo t) = .ok (.str t):=CZ (v := .str t) h hl
 unfold vP
 rw [e]; rfl
theorem EJ {rt:By→Bool} (hr : ∀ t,rt t=true→OkT t) (s:By):qS rt (fun p=>wz (vP p)) (fun p=>p8 (vP p)) s=tE rt (fun p=>wz (vP p)) (fun p=>p8 (vP p)) s :=
 Ig (fun n h=>Al h) (fun t h=>by
  unfold dB at h
  rw [Bool.and_eq_true,Bool.and_eq_true,decide_eq_true_eq,decide_eq_true_eq] at h
  exact AB (hr t h.1.1) h.2) s
end Go.Vm
/- The document's signs of a text, plainly. No condition but on lengths. -/
namespace Go.Vm
open Go.Lib (decodeL decodeN decodeL_N decode_N decodeN_shape decodeL_le)
set_option linter.unusedVariables false
set_option linter.unusedSimpArgs false
theorem DE (s:B8) (hs:s.length≤1000000000000) (p:Nat) (hp:p≤s.length) (out at':List Int) (ho:out.length+(s.length - p)≤1000000000000) (ha:at'.length+(s.length - p)≤1000000000000) :
  af bN (s,(),(),(p:Int),out,at',()) ((),(),out ++ (fT (s.drop p)).map (·.1),at' ++ ats p (fT (s.drop p)),()):=by
 have main : ∀ n p out at',s.length - p≤n→p≤s.length→out.length+(s.length - p)≤1000000000000→at'.length+(s.length - p)≤1000000000000 →
   af bN (s,(),(),(p:Int),out,at',()) ((),(),out ++ (fT (s.drop p)).map (·.1),at' ++ ats p (fT (s.drop p)),()):=by
  intro n
  induction n with
  | zero =>
   intro p out at' hn hp ho ha
   have:p=s.length:=by omega
   subst this
   refine af.fin (ae.of fun F => ?_)
   unfold bN
   have h : ¬ ((s.length:Nat):Int)<(s.length:Int):=by omega
   simp [h,mL,ats]
  | succ n ih =>
   intro p out at' hn hp ho ha
   by_cases hlt:p<s.length
   ·have hpos:=fw (s.drop p)
    have hnx:=ID hlt
    have h:(p:Int)<(s.length:Int):=by omega
    have e1:((out.length:Int)+1) * 8≤140737488355328:=by omega
    have e2:((at'.length:Int)+1) * 8≤140737488355328:=by omega
    rw [mQ (tT hlt),D9]
    refine af.step (x':=(s,(),(),((p+(decodeL (s.drop p)).2:Nat):Int),out ++ [((decodeL (s.drop p)).1:Int)],at' ++ [(p:Int)],())) (ae.of fun F => ?_) ?_
    ·unfold bN
     have e1':(out.length+1) * 8≤140737488355328:=by omega
     have e2':(at'.length+1) * 8≤140737488355328:=by omega
     simp only [h,decide_true,if_true,iH s p hp,Option.bind_some,zW F _ (tT hlt),List.length_cons,List.length_nil,Nat.zero_add,e1',e2']
     rw [wrap64 _ (by omega) (by omega)]
     rfl
    ·have:=ih (p+(decodeL (s.drop p)).2) (out ++ [((decodeL (s.drop p)).1:Int)]) (at' ++ [(p:Int)]) (by omega) hnx (by simp; omega) (by simp; omega)
     simpa [ats,Gw hlt] using this
   ·have:p=s.length:=by omega
    subst this
    refine af.fin (ae.of fun F => ?_)
    unfold bN
    have h : ¬ ((s.length:Nat):Int)<(s.length:Int):=by omega
    simp [h,mL,ats]
 exact main _ p out at' (Nat.le_refl _) hp ho ha
theorem AU (s:B8) (hs:s.length≤1000000000000):ae (fun F=>eD F s) ((fT s).map (·.1),ats 0 (fT s)):=by
 unfold eD
 have:=DE s hs 0 (by omega) [] [] (by simp; omega) (by simp; omega)
 refine this.run.bind ?_
 exact ae.of fun F=>by simp
end Go.Vm
