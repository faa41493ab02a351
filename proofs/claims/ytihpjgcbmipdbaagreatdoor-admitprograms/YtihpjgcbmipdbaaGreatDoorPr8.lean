import Derived.Test.YtihpjgcbmipdbaaGreatDoorFlaw23
import Derived.Test.YtihpjgcbmipdbaaGreatDoorPr5
/- Tables: plain paths, the standard table, finding, small tables; the wake. No condition but on lengths. -/
namespace Go.Vm
open Go.Proofs
open Go.Lib (decDigits itoa)
set_option linter.unusedVariables false
set_option linter.unusedSimpArgs false
/-! ### plain paths -/
theorem uV (s:By):aT s=gw 47 s:=(om s).symm.trans (r7 47 s)
theorem l8 : ∀ x:By,(∀ b∈x,kv b=true)→gu x=some x
 | [],h=>mQ
 | c :: x,h=>by
  have hc:=h c (List.mem_cons_self ..)
  rw [vS (by rintro rfl; exact absurd hc (by decide)),l8 x fun b hb=>h b (List.mem_cons_of_mem _ hb)]
  rfl
theorem nx : ∀ x:By,(∀ b∈x,kv b=true)→ew x=x
 | [],h=>rfl
 | c :: x,h=>by
  have hc:=h c (List.mem_cons_self ..)
  have ih:=nx x fun b hb=>h b (List.mem_cons_of_mem _ hb)
  show wr1 c ++ ew x=c :: x
  rw [ih]
  unfold wr1
  rw [if_pos hc]
  rfl
theorem EI : ∀ c:Fin 256,kv (UInt8.ofNat c.val)=true→33≤c.val∧c.val≤126:=by decide +kernel
theorem Hh {c:UInt8} (h:kv c=true):HZ c:=by
 have:=EI ⟨c.toNat,c.toNat_lt⟩ (by simpa using h)
 exact this
theorem zY (x:By) (h : ∀ b∈x,kv b=true):oF x=true:=by
 have:=w7 x.length x fun b hb=>Hh (h b (List.mem_of_mem_take hb))
 rw [this,List.drop_length]
 exact xw
theorem uq (s:By) (r:Int) (h0:s ≠ []) (hr:(s.length:Int)≤r) (h:oF s=true):mj s r=true:=by
 unfold mj
 rw [if_neg (by rintro (h | h); exact h0 h; omega)]
 have:Mk ((de s).map (·.1))=false:=by
  rw [CG] at h
  unfold Mk
  rw [List.any_eq_false]
  intro n hn
  have:=List.all_eq_true.1 h n hn
  simpa using this
 unfold ym
 rw [this]
 rfl
def E0 (x:By):Prop:=x ≠ []∧(∀ b∈x,kv b=true)∧x ≠ [46]∧x ≠ [46,46]∧x.length≤60
theorem HW {x:By} (h:E0 x):iJ x=(x,true):=by
 obtain ⟨h0,h1,_,_,h4⟩:=h
 rw [jN (l8 x h1),uq x 60 h0 (by omega) (zY x h1),Bool.or_true]
theorem Cf : ∀ (ps out:List By),(∀ p∈ps,E0 p)→dI ps out=some (out ++ ps)
 | [],out,h=>by rw [dI,List.append_nil]
 | p :: ps,out,h=>by
  have hp:=h p (List.mem_cons_self ..)
  have hr:=HW hp
  obtain ⟨h0,_,h2,h3,_⟩:=hp
  rw [dI,hr]
  simp only
  rw [if_neg (by simp),if_neg (by rintro (h | h); exact h0 h; exact h2 h),if_neg h3,Cf ps _ fun q hq=>h q (List.mem_cons_of_mem _ hq),List.append_assoc]
  rfl
theorem Jh {x:By} (h:E0 x) : ∀ b∈x,b≠47:=by
 intro b hb
 have:=h.2.1 b hb
 rintro rfl
 exact absurd this (by decide)
theorem zV : ∀ ps:List By,ps ≠ []→(∀ p∈ps,E0 p)→dN ps=47 :: gA 47 ps
 | [],h,_=>absurd rfl h
 | [p],_,h=>by
  show (47 :: ew p) ++ []=47 :: p
  rw [List.append_nil,nx p (h p (List.mem_cons_self ..)).2.1]
 | p :: q :: r,_,h=>by
  show (47 :: ew p) ++ dN (q :: r) = _
  rw [zV (q :: r) (by simp) fun x hx=>h x (List.mem_cons_of_mem _ hx),nx p (h p (List.mem_cons_self ..)).2.1,jJ 47 p (by simp)]
  rfl
theorem C0 (ps:List By) (h0:ps ≠ []) (h : ∀ p∈ps,E0 p) (hl:(gA 47 ps).length≤59):gp (47 :: gA 47 ps)=true:=by
 have hs:aT (gA 47 ps)=ps:=by rw [uV]; exact zb ps h0 fun p hp=>Jh (h p hp)
 have hp:dz (47 :: gA 47 ps)=(47 :: gA 47 ps,true):=by
  rw [ic (by have:=hl; omega),hs,Cf ps [] h,List.nil_append]
  simp only
  unfold xG
  rw [zV ps h0 h,if_neg (show ¬ (47 :: gA 47 ps:By) = [] by simp),if_neg (show ¬ 60<(47 :: gA 47 ps:By).length by rw [List.length_cons]; omega)]
 unfold gp
 rw [hp]
 simp
abbrev jB:By := [80,79,83,84]
abbrev JW:By := [71,69,84]
abbrev fO:By := [112,97,121]
abbrev uJ:By := [110,111,116,101]
abbrev NO:By := [37,123,115,117,109,125]
def s7:List PhT := [(2,[115,117,109],1000,[],()),(3,[100,101,98,105,116],0,NO,()),(3,[99,114,101,100,105,116],0,NO,()),(4,[],201,[112,97,105,100,32,37,123,115,117,109,125],())]
def Cd:List PhT := [(1,[],40,[],()),(3,[119,114,105,116,101],0,[37,98],()),(4,[],200,[110,111,116,101,100,32,37,112],())]
def CF:List PhT := [(4,[],200,[37,109,32,37,112],())]
def lJ:List RlT := [(jB,47 :: fO,s7,()),(jB,47 :: (uJ ++ [47,42]),Cd,()),(JW,[47,42,42],CF,())]
abbrev NB:By := [80,79,83,84,32,47,112,97,121,58,32,110,101,101,100,32,115,117,109,32,49,48,48,48,59,32,99,97,108,108,32,100,101,98,105,116,32,37,123,115,117,109,125,59,32,99,97,108,108,32,99,114,101,100,105,116,32,37,123,115,117,109,125,59,32,101,110,100,32,50,48,49,32,112,97,105,100,32,37,123,115,117,109,125,10,80,79,83,84,32,47,110,111,116,101,47,42,58,32,111,110,108,121,32,52,48,59,32,99,97,108,108,32,119,114,105,116,101,32,37,98,59,32,101,110,100,32,50,48,48,32,110,111,116,101,100,32,37,112,10,71,69,84,32,47,42,42,58,32,101,110,100,32,50,48,48,32,37,109,32,37,112]
theorem dd2 {i:Nat} (h1 : ¬ i<10) (h2:i<100):decDigits i = [UInt8.ofNat (48+i / 10),UInt8.ofNat (48+i % 10)]:=Go.Lib.decDigits_two h1 h2
theorem dd3 {i:Nat} (h1 : ¬ i<100) (h2:i<1000):decDigits i = [UInt8.ofNat (48+i / 10 / 10),UInt8.ofNat (48+i / 10 % 10),UInt8.ofNat (48+i % 10)]:=by
 rw [decDigits,dif_neg (by omega),dd2 (by omega) (by omega)]
 rfl
theorem LC:itoa 40 = [52,48]:=by unfold itoa; rw [if_neg (by decide)]; exact dd2 (by decide) (by decide)
theorem BR:itoa 200 = [50,48,48]:=by unfold itoa; rw [if_neg (by decide)]; exact dd3 (by decide) (by decide)
theorem Is:itoa 201 = [50,48,49]:=by unfold itoa; rw [if_neg (by decide)]; exact dd3 (by decide) (by decide)
theorem Gm:itoa 1000 = [49,48,48,48]:=by
 unfold itoa
 rw [if_neg (by decide)]
 show decDigits 1000 = _
 rw [decDigits,dif_neg (by decide),show (1000:Nat) / 10=100 from rfl,dd3 (by decide) (by decide)]
 rfl
theorem NU:cV s7 = [110,101,101,100,32,115,117,109,32,49,48,48,48,59,32,99,97,108,108,32,100,101,98,105,116,32,37,123,115,117,109,125,59,32,99,97,108,108,32,99,114,101,100,105,116,32,37,123,115,117,109,125,59,32,101,110,100,32,50,48,49,32,112,97,105,100,32,37,123,115,117,109,125]:=by
 have h1:al (2,[115,117,109],1000,[],())=pB ++ 32 :: ([115,117,109] ++ 32 :: itoa 1000):=rfl
 have h4:al (4,[],201,[112,97,105,100,32,37,123,115,117,109,125],())=uB ++ 32 :: (itoa 201 ++ gm [112,97,105,100,32,37,123,115,117,109,125]):=rfl
 unfold cV s7
 simp only [List.map_cons,List.map_nil,h1,h4,Gm,Is]
 decide
theorem N8:cV Cd = [111,110,108,121,32,52,48,59,32,99,97,108,108,32,119,114,105,116,101,32,37,98,59,32,101,110,100,32,50,48,48,32,110,111,116,101,100,32,37,112]:=by
 have h1:al (1,[],40,[],())=rD ++ 32 :: itoa 40:=rfl
 have h4:al (4,[],200,[110,111,116,101,100,32,37,112],())=uB ++ 32 :: (itoa 200 ++ gm [110,111,116,101,100,32,37,112]):=rfl
 unfold cV Cd
 simp only [List.map_cons,List.map_nil,h1,h4,LC,BR]
 decide
theorem Oj:cV CF = [101,110,100,32,50,48,48,32,37,109,32,37,112]:=by
 have h4:al (4,[],200,[37,109,32,37,112],())=uB ++ 32 :: (itoa 200 ++ gm [37,109,32,37,112]):=rfl
 unfold cV CF
 simp only [List.map_cons,List.map_nil,h4,BR]
 decide
theorem zh:k7 lJ=NB:=by
 unfold k7 lJ
 simp only [List.map_cons,List.map_nil,fD,NU,N8,Oj]
 kernel_rfl
theorem Lt:E0 fO:=⟨by decide,by decide,by decide,by decide,by decide⟩
theorem Ka:E0 uJ:=⟨by decide,by decide,by decide,by decide,by decide⟩
theorem B6:gp (47 :: fO)=true:=C0 [fO] (by simp) (by intro p hp; rw [List.mem_singleton] at hp; subst hp; exact Lt) (by decide)
theorem GD:gp (47 :: uJ)=true:=C0 [uJ] (by simp) (by intro p hp; rw [List.mem_singleton] at hp; subst hp; exact Ka) (by decide)
theorem FY:jw (47 :: fO)=true:=by
 have e:aX (47 :: fO) = [fO]:=by decide
 unfold jw
 rw [e]
 unfold qM
 rw [B6]
 decide
theorem Ko:jw (47 :: (uJ ++ [47,42]))=true:=by
 have e:aX (47 :: (uJ ++ [47,42])) = [uJ,[42]]:=by decide
 unfold jw
 rw [e]
 unfold qM
 rw [GD]
 unfold qM
 decide
theorem LP:jw [47,42,42]=true:=by
 have e:aX [47,42,42] = [[42,42]]:=by decide
 unfold jw
 rw [e]
 unfold qM
 rw [decide_eq_true (show ([42,42]:By) = [42,42] from rfl),decide_eq_true (show ([]:List By) = [] from rfl)]
 rfl
theorem NX:kY s7=true:=by kernel_rfl
theorem NM:kY Cd=true:=by kernel_rfl
theorem Og:kY CF=true:=by kernel_rfl
theorem Hq:lM jB=true:=by kernel_rfl
theorem Kp:lM JW=true:=by kernel_rfl
theorem F0:vC lJ=true:=by
 unfold vC lJ iO
 simp only [List.all_cons,List.all_nil,Hq,Kp,FY,Ko,LP,NX,NM,Og]
 rfl
theorem KW : ∀ r∈lJ,vE r:=by
 intro r hr
 have hg:=(wa F0).2.2 r hr
 obtain ⟨q1,q2,_,_⟩:=sF hg
 have hm:kY r.2.2.1=true:=by
  unfold iO at hg
  simp only [Bool.and_eq_true] at hg
  exact hg.2
 obtain ⟨m1,_,m3⟩:=jE hm
 refine ⟨?_,by omega,by omega,fun p hp=>yI (m1 p hp)⟩
 unfold lJ at hr
 simp only [List.mem_cons,List.not_mem_nil,or_false] at hr
 rcases hr with rfl | rfl | rfl <;> decide
end Go.Vm
/- Tables: the laws of fits, of any text, and of tables there and back. No condition but on lengths. -/
namespace Go.Vm
open Go.Proofs
set_option linter.unusedVariables false
set_option linter.unusedSimpArgs false
/-! ### small tables -/
def iW (p:List PhT):Bool:=decide (p.length≤10) && p.all fun x=>decide (x.2.1.length≤100) && decide (x.2.2.2.1.length≤100)
theorem s9 (l:List PhT) (hl:l.length≤1000000) : ∀ (n i:Nat),i+n=l.length→af cg (l,(l.length:Int),(i:Int),()) (if (l.drop i).all (fun x=>decide (x.2.1.length≤100) && decide (x.2.2.2.1.length≤100))=true then .inl () else .inr (false,()))
 | 0,i,h=>by
  refine af.fin (.of fun F => ?_)
  unfold cg
  rw [if_neg (by rw [decide_eq_true_eq]; simp only; omega),List.drop_eq_nil_of_le (by omega)]
  rfl
 | n+1,i,h=>by
  have hi:i<l.length:=by omega
  have hx:idx l (i:Int)=some l[i]:=aV _ _ _ (List.getElem?_eq_getElem hi)
  have hw:IntKind.i64.wrap ((i:Int)+1)=((i+1:Nat):Int):=by rw [wrap64 _ (by omega) (by omega)]; omega
  have ih:=s9 l hl n (i+1) (by omega)
  rw [List.drop_eq_getElem_cons hi,List.all_cons]
  generalize l[i]=x at *
  have hbody : ∀ F,cg F (l,(l.length:Int),(i:Int),())=some (if (decide (x.2.1.length≤100) && decide (x.2.2.2.1.length≤100))=true then .inl (l,(l.length:Int),((i+1:Nat):Int),()) else .inr (.inr (false,()))):=by
   intro F
   unfold cg
   rw [if_pos (by rw [decide_eq_true_eq]; simp only; omega)]
   have e1 : ∀ a:By,(100:Int)<(a.length:Int) ↔ ¬ a.length≤100:=fun a=>by omega
   simp only [hx,Option.bind_some,e1]
   by_cases a1:x.2.1.length≤100
   ·by_cases a2:x.2.2.2.1.length≤100 <;> simp [a1,a2,hw]
   ·simp [a1]
  cases hc:(decide (x.2.1.length≤100) && decide (x.2.2.2.1.length≤100)) with
  | true =>
   rw [Bool.true_and]
   exact af.step (.of fun F=>(hbody F).trans (by rw [hc,if_pos rfl])) ih
  | false =>
   rw [Bool.false_and]
   exact af.fin (.of fun F=>(hbody F).trans (by rw [hc]; rfl))
theorem Gk (l:List PhT):ae (fun F=>eL F l) (iW l):=by
 unfold eL iW
 by_cases h10:l.length≤10
 ·rw [decide_eq_true h10,Bool.true_and]
  refine ae.neg (by rw [decide_eq_true_eq]; omega) ?_
  have h:=s9 l (by omega) l.length 0 (by omega)
  rw [List.drop_zero] at h
  refine ae.bind h.run ?_
  cases hb:l.all (fun x=>decide (x.2.1.length≤100) && decide (x.2.2.2.1.length≤100)) <;> exact .ret _
 ·rw [decide_eq_false h10,Bool.false_and]
  exact ae.pos (by rw [decide_eq_true_eq]; omega) (.ret _)
def rG (l:List RlT):Bool:=decide (l.length≤10) && l.all fun r=>decide (r.1.length≤100) && decide (r.2.1.length≤100) && iW r.2.2.1
theorem uE (l:List RlT) (hl:l.length≤1000000) : ∀ (n i:Nat),i+n=l.length→af cd (l,(l.length:Int),(i:Int),()) (if (l.drop i).all (fun r=>decide (r.1.length≤100) && decide (r.2.1.length≤100) && iW r.2.2.1)=true then .inl () else .inr (false,()))
 | 0,i,h=>by
  refine af.fin (.of fun F => ?_)
  unfold cd
  rw [if_neg (by rw [decide_eq_true_eq]; simp only; omega),List.drop_eq_nil_of_le (by omega)]
  rfl
 | n+1,i,h=>by
  have hi:i<l.length:=by omega
  have hx:idx l (i:Int)=some l[i]:=aV _ _ _ (List.getElem?_eq_getElem hi)
  have hw:IntKind.i64.wrap ((i:Int)+1)=((i+1:Nat):Int):=by rw [wrap64 _ (by omega) (by omega)]; omega
  have ih:=uE l hl n (i+1) (by omega)
  rw [List.drop_eq_getElem_cons hi,List.all_cons]
  generalize l[i]=r at *
  obtain ⟨m,p,pr,u⟩:=r
  have hs:=Gk pr
  have hbody:ae (fun F=>cd F (l,(l.length:Int),(i:Int),())) (if (decide (m.length≤100) && decide (p.length≤100) && iW pr)=true then .inl (l,(l.length:Int),((i+1:Nat):Int),()) else .inr (.inr (false,()))):=by
   unfold cd
   refine ae.pos (by rw [decide_eq_true_eq]; simp only; omega) (ae.bind (.of fun F=>hx) ?_)
   refine ae.bind (r:=(((),l,(l.length:Int),(i:Int), !(decide (m.length≤100) && decide (p.length≤100)),(m,p,pr,()),()):Unit×List RlT×Int×Int×Bool×RlT×Unit)) (.of fun F => ?_) ?_
   ·have e1 : ∀ a:By,(100:Int)<(a.length:Int) ↔ ¬ a.length≤100:=fun a=>by omega
    simp only [e1]
    by_cases a1:m.length≤100 <;> by_cases a2:p.length≤100 <;> simp [a1,a2]
   refine ae.bind (r:=((l,(l.length:Int),(i:Int), !(decide (m.length≤100) && decide (p.length≤100) && iW pr),()):List RlT×Int×Int×Bool×Unit)) ?_ ?_
   ·cases (decide (m.length≤100) && decide (p.length≤100)) with
    | true=>exact ae.pos rfl (ae.bind hs (.ret _))
    | false=>exact ae.neg Bool.noConfusion (.ret _)
   ·cases (decide (m.length≤100) && decide (p.length≤100) && iW pr) with
    | true=>exact ae.neg Bool.false_ne_true (.of fun F=>by simp only [hw,if_true])
    | false=>exact ae.pos rfl (.ret _)
  show af _ _ (if ((decide (m.length≤100) && decide (p.length≤100) && iW pr) && _)=true then _ else _)
  cases hc:(decide (m.length≤100) && decide (p.length≤100) && iW pr) with
  | true =>
   rw [hc,if_pos rfl] at hbody
   rw [Bool.true_and]
   exact af.step hbody ih
  | false =>
   rw [hc,if_neg Bool.false_ne_true] at hbody
   rw [Bool.false_and,if_neg Bool.false_ne_true]
   exact af.fin hbody
theorem Ca (l:List RlT):ae (fun F=>cY F l) (rG l):=by
 unfold cY rG
 by_cases h10:l.length≤10
 ·rw [decide_eq_true h10,Bool.true_and]
  refine ae.neg (by rw [decide_eq_true_eq]; omega) ?_
  have h:=uE l (by omega) l.length 0 (by omega)
  rw [List.drop_zero] at h
  refine ae.bind h.run ?_
  cases hb:l.all (fun r=>decide (r.1.length≤100) && decide (r.2.1.length≤100) && iW r.2.2.1) <;> exact .ret _
 ·rw [decide_eq_false h10,Bool.false_and]
  exact ae.pos (by rw [decide_eq_true_eq]; omega) (.ret _)
theorem xy {l:List RlT} (h:rG l=true):l.length≤10 ∧ ∀ r∈l,vE r:=by
 unfold rG at h
 rw [Bool.and_eq_true,decide_eq_true_eq] at h
 refine ⟨h.1,fun r hr => ?_⟩
 have:=List.all_eq_true.1 h.2 r hr
 simp only [Bool.and_eq_true,decide_eq_true_eq] at this
 obtain ⟨⟨h1,h2⟩,h3⟩:=this
 unfold iW at h3
 rw [Bool.and_eq_true,decide_eq_true_eq] at h3
 refine ⟨by omega,by omega,by omega,fun p hp => ?_⟩
 have:=List.all_eq_true.1 h3.2 p hp
 simp only [Bool.and_eq_true,decide_eq_true_eq] at this
 exact ⟨by omega,by omega⟩
/-! ### the laws -/
end Go.Vm
/- Tables: the law of what is found. No condition but on lengths. -/
namespace Go.Vm
open Go.Proofs
set_option linter.unusedVariables false
set_option linter.unusedSimpArgs false
theorem u4 (l:List RlT) (m s:By) (hl:l.length≤1000000) (hb : ∀ r∈l,vE r) (hs:s.length≤900) : ∀ (n i:Nat),i+n=l.length→af cA (l,m,s,(i:Int),()) (ly m s (l.drop i) i)
 | 0,i,h=>by
  refine af.fin (.of fun F => ?_)
  unfold cA
  rw [if_neg (by rw [decide_eq_true_eq]; simp only; omega),List.drop_eq_nil_of_le (by omega)]
  rfl
 | n+1,i,h=>by
  have hi:i<l.length:=by omega
  have hx:idx l (i:Int)=some l[i]:=aV _ _ _ (List.getElem?_eq_getElem hi)
  have hw:IntKind.i64.wrap ((i:Int)+1)=((i+1:Nat):Int):=by rw [wrap64 _ (by omega) (by omega)]; omega
  have ih:=u4 l m s hl hb hs n (i+1) (by omega)
  obtain ⟨b1,b2,b3,b4⟩:=hb l[i] (List.getElem_mem hi)
  rw [List.drop_eq_getElem_cons hi]
  generalize l[i]=r at *
  obtain ⟨rm,rp,pr,u⟩:=r
  simp only at b1 b2
  unfold ly
  have hbody:ae (fun F=>cA F (l,m,s,(i:Int),())) (if ia (rm,rp,pr,u) m s=true then .inr (.inr ((i:Int),())) else .inl (l,m,s,((i+1:Nat):Int),())):=by
   unfold cA ia
   refine ae.pos (by rw [decide_eq_true_eq]; simp only; omega) ?_
   refine ae.bind (r:=((l,m,s,(i:Int),decide (rm=m) || decide (rm = [42]),()):List RlT×By×By×Int×Bool×Unit)) (ae.bind (.of fun F=>hx) (.of fun F => ?_)) ?_
   ·by_cases c1:rm=m
    ·rw [if_neg (by rw [decide_eq_true c1]; exact Bool.noConfusion),decide_eq_true c1]; rfl
    ·rw [if_pos (decide_eq_false c1),decide_eq_false c1,Bool.false_or]
     simp only [hx,Option.bind_some]
   refine ae.bind (r:=((l,m,s,(i:Int),(decide (rm=m) || decide (rm = [42])) && oy rp s,()):List RlT×By×By×Int×Bool×Unit)) ?_ ?_
   ·cases (decide (rm=m) || decide (rm = [42])) with
    | true=>exact ae.pos rfl (ae.bind (.of fun F=>hx) (ae.bind (Lx rp s b2 hs) (.ret _)))
    | false=>exact ae.neg Bool.false_ne_true (.ret _)
   ·show ae _ (if ((decide (rm=m) || decide (rm = [42])) && oy rp s)=true then _ else _)
    cases ((decide (rm=m) || decide (rm = [42])) && oy rp s) with
    | true=>exact ae.pos rfl (.ret _)
    | false=>exact ae.neg Bool.false_ne_true (.of fun F=>by simp only [hw]; rfl)
  cases hc:ia (rm,rp,pr,u) m s with
  | true =>
   rw [hc,if_pos rfl] at hbody
   exact af.fin hbody
  | false =>
   rw [hc,if_neg Bool.false_ne_true] at hbody
   exact af.step hbody ih
theorem LY (l:List RlT) (m s:By) (hl:l.length≤1000000) (hb : ∀ r∈l,vE r) (hs:s.length≤900):ae (fun F=>eT F (l,m,s)) (dM l m s):=by
 unfold eT dM
 have h:=u4 l m s hl hb hs l.length 0 (by omega)
 rw [List.drop_zero] at h
 refine ae.bind h.run (.of fun F => ?_)
 cases ly m s l 0 <;> rfl
theorem wj (m s:By) : ∀ (l:List RlT) (i:Nat),(ly m s l i = .inl () ∧ ∀ r∈l,ia r m s=false) ∨ ∃ k,ly m s l i = .inr (((i+k:Nat):Int),())∧k<l.length∧(∀ r,l[k]? = some r→ia r m s=true) ∧ ∀ j r,j<k→l[j]? = some r→ia r m s=false
 | [],i => .inl ⟨rfl,fun r hr=>by cases hr⟩
 | r :: l,i=>by
  unfold ly
  cases hc:ia r m s with
  | true =>
   rw [if_pos rfl]
   refine .inr ⟨0,rfl,by simp,fun q hq => ?_,fun j q hj=>by omega⟩
   have:r=q:=by simpa using hq
   subst this
   exact hc
  | false =>
   rw [if_neg Bool.false_ne_true]
   rcases wj m s l (i+1) with ⟨h1,h2⟩ | ⟨k,h1,h2,h3,h4⟩
   ·refine .inl ⟨h1,fun q hq => ?_⟩
    rcases List.mem_cons.1 hq with rfl | hq
    ·exact hc
    ·exact h2 q hq
   ·refine .inr ⟨k+1,by rw [h1,show i+1+k=i+(k+1) by omega],by rw [List.length_cons]; omega,fun q hq=>h3 q (by simpa using hq),fun j q hj hq => ?_⟩
    cases j with
    | zero =>
     have:r=q:=by simpa using hq
     subst this
     exact hc
    | succ j=>exact h4 j q (by omega) (by simpa using hq)
theorem wN (l:List RlT) (m s:By):dM l m s<(l.length:Int) ∧ ∀ (k:Nat) r,l[k]? = some r→((ia r m s && (decide (dM l m s<0) || decide ((k:Int)<dM l m s))) || (decide ((k:Int)=dM l m s) && !ia r m s))=false:=by
 rcases wj m s l 0 with ⟨h1,h2⟩ | ⟨k0,h1,h2,h3,h4⟩
 ·have hv:dM l m s = -1:=by
   unfold dM
   rw [h1]
   rfl
  rw [hv]
  refine ⟨by omega,fun k r hr => ?_⟩
  rw [h2 r (List.mem_of_getElem? hr),decide_eq_false (by omega : ¬ (k:Int) = -1)]
  rfl
 ·have hv:dM l m s=(k0:Int):=by
   unfold dM
   rw [h1,Nat.zero_add]
   rfl
  rw [hv]
  refine ⟨by omega,fun k r hr => ?_⟩
  rw [decide_eq_false (by omega : ¬ ((k0:Nat):Int)<0),Bool.false_or]
  by_cases c1:k<k0
  ·rw [h4 k r c1 hr,decide_eq_false (by omega : ¬ (k:Int)=(k0:Int))]
   rfl
  ·rw [decide_eq_false (by omega : ¬ (k:Int)<(k0:Int)),Bool.and_false,Bool.false_or]
   by_cases c2:k=k0
   ·subst c2
    rw [h3 r hr,Bool.not_true,Bool.and_false]
   ·rw [decide_eq_false (by omega),Bool.false_and]
end Go.Vm
