/- Acts as lines: written and read, line by line; two lists alike; small ones; awake. No condition but on lengths. -/
import Derived.Test.YtcnigpigmhpakaaGreatDoorFlaw34
import Derived.Test.YtcnigpigmhpakaaGreatDoorPopr
namespace Go.Vm
open Go.Proofs
open Go.Lib (decodeL decDigits itoa validD)
set_option linter.unusedVariables false
set_option linter.unusedSimpArgs false
/-! ### cut at a line's end -/
theorem ve (d:UInt8) : ∀ s:By,Go.Lib.index s [d]=match cutAt d s with
  | some (a,_)=>(a.length:Int)
  | none => -1
 | []=>rfl
 | c :: s=>by
  have ih:=ve d s
  unfold Go.Lib.index cutAt
  by_cases h:c=d
  ·subst h
   rw [if_pos (by simp [List.isPrefixOf]),if_pos rfl]
   rfl
  ·rw [if_neg (by simp [List.isPrefixOf]; exact fun e=>h e.symm),if_neg h]
   cases hq:cutAt d s with
   | none =>
    rw [hq] at ih
    simp only at ih
    rw [ih]
    rfl
   | some x =>
    rw [hq] at ih
    simp only at ih
    rw [ih,if_neg (by simp)]
    simp
def Gr (d:UInt8) (s:By):By×By×Bool:=match cutAt d s with
 | some (a,b)=>(a,b,true)
 | none=>(s,[],false)
theorem Io (F:Nat) (d:UInt8) (s:By) (hs:s.length≤1000000):jP F (s,[d])=some (Gr d s):=by
 unfold jP eN
 have hi:cT F (s,[d])=some (Go.Lib.index s [d]):=by
  unfold cT xW
  exact if_pos (decide_eq_true (by show s.length≤4294967280; omega))
 have hc:=ve d s
 unfold Gr
 cases hq:cutAt d s with
 | none =>
  rw [hq] at hc
  simp only [hi,hc,Option.bind_some]
  rfl
 | some x =>
  obtain ⟨a,b⟩:=x
  obtain ⟨rfl,_⟩:=nk _ _ _ hq
  rw [hq] at hc
  simp only at hc
  have hl:(a ++ d :: b).length=a.length+1+b.length:=by simp; omega
  have s1:sub (a ++ d :: b) 0 (a.length:Int)=some a:=by
   have:=E4 (a ++ d :: b) 0 a.length (by omega) (by omega)
   simpa using this
  have s2:sub (a ++ d :: b) ((a.length+1:Nat):Int) (((a ++ d :: b).length:Nat):Int)=some b:=by
   have:=H3 (a ++ d :: b) (a.length+1) (by omega)
   rw [this]
   simp
  have hw:IntKind.i64.wrap ((a.length:Int)+(([d]:B8).length:Int))=((a.length+1:Nat):Int):=by
   show IntKind.i64.wrap ((a.length:Int)+1) = _
   exact dn _ (by omega)
  simp only [hi,hc,Option.bind_some]
  rw [if_pos (by simp)]
  simp only [hw,s1,s2,Option.bind_some]
/-! ### the program reads -/
abbrev tG (s:By):Option di:=qS validD nvP tvP s
def PL (x:By):Prop:=x.length≤1000000 ∧ ∀ p∈ey false false [] x,p.length≤1000
def RD:Nat→By→Prop
 | 0,_=>True
 | f+1,s=>match cutAt 10 s with
  | none=>PL s
  | some (x,r)=>PL x∧RD f r
theorem uf : ∀ (f n:Nat) (out:List di) (s:By),s.length<f→n+f≤10000000→out.length≤n→s.length≤1000000→RD f s →
  af eH (s,(),(n:Int),out.map ofA,()) (if (iy tG f n out s).2.2=0 then .inl ((),(iy tG f n out s).1.map ofA,()) else .inr ((),((iy tG f n out s).2.1:Int),3,(iy tG f n out s).1.map ofA,()))
 | 0,n,out,s,h,_,_,_,_=>absurd h (Nat.not_lt_zero _)
 | f+1,n,out,s,h,hn,ho,hs,hd=>by
  unfold iy
  by_cases h0:s = []
  ·subst h0
   rw [if_pos rfl]
   refine af.fin (.of fun F => ?_)
   unfold eH
   rw [if_neg (by simp)]
   rfl
  rw [if_neg h0]
  have hcut:=fun F=>Io F 10 s hs
  unfold Gr at hcut
  unfold RD at hd
  cases hq:cutAt 10 s with
  | none =>
   rw [hq] at hcut hd
   simp only at hd
   refine af.fin ?_
   unfold eH
   refine ae.pos (by simpa using h0) (ae.bind (.of hcut) (ae.bind (oD s hd.1 hd.2) ?_))
   refine ae.bind (ae.neg (by simp) (.ret _)) (ae.pos rfl (.of fun F => ?_))
   rfl
  | some xr =>
   obtain ⟨x,r⟩:=xr
   rw [hq] at hcut hd
   simp only at hd
   obtain ⟨hxe,_⟩:=nk _ _ _ hq
   have hl:s.length=x.length+1+r.length:=by rw [hxe]; simp; omega
   have hst:ae (fun F=>eH F (s,(),(n:Int),out.map ofA,())) (match tG x with | none => .inr (.inr ((),(n:Int),3,out.map ofA,())) | some a => .inl (r,(),((n+1:Nat):Int),(out ++ [a]).map ofA,())):=by
    unfold eH
    refine ae.pos (by simpa using h0) (ae.bind (.of hcut) (ae.bind (oD x hd.1.1 hd.1.2) ?_))
    unfold tG
    cases qS validD nvP tvP x with
    | none=>exact ae.bind (ae.pos rfl (.ret _)) (ae.pos rfl (.ret _))
    | some a =>
     refine ae.bind (r:=((),(n:Int),r,(),false,out.map ofA,ofA a,())) (ae.pos rfl (.ret _)) (ae.neg (by simp) ?_)
     refine ae.pos (by rw [decide_eq_true_eq]; simp; omega) (.of fun F => ?_)
     simp only [dn n (by omega),List.map_append,List.map_cons,List.map_nil]
   simp only
   cases hp:tG x with
   | none =>
    rw [hp] at hst
    exact af.fin hst
   | some a =>
    rw [hp] at hst
    exact af.step hst (uf f (n+1) (out ++ [a]) r (by omega) (by omega) (by simp; omega) (by omega) hd.2)
def ug (r:List di×Nat×Int):List AcT×Int×Int:=(r.1.map ofA,(r.2.1:Int),r.2.2)
theorem xd {P:By→Option di} : ∀ (f n:Nat) (out:List di) (s:By),((iy P f n out s).2.2=0∧(iy P f n out s).2.1=0)∨(iy P f n out s).2.2=3
 | 0,n,out,s => .inl ⟨rfl,rfl⟩
 | f+1,n,out,s=>by
  unfold iy
  by_cases h0:s = []
  ·rw [if_pos h0]; exact .inl ⟨rfl,rfl⟩
  rw [if_neg h0]
  cases cutAt 10 s with
  | none=>exact .inr rfl
  | some xr =>
   obtain ⟨x,r⟩:=xr
   simp only
   cases P x with
   | none=>exact .inr rfl
   | some a=>exact xd f (n+1) (out ++ [a]) r
theorem C1 (s:By) (hs:s.length≤1000000) (hd:RD (s.length+1) s):ae (fun F=>ix F s) (ug (iy tG (s.length+1) 1 [] s)):=by
 unfold ix
 refine ae.bind (uf (s.length+1) 1 [] s (by omega) (by omega) (by simp) hs hd).run (.of fun F => ?_)
 unfold ug
 rcases xd (P:=tG) (s.length+1) 1 [] s with ⟨h,h'⟩ | h
 ·rw [if_pos h,h,h']; rfl
 ·rw [if_neg (by omega),h]; rfl
/-! ### the document reads -/
abbrev uj (s:By):Option di:=tE validD nvP tvP s
def GR (y:(By×Unit×Int×Int×List AcT×Unit) ⊕ (Unit×Int×Int×List AcT×Unit)):List AcT×Int×Int:=match y with
 | .inl x=>if x.2.2.2.1<(x.1.length:Int) then (x.2.2.2.2.1,x.2.2.1+1,3) else (x.2.2.2.2.1,0,0)
 | .inr x=>(x.2.2.2.1,x.2.1,x.2.2.1)
theorem qG (s:By) (hs:s.length≤1000) : ∀ (n i at' line:Nat) (out:List di),i+n=s.length→at'≤i→line≤i→out.length≤i →
  ∃ y,af b7 (s,(),(line:Int),(at':Int),(i:Int),out.map ofA,()) y∧(∀ x,y = .inl x→0≤x.2.2.1∧x.2.2.1≤1000)∧GR y=ug (zx uj line out ((s.drop at').take (i - at')) (s.drop i))
 | 0,i,at',line,out,h,ha,hl,ho=>by
  refine ⟨.inl (s,(),(line:Int),(at':Int),out.map ofA,()),af.fin (.of fun F => ?_),fun x hx => ?_,?_⟩
  ·unfold b7
   rw [if_neg (by rw [decide_eq_true_eq]; simp only; omega)]
  ·cases hx
   exact ⟨by simp,by simp only; omega⟩
  ·have:i=s.length:=by omega
   subst this
   rw [List.drop_length,List.take_of_length_le (by simp)]
   unfold GR zx ug
   by_cases h:s.drop at' = []
   ·rw [if_pos h]
    have:s.length≤at':=by
     have:=congrArg List.length h
     simp at this
     omega
    simp only
    rw [if_neg (by omega)]
    rfl
   ·rw [if_neg h]
    have:at'<s.length:=by
     rcases Nat.lt_or_ge at' s.length with h' | h'
     ·exact h'
     ·exact absurd (List.drop_of_length_le h') h
    simp only
    rw [if_pos (by omega)]
    simp
 | n+1,i,at',line,out,h,ha,hl,ho=>by
  have hi:i<s.length:=by omega
  have hx:=uU s i (i:Int) rfl hi
  have hw:IntKind.i64.wrap ((i:Int)+1)=((i+1:Nat):Int):=dn i (by omega)
  have hwl:IntKind.i64.wrap ((line:Int)+1)=((line+1:Nat):Int):=dn line (by omega)
  have hd:s.drop i=s[i] :: s.drop (i+1):=List.drop_eq_getElem_cons hi
  have hc:=A5 s at' i ha hi
  have c10:((s[i].toNat:Int)=10)=(s[i]=10):=nvC s[i] 10
  rw [hd]
  by_cases h10:s[i]=10
  case neg =>
   obtain ⟨y,h1,h2,h3⟩:=qG s hs n (i+1) at' line out (by omega) (by omega) (by omega) (by omega)
   refine ⟨y,af.step (.of fun F => ?_) h1,h2,?_⟩
   ·unfold b7
    rw [if_pos (show decide ((i:Int)<(s.length:Int))=true by rw [decide_eq_true_eq]; omega)]
    simp only [hx,Option.bind_some,c10]
    rw [if_pos (by simpa using h10)]
    simp only [Option.bind_some,eW,hw]
   ·rw [h3,hc,zx,if_neg h10]
  have hsub:sub s (at':Int) (i:Int)=some ((s.drop at').take (i - at')):=E4 s at' i ha (by omega)
  have hpl:((s.drop at').take (i - at')).length≤1000:=by simp; omega
  have hst:ae (fun F=>b7 F (s,(),(line:Int),(at':Int),(i:Int),out.map ofA,())) (match uj ((s.drop at').take (i - at')) with | none => .inr (.inr ((),((line+1:Nat):Int),3,out.map ofA,())) | some a => .inl (s,(),((line+1:Nat):Int),((i+1:Nat):Int),((i+1:Nat):Int),(out ++ [a]).map ofA,())):=by
   unfold b7
   refine ae.pos (show decide ((i:Int)<(s.length:Int))=true by rw [decide_eq_true_eq]; omega) ?_
   have hp:=zK ((s.drop at').take (i - at')) hpl
   unfold uj
   cases hq:tE validD nvP tvP ((s.drop at').take (i - at')) with
   | none =>
    rw [hq] at hp
    refine ae.bind (r := .inr ((),((line+1:Nat):Int),3,out.map ofA,())) (ae.bind (.of fun F=>hx) (ae.neg (by simp [c10,h10]) ?_)) (.of fun F=>rfl)
    refine ae.bind (r:=(s,(),((line+1:Nat):Int),(i:Int),(),false,out.map ofA,zAc,())) (ae.bind (.of fun F=>hsub) (ae.bind hp (.of fun F=>by simp only [hwl]; rfl))) (ae.pos rfl (.ret _))
   | some a =>
    rw [hq] at hp
    refine ae.bind (r := .inl (s,(),((line+1:Nat):Int),((i+1:Nat):Int),(i:Int),(out ++ [a]).map ofA,())) (ae.bind (.of fun F=>hx) (ae.neg (by simp [c10,h10]) ?_)) (.of fun F=>by simp only [eW,hw])
    refine ae.bind (r:=(s,(),((line+1:Nat):Int),(i:Int),(),true,out.map ofA,ofA a,())) (ae.bind (.of fun F=>hsub) (ae.bind hp (.of fun F=>by simp only [hwl]; rfl))) (ae.neg (by simp) ?_)
    refine ae.pos (by rw [decide_eq_true_eq]; simp; omega) (.of fun F => ?_)
    simp only [hw,List.map_append,List.map_cons,List.map_nil]
  rw [zx,if_pos h10]
  cases hq:uj ((s.drop at').take (i - at')) with
  | none =>
   rw [hq] at hst
   exact ⟨_,af.fin hst,(fun x hx=>by cases hx),rfl⟩
  | some a =>
   rw [hq] at hst
   obtain ⟨y,h1,h2,h3⟩:=qG s hs n (i+1) (i+1) (line+1) (out ++ [a]) (by omega) (by omega) (by omega) (by simp; omega)
   refine ⟨y,af.step hst h1,h2,?_⟩
   rw [h3]
   simp
theorem HQ (s:By) (hs:s.length≤1000):ae (fun F=>eV F s) (ug (iy uj (s.length+1) 1 [] s)):=by
 obtain ⟨y,h1,h2,h3⟩:=qG s hs s.length 0 0 0 [] (by omega) (by omega) (by omega) (by simp)
 have he:=zw (P:=uj) s (s.length+1) 0 [] [] (fun c h=>by cases h) (by simp)
 rw [List.nil_append] at he
 simp only [List.drop_zero,Nat.sub_zero,List.take_zero] at h3
 rw [he] at h3
 rw [← h3]
 unfold eV
 refine ae.bind h1.run (.of fun F => ?_)
 cases y with
 | inl x =>
  obtain ⟨g1,g2⟩:=h2 x rfl
  have hw:IntKind.i64.wrap (x.2.2.1+1)=x.2.2.1+1:=wrap64 _ (by omega) (by omega)
  simp only [eW,GR,hw]
  by_cases hlt:x.2.2.2.1<(x.1.length:Int)
  ·rw [if_pos (decide_eq_true hlt),if_pos hlt]
  ·rw [if_neg (by simpa using hlt),if_neg hlt]
 | inr x=>rfl
/-! ### the program writes -/
theorem tc (l:List di) (hf : ∀ a∈l,Fit a) (hl:l.length≤100) : ∀ (n i:Nat) (buf:By),i+n=l.length→buf.length≤i * 5000 →
  af fg ((),l.map ofA,((l.map ofA).length:Int),(i:Int),((),(),()),buf,()) (if (l.drop i).all (ew validD)=true then .inl ((),((),(),()),buf ++ cR (l.drop i),()) else .inr ([],1,()))
 | 0,i,buf,h,hb=>by
  refine af.fin (.of fun F => ?_)
  unfold fg
  rw [if_neg (by rw [decide_eq_true_eq,List.length_map]; simp only; omega),List.drop_of_length_le (by omega)]
  simp [cR]
 | n+1,i,buf,h,hb=>by
  have hi:i<l.length:=by omega
  have hw:IntKind.i64.wrap ((i:Int)+1)=((i+1:Nat):Int):=dn i (by omega)
  have hx:idx (l.map ofA) (i:Int)=some (ofA l[i]):=eQ _ _ _ (by simp [hi])
  have hd:l.drop i=l[i] :: l.drop (i+1):=List.drop_eq_getElem_cons hi
  have hp:=rD l[i] (hf _ (List.getElem_mem hi))
  rw [hd,List.all_cons]
  unfold sE at hp
  cases hh:ew validD l[i] with
  | false =>
   rw [hh,if_neg (by simp)] at hp
   rw [Bool.false_and,if_neg (by simp)]
   refine af.fin ?_
   unfold fg
   refine ae.pos (by rw [decide_eq_true_eq,List.length_map]; simp only; omega) (ae.bind (.of fun F=>hx) (ae.bind hp (ae.pos (by simp) (.ret _))))
  | true =>
   rw [hh,if_pos rfl] at hp
   rw [Bool.true_and]
   have hpl:=jE l[i] hh
   have hlen:(buf ++ (aT l[i] ++ [10])).length≤(i+1) * 5000:=by simp; omega
   have ih:=tc l hf hl n (i+1) (buf ++ (aT l[i] ++ [10])) (by omega) hlen
   have hb2:buf.length≤500000:=by
    have:i * 5000≤100 * 5000:=Nat.mul_le_mul_right _ (by omega)
    omega
   have e:cR (l[i] :: l.drop (i+1))=aT l[i] ++ [10] ++ cR (l.drop (i+1)):=by unfold cR; rw [List.flatMap_cons]
   rw [e]
   have e2:buf ++ (aT l[i] ++ [10] ++ cR (l.drop (i+1)))=buf ++ (aT l[i] ++ [10]) ++ cR (l.drop (i+1)):=by simp
   rw [e2]
   refine af.step ?_ ih
   unfold fg
   refine ae.pos (by rw [decide_eq_true_eq,List.length_map]; simp only; omega) (ae.bind (.of fun F=>hx) (ae.bind hp (ae.neg (by simp) ?_)))
   refine ae.pos (by rw [decide_eq_true_eq]; simp only [List.length_cons,List.length_nil]; omega) ?_
   refine ae.bind (r:=((((aT l[i] ++ [10]).length:Int),()),(),buf ++ (aT l[i] ++ [10]),())) (.of fun F => ?_) (.of fun F=>by simp only [hw])
   unfold dX cd
   simp only [Option.bind_some]
   rw [if_pos (by rw [decide_eq_true_eq]; simp only [List.length_append,List.length_cons,List.length_nil]; omega)]
   rfl
theorem AV (l:List di) (hf : ∀ a∈l,Fit a) (hl:l.length≤100):ae (fun F=>fI F (l.map ofA)) (if l.all (ew validD)=true then (cR l,0) else ([],1)):=by
 have h:=tc l hf hl l.length 0 [] (by omega) (by simp)
 rw [List.drop_zero,List.nil_append] at h
 unfold fI
 refine ae.bind h.run (.of fun F => ?_)
 cases l.all (ew validD) with
 | true=>rfl
 | false=>rfl
/-! ### alike, and small -/
open Classical in
theorem ui (l m:List AcT) (hlm:l.length=m.length) (hl:l.length≤1000000) : ∀ (n i:Nat),i+n=l.length →
  af cP (l,m,(l.length:Int),(i:Int),()) (if l.drop i=m.drop i then .inl () else .inr (false,()))
 | 0,i,h=>by
  refine af.fin (.of fun F => ?_)
  unfold cP
  rw [if_neg (by rw [decide_eq_true_eq]; simp only; omega),List.drop_of_length_le (by omega),List.drop_of_length_le (by omega),if_pos rfl]
 | n+1,i,h=>by
  have hi:i<l.length:=by omega
  have hi':i<m.length:=by omega
  have hw:IntKind.i64.wrap ((i:Int)+1)=((i+1:Nat):Int):=dn i (by omega)
  have hx:=uU l i (i:Int) rfl hi
  have hy:=uU m i (i:Int) rfl hi'
  rw [List.drop_eq_getElem_cons hi,List.drop_eq_getElem_cons hi']
  have zz : ∀ v w:AcT,(decide (v.1=w.1) && (decide (v.2.1=w.2.1) && (decide (v.2.2.1=w.2.2.1) && (decide (v.2.2.2.1=w.2.2.2.1) && (decide (v.2.2.2.2.1=w.2.2.2.2.1) && (decide (v.2.2.2.2.2.1=w.2.2.2.2.2.1) && (decide (v.2.2.2.2.2.2.1=w.2.2.2.2.2.2.1) && (decide (v.2.2.2.2.2.2.2.1=w.2.2.2.2.2.2.2.1) && (decide (v.2.2.2.2.2.2.2.2.1=w.2.2.2.2.2.2.2.2.1) && (decide (v.2.2.2.2.2.2.2.2.2.1=w.2.2.2.2.2.2.2.2.2.1) && (decide (v.2.2.2.2.2.2.2.2.2.2.1=w.2.2.2.2.2.2.2.2.2.2.1) && true)))))) && true)))))=true ↔ v=w:=by
   intro v w
   simp only [Bool.and_eq_true,decide_eq_true_eq,and_true]
   constructor
   ·rintro ⟨h1,h2,h3,h4,h5,h6,h7,h8,h9,h10,h11⟩
    exact Prod.ext h1 (Prod.ext h2 (Prod.ext h3 (Prod.ext h4 (Prod.ext h5 (Prod.ext h6 (Prod.ext h7 (Prod.ext h8 (Prod.ext h9 (Prod.ext h10 (Prod.ext h11 rfl))))))))))
   ·rintro rfl; exact ⟨rfl,rfl,rfl,rfl,rfl,rfl,rfl,rfl,rfl,rfl,rfl⟩
  have hz:=zz l[i] m[i]
  have hst : ∀ F,cP F (l,m,(l.length:Int),(i:Int),())=if l[i]=m[i] then some (.inl (l,m,(l.length:Int),((i+1:Nat):Int),())) else some (.inr (.inr (false,()))):=by
   intro F
   unfold cP
   rw [if_pos (by rw [decide_eq_true_eq]; simp only; omega)]
   simp only [hx,hy,Option.bind_some]
   by_cases he:l[i]=m[i]
   ·rw [if_pos he,hz.2 he]
    simp only [Bool.not_true,Bool.false_eq_true,if_false,hw]
   ·rw [if_neg he,Bool.eq_false_iff.2 (fun h=>he (hz.1 h))]
    simp only [Bool.not_false,if_true]
  by_cases he:l[i]=m[i]
  ·have ih:=ui l m hlm hl n (i+1) (by omega)
   have e:(if l[i] :: l.drop (i+1)=m[i] :: m.drop (i+1) then (Sum.inl ():Unit ⊕ Bool×Unit) else .inr (false,()))=if l.drop (i+1)=m.drop (i+1) then .inl () else .inr (false,()):=by
    rw [he]
    by_cases h:l.drop (i+1)=m.drop (i+1)
    ·rw [if_pos h,if_pos (by rw [h])]
    ·rw [if_neg h,if_neg (fun e=>h (List.cons.inj e).2)]
   rw [e]
   exact af.step (.of fun F=>by rw [hst,if_pos he]) ih
  ·rw [if_neg (fun e=>he (List.cons.inj e).1)]
   exact af.fin (.of fun F=>by rw [hst,if_neg he])
open Classical in
theorem Dl (l m:List AcT) (hl:l.length≤1000000) (hm:m.length≤1000000):ae (fun F=>dO F (l,m)) (if l=m then true else false):=by
 unfold dO
 by_cases h:l.length=m.length
 ·have hloop:=ui l m h hl l.length 0 (by omega)
  rw [List.drop_zero,List.drop_zero] at hloop
  refine ae.neg (by simp [h]) (ae.bind hloop.run (.of fun F => ?_))
  by_cases he:l=m
  ·rw [if_pos he,if_pos he]; rfl
  ·rw [if_neg he,if_neg he]; rfl
 ·rw [if_neg (fun e=>h (by rw [e]))]
  exact ae.pos (by simp; omega) (.ret _)
def smB (y:AcT):Bool := !(((decide (300<(y.2.2.2.2.2.2.2.1.length:Int)) || decide (300<(y.2.2.2.2.2.2.2.2.1.length:Int))) || decide (300<(y.2.2.2.2.2.2.2.2.2.1.length:Int))) || decide (300<(y.2.2.2.2.2.2.2.2.2.2.1.length:Int)))
theorem Hq {y:AcT} (h:smB y=true):y.2.2.2.2.2.2.2.1.length≤300∧y.2.2.2.2.2.2.2.2.1.length≤300∧y.2.2.2.2.2.2.2.2.2.1.length≤300∧y.2.2.2.2.2.2.2.2.2.2.1.length≤300:=by
 unfold smB at h
 simp only [Bool.not_eq_true',Bool.or_eq_false_iff,decide_eq_false_iff_not] at h
 omega
theorem vt (l:List AcT) (hl:l.length≤1000000) : ∀ (n i:Nat),i+n=l.length→af cD (l,(l.length:Int),(i:Int),()) (if (l.drop i).all smB=true then .inl () else .inr (false,()))
 | 0,i,h=>by
  refine af.fin (.of fun F => ?_)
  unfold cD
  rw [if_neg (by rw [decide_eq_true_eq]; simp only; omega),List.drop_of_length_le (by omega)]
  rfl
 | n+1,i,h=>by
  have hi:i<l.length:=by omega
  have hw:IntKind.i64.wrap ((i:Int)+1)=((i+1:Nat):Int):=dn i (by omega)
  have hx:=uU l i (i:Int) rfl hi
  rw [List.drop_eq_getElem_cons hi,List.all_cons]
  have hst:ae (fun F=>cD F (l,(l.length:Int),(i:Int),())) (if smB l[i]=true then .inl (l,(l.length:Int),((i+1:Nat):Int),()) else .inr (.inr (false,()))):=by
   unfold cD
   refine ae.pos (by rw [decide_eq_true_eq]; simp only; omega) (ae.bind (.of fun F=>hx) ?_)
   generalize l[i]=y
   refine ae.bind (ae.orB (c:=decide (300<(y.2.2.2.2.2.2.2.1.length:Int))) (d:=decide (300<(y.2.2.2.2.2.2.2.2.1.length:Int))) (f:=fun q=>((),l,(l.length:Int),(i:Int),q,y.2.2.2.2,())) (.ret _)) ?_
   refine ae.bind (ae.orB (c:=decide (300<(y.2.2.2.2.2.2.2.1.length:Int)) || decide (300<(y.2.2.2.2.2.2.2.2.1.length:Int))) (d:=decide (300<(y.2.2.2.2.2.2.2.2.2.1.length:Int))) (f:=fun q=>((),l,(l.length:Int),(i:Int),q,y.2.2.2.2,())) (.ret _)) ?_
   refine ae.bind (ae.orB (c:=(decide (300<(y.2.2.2.2.2.2.2.1.length:Int)) || decide (300<(y.2.2.2.2.2.2.2.2.1.length:Int))) || decide (300<(y.2.2.2.2.2.2.2.2.2.1.length:Int))) (d:=decide (300<(y.2.2.2.2.2.2.2.2.2.2.1.length:Int))) (f:=fun q=>(l,(l.length:Int),(i:Int),q,())) (.ret _)) ?_
   unfold smB
   cases ((decide (300<(y.2.2.2.2.2.2.2.1.length:Int)) || decide (300<(y.2.2.2.2.2.2.2.2.1.length:Int))) || decide (300<(y.2.2.2.2.2.2.2.2.2.1.length:Int))) || decide (300<(y.2.2.2.2.2.2.2.2.2.2.1.length:Int)) with
   | true=>exact ae.pos rfl (.ret _)
   | false=>exact ae.neg (by simp) (.of fun F=>by simp only [hw]; rfl)
  cases hb:smB l[i] with
  | true =>
   rw [hb,if_pos rfl] at hst
   rw [Bool.true_and]
   exact af.step hst (vt l hl n (i+1) (by omega))
  | false =>
   rw [hb,if_neg (by simp)] at hst
   rw [Bool.false_and,if_neg (by simp)]
   exact af.fin hst
theorem C0 (l:List AcT) (n:Nat) (hn:n≤1000):ae (fun F=>bR F ([],l,(n:Int))) (decide (l.length≤n) && l.all smB):=by
 unfold bR
 refine ae.bind (r:=(l, !decide (l.length≤n),())) ?_ ?_
 ·by_cases h:l.length≤n
  ·rw [decide_eq_true h]
   exact ae.pos (by simp; omega) (.of fun F=>rfl)
  ·rw [decide_eq_false h]
   exact ae.neg (by simp; omega) (.of fun F=>rfl)
 by_cases h:l.length≤n
 ·rw [decide_eq_true h,Bool.true_and]
  have hloop:=vt l (by omega) l.length 0 (by omega)
  rw [List.drop_zero] at hloop
  refine ae.neg (by simp) (ae.bind hloop.run (.of fun F => ?_))
  cases l.all smB with
  | true=>rfl
  | false=>rfl
 ·rw [decide_eq_false h,Bool.false_and]
  exact ae.pos rfl (.ret _)
end Go.Vm
