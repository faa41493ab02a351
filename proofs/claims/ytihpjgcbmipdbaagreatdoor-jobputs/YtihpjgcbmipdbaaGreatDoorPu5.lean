import Derived.Test.YtihpjgcbmipdbaaGreatDoorFphr
import Derived.Test.YtihpjgcbmipdbaaGreatDoorPj7
import Derived.Test.YtihpjgcbmipdbaaGreatDoorPj9
import Derived.Test.YtihpjgcbmipdbaaGreatDoorFlaw29
import Derived.Test.YtihpjgcbmipdbaaGreatDoorPu2
/- Phrases: the program's names, gaps, pieces are the plain ones. No condition but on lengths. -/
namespace Go.Vm
open Go.Lib (decodeL decodeN decodeL_N decode_N decodeN_shape decodeL_le)
set_option linter.unusedVariables false
set_option linter.unusedSimpArgs false
/-! ### names -/
theorem xH (p:UInt8→Bool) : ∀ l:By,l.dropWhile p = [] ↔ ∀ x∈l,p x=true
 | []=>by simp
 | c :: l=>by
  by_cases h:p c=true
  ·rw [List.dropWhile_cons_of_pos h,xH p l]
   simp [h]
  ·rw [List.dropWhile_cons_of_neg h]
   simp [h]
theorem Fg (l cs:By):Go.Lib.trimS l cs = [] ↔ l.all (fun c=>cs.contains c)=true:=by
 unfold Go.Lib.trimS Go.Lib.trimLeftS Go.Lib.trimRightS
 rw [List.all_eq_true]
 constructor
 ·intro h
  rw [xH] at h
  have hn:l.reverse.dropWhile (fun c=>cs.contains c) = []:=by
   cases hx:l.reverse.dropWhile (fun c=>cs.contains c) with
   | nil=>rfl
   | cons y t =>
    have hne:l.reverse.dropWhile (fun c=>cs.contains c) ≠ []:=by rw [hx]; simp
    have h1:=List.head_dropWhile_not (fun c=>cs.contains c) hne
    simp only [hx,List.head_cons] at h1
    have h2:=h y (by rw [hx]; simp)
    rw [h1] at h2
    cases h2
  rw [xH] at hn
  intro x hx
  exact hn x (by simpa using hx)
 ·intro h
  have:l.reverse.dropWhile (fun c=>cs.contains c) = []:=by
   rw [xH]
   intro x hx
   exact h x (by simpa using hx)
  rw [this]
  rfl
abbrev nmS:By := [97,98,99,100,101,102,103,104,105,106,107,108,109,110,111,112,113,114,115,116,117,118,119,120,121,122,48,49,50,51,52,53,54,55,56,57]
theorem LC : ∀ c:Fin 256,nmS.contains (UInt8.ofNat c.val)=HL (UInt8.ofNat c.val):=by decide +kernel
theorem LO (c:UInt8):nmS.contains c=HL c:=by
 have:=LC ⟨c.toNat,c.toNat_lt⟩
 simpa using this
theorem zo (F:Nat) (x:By):fp F x=some (nmP x):=by
 unfold fp nmP
 by_cases h0:x = []
 ·subst h0; rfl
 ·have hpos:=List.length_pos_iff.2 h0
  rw [decide_eq_false h0]
  by_cases h12:x.length≤12
  ·have h12':(x.length:Int)≤12:=by omega
   have ht:iK F (x,nmS)=some (Go.Lib.trimS x nmS):=by
    unfold iK DD
    rw [if_pos (by rw [decide_eq_true_eq]; simp only; omega),if_pos (by show decide (nmS.length≤4294967280)=true; decide),if_pos (by show (nmS.all fun b=>decide (b.toNat<128))=true; decide)]
   simp only [Bool.not_false,if_true,decide_eq_true h12',Option.bind_some,ht]
   rw [decide_eq_true (show 1≤x.length from hpos),decide_eq_true h12,Bool.and_true,Bool.and_true]
   congr 1
   rw [Bool.eq_iff_iff,decide_eq_true_eq,Fg]
   have:(fun c=>nmS.contains c)=HL:=funext LO
   rw [this]
  ·have h12' : ¬ (x.length:Int)≤12:=by omega
   simp only [Bool.not_false,if_true,decide_eq_false h12',Option.bind_some,Bool.false_eq_true,if_false,decide_eq_false h12,Bool.and_false]
/-! ### gaps -/
theorem I9 : ∀ c:Fin 256,(av 0 (([37,98,107,109,112]:By),((c.val:Nat):Int))).map (fun i=>decide (0≤i))=some (decide (UInt8.ofNat c.val=37∨UInt8.ofNat c.val=98∨UInt8.ofNat c.val=107∨UInt8.ofNat c.val=109∨UInt8.ofNat c.val=112)):=by decide +kernel
theorem Lw (F:Nat) (c:UInt8) : ∃ i,av F (([37,98,107,109,112]:By),(c.toNat:Int))=some i∧decide (0≤i)=decide (c=37∨c=98∨c=107∨c=109∨c=112):=by
 have h:=I9 ⟨c.toNat,c.toNat_lt⟩
 have h':(av F (([37,98,107,109,112]:By),(c.toNat:Int))).map (fun i=>decide (0≤i)) = _:=h
 obtain ⟨i,h1,h2⟩:=Option.map_eq_some_iff.1 h'
 refine ⟨i,h1,?_⟩
 rw [h2]
 simp
theorem Ih : ∀ q:By,Go.Lib.indexByte q 125=if (q.takeWhile (fun c=>c != 125)).length<q.length then ((q.takeWhile (fun c=>c != 125)).length:Int) else -1
 | []=>rfl
 | c :: q=>by
  have ih:=Ih q
  unfold Go.Lib.indexByte
  by_cases hc:c=125
  ·subst hc
   rw [if_pos (by decide),List.takeWhile_cons_of_neg (by decide),if_pos (by simp)]
   rfl
  ·rw [if_neg (by simpa using hc),List.takeWhile_cons_of_pos (by simpa using hc),List.length_cons,List.length_cons]
   by_cases hl:(q.takeWhile (fun c=>c != 125)).length<q.length
   ·have e:Go.Lib.indexByte q 125=((q.takeWhile (fun c=>c != 125)).length:Int):=by rw [ih,if_pos hl]
    rw [e,if_neg (by simp),if_pos (by omega)]
    rfl
   ·have e:Go.Lib.indexByte q 125 = -1:=by rw [ih,if_neg hl]
    rw [e,if_pos (by decide),if_neg (by omega)]
theorem JA (F:Nat) (x:By):av F (x,125)=some (Go.Lib.indexByte x 125):=rfl
theorem Ll (F:Nat) (r:By) (hr:r.length≤1000):j3 F (37 :: r)=some ((37 :: r:By).take (eA (37 :: r))):=by
 unfold j3
 cases r with
 | nil=>rfl
 | cons b q =>
  have h2 : ¬ (((37 :: b :: q:By).length:Nat):Int)<2:=by simp; omega
  have hi:idx (37 :: b :: q:By) 1=some b:=eE _ 1 _ rfl
  obtain ⟨i,g1,g2⟩:=Lw F b
  rw [if_neg (by rw [decide_eq_true_eq]; exact h2),hi,Option.bind_some,g1,Option.bind_some,g2]
  unfold eA
  simp only
  by_cases hc:b=37∨b=98∨b=107∨b=109∨b=112
  ·rw [if_pos (decide_eq_true hc),if_pos hc]
   have hs:=lh (37 :: b :: q:By) 0 2 (by decide) (by simp)
   have hs':sub (37 :: b :: q:By) 0 2=some ((37 :: b :: q:By).take 2):=hs
   rw [hs',Option.bind_some]
  ·rw [if_neg (by rw [decide_eq_true_eq]; exact hc),if_neg hc]
   have n123:=nv b 123
   rw [show ((123:UInt8).toNat:Int)=123 from rfl] at n123
   simp only [JA,Option.bind_some,n123]
   by_cases hb:b=123
   ·subst hb
    have e:Go.Lib.indexByte (37 :: 123 :: q) 125=if (q.takeWhile (fun c=>c != 125)).length<q.length then (((q.takeWhile (fun c=>c != 125)).length+2:Nat):Int) else -1:=by
     rw [Ih,List.takeWhile_cons_of_pos (by decide),List.takeWhile_cons_of_pos (by decide)]
     simp only [List.length_cons]
     by_cases hl:(q.takeWhile (fun c=>c != 125)).length<q.length
     ·rw [if_pos hl,if_pos (by omega)]
     ·rw [if_neg hl,if_neg (by omega)]
    rw [e]
    rw [if_pos rfl]
    by_cases hl:(q.takeWhile (fun c=>c != 125)).length<q.length
    ·rw [if_pos hl]
     have hneg : ¬ (((q.takeWhile (fun c=>c != 125)).length+2:Nat):Int)<0:=by omega
     have hs:sub (37 :: 123 :: q:By) 2 (((q.takeWhile (fun c=>c != 125)).length+2:Nat):Int)=some (q.takeWhile (fun c=>c != 125)):=by
      have:=lh (37 :: 123 :: q:By) 2 ((q.takeWhile (fun c=>c != 125)).length+2) (by omega) (by simp; omega)
      refine (this : _ = _).trans ?_
      rw [show (37 :: 123 :: q:By).drop 2=q from rfl,Nat.add_sub_cancel]
      congr 1
      conv=>rhs; rw [← List.take_length (l:=q.takeWhile (fun c=>c != 125))]
      exact (congrArg (List.take _) (List.takeWhile_append_dropWhile (p:=fun c=>c != 125) (l:=q)).symm).trans (List.take_append_of_le_length (Nat.le_refl _))
     simp only [decide_true,Bool.not_true,if_true,decide_eq_false hneg,Option.bind_some,hs,zo]
     by_cases hn:nmP (q.takeWhile (fun c=>c != 125))=true
     ·have hg:(if (q.takeWhile (fun c=>c != 125)).length<q.length∧nmP (q.takeWhile (fun c=>c != 125))=true then (q.takeWhile (fun c=>c != 125)).length+3 else 0)=(q.takeWhile (fun c=>c != 125)).length+3:=if_pos ⟨hl,hn⟩
      rw [hg,hn]
      have hs2:sub (37 :: 123 :: q:By) 0 (IntKind.i64.wrap ((((q.takeWhile (fun c=>c != 125)).length+2:Nat):Int)+1))=some ((37 :: 123 :: q:By).take ((q.takeWhile (fun c=>c != 125)).length+3)):=by
       have h3:IntKind.i64.wrap ((((q.takeWhile (fun c=>c != 125)).length+2:Nat):Int)+1)=(((q.takeWhile (fun c=>c != 125)).length+3:Nat):Int):=by
        simp only [List.length_cons] at hr
        rw [wrap64 _ (by omega) (by omega)]
        omega
       rw [h3]
       have:=lh (37 :: 123 :: q:By) 0 ((q.takeWhile (fun c=>c != 125)).length+3) (by omega) (by simp; omega)
       rw [List.drop_zero,Nat.sub_zero] at this
       exact this
      simp only [Bool.not_true,Bool.false_eq_true,if_false,hs2,Option.bind_some]
     ·have hn':nmP (q.takeWhile (fun c=>c != 125))=false:=by simpa using hn
      have hg:(if (q.takeWhile (fun c=>c != 125)).length<q.length∧nmP (q.takeWhile (fun c=>c != 125))=true then (q.takeWhile (fun c=>c != 125)).length+3 else 0)=0:=if_neg (fun hh=>hn hh.2)
      rw [hg,hn']
      rfl
    ·have hg:(if (q.takeWhile (fun c=>c != 125)).length<q.length∧nmP (q.takeWhile (fun c=>c != 125))=true then (q.takeWhile (fun c=>c != 125)).length+3 else 0)=0:=if_neg (fun hh=>hl hh.1)
     rw [hg,if_neg hl]
     rfl
   ·rw [if_neg hb,decide_eq_false hb]
    rfl
where
 nv (c k:UInt8):((c.toNat:Int)=(k.toNat:Int))=(c=k):=by
  apply propext
  constructor
  ·intro hh; exact UInt8.toNat_inj.1 (by omega)
  ·intro hh; rw [hh]
/-! ### pieces -/
abbrev CS:=By×Unit×Int×Unit×(By×Nat)×List Pc×Unit
def cS (s:By) (b:Int) (p:Nat) (out:List Pc):CS:=(s,(),b,(),(s,p),out,())
theorem H0 (F:Nat) (s:By) (b:Int) (p:Nat) (out:List Pc) (h:p<s.length) (hb:(p:Int)<b):bc F (cS s b p out)=some (.inl (cS s b (p+runeLen s p) out)):=by
 unfold bc cS
 rw [if_pos (by rw [decide_eq_true_eq]; exact h),if_pos (by rw [decide_eq_true_eq]; exact hb)]
theorem xC (s:By) (out:List Pc) (y:Unit×List Pc×Unit ⊕ Unit×Bool×List Pc×Unit) : ∀ (n p:Nat),p+n≤s.length→(∀ b∈(s.drop p).take n,JB b)→ag bc (cS s ((p+n:Nat):Int) (p+n) out) y→ag bc (cS s ((p+n:Nat):Int) p out) y
 | 0,p,h,hb,hy=>hy
 | n+1,p,h,hb,hy=>by
  have hp:p<s.length:=by omega
  have hd:s.drop p=s[p] :: s.drop (p+1):=List.drop_eq_getElem_cons hp
  have hpl:JB s[p]:=hb s[p] (by rw [hd,List.take_succ_cons]; exact List.mem_cons_self ..)
  have hrl:runeLen s p=1:=by rw [dN,hd,xS _ (by have:=hpl.2; omega)]
  have e:p+(n+1)=p+1+n:=by omega
  rw [e] at hy ⊢
  refine ag.step (.of fun F=>H0 F s _ p out hp (by omega)) ?_
  rw [hrl]
  exact xC s out y n (p+1) (by omega) (fun b hb'=>hb b (by rw [hd,List.take_succ_cons]; exact List.mem_cons_of_mem _ hb')) hy
def Jv (out:List Pc) (x:Option (List Pc)):Unit×List Pc×Unit ⊕ Unit×Bool×List Pc×Unit:=match x with
 | some l => .inl ((),out ++ l,())
 | none => .inr ((),false,[],())
theorem Hk (s:By) (hs:s.length≤1000) : ∀ (n p:Nat) (b:Int) (out:List Pc),p≤s.length→s.length - p≤n→b≤(p:Int)→out.length+(s.length - p)≤1000→ag bc (cS s b p out) (Jv out (oB (s.drop p))):=by
 intro n
 induction n with
 | zero =>
  intro p b out hp hn hb ho
  rw [List.drop_eq_nil_of_le (by omega),qm]
  refine ag.fin (.of fun F => ?_)
  unfold bc cS
  rw [if_neg (by rw [decide_eq_true_eq]; simp only; omega)]
  show _=some (Sum.inr (Sum.inl ((),out ++ [],())))
  rw [List.append_nil]
 | succ n ih =>
  intro p b out hp hn hb ho
  by_cases hlt:p<s.length
  case neg =>
   rw [List.drop_eq_nil_of_le (by omega),qm]
   refine ag.fin (.of fun F => ?_)
   unfold bc cS
   rw [if_neg (by rw [decide_eq_true_eq]; exact hlt)]
   show _=some (Sum.inr (Sum.inl ((),out ++ [],())))
   rw [List.append_nil]
  have hd:s.drop p=s[p] :: s.drop (p+1):=List.drop_eq_getElem_cons hlt
  have hra:=fS s p
  have hrl:=dN s p
  have hnb : ¬ (p:Int)<b:=by omega
  have hlen:(s.drop p).length=s.length - p:=List.length_drop
  rw [hd] at hra hrl hlen ⊢
  rw [w9]
  generalize hr:s.drop (p+1)=r at *
  generalize hc:s[p]=c at *
  have hle:=decodeL_le (c :: r) (by simp)
  have hpos:=bg (c :: r)
  have hok:=qJ (c :: r)
  by_cases hs0:cR ((decodeL (c :: r)).1:Int)=0
  ·rw [if_pos hs0]
   refine ag.fin (.of fun F => ?_)
   unfold bc cS
   rw [if_pos (by rw [decide_eq_true_eq]; exact hlt),if_neg (by rw [decide_eq_true_eq]; exact hnb)]
   simp only [hra,iX,Option.bind_some,hs0]
   rfl
  rw [if_neg hs0]
  have hbad : ¬ ((decodeL (c :: r)).1=65533∧(decodeL (c :: r)).2=1):=by
   rintro ⟨h1,_⟩
   rw [h1] at hs0
   exact hs0 (by decide)
  have hten:=ko (c :: r) (by simp) hbad
  have hel:(bF (decodeL (c :: r)).1).length=(decodeL (c :: r)).2:=by rw [← hten,List.length_take]; omega
  have hrn:=fun F=>lN F _ hok
  have hsub : ∀ m:Nat,m≤(c :: r:By).length→sub s (p:Int) (IntKind.i64.wrap ((p:Int)+(m:Int)))=some ((c :: r).take m):=by
   intro m hm
   have hw:IntKind.i64.wrap ((p:Int)+(m:Int))=((p+m:Nat):Int):=by rw [wrap64 _ (by omega) (by omega)]; omega
   rw [hw,lh s p (p+m) (by omega) (by omega),hd,Nat.add_sub_cancel_left]
  have hsub1:=hsub (decodeL (c :: r)).2 hle
  have hpm:p+(decodeL (c :: r)).2≤s.length:=by omega
  have hdd : ∀ m,(c :: r:By).drop m=s.drop (p+m):=by
   intro m
   rw [← List.drop_drop,hd]
  by_cases h37:c=37
  ·rw [if_pos h37]
   subst h37
   have hd1:decodeL (37 :: r)=(37,1):=xS 37 (by decide) r
   have hse:sub s (p:Int) (s.length:Int)=some (37 :: r):=by rw [gD s p (by omega),hd]
   have hgp:=fun F=>Ll F r (by simp only [List.length_cons] at hlen; omega)
   have hgle:=Eb (37 :: r)
   have hra':bN s p=37:=by rw [hra,hd1]; rfl
   have hrl':runeLen s p=1:=by rw [hrl,hd1]
   have hs37:decide (cR 37=0)=false:=by decide
   have hrn37 : ∀ F,aV F 37=some 1:=fun F=>rfl
   have hsub37:sub s (p:Int) (IntKind.i64.wrap ((p:Int)+1))=some [37]:=hsub 1 (by simp)
   by_cases hg:eA (37 :: r)=0
   ·rw [if_pos hg]
    refine ag.fin (.of fun F => ?_)
    have hgp':=hgp F
    rw [hg,List.take_zero] at hgp'
    unfold bc cS
    rw [if_pos (by rw [decide_eq_true_eq]; exact hlt),if_neg (by rw [decide_eq_true_eq]; exact hnb)]
    simp only [hra',hrl',iX,Option.bind_some,hs37,Bool.false_eq_true,if_false,hrn37,hsub37,decide_true,if_true,hse,hgp']
    rfl
   ·rw [if_neg hg]
    have hgl:((37 :: r:By).take (eA (37 :: r))).length=eA (37 :: r):=by rw [List.length_take]; omega
    have hgne : ¬ (37 :: r:By).take (eA (37 :: r)) = []:=by
     intro hh
     rw [hh] at hgl
     exact hg hgl.symm
    have hw:IntKind.i64.wrap ((p:Int)+(eA (37 :: r):Int))=((p+eA (37 :: r):Nat):Int):=by rw [wrap64 _ (by omega) (by omega)]; omega
    have h1:=uQ (37 :: r)
    refine ag.step (x':=cS s ((p+eA (37 :: r):Nat):Int) (p+1) (out ++ [(true,(37 :: r:By).take (eA (37 :: r)),())])) (.of fun F => ?_) ?_
    ·unfold bc cS
     rw [if_pos (by rw [decide_eq_true_eq]; exact hlt),if_neg (by rw [decide_eq_true_eq]; exact hnb)]
     simp only [hra',hrl',iX,Option.bind_some,hs37,Bool.false_eq_true,if_false,hrn37,hsub37,decide_true,if_true,hse,hgp F,decide_eq_false hgne,aG,hgl,hw]
     rw [if_pos (by rw [decide_eq_true_eq]; simp only [List.length_singleton]; omega)]
    ·have hsk:=xC s (out ++ [(true,(37 :: r:By).take (eA (37 :: r)),())]) (Jv out ((oB ((37 :: r:By).drop (eA (37 :: r)))).map fun l=>(true,(37 :: r:By).take (eA (37 :: r)),()) :: l)) (eA (37 :: r) - 1) (p+1) (by omega) ?_ ?_
     ·rw [show p+1+(eA (37 :: r) - 1)=p+eA (37 :: r) by omega] at hsk
      exact hsk
     ·intro b hb'
      refine BH r b ?_
      rw [hr] at hb'
      obtain ⟨k,hk⟩ : ∃ k,eA (37 :: r)=k+1:=⟨eA (37 :: r) - 1,by omega⟩
      rw [hk] at hb' ⊢
      rw [List.take_succ_cons]
      exact List.mem_cons_of_mem _ hb'
     ·rw [show p+1+(eA (37 :: r) - 1)=p+eA (37 :: r) by omega]
      have:=ih (p+eA (37 :: r)) ((p+eA (37 :: r):Nat):Int) (out ++ [(true,(37 :: r:By).take (eA (37 :: r)),())]) (by omega) (by omega) (by omega) (by rw [List.length_append,List.length_singleton]; omega)
      rw [← hdd] at this
      cases hx:oB ((37 :: r:By).drop (eA (37 :: r))) with
      | none=>rw [hx] at this; exact this
      | some l =>
       rw [hx] at this
       unfold Jv at this ⊢
       simp only [Option.map_some] at this ⊢
       rw [List.append_assoc] at this
       exact this
  ·rw [if_neg h37]
   have hn37 : ¬ ((decodeL (c :: r)).1:Int)=37:=by
    intro hh
    have h1:(decodeL (c :: r)).1=37:=by omega
    rw [h1] at hten
    have e:bF 37 = [37]:=rfl
    obtain ⟨k,hk⟩ : ∃ k,(decodeL (c :: r)).2=k+1:=⟨(decodeL (c :: r)).2 - 1,by omega⟩
    rw [e,hk,List.take_succ_cons] at hten
    injection hten with h2 _
    exact h37 h2
   have htl:((c :: r).take (decodeL (c :: r)).2).length=(decodeL (c :: r)).2:=by rw [List.length_take]; omega
   have hw:IntKind.i64.wrap ((p:Int)+((decodeL (c :: r)).2:Int))=((p+(decodeL (c :: r)).2:Nat):Int):=by rw [wrap64 _ (by omega) (by omega)]; omega
   rw [hw] at hsub1
   refine ag.step (x':=cS s ((p+(decodeL (c :: r)).2:Nat):Int) (p+(decodeL (c :: r)).2) (out ++ [(false,(c :: r).take (decodeL (c :: r)).2,())])) (.of fun F => ?_) ?_
   ·unfold bc cS
    rw [if_pos (by rw [decide_eq_true_eq]; exact hlt),if_neg (by rw [decide_eq_true_eq]; exact hnb)]
    simp only [hra,hrl,iX,Option.bind_some,decide_eq_false hs0,Bool.false_eq_true,if_false,hrn F,hel,hsub1,decide_eq_false hn37,aG,htl,hw]
    rw [if_pos (by rw [decide_eq_true_eq]; simp only [List.length_singleton]; omega)]
   ·have:=ih (p+(decodeL (c :: r)).2) ((p+(decodeL (c :: r)).2:Nat):Int) (out ++ [(false,(c :: r).take (decodeL (c :: r)).2,())]) hpm (by omega) (by omega) (by rw [List.length_append,List.length_singleton]; omega)
    rw [← hdd] at this
    cases hx:oB ((c :: r).drop (decodeL (c :: r)).2) with
    | none=>rw [hx] at this; exact this
    | some l =>
     rw [hx] at this
     unfold Jv at this ⊢
     simp only [Option.map_some] at this ⊢
     rw [List.append_assoc] at this
     exact this
def Jo (s:By):List Pc×Bool:=if 60<s.length then ([],false) else match oB s with
 | some l=>(l,true)
 | none=>([],false)
theorem Kh (s:By) (hs:s.length≤1000):ae (fun F=>iH F s) (Jo s):=by
 unfold iH Jo
 by_cases h6:60<s.length
 ·rw [if_pos h6]
  exact ae.pos (by rw [decide_eq_true_eq]; omega) (.ret _)
 ·rw [if_neg h6]
  refine ae.neg (by rw [decide_eq_true_eq]; omega) ?_
  have h:=Hk s hs s.length 0 0 [] (by omega) (by omega) (by decide) (by simp; omega)
  rw [List.drop_zero] at h
  refine ae.bind h.run ?_
  cases oB s with
  | none=>exact .of fun F=>rfl
  | some l=>exact .of fun F=>rfl
end Go.Vm
/- A sign's bytes as the document has them, plainly. No condition but on lengths. -/
namespace Go.Vm
open Go.Lib (decodeL decodeN decodeL_N decode_N decodeN_shape decodeL_le)
set_option linter.unusedVariables false
set_option linter.unusedSimpArgs false
end Go.Vm
