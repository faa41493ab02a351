/- Phrases: the program's names, gaps, pieces are the plain ones. No condition but on lengths. -/
import Derived.Test.YtihpjgcbmipdbaaGreatDoorFphr
import Derived.Test.YtihpjgcbmipdbaaGreatDoorPh2
import Derived.Test.YtihpjgcbmipdbaaGreatDoorPj9
namespace Go.Vm
open Go.Lib (decodeL decodeN decodeL_N decode_N decodeN_shape decodeL_le)
set_option linter.unusedVariables false
set_option linter.unusedSimpArgs false
/-! ### names -/
theorem zK (p:UInt8→Bool) : ∀ l:By,l.dropWhile p = [] ↔ ∀ x∈l,p x=true
 | []=>by simp
 | c :: l=>by
  by_cases h:p c=true
  ·rw [List.dropWhile_cons_of_pos h,zK p l]
   simp [h]
  ·rw [List.dropWhile_cons_of_neg h]
   simp [h]
theorem F6 (l cs:By):Go.Lib.trimS l cs = [] ↔ l.all (fun c=>cs.contains c)=true:=by
 unfold Go.Lib.trimS Go.Lib.trimLeftS Go.Lib.trimRightS
 rw [List.all_eq_true]
 constructor
 ·intro h
  rw [zK] at h
  have hn:l.reverse.dropWhile (fun c=>cs.contains c) = []:=by
   cases hx:l.reverse.dropWhile (fun c=>cs.contains c) with
   | nil=>rfl
   | cons y t =>
    have hne:l.reverse.dropWhile (fun c=>cs.contains c) ≠ []:=by rw [hx]; simp
    have h1:=List.head_dropWhile_not (fun c=>cs.contains c) hne
    simp only [hx,List.head_cons] at h1
    have h2:=h y (by rw [hx]; simp)
    rw [h1] at h2
    cases h2
  rw [zK] at hn
  intro x hx
  exact hn x (by simpa using hx)
 ·intro h
  have:l.reverse.dropWhile (fun c=>cs.contains c) = []:=by
   rw [zK]
   intro x hx
   exact h x (by simpa using hx)
  rw [this]
  rfl
abbrev nmS:By := [97,98,99,100,101,102,103,104,105,106,107,108,109,110,111,112,113,114,115,116,117,118,119,120,121,122,48,49,50,51,52,53,54,55,56,57]
theorem Ls : ∀ c:Fin 256,nmS.contains (UInt8.ofNat c.val)=uo (UInt8.ofNat c.val):=by decide +kernel
theorem Mu (c:UInt8):nmS.contains c=uo c:=by
 have:=Ls ⟨c.toNat,c.toNat_lt⟩
 simpa using this
theorem zE (F:Nat) (x:By):gm F x=some (nmP x):=by
 unfold gm nmP
 by_cases h0:x = []
 ·subst h0; rfl
 ·have hpos:=List.length_pos_iff.2 h0
  rw [decide_eq_false h0]
  by_cases h12:x.length≤12
  ·have h12':(x.length:Int)≤12:=by omega
   have ht:jm F (x,nmS)=some (Go.Lib.trimS x nmS):=by
    unfold jm Et
    rw [if_pos (by rw [decide_eq_true_eq]; simp only; omega),if_pos (by show decide (nmS.length≤4294967280)=true; decide),if_pos (by show (nmS.all fun b=>decide (b.toNat<128))=true; decide)]
   simp only [Bool.not_false,if_true,decide_eq_true h12',Option.bind_some,ht]
   rw [decide_eq_true (show 1≤x.length from hpos),decide_eq_true h12,Bool.and_true,Bool.and_true]
   congr 1
   rw [Bool.eq_iff_iff,decide_eq_true_eq,F6]
   have:(fun c=>nmS.contains c)=uo:=funext Mu
   rw [this]
  ·have h12' : ¬ (x.length:Int)≤12:=by omega
   simp only [Bool.not_false,if_true,decide_eq_false h12',Option.bind_some,Bool.false_eq_true,if_false,decide_eq_false h12,Bool.and_false]
/-! ### gaps -/
theorem Ji : ∀ c:Fin 256,(aR 0 (([37,98,107,109,112]:By),((c.val:Nat):Int))).map (fun i=>decide (0≤i))=some (decide (UInt8.ofNat c.val=37∨UInt8.ofNat c.val=98∨UInt8.ofNat c.val=107∨UInt8.ofNat c.val=109∨UInt8.ofNat c.val=112)):=by decide +kernel
theorem LN (F:Nat) (c:UInt8) : ∃ i,aR F (([37,98,107,109,112]:By),(c.toNat:Int))=some i∧decide (0≤i)=decide (c=37∨c=98∨c=107∨c=109∨c=112):=by
 have h:=Ji ⟨c.toNat,c.toNat_lt⟩
 have h':(aR F (([37,98,107,109,112]:By),(c.toNat:Int))).map (fun i=>decide (0≤i)) = _:=h
 obtain ⟨i,h1,h2⟩:=Option.map_eq_some_iff.1 h'
 refine ⟨i,h1,?_⟩
 rw [h2]
 simp
theorem IC : ∀ q:By,Go.Lib.indexByte q 125=if (q.takeWhile (fun c=>c != 125)).length<q.length then ((q.takeWhile (fun c=>c != 125)).length:Int) else -1
 | []=>rfl
 | c :: q=>by
  have ih:=IC q
  unfold Go.Lib.indexByte
  by_cases hc:c=125
  ·subst hc
   rw [if_pos (by decide),List.takeWhile_cons_of_neg (by decide),if_pos (by simp)]
   rfl
  ·rw [if_neg (by simpa using hc),List.takeWhile_cons_of_pos (by simpa using hc),List.length_cons,List.length_cons]
   by_cases hl:(q.takeWhile (fun c=>c != 125)).length<q.length
   ·have e:Go.Lib.indexByte q 125=((q.takeWhile (fun c=>c != 125)).length:Int):=by rw [ih,if_pos hl]
    rw [e,if_neg (by simp),if_pos (by omega)]
    rfl
   ·have e:Go.Lib.indexByte q 125 = -1:=by rw [ih,if_neg hl]
    rw [e,if_pos (by decide),if_neg (by omega)]
theorem J7 (F:Nat) (x:By):aR F (x,125)=some (Go.Lib.indexByte x 125):=rfl
theorem Ly (F:Nat) (r:By) (hr:r.length≤1000):k6 F (37 :: r)=some ((37 :: r:By).take (bM (37 :: r))):=by
 unfold k6
 cases r with
 | nil=>rfl
 | cons b q =>
  have h2 : ¬ (((37 :: b :: q:By).length:Nat):Int)<2:=by simp; omega
  have hi:idx (37 :: b :: q:By) 1=some b:=bn _ 1 _ rfl
  obtain ⟨i,g1,g2⟩:=LN F b
  rw [if_neg (by rw [decide_eq_true_eq]; exact h2),hi,Option.bind_some,g1,Option.bind_some,g2]
  unfold bM
  simp only
  by_cases hc:b=37∨b=98∨b=107∨b=109∨b=112
  ·rw [if_pos (decide_eq_true hc),if_pos hc]
   have hs:=fE (37 :: b :: q:By) 0 2 (by decide) (by simp)
   have hs':sub (37 :: b :: q:By) 0 2=some ((37 :: b :: q:By).take 2):=hs
   rw [hs',Option.bind_some]
  ·rw [if_neg (by rw [decide_eq_true_eq]; exact hc),if_neg hc]
   have n123:=nv b 123
   rw [show ((123:UInt8).toNat:Int)=123 from rfl] at n123
   simp only [J7,Option.bind_some,n123]
   by_cases hb:b=123
   ·subst hb
    have e:Go.Lib.indexByte (37 :: 123 :: q) 125=if (q.takeWhile (fun c=>c != 125)).length<q.length then (((q.takeWhile (fun c=>c != 125)).length+2:Nat):Int) else -1:=by
     rw [IC,List.takeWhile_cons_of_pos (by decide),List.takeWhile_cons_of_pos (by decide)]
     simp only [List.length_cons]
     by_cases hl:(q.takeWhile (fun c=>c != 125)).length<q.length
     ·rw [if_pos hl,if_pos (by omega)]
     ·rw [if_neg hl,if_neg (by omega)]
    rw [e]
    rw [if_pos rfl]
    by_cases hl:(q.takeWhile (fun c=>c != 125)).length<q.length
    ·rw [if_pos hl]
     have hneg : ¬ (((q.takeWhile (fun c=>c != 125)).length+2:Nat):Int)<0:=by omega
     have hs:sub (37 :: 123 :: q:By) 2 (((q.takeWhile (fun c=>c != 125)).length+2:Nat):Int)=some (q.takeWhile (fun c=>c != 125)):=by
      have:=fE (37 :: 123 :: q:By) 2 ((q.takeWhile (fun c=>c != 125)).length+2) (by omega) (by simp; omega)
      refine (this : _ = _).trans ?_
      rw [show (37 :: 123 :: q:By).drop 2=q from rfl,Nat.add_sub_cancel]
      congr 1
      conv=>rhs; rw [← List.take_length (l:=q.takeWhile (fun c=>c != 125))]
      exact (congrArg (List.take _) (List.takeWhile_append_dropWhile (p:=fun c=>c != 125) (l:=q)).symm).trans (List.take_append_of_le_length (Nat.le_refl _))
     simp only [decide_true,Bool.not_true,if_true,decide_eq_false hneg,Option.bind_some,hs,zE]
     by_cases hn:nmP (q.takeWhile (fun c=>c != 125))=true
     ·have hg:(if (q.takeWhile (fun c=>c != 125)).length<q.length∧nmP (q.takeWhile (fun c=>c != 125))=true then (q.takeWhile (fun c=>c != 125)).length+3 else 0)=(q.takeWhile (fun c=>c != 125)).length+3:=if_pos ⟨hl,hn⟩
      rw [hg,hn]
      have hs2:sub (37 :: 123 :: q:By) 0 (IntKind.i64.wrap ((((q.takeWhile (fun c=>c != 125)).length+2:Nat):Int)+1))=some ((37 :: 123 :: q:By).take ((q.takeWhile (fun c=>c != 125)).length+3)):=by
       have h3:IntKind.i64.wrap ((((q.takeWhile (fun c=>c != 125)).length+2:Nat):Int)+1)=(((q.takeWhile (fun c=>c != 125)).length+3:Nat):Int):=by
        simp only [List.length_cons] at hr
        rw [wrap64 _ (by omega) (by omega)]
        omega
       rw [h3]
       have:=fE (37 :: 123 :: q:By) 0 ((q.takeWhile (fun c=>c != 125)).length+3) (by omega) (by simp; omega)
       rw [List.drop_zero,Nat.sub_zero] at this
       exact this
      simp only [Bool.not_true,Bool.false_eq_true,if_false,hs2,Option.bind_some]
     ·have hn':nmP (q.takeWhile (fun c=>c != 125))=false:=by simpa using hn
      have hg:(if (q.takeWhile (fun c=>c != 125)).length<q.length∧nmP (q.takeWhile (fun c=>c != 125))=true then (q.takeWhile (fun c=>c != 125)).length+3 else 0)=0:=if_neg (fun hh=>hn hh.2)
      rw [hg,hn']
      rfl
    ·have hg:(if (q.takeWhile (fun c=>c != 125)).length<q.length∧nmP (q.takeWhile (fun c=>c != 125))=true then (q.takeWhile (fun c=>c != 125)).length+3 else 0)=0:=if_neg (fun hh=>hl hh.1)
     rw [hg,if_neg hl]
     rfl
   ·rw [if_neg hb,decide_eq_false hb]
    rfl
where
 nv (c k:UInt8):((c.toNat:Int)=(k.toNat:Int))=(c=k):=by
  apply propext
  constructor
  ·intro hh; exact UInt8.toNat_inj.1 (by omega)
  ·intro hh; rw [hh]
/-! ### pieces -/
abbrev CS:=By×Unit×Int×Unit×(By×Nat)×List Pc×Unit
def cS (s:By) (b:Int) (p:Nat) (out:List Pc):CS:=(s,(),b,(),(s,p),out,())
theorem Ij (F:Nat) (s:By) (b:Int) (p:Nat) (out:List Pc) (h:p<s.length) (hb:(p:Int)<b):bD F (cS s b p out)=some (.inl (cS s b (p+runeLen s p) out)):=by
 unfold bD cS
 rw [if_pos (by rw [decide_eq_true_eq]; exact h),if_pos (by rw [decide_eq_true_eq]; exact hb)]
theorem yD (s:By) (out:List Pc) (y:Unit×List Pc×Unit ⊕ Unit×Bool×List Pc×Unit) : ∀ (n p:Nat),p+n≤s.length→(∀ b∈(s.drop p).take n,Ce b)→af bD (cS s ((p+n:Nat):Int) (p+n) out) y→af bD (cS s ((p+n:Nat):Int) p out) y
 | 0,p,h,hb,hy=>hy
 | n+1,p,h,hb,hy=>by
  have hp:p<s.length:=by omega
  have hd:s.drop p=s[p] :: s.drop (p+1):=List.drop_eq_getElem_cons hp
  have hpl:Ce s[p]:=hb s[p] (by rw [hd,List.take_succ_cons]; exact List.mem_cons_self ..)
  have hrl:runeLen s p=1:=by rw [fU,hd,r5 _ (by have:=hpl.2; omega)]
  have e:p+(n+1)=p+1+n:=by omega
  rw [e] at hy ⊢
  refine af.step (.of fun F=>Ij F s _ p out hp (by omega)) ?_
  rw [hrl]
  exact yD s out y n (p+1) (by omega) (fun b hb'=>hb b (by rw [hd,List.take_succ_cons]; exact List.mem_cons_of_mem _ hb')) hy
def Jy (out:List Pc) (x:Option (List Pc)):Unit×List Pc×Unit ⊕ Unit×Bool×List Pc×Unit:=match x with
 | some l => .inl ((),out ++ l,())
 | none => .inr ((),false,[],())
theorem GQ (s:By) (hs:s.length≤1000) : ∀ (n p:Nat) (b:Int) (out:List Pc),p≤s.length→s.length - p≤n→b≤(p:Int)→out.length+(s.length - p)≤1000→af bD (cS s b p out) (Jy out (lG (s.drop p))):=by
 intro n
 induction n with
 | zero =>
  intro p b out hp hn hb ho
  rw [List.drop_eq_nil_of_le (by omega),rL]
  refine af.fin (.of fun F => ?_)
  unfold bD cS
  rw [if_neg (by rw [decide_eq_true_eq]; simp only; omega)]
  show _=some (Sum.inr (Sum.inl ((),out ++ [],())))
  rw [List.append_nil]
 | succ n ih =>
  intro p b out hp hn hb ho
  by_cases hlt:p<s.length
  case neg =>
   rw [List.drop_eq_nil_of_le (by omega),rL]
   refine af.fin (.of fun F => ?_)
   unfold bD cS
   rw [if_neg (by rw [decide_eq_true_eq]; exact hlt)]
   show _=some (Sum.inr (Sum.inl ((),out ++ [],())))
   rw [List.append_nil]
  have hd:s.drop p=s[p] :: s.drop (p+1):=List.drop_eq_getElem_cons hlt
  have hra:=lh s p
  have hrl:=fU s p
  have hnb : ¬ (p:Int)<b:=by omega
  have hlen:(s.drop p).length=s.length - p:=List.length_drop
  rw [hd] at hra hrl hlen ⊢
  rw [tq]
  generalize hr:s.drop (p+1)=r at *
  generalize hc:s[p]=c at *
  have hle:=decodeL_le (c :: r) (by simp)
  have hpos:=bC (c :: r)
  have hok:=mf (c :: r)
  by_cases hs0:bA ((decodeL (c :: r)).1:Int)=0
  ·rw [if_pos hs0]
   refine af.fin (.of fun F => ?_)
   unfold bD cS
   rw [if_pos (by rw [decide_eq_true_eq]; exact hlt),if_neg (by rw [decide_eq_true_eq]; exact hnb)]
   simp only [hra,nz,Option.bind_some,hs0]
   rfl
  rw [if_neg hs0]
  have hbad : ¬ ((decodeL (c :: r)).1=65533∧(decodeL (c :: r)).2=1):=by
   rintro ⟨h1,_⟩
   rw [h1] at hs0
   exact hs0 (by decide)
  have hten:=gV (c :: r) (by simp) hbad
  have hel:(bw (decodeL (c :: r)).1).length=(decodeL (c :: r)).2:=by rw [← hten,List.length_take]; omega
  have hrn:=fun F=>mO F _ hok
  have hsub : ∀ m:Nat,m≤(c :: r:By).length→sub s (p:Int) (IntKind.i64.wrap ((p:Int)+(m:Int)))=some ((c :: r).take m):=by
   intro m hm
   have hw:IntKind.i64.wrap ((p:Int)+(m:Int))=((p+m:Nat):Int):=by rw [wrap64 _ (by omega) (by omega)]; omega
   rw [hw,fE s p (p+m) (by omega) (by omega),hd,Nat.add_sub_cancel_left]
  have hsub1:=hsub (decodeL (c :: r)).2 hle
  have hpm:p+(decodeL (c :: r)).2≤s.length:=by omega
  have hdd : ∀ m,(c :: r:By).drop m=s.drop (p+m):=by
   intro m
   rw [← List.drop_drop,hd]
  by_cases h37:c=37
  ·rw [if_pos h37]
   subst h37
   have hd1:decodeL (37 :: r)=(37,1):=r5 37 (by decide) r
   have hse:sub s (p:Int) (s.length:Int)=some (37 :: r):=by rw [ek s p (by omega),hd]
   have hgp:=fun F=>Ly F r (by simp only [List.length_cons] at hlen; omega)
   have hgle:=uO (37 :: r)
   have hra':dB s p=37:=by rw [hra,hd1]; rfl
   have hrl':runeLen s p=1:=by rw [hrl,hd1]
   have hs37:decide (bA 37=0)=false:=by decide
   have hrn37 : ∀ F,bp F 37=some 1:=fun F=>rfl
   have hsub37:sub s (p:Int) (IntKind.i64.wrap ((p:Int)+1))=some [37]:=hsub 1 (by simp)
   by_cases hg:bM (37 :: r)=0
   ·rw [if_pos hg]
    refine af.fin (.of fun F => ?_)
    have hgp':=hgp F
    rw [hg,List.take_zero] at hgp'
    unfold bD cS
    rw [if_pos (by rw [decide_eq_true_eq]; exact hlt),if_neg (by rw [decide_eq_true_eq]; exact hnb)]
    simp only [hra',hrl',nz,Option.bind_some,hs37,Bool.false_eq_true,if_false,hrn37,hsub37,decide_true,if_true,hse,hgp']
    rfl
   ·rw [if_neg hg]
    have hgl:((37 :: r:By).take (bM (37 :: r))).length=bM (37 :: r):=by rw [List.length_take]; omega
    have hgne : ¬ (37 :: r:By).take (bM (37 :: r)) = []:=by
     intro hh
     rw [hh] at hgl
     exact hg hgl.symm
    have hw:IntKind.i64.wrap ((p:Int)+(bM (37 :: r):Int))=((p+bM (37 :: r):Nat):Int):=by rw [wrap64 _ (by omega) (by omega)]; omega
    have h1:=lJ (37 :: r)
    refine af.step (x':=cS s ((p+bM (37 :: r):Nat):Int) (p+1) (out ++ [(true,(37 :: r:By).take (bM (37 :: r)),())])) (.of fun F => ?_) ?_
    ·unfold bD cS
     rw [if_pos (by rw [decide_eq_true_eq]; exact hlt),if_neg (by rw [decide_eq_true_eq]; exact hnb)]
     simp only [hra',hrl',nz,Option.bind_some,hs37,Bool.false_eq_true,if_false,hrn37,hsub37,decide_true,if_true,hse,hgp F,decide_eq_false hgne,ax,hgl,hw]
     rw [if_pos (by rw [decide_eq_true_eq]; simp only [List.length_singleton]; omega)]
    ·have hsk:=yD s (out ++ [(true,(37 :: r:By).take (bM (37 :: r)),())]) (Jy out ((lG ((37 :: r:By).drop (bM (37 :: r)))).map fun l=>(true,(37 :: r:By).take (bM (37 :: r)),()) :: l)) (bM (37 :: r) - 1) (p+1) (by omega) ?_ ?_
     ·rw [show p+1+(bM (37 :: r) - 1)=p+bM (37 :: r) by omega] at hsk
      exact hsk
     ·intro b hb'
      refine vT r b ?_
      rw [hr] at hb'
      obtain ⟨k,hk⟩ : ∃ k,bM (37 :: r)=k+1:=⟨bM (37 :: r) - 1,by omega⟩
      rw [hk] at hb' ⊢
      rw [List.take_succ_cons]
      exact List.mem_cons_of_mem _ hb'
     ·rw [show p+1+(bM (37 :: r) - 1)=p+bM (37 :: r) by omega]
      have:=ih (p+bM (37 :: r)) ((p+bM (37 :: r):Nat):Int) (out ++ [(true,(37 :: r:By).take (bM (37 :: r)),())]) (by omega) (by omega) (by omega) (by rw [List.length_append,List.length_singleton]; omega)
      rw [← hdd] at this
      cases hx:lG ((37 :: r:By).drop (bM (37 :: r))) with
      | none=>rw [hx] at this; exact this
      | some l =>
       rw [hx] at this
       unfold Jy at this ⊢
       simp only [Option.map_some] at this ⊢
       rw [List.append_assoc] at this
       exact this
  ·rw [if_neg h37]
   have hn37 : ¬ ((decodeL (c :: r)).1:Int)=37:=by
    intro hh
    have h1:(decodeL (c :: r)).1=37:=by omega
    rw [h1] at hten
    have e:bw 37 = [37]:=rfl
    obtain ⟨k,hk⟩ : ∃ k,(decodeL (c :: r)).2=k+1:=⟨(decodeL (c :: r)).2 - 1,by omega⟩
    rw [e,hk,List.take_succ_cons] at hten
    injection hten with h2 _
    exact h37 h2
   have htl:((c :: r).take (decodeL (c :: r)).2).length=(decodeL (c :: r)).2:=by rw [List.length_take]; omega
   have hw:IntKind.i64.wrap ((p:Int)+((decodeL (c :: r)).2:Int))=((p+(decodeL (c :: r)).2:Nat):Int):=by rw [wrap64 _ (by omega) (by omega)]; omega
   rw [hw] at hsub1
   refine af.step (x':=cS s ((p+(decodeL (c :: r)).2:Nat):Int) (p+(decodeL (c :: r)).2) (out ++ [(false,(c :: r).take (decodeL (c :: r)).2,())])) (.of fun F => ?_) ?_
   ·unfold bD cS
    rw [if_pos (by rw [decide_eq_true_eq]; exact hlt),if_neg (by rw [decide_eq_true_eq]; exact hnb)]
    simp only [hra,hrl,nz,Option.bind_some,decide_eq_false hs0,Bool.false_eq_true,if_false,hrn F,hel,hsub1,decide_eq_false hn37,ax,htl,hw]
    rw [if_pos (by rw [decide_eq_true_eq]; simp only [List.length_singleton]; omega)]
   ·have:=ih (p+(decodeL (c :: r)).2) ((p+(decodeL (c :: r)).2:Nat):Int) (out ++ [(false,(c :: r).take (decodeL (c :: r)).2,())]) hpm (by omega) (by omega) (by rw [List.length_append,List.length_singleton]; omega)
    rw [← hdd] at this
    cases hx:lG ((c :: r).drop (decodeL (c :: r)).2) with
    | none=>rw [hx] at this; exact this
    | some l =>
     rw [hx] at this
     unfold Jy at this ⊢
     simp only [Option.map_some] at this ⊢
     rw [List.append_assoc] at this
     exact this
def Jm (s:By):List Pc×Bool:=if 60<s.length then ([],false) else match lG s with
 | some l=>(l,true)
 | none=>([],false)
theorem KH (s:By) (hs:s.length≤1000):ae (fun F=>jx F s) (Jm s):=by
 unfold jx Jm
 by_cases h6:60<s.length
 ·rw [if_pos h6]
  exact ae.pos (by rw [decide_eq_true_eq]; omega) (.ret _)
 ·rw [if_neg h6]
  refine ae.neg (by rw [decide_eq_true_eq]; omega) ?_
  have h:=GQ s hs s.length 0 0 [] (by omega) (by omega) (by decide) (by simp; omega)
  rw [List.drop_zero] at h
  refine ae.bind h.run ?_
  cases lG s with
  | none=>exact .of fun F=>rfl
  | some l=>exact .of fun F=>rfl
end Go.Vm
