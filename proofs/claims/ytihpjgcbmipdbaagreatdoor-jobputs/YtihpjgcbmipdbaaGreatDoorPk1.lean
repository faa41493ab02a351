import Derived.Test.YtihpjgcbmipdbaaGreatDoorPu2
import Derived.Test.YtihpjgcbmipdbaaGreatDoorFref4
import Derived.Test.YtihpjgcbmipdbaaGreatDoorFcanon
import Derived.Test.YtihpjgcbmipdbaaGreatDoorFref5
/- The document's signs of a text, plainly. No condition but on lengths. -/
namespace Go.Vm
open Go.Lib (decodeL decodeN decodeL_N decode_N decodeN_shape decodeL_le)
set_option linter.unusedVariables false
set_option linter.unusedSimpArgs false
theorem E7 (s:B8) (hs:s.length≤1000000000000) (p:Nat) (hp:p≤s.length) (out at':List Int) (ho:out.length+(s.length - p)≤1000000000000) (ha:at'.length+(s.length - p)≤1000000000000) :
  ag bh (s,(),(),(p:Int),out,at',()) ((),(),out ++ (bt (s.drop p)).map (·.1),at' ++ ats p (bt (s.drop p)),()):=by
 have main : ∀ n p out at',s.length - p≤n→p≤s.length→out.length+(s.length - p)≤1000000000000→at'.length+(s.length - p)≤1000000000000 →
   ag bh (s,(),(),(p:Int),out,at',()) ((),(),out ++ (bt (s.drop p)).map (·.1),at' ++ ats p (bt (s.drop p)),()):=by
  intro n
  induction n with
  | zero =>
   intro p out at' hn hp ho ha
   have:p=s.length:=by omega
   subst this
   refine ag.fin (ae.of fun F => ?_)
   unfold bh
   have h : ¬ ((s.length:Nat):Int)<(s.length:Int):=by omega
   simp [h,dL,ats]
  | succ n ih =>
   intro p out at' hn hp ho ha
   by_cases hlt:p<s.length
   ·have hpos:=bg (s.drop p)
    have hnx:=oP hlt
    have h:(p:Int)<(s.length:Int):=by omega
    have e1:((out.length:Int)+1) * 8≤140737488355328:=by omega
    have e2:((at'.length:Int)+1) * 8≤140737488355328:=by omega
    rw [fB (ki hlt),lE]
    refine ag.step (x':=(s,(),(),((p+(decodeL (s.drop p)).2:Nat):Int),out ++ [((decodeL (s.drop p)).1:Int)],at' ++ [(p:Int)],())) (ae.of fun F => ?_) ?_
    ·unfold bh
     have e1':(out.length+1) * 8≤140737488355328:=by omega
     have e2':(at'.length+1) * 8≤140737488355328:=by omega
     simp only [h,decide_true,if_true,gD s p hp,Option.bind_some,Ig F _ (ki hlt),List.length_cons,List.length_nil,Nat.zero_add,e1',e2']
     rw [wrap64 _ (by omega) (by omega)]
     rfl
    ·have:=ih (p+(decodeL (s.drop p)).2) (out ++ [((decodeL (s.drop p)).1:Int)]) (at' ++ [(p:Int)]) (by omega) hnx (by simp; omega) (by simp; omega)
     simpa [ats,HI hlt] using this
   ·have:p=s.length:=by omega
    subst this
    refine ag.fin (ae.of fun F => ?_)
    unfold bh
    have h : ¬ ((s.length:Nat):Int)<(s.length:Int):=by omega
    simp [h,dL,ats]
 exact main _ p out at' (Nat.le_refl _) hp ho ha
theorem sF (s:B8) (hs:s.length≤1000000000000):ae (fun F=>cH F s) ((bt s).map (·.1),ats 0 (bt s)):=by
 unfold cH
 have:=E7 s hs 0 (by omega) [] [] (by simp; omega) (by simp; omega)
 refine this.run.bind ?_
 exact ae.of fun F=>by simp
end Go.Vm
/- Sorts of signs, plainly. No condition. -/
namespace Go.Vm
set_option linter.unusedVariables false
set_option linter.unusedSimpArgs false
theorem rz (F:Nat) (r a b c:Int):cT F (r,a,b,c)=some (decide (a≤r∧r≤b∧r≠c)):=by
 unfold cT
 simp only [rE,Option.bind_some,decide_eq_true_eq]
 repeat' split
 all_goals (rw [Option.some.injEq,Bool.eq_iff_iff]; simp only [Bool.not_eq_true',decide_eq_true_eq,decide_eq_false_iff_not,Bool.false_eq_true,true_iff,false_iff]; first | omega | (simp_all; done))
theorem BA (F:Nat) (r:Int):cV F r=some (decide (0≤r∧(r<55296∨57343<r)∧r≤1114111)):=by
 unfold cV
 simp only [rE,Option.bind_some,decide_eq_true_eq,Bool.false_eq_true,if_false]
 repeat' split
 all_goals (rw [Option.some.injEq,Bool.eq_iff_iff]; simp only [Bool.not_eq_true',decide_eq_true_eq,decide_eq_false_iff_not,Bool.false_eq_true,true_iff,false_iff]; omega)
theorem Cj (F:Nat) (r:Int):hE F r=some (decide (r<32∨(127≤r∧r≤159)∨r=65533∨(55296≤r∧r≤57343)∨1114111<r)):=by
 unfold hE
 simp only [rz,BA,rE,Option.bind_some,decide_eq_true_eq,decide_eq_false_iff_not,Bool.true_eq_false,if_false]
 repeat' split
 all_goals (rw [Option.some.injEq,Bool.eq_iff_iff]; simp only [Bool.not_eq_true',decide_eq_true_eq,decide_eq_false_iff_not,Bool.false_eq_true,true_iff,false_iff]; omega)
theorem G0 (F:Nat) (r:Int):j4 F r=some (decide (r=32∨r=160∨(8192≤r∧r≤8202)∨r=12288)):=by
 unfold j4
 simp only [rz,BA,rE,Option.bind_some,decide_eq_true_eq,decide_eq_false_iff_not,Bool.true_eq_false,if_false]
 repeat' split
 all_goals (rw [Option.some.injEq,Bool.eq_iff_iff]; simp only [Bool.not_eq_true',decide_eq_true_eq,decide_eq_false_iff_not,Bool.false_eq_true,true_iff,false_iff]; omega)
theorem Eo (F:Nat) (r:Int):i6 F r=some (decide ((65≤r∧r≤90)∨(97≤r∧r≤122)∨(192≤r∧r≤591∧r≠215∧r≠247)∨(913≤r∧r≤969∧r≠930))):=by
 unfold i6
 simp only [rz,bA,bB,ite_self,Option.bind_some,Bool.if_true_right,Bool.if_true_left,Bool.if_false_left,Bool.if_false_right,Option.some.injEq]
 rw [Bool.eq_iff_iff]
 simp
 omega
def cR (n:Int):Int :=
 if n<32∨(127≤n∧n≤159)∨n=65533∨(55296≤n∧n≤57343)∨1114111<n then 0
 else if n=32∨n=160∨(8192≤n∧n≤8202)∨n=12288 then 1
 else if 48≤n∧n≤57 then 2
 else if (65≤n∧n≤90)∨(97≤n∧n≤122)∨(192≤n∧n≤591∧n≠215∧n≠247)∨(913≤n∧n≤969∧n≠930) then 3 else 4
theorem iX (F:Nat) (r:Int):eK F r=some (cR r):=by
 unfold eK cR
 simp only [Cj,G0,rz,Eo,Option.bind_some,decide_eq_true_eq]
 repeat' split
 all_goals first | rfl | omega
theorem pK (F:Nat) (n:Int):cO F n=some (cR n):=by
 unfold cO cR
 simp only [bA,bB,ite_self,Option.bind_some,Option.some.injEq]
 simp only [Bool.if_true_right,Bool.if_true_left,Bool.if_false_left,Bool.if_false_right,Bool.and_eq_true,Bool.or_eq_true,Bool.not_eq_true',decide_eq_true_eq,decide_eq_false_iff_not]
 simp
 repeat' split
 all_goals first | rfl | omega
end Go.Vm
/- Right texts, plainly. No condition. -/
namespace Go.Vm
open Go.Lib (decodeL decodeN decodeL_N decode_N decodeN_shape decodeL_le)
set_option linter.unusedVariables false
set_option linter.unusedSimpArgs false
def Mq (l:List Int):Bool:=l.any fun n=>decide (cR n=0)
def yi (l:List Int):Unit ⊕ Bool×Unit:=if Mq l=true then .inr (false,()) else .inl ()
theorem rO:yi [] = .inl ():=rfl
theorem xz (n:Int) (l:List Int):yi (n :: l)=if cR n=0 then .inr (false,()) else yi l:=by
 unfold yi Mq
 by_cases h:cR n=0 <;> simp [h]
theorem Fv (s:B8) (p:Nat) (hp:p≤s.length):ag dt ((),(s,p),()) (yi ((bt (s.drop p)).map (·.1))):=by
 have main : ∀ n p,s.length - p≤n→p≤s.length→ag dt ((),(s,p),()) (yi ((bt (s.drop p)).map (·.1))):=by
  intro n
  induction n with
  | zero =>
   intro p hn hp
   have:p=s.length:=by omega
   subst this
   refine ag.fin (ae.of fun F => ?_)
   unfold dt
   simp [dL,rO]
  | succ n ih =>
   intro p hn hp
   by_cases hlt:p<s.length
   ·have hpos:=bg (s.drop p)
    have hnx:=oP hlt
    rw [fB (ki hlt),lE,List.map_cons,xz]
    by_cases h0:cR ((decodeL (s.drop p)).1:Int)=0
    ·refine ag.fin (ae.of fun F => ?_)
     unfold dt
     simp only [hlt,decide_true,if_true,fS,iX,Option.bind_some,h0]
    ·rw [if_neg h0]
     refine ag.step (x':=((),(s,p+(decodeL (s.drop p)).2),())) (ae.of fun F => ?_) (ih _ (by omega) hnx)
     unfold dt
     simp only [hlt,decide_true,if_true,fS,dN,iX,Option.bind_some,h0,decide_false,Bool.false_eq_true,if_false]
   ·have:p=s.length:=by omega
    subst this
    refine ag.fin (ae.of fun F => ?_)
    unfold dt
    simp [dL,rO]
 exact main _ p (Nat.le_refl _) hp
theorem yD (ns:List Int) (hn:ns.length≤1000000000000) (k:Nat) (hk:k≤ns.length):ag aU (ns,(k:Int),()) (yi (ns.drop k)):=by
 have main : ∀ n k,ns.length - k≤n→k≤ns.length→ag aU (ns,(k:Int),()) (yi (ns.drop k)):=by
  intro n
  induction n with
  | zero =>
   intro k hn hk
   have:k=ns.length:=by omega
   subst this
   refine ag.fin (ae.of fun F => ?_)
   unfold aU
   simp [rO]
  | succ n ih =>
   intro k hn' hk
   by_cases hlt:k<ns.length
   ·have h:(k:Int)<(ns.length:Int):=by omega
    have hm:ns[k]? = some ns[k]:=by simp [hlt]
    rw [List.drop_eq_getElem_cons hlt,xz]
    by_cases h0:cR ns[k]=0
    ·refine ag.fin (ae.of fun F => ?_)
     unfold aU
     simp only [h,decide_true,if_true,Ks ns k _ hm,pK,Option.bind_some,h0]
    ·rw [if_neg h0]
     refine ag.step (x':=(ns,((k+1:Nat):Int),())) (ae.of fun F => ?_) (ih _ (by omega) (by omega))
     have w:IntKind.i64.wrap ((k:Int)+1)=((k+1:Nat):Int):=by rw [wrap64 _ (by omega) (by omega)]; rfl
     unfold aU
     simp only [h,decide_true,if_true,Ks ns k _ hm,pK,Option.bind_some,h0,decide_false,Bool.false_eq_true,if_false,w]
   ·have:k=ns.length:=by omega
    subst this
    refine ag.fin (ae.of fun F => ?_)
    unfold aU
    simp [rO]
 exact main _ k (Nat.le_refl _) hk
def nK (s:B8) (r:Int):Bool:=if s = []∨r<(s.length:Int) then false else dh (yi ((bt s).map (·.1))) (fun _=>true) fun v=>v.1
theorem wR {α β γ:Type} (x:α ⊕ β) (f:α→γ) (g:β→γ):dh x (fun a=>some (f a)) (fun b=>some (g b))=some (dh x f g):=by cases x <;> rfl
theorem Bu (s:B8) (r:Int):ae (fun F=>j7 F (s,r)) (nK s r):=by
 unfold j7 nK
 by_cases h1:s = []
 ·simp only [h1,decide_true,Bool.true_eq_false,if_false,Option.bind_some,if_true,true_or]
  exact ae.ret false
 by_cases h2:r<(s.length:Int)
 ·simp only [h1,h2,decide_true,decide_false,Bool.true_eq_false,if_false,Option.bind_some,if_true,or_true]
  exact ae.ret false
 ·simp only [h1,h2,decide_true,decide_false,Bool.false_eq_true,if_false,Option.bind_some,if_true,or_self]
  have:=Fv s 0 (by omega)
  refine this.run.bind ?_
  rw [List.drop_zero]
  exact ae.of fun F=>wR _ _ _
theorem tH (s:B8) (hs:s.length≤100000000000) (r:Int):ae (fun F=>dH F (s,r)) (nK s r):=by
 unfold dH nK
 have hl:=xf s
 by_cases h1:s = []
 ·simp only [h1,List.length_nil,true_or,if_true]
  exact ae.ret false
 have h1' : ¬ (s.length:Int)<1:=by have:=List.length_pos_iff.2 h1; omega
 by_cases h2:r<(s.length:Int)
 ·simp only [h1,h1',h2,decide_true,decide_false,Bool.true_eq_false,if_false,Option.bind_some,if_true,or_true]
  exact ae.ret false
 ·simp only [h1,h1',h2,decide_true,decide_false,Bool.false_eq_true,if_false,Option.bind_some,if_true,or_self]
  refine (sF s (by omega)).bind ?_
  have:=yD ((bt s).map (·.1)) (by simp; omega) 0 (by omega)
  refine this.run.bind ?_
  rw [List.drop_zero]
  exact ae.of fun F=>wR _ _ _
end Go.Vm
/- Letters, digits, plain bytes, methods and keys: plain. No condition. -/
namespace Go.Vm
open Go Go.Proofs
set_option linter.unusedVariables false
theorem Ix (n:Int) (h:0≤n):IntKind.u8.wrap n=n % 256:=by
 simp only [IntKind.wrap,IntKind.signed,IntKind.bits]
 simp
def upN (n:Nat):Nat:=if 97≤n∧n≤122 then n - 32 else n
def upC (c:UInt8):UInt8:=UInt8.ofNat (upN c.toNat)
def isL (c:UInt8):Bool:=decide (65≤upN c.toNat∧upN c.toNat≤90)
def J4 (n:Nat):Int:=if 48≤n∧n≤57 then (n:Int) - 48 else if 65≤n∧n≤70 then (n:Int) - 55 else if 97≤n∧n≤102 then (n:Int) - 87 else -1
def dgt (c:UInt8):Int:=J4 c.toNat
def ux (n:Nat):Bool:=decide ((65≤n∧n≤90)∨(97≤n∧n≤122)∨(48≤n∧n≤57)∨n=45∨n=46∨n=95∨n=126)
def uo (c:UInt8):Bool:=ux c.toNat
def Bv (n:Nat):UInt8:=UInt8.ofNat (if n<10 then 48+n else 55+n)
theorem Dg : ∀ c:Fin 256,eJ 0 ((c.val:Nat):Int)=some (((upN c.val:Nat):Int),decide (65≤upN c.val∧upN c.val≤90)):=by decide +kernel
theorem Fx : ∀ c:Fin 256,ew 0 ((c.val:Nat):Int)=some (J4 c.val):=by decide +kernel
theorem BJ : ∀ c:Fin 256,bm 0 ((c.val:Nat):Int)=some (J4 c.val):=by decide +kernel
theorem FL : ∀ c:Fin 256,jf 0 ((c.val:Nat):Int)=some (ux c.val):=by decide +kernel
theorem Ka : ∀ c:Fin 16,cZ 0 ((c.val:Nat):Int)=some [Bv c.val]:=by decide +kernel
theorem ED : ∀ c:Fin 16,idx ([48,49,50,51,52,53,54,55,56,57,65,66,67,68,69,70]:B8) ((c.val:Nat):Int)=some (Bv c.val):=by decide +kernel
theorem xv (F:Nat) (c:UInt8):eJ F (c.toNat:Int)=some (((upN c.toNat:Nat):Int),isL c):=Dg ⟨c.toNat,c.toNat_lt⟩
theorem lS (F:Nat) (c:UInt8):ew F (c.toNat:Int)=some (dgt c):=Fx ⟨c.toNat,c.toNat_lt⟩
theorem kp (F:Nat) (c:UInt8):bm F (c.toNat:Int)=some (dgt c):=BJ ⟨c.toNat,c.toNat_lt⟩
theorem F5 (F:Nat) (c:UInt8):jf F (c.toNat:Int)=some (uo c):=FL ⟨c.toNat,c.toNat_lt⟩
theorem Hh (F n:Nat) (h:n<16):cZ F (n:Int)=some [Bv n]:=Ka ⟨n,h⟩
theorem zT (n:Nat) (h:n<16):idx ([48,49,50,51,52,53,54,55,56,57,65,66,67,68,69,70]:B8) (n:Int)=some (Bv n):=ED ⟨n,h⟩
theorem yf (c:UInt8) : -1≤dgt c∧dgt c≤15:=by unfold dgt J4; have:=c.toNat_lt; repeat' split
                                             all_goals omega
theorem byte_back (c:UInt8):UInt8.ofNat ((c.toNat:Int)).toNat=c:=by simp
theorem FY (c:UInt8):UInt8.ofNat ((upN c.toNat:Nat):Int).toNat=upC c:=by simp [upC]
theorem kN (F:Nat) (l:B8) (n:Int) (hl:l.length≤1000000000000):au F (((),l,()),n)=some ((),((),l ++ [UInt8.ofNat n.toNat],())):=by
 have h1:aO F ((),l,())=some ((),((),l,())):=rfl
 unfold au
 simp only [h1,Option.bind_some]
 rw [if_pos (by simp; omega)]
 rfl
theorem ba {α β:Type} {x:Option α} {a:α} {f:α→Option β} {r:Option β} (h:x=some a) (h2:f a=r):x.bind f=r:=by rw [h]; exact h2
/-! ### methods -/
def sr (out rest:B8):(Unit×(Unit×Unit×Unit)×B8×Unit) ⊕ (B8×Bool×Unit):=if rest.all isL=true then .inl ((),((),(),()),out ++ rest.map upC,()) else .inr ([],false,())
theorem JF {c:UInt8} {rest out:B8} (h:isL c=true):sr out (c :: rest)=sr (out ++ [upC c]) rest:=by
 unfold sr
 rw [List.all_cons,h,Bool.true_and,List.map_cons,List.append_assoc,List.singleton_append]
theorem Kb {c:UInt8} {rest out:B8} (h:isL c=false):sr out (c :: rest) = .inr ([],false,()):=by
 unfold sr
 rw [List.all_cons,h,Bool.false_and]
 rfl
theorem xa (s:B8) (hs:s.length≤1000) : ∀ (m k:Nat) (out:B8),k+m=s.length→out.length+m≤5000 →
  ag ec (s,(),(s.length:Int),(k:Int),((),(),()),out,()) (sr out (s.drop k))
 | 0,k,out,h,ho=>by
  refine ag.fin (.of fun F => ?_)
  unfold ec
  refine (if_neg (by simp; omega)).trans ?_
  rw [List.drop_eq_nil_of_le (by omega)]
  simp [sr]
 | m+1,k,out,h,ho=>by
  have hk:k<s.length:=by omega
  have hx:=qf s k (k:Int) rfl hk
  rw [List.drop_eq_getElem_cons hk]
  cases hl:isL s[k]
  ·refine ag.fin (.of fun F => ?_)
   unfold ec
   refine (if_pos (by simp; omega)).trans ?_
   simp only [hx,Option.bind_some,xv,hl]
   rw [Kb hl]
   rfl
  ·have ih:=xa s hs m (k+1) (out ++ [upC s[k]]) (by omega) (by simp; omega)
   rw [JF hl]
   refine ag.step (.of fun F => ?_) ih
   unfold ec
   refine (if_pos (by simp; omega)).trans ?_
   simp only [hx,Option.bind_some,xv,hl,kN F out _ (by omega),FY]
   rw [if_neg (by simp),dO k (by omega)]
def gT (s:B8):B8×Bool:=if s = []∨8<s.length then ([],false) else if s.all isL=true then (s.map upC,true) else ([],false)
theorem lZ {s:B8} (h:s = []∨8<s.length):gT s=([],false):=by unfold gT; rw [if_pos h]
theorem uD {s:B8} (h : ¬ (s = []∨8<s.length)):gT s=if s.all isL=true then (s.map upC,true) else ([],false):=by unfold gT; rw [if_neg h]
theorem CE (s:B8):ae (fun F=>fI F s) (gT s):=by
 unfold fI
 by_cases h0:s = []
 ·rw [lZ (.inl h0)]
  refine ae.bind (r:=(s,true,())) (.of fun F=>if_neg (by simpa using h0)) (ae.pos rfl (.ret _))
 by_cases h8:8<s.length
 ·rw [lZ (.inr h8)]
  refine ae.bind (r:=(s,true,())) (.of fun F=>(if_pos (by simpa using h0)).trans ?_) (ae.pos rfl (.ret _))
  rw [decide_eq_true (by omega)]
 rw [uD (by rintro (h | h) <;> contradiction)]
 refine ae.bind (r:=(s,false,())) (.of fun F=>(if_pos (by simpa using h0)).trans ?_) (ae.neg (by simp) ?_)
 ·rw [decide_eq_false (by omega)]
 have hl:=xa s (by omega) s.length 0 [] (by omega) (by simp; omega)
 rw [List.drop_zero] at hl
 refine ae.bind hl.run ?_
 unfold sr
 split
 ·exact .ret _
 ·exact .ret _
def ot (out rest:B8):(B8×Unit) ⊕ (B8×Bool×Unit):=if rest.all isL=true then .inl (out ++ rest.map upC,()) else .inr ([],false,())
theorem tN (F:Nat) (s:B8) (hs:s.length≤1000) (k:Nat) (hk:k<s.length) (out:B8) (ho:out.length≤5000) :
  bL F (s,out,(k:Int),())=if isL s[k]=true then some (.inl (s,out ++ [upC s[k]],((k+1:Nat):Int),())) else some (.inr (.inr ([],false,()))):=by
 have hx:=qf s k (k:Int) rfl hk
 unfold bL
 refine (if_pos (by simp; omega)).trans ?_
 simp only [hx,Option.bind_some]
 have hn:s[k].toNat<256:=s[k].toNat_lt
 have hU:upC s[k]=UInt8.ofNat (upN s[k].toNat):=rfl
 have hI:isL s[k]=decide (65≤upN s[k].toNat∧upN s[k].toNat≤90):=rfl
 rw [hU,hI]
 generalize s[k].toNat=n at hn
 refine ba (a:=(s,out,(k:Int),(n:Int),decide ((97:Int)≤(n:Int)∧(n:Int)≤122),())) ?_ (ba (a:=(s,out,(k:Int),((upN n:Nat):Int),())) ?_ ?_)
 ·by_cases h1:(97:Int)≤(n:Int)
  ·simp [h1]
  ·simp [h1]
 ·unfold upN
  by_cases h1:97≤n∧n≤122
  ·rw [if_pos (decide_eq_true (by omega)),if_pos h1,Ix _ (by simp only; omega)]
   simp only [Option.some.injEq,Prod.mk.injEq,true_and,and_true]
   omega
  ·rw [if_neg (by simpa using by omega),if_neg h1]
 generalize upN n=u
 refine ba (a:=(s,out,(k:Int),(u:Int),decide (¬ (65≤u∧u≤90)),())) ?_ ?_
 ·by_cases h3:(u:Int)<65
  ·rw [if_neg (by simpa using h3)]
   have : ¬ (65≤u∧u≤90):=by omega
   simp [this]
  ·rw [if_pos (by simpa using h3)]
   simp only [Option.some.injEq,Prod.mk.injEq,true_and,and_true,decide_eq_decide]
   omega
 ·by_cases h5:65≤u∧u≤90
  ·rw [if_neg (by simp [h5]),if_pos (decide_eq_true h5),if_pos (by simp; omega),dO k (by omega)]
   rfl
  ·rw [if_pos (decide_eq_true h5),if_neg (by simpa using h5)]
theorem Ge {c:UInt8} {rest out:B8} (h:isL c=true):ot out (c :: rest)=ot (out ++ [upC c]) rest:=by
 unfold ot
 rw [List.all_cons,h,Bool.true_and,List.map_cons,List.append_assoc,List.singleton_append]
theorem GX {c:UInt8} {rest out:B8} (h:isL c=false):ot out (c :: rest) = .inr ([],false,()):=by
 unfold ot
 rw [List.all_cons,h,Bool.false_and]
 rfl
theorem vg (s:B8) (hs:s.length≤1000) : ∀ (m k:Nat) (out:B8),k+m=s.length→out.length+m≤5000 →
  ag bL (s,out,(k:Int),()) (ot out (s.drop k))
 | 0,k,out,h,ho=>by
  refine ag.fin (.of fun F => ?_)
  unfold bL
  refine (if_neg (by simp; omega)).trans ?_
  rw [List.drop_eq_nil_of_le (by omega)]
  simp [ot]
 | m+1,k,out,h,ho=>by
  have hk:k<s.length:=by omega
  rw [List.drop_eq_getElem_cons hk]
  cases hl:isL s[k]
  ·refine ag.fin (.of fun F => ?_)
   rw [tN F s hs k hk out (by omega),hl,if_neg (by simp),GX hl]
  ·have ih:=vg s hs m (k+1) (out ++ [upC s[k]]) (by omega) (by simp; omega)
   rw [Ge hl]
   refine ag.step (.of fun F => ?_) ih
   rw [tN F s hs k hk out (by omega),hl,if_pos rfl]
theorem Bq (s:B8):ae (fun F=>ct F s) (gT s):=by
 unfold ct
 by_cases h0:s = []
 ·rw [lZ (.inl h0)]
  refine ae.bind (r:=(s,true,())) (.of fun F=>if_neg (by simp [h0])) (ae.pos rfl (.ret _))
 have hl0:0<s.length:=List.length_pos_iff.2 h0
 by_cases h8:8<s.length
 ·rw [lZ (.inr h8)]
  refine ae.bind (r:=(s,true,())) (.of fun F=>(if_pos (by simp; omega)).trans ?_) (ae.pos rfl (.ret _))
  rw [decide_eq_true (by omega)]
 rw [uD (by rintro (h | h) <;> contradiction)]
 refine ae.bind (r:=(s,false,())) (.of fun F=>(if_pos (by simp; omega)).trans ?_) (ae.neg (by simp) ?_)
 ·rw [decide_eq_false (by omega)]
 have hl:=vg s (by omega) s.length 0 [] (by omega) (by simp; omega)
 rw [List.drop_zero] at hl
 refine ae.bind hl.run ?_
 unfold ot
 split
 ·exact .ret _
 ·exact .ret _
end Go.Vm
