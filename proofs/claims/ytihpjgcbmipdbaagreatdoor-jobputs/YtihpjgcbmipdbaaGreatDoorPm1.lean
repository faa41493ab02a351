import Derived.Test.YtihpjgcbmipdbaaGreatDoorPk3
import Derived.Test.YtihpjgcbmipdbaaGreatDoorFcanon
import Derived.Test.YtihpjgcbmipdbaaGreatDoorFref5
import Derived.Test.YtihpjgcbmipdbaaGreatDoorFnums
import Derived.Test.YtihpjgcbmipdbaaGreatDoorFref14
/- Keys: plain. No condition. -/
namespace Go.Vm
open Go Go.Proofs
set_option linter.unusedVariables false
/-! ### keys -/
def sg (r:Int):Bool:=decide (cR r=2∨cR r=3∨r=45∨r=95∨r=46)
def ta (l:List Int):Unit ⊕ (Bool×Unit):=if l.all sg=true then .inl () else .inr (false,())
def vL (s:B8):Bool:=if s = []∨24<s.length then false else ((bt s).map (·.1)).all sg
theorem HD {n:Int} {l:List Int} (h:sg n=true):ta (n :: l)=ta l:=by
 unfold ta
 rw [List.all_cons,h,Bool.true_and]
theorem Hm {n:Int} {l:List Int} (h : ¬ sg n=true):ta (n :: l) = .inr (false,()):=by
 unfold ta
 rw [List.all_cons,Bool.eq_false_iff.2 h,Bool.false_and]
 rfl
theorem Al (F:Nat) (s:B8) (p:Nat) (hp:p<s.length):dS F ((),(s,p),())=if sg (bN s p)=true then some (.inl ((),(s,p+runeLen s p),())) else some (.inr (.inr (false,()))):=by
 unfold dS
 refine (if_pos (by simpa using hp)).trans ?_
 simp only [iX,Option.bind_some]
 generalize bN s p=r
 unfold sg
 by_cases h2:cR r=2
 ·simp [h2]
 by_cases h3:cR r=3
 ·simp [h3]
 by_cases h45:r=45
 ·subst h45; simp [h2,h3]
 by_cases h95:r=95
 ·subst h95; simp [h2,h3]
 by_cases h46:r=46
 ·subst h46; simp [h2,h3]
 simp [h2,h3,h45,h95,h46]
theorem H8 (s:B8) (p:Nat) (hp:p≤s.length):ag dS ((),(s,p),()) (ta ((bt (s.drop p)).map (·.1))):=by
 suffices hh : ∀ n p,p≤s.length→s.length - p≤n→ag dS ((),(s,p),()) (ta ((bt (s.drop p)).map (·.1))) from hh _ p hp (Nat.le_refl _)
 intro n
 induction n with
 | zero =>
  intro p hp hn
  refine ag.fin (.of fun F => ?_)
  unfold dS
  refine (if_neg (by simp; omega)).trans ?_
  rw [List.drop_eq_nil_of_le (by omega),dL]
  rfl
 | succ n ih =>
  intro p hp hn
  by_cases hlt:p<s.length
  ·have hr:=fS s p
   have hl:=dN s p
   have hpos:=Go.Lib.decodeL_le (s.drop p)
   have h1:=bg (s.drop p)
   rw [fB (ki hlt),List.map_cons]
   by_cases hk:sg ((Go.Lib.decodeL (s.drop p)).1:Int)=true
   ·have hb:ta (((Go.Lib.decodeL (s.drop p)).1:Int) :: (bt ((s.drop p).drop (Go.Lib.decodeL (s.drop p)).2)).map (·.1))=ta ((bt (s.drop (p+(Go.Lib.decodeL (s.drop p)).2))).map (·.1)):=by
     rw [HD hk,lE]
    rw [hb]
    refine ag.step (.of fun F => ?_) (ih (p+(Go.Lib.decodeL (s.drop p)).2) (oP hlt) (by omega))
    rw [Al F s p hlt,hr,hl,if_pos hk]
   ·refine ag.fin (.of fun F => ?_)
    rw [Al F s p hlt,hr,if_neg hk,Hm hk]
  ·have:p=s.length:=by omega
   subst this
   refine ag.fin (.of fun F => ?_)
   unfold dS
   refine (if_neg (by simp)).trans ?_
   rw [List.drop_eq_nil_of_le (by omega),dL]
   rfl
theorem qz {s:B8} (h:s = []∨24<s.length):vL s=false:=by unfold vL; rw [if_pos h]
theorem DC {s:B8} (h : ¬ (s = []∨24<s.length)):vL s=((bt s).map (·.1)).all sg:=by unfold vL; rw [if_neg h]
theorem E2 (s:B8):ae (fun F=>jr F s) (vL s):=by
 unfold jr
 by_cases h0:s = []
 ·rw [qz (.inl h0)]
  refine ae.bind (r:=(s,true,())) (.of fun F=>if_neg (by simpa using h0)) (ae.pos rfl (.ret _))
 by_cases h8:24<s.length
 ·rw [qz (.inr h8)]
  refine ae.bind (r:=(s,true,())) (.of fun F=>(if_pos (by simpa using h0)).trans ?_) (ae.pos rfl (.ret _))
  rw [decide_eq_true (by omega)]
 rw [DC (by rintro (h | h) <;> contradiction)]
 refine ae.bind (r:=(s,false,())) (.of fun F=>(if_pos (by simpa using h0)).trans ?_) (ae.neg (by simp) ?_)
 ·rw [decide_eq_false (by omega)]
 have hl:=H8 s 0 (by omega)
 rw [List.drop_zero] at hl
 refine ae.bind hl.run ?_
 unfold ta
 cases hb:((bt s).map (·.1)).all sg
 ·exact .ret _
 ·exact .ret _
theorem wP (F:Nat) (ns:List Int) (hn:ns.length≤1000000) (k:Nat) (hk:k<ns.length):cn F (ns,(k:Int),())=if sg ns[k]=true then some (.inl (ns,((k+1:Nat):Int),())) else some (.inr (.inr (false,()))):=by
 have hx:=qf ns k (k:Int) rfl hk
 unfold cn
 refine (if_pos (by simp; omega)).trans ?_
 simp only [hx,pK,Option.bind_some]
 generalize ns[k]=r at hx
 unfold sg
 by_cases h2:cR r=2
 ·simp [h2,dO k (by omega)]
 by_cases h3:cR r=3
 ·simp [h3,dO k (by omega)]
 by_cases h45:r=45
 ·subst h45; simp [h2,h3,hx,dO k (by omega)]
 by_cases h95:r=95
 ·subst h95; simp [h2,h3,hx,dO k (by omega)]
 by_cases h46:r=46
 ·subst h46; simp [h2,h3,hx,dO k (by omega)]
 simp [h2,h3,h45,h95,h46,hx]
theorem wY (ns:List Int) (hn:ns.length≤1000000) : ∀ (m k:Nat),k+m=ns.length→ag cn (ns,(k:Int),()) (ta (ns.drop k))
 | 0,k,h=>by
  refine ag.fin (.of fun F => ?_)
  unfold cn
  refine (if_neg (by simp; omega)).trans ?_
  rw [List.drop_eq_nil_of_le (by omega)]
  rfl
 | m+1,k,h=>by
  have hk:k<ns.length:=by omega
  rw [List.drop_eq_getElem_cons hk]
  by_cases hr:sg ns[k]=true
  ·rw [HD hr]
   refine ag.step (.of fun F => ?_) (wY ns hn m (k+1) (by omega))
   rw [wP F ns hn k hk,if_pos hr]
  ·refine ag.fin (.of fun F => ?_)
   rw [wP F ns hn k hk,if_neg hr,Hm hr]
theorem Ct (s:B8):ae (fun F=>c8 F s) (vL s):=by
 unfold c8
 by_cases h0:s = []
 ·rw [qz (.inl h0)]
  refine ae.bind (r:=(s,true,())) (.of fun F=>if_neg (by simp [h0])) (ae.pos rfl (.ret _))
 have hl0:0<s.length:=List.length_pos_iff.2 h0
 by_cases h8:24<s.length
 ·rw [qz (.inr h8)]
  refine ae.bind (r:=(s,true,())) (.of fun F=>(if_pos (by simp; omega)).trans ?_) (ae.pos rfl (.ret _))
  rw [decide_eq_true (by omega)]
 rw [DC (by rintro (h | h) <;> contradiction)]
 refine ae.bind (r:=(s,false,())) (.of fun F=>(if_pos (by simp; omega)).trans ?_) (ae.neg (by simp) ?_)
 ·rw [decide_eq_false (by omega)]
 have hsl:=xf s
 refine ae.bind (sF s (by omega)) ?_
 have hl:=wY ((bt s).map (·.1)) (by simp; omega) _ 0 (Nat.zero_add _)
 rw [List.drop_zero] at hl
 refine ae.bind hl.run ?_
 unfold ta
 cases hb:((bt s).map (·.1)).all sg
 ·exact .ret _
 ·exact .ret _
end Go.Vm
/- Entries: whether one may be: the program's answer and the document's are the plain one. (Cut out of the texts of entries.) No condition. -/
namespace Go.Vm
open Go Go.Proofs
set_option linter.unusedVariables false
set_option linter.unusedSimpArgs false
structure Ent where
 te:Int
 key:B8
 st:Int
 ep:Int
 tk:Int
 pt:Int
 pr:B8
 le:Int
 ex:Int
 su:Int
 tx:B8
 me:B8
 pa:B8
 bo:B8
 deriving DecidableEq
abbrev En:Type:=Int×B8×Int×Int×Int×Int×B8×Int×Int×Int×B8×B8×B8×B8×Unit
def Ent.t (e:Ent):En:=(e.te,e.key,e.st,e.ep,e.tk,e.pt,e.pr,e.le,e.ex,e.su,e.tx,e.me,e.pa,e.bo,())
def Ent.zero:Ent:=⟨0,[],0,0,0,0,[],0,0,0,[],[],[],[]⟩
def gJ (te:Int) (key:B8):Bool:=decide (0≤te∧te≤3) && vL key
def nT (e:Ent):Bool:=decide (1≤e.ep∧e.ep≤1073741824∧1≤e.tk∧e.tk≤1073741824∧0≤e.pt∧e.pt≤5∧e.pr.length=32∧0≤e.le∧e.le≤1099511627776∧0≤e.ex∧e.ex≤1099511627776)
def kx (e:Ent):Bool:=(gT e.me).2 && (gk e.pa).2 && decide ((gT e.me).1=e.me∧(gk e.pa).1=e.pa∧e.bo.length≤80)
def ni (e:Ent):Bool:=if e.st=1 then kx e && decide (e.su=0∧e.tx = []) else decide (e.le=0∧e.me = []∧e.pa = []∧e.bo = []) &&
 (if e.st=2 then decide ((e.su=200∨e.su=201∨e.su=402)∧e.tx.length≤40) else decide (e.st=3∧e.su=0∧e.tx = []))
def fL (e:Ent):Bool:=gJ e.te e.key && nT e && ni e
theorem FE (m:B8):(gT m).2 = !decide ((gT m).1 = []):=by
 by_cases h:m = []∨8<m.length
 ·rw [lZ h]; rfl
 ·rw [uD h]
  split
  ·have:m.map upC ≠ []:=by
    intro e
    exact h (.inl (List.map_eq_nil_iff.1 e))
   simp [this]
  ·rfl
theorem Hy (l:List B8):(zJ l).2 = !decide ((zJ l).1 = []):=by
 unfold zJ
 by_cases h:fc l = []
 ·simp [h]
 ·simp only [h,if_false]
  split <;> simp [h]
theorem Ew (p:B8):(gk p).2 = !decide ((gk p).1 = []):=by
 cases p with
 | nil=>rfl
 | cons c t =>
  by_cases h:59<t.length∨c≠47
  ·rw [lJ h]; rfl
  ·have h1 : ¬ 59<t.length:=fun x=>h (.inl x)
   have h2:c=47:=by
    by_cases hc:c=47
    ·exact hc
    ·exact absurd (.inr hc) h
   subst h2
   rw [ru h1]
   split
   ·rfl
   ·exact Hy _
theorem A9 (e:Ent):ae (fun F=>fm F e.t) (gJ e.te e.key):=by
 obtain ⟨N,h⟩:=E2 e.key
 refine ⟨N,fun F hF => ?_⟩
 have hk:jr F e.t.2.1=some (vL e.key):=h F hF
 show fm F e.t = _
 unfold fm gJ
 by_cases h1:0≤e.te
 ·have h1':(0:Int)≤e.t.1:=h1
  by_cases h2:e.te<4
  ·have h2':e.t.1<(4:Int):=h2
   have h3:e.te≤3:=by omega
   simp [h1',h2',hk,h1,h3]
  ·have h2' : ¬ (e.t.1<(4:Int)):=h2
   have h3 : ¬ (e.te≤3):=by omega
   simp [h1',h2',h1,h3]
 ·have h1' : ¬ ((0:Int)≤e.t.1):=h1
  simp [h1',h1]
theorem yh (e:Ent):ae (fun F=>bp F e.t) (gJ e.te e.key):=by
 obtain ⟨N,h⟩:=Ct e.key
 refine ⟨N,fun F hF => ?_⟩
 have hk:c8 F e.t.2.1=some (vL e.key):=h F hF
 show bp F e.t = _
 unfold bp gJ
 by_cases h1:0≤e.te
 ·have h1':(0:Int)≤e.t.1:=h1
  by_cases h2:e.te≤3
  ·have h2':e.t.1≤(3:Int):=h2
   simp [h1',h2',hk,h1,h2]
  ·have h2' : ¬ (e.t.1≤(3:Int)):=h2
   simp [h1',h2',h1,h2]
 ·have h1' : ¬ ((0:Int)≤e.t.1):=h1
  simp [h1',h1]
theorem kn (F:Nat) (n:Int):fA F n=some (decide (1≤n∧n≤1073741824)):=by
 unfold fA
 by_cases h:1≤n <;> simp [h]
theorem rR (F:Nat) (n:Int):iA F n=some (decide (0≤n∧n≤1099511627776)):=by
 unfold iA
 by_cases h:0≤n <;> simp [h]
theorem Bn (e:Ent):ae (fun F=>ez F e.t) (kx e):=by
 obtain ⟨N1,h1⟩:=CE e.me
 obtain ⟨N2,h2⟩:=BU e.pa
 refine ⟨max N1 N2,fun F hF => ?_⟩
 have k1:fI F e.t.2.2.2.2.2.2.2.2.2.2.2.1=some (gT e.me):=h1 F (by omega)
 have k2:iE F e.t.2.2.2.2.2.2.2.2.2.2.2.2.1=some (gk e.pa):=h2 F (by omega)
 show ez F e.t = _
 unfold ez kx
 rw [FE,Ew]
 rw [k1,Option.bind_some,k2,Option.bind_some]
 have em:e.t.2.2.2.2.2.2.2.2.2.2.2.1=e.me:=rfl
 have ep:e.t.2.2.2.2.2.2.2.2.2.2.2.2.1=e.pa:=rfl
 have eb:e.t.2.2.2.2.2.2.2.2.2.2.2.2.2.1=e.bo:=rfl
 have hd:decide ((gT e.me).1=e.me∧(gk e.pa).1=e.pa∧e.bo.length≤80)=(decide ((gT e.me).1=e.me) && (decide ((gk e.pa).1=e.pa) && decide ((e.bo.length:Int)≤80))):=by
  rw [Bool.eq_iff_iff]
  simp only [Bool.and_eq_true,decide_eq_true_eq]
  exact ⟨fun ⟨a,b,c⟩=>⟨a,b,by omega⟩,fun ⟨a,b,c⟩=>⟨a,b,by omega⟩⟩
 rw [hd,em]
 generalize decide ((gT e.me).1 = [])=b1
 generalize decide ((gT e.me).1=e.me)=b2
 cases b1 <;> cases b2
 ·cases decide ((gk e.pa).1 = []) <;> rfl
 ·simp only [Bool.not_false,if_true,Option.bind_some,ep]
  generalize decide ((gk e.pa).1 = [])=b3
  generalize decide ((gk e.pa).1=e.pa)=b4
  cases b3 <;> cases b4 <;> simp only [Bool.not_false,Bool.not_true,if_true,Option.bind_some,eb,Bool.false_eq_true,if_false,Bool.true_and,Bool.and_true,Bool.false_and,Bool.and_false]
 ·cases decide ((gk e.pa).1 = []) <;> rfl
 ·cases decide ((gk e.pa).1 = []) <;> rfl
def F7 (e:Ent):Bool:=decide ((e.su=200∨e.su=201∨e.su=402)∧e.tx.length≤40)
theorem AR (F:Nat) (e:Ent):fO F e.t=some (F7 e):=by
 unfold fO F7
 have es:e.t.2.2.2.2.2.2.2.2.2.1=e.su:=rfl
 have et:e.t.2.2.2.2.2.2.2.2.2.2.1=e.tx:=rfl
 have hl:decide ((e.tx.length:Int)≤40)=decide (e.tx.length≤40):=by rw [decide_eq_decide]; omega
 by_cases h1:e.su=200
 ·simp [es,et,h1,hl]
 ·by_cases h2:e.su=201
  ·simp [es,et,h2,hl]
  ·by_cases h3:e.su=402
   ·simp [es,et,h3,hl]
   ·simp [es,h1,h2,h3]
theorem Jf (e:Ent):fL e=(gJ e.te e.key && (decide (1≤e.ep∧e.ep≤1073741824) && (decide (1≤e.tk∧e.tk≤1073741824) && (!decide (e.pt<0) && (!decide (5<e.pt) && (decide ((e.pr.length:Int)=32) && (decide (0≤e.le∧e.le≤1099511627776) && (decide (0≤e.ex∧e.ex≤1099511627776) &&
  (if decide (e.st=1)=true then kx e && decide (e.su=0∧e.tx = []) else decide (e.le=0∧e.me = []∧e.pa = []∧e.bo = []) && (if decide (e.st=2)=true then F7 e else decide (e.st=3) && decide (e.su=0∧e.tx = [])))))))))) ):=by
 have hr:ni e=(if decide (e.st=1)=true then kx e && decide (e.su=0∧e.tx = []) else decide (e.le=0∧e.me = []∧e.pa = []∧e.bo = []) && (if decide (e.st=2)=true then F7 e else decide (e.st=3) && decide (e.su=0∧e.tx = []))):=by
  unfold ni F7
  by_cases h1:e.st=1
  ·simp [h1]
  ·by_cases h2:e.st=2
   ·simp [h2]
   ·simp [h1,h2]
 unfold fL
 rw [hr,Bool.and_assoc]
 congr 1
 generalize (if decide (e.st=1)=true then _ else _)=Z
 unfold nT
 rw [Bool.eq_iff_iff]
 simp only [Bool.and_eq_true,decide_eq_true_eq,Bool.not_eq_true',decide_eq_false_iff_not]
 constructor
 ·rintro ⟨h,hz⟩; refine ⟨?_,?_,?_,?_,?_,?_,?_,hz⟩ <;> omega
 ·rintro ⟨h1,h2,h3,h4,h5,h6,h7,hz⟩; refine ⟨?_,hz⟩; omega
theorem xF (e:Ent) (hm:e.me.length≤1000000) (hp:e.pa.length≤1000000) (hb:e.bo.length≤1000000):ae (fun F=>bU F e.t) (fL e):=by
 obtain ⟨N1,h1⟩:=A9 e
 obtain ⟨N2,h2⟩:=Bn e
 refine ⟨max N1 N2,fun F hF => ?_⟩
 have k1:fm F e.t=some (gJ e.te e.key):=h1 F (by omega)
 have k2:ez F e.t=some (kx e):=h2 F (by omega)
 show bU F e.t = _
 unfold bU
 rw [k1,Option.bind_some]
 have e1:e.t.2.2.1=e.st:=rfl
 have e2:e.t.2.2.2.1=e.ep:=rfl
 have e3:e.t.2.2.2.2.1=e.tk:=rfl
 have e4:e.t.2.2.2.2.2.1=e.pt:=rfl
 have e5:e.t.2.2.2.2.2.2.1=e.pr:=rfl
 have e6:e.t.2.2.2.2.2.2.2.1=e.le:=rfl
 have e7:e.t.2.2.2.2.2.2.2.2.1=e.ex:=rfl
 have e8:e.t.2.2.2.2.2.2.2.2.2.1=e.su:=rfl
 have e9:e.t.2.2.2.2.2.2.2.2.2.2.1=e.tx:=rfl
 have em:e.t.2.2.2.2.2.2.2.2.2.2.2.1=e.me:=rfl
 have ep:e.t.2.2.2.2.2.2.2.2.2.2.2.2.1=e.pa:=rfl
 have eb:e.t.2.2.2.2.2.2.2.2.2.2.2.2.2.1=e.bo:=rfl
 have l1:e.me.length+e.pa.length≤9223372036854775807:=by omega
 have l2:e.me.length+e.pa.length+e.bo.length≤9223372036854775807:=by omega
 have hA:(if decide (e.su=0)=true then some ((),decide (e.tx = []),e.t,()) else some ((),false,e.t,()))=some ((),decide (e.su=0∧e.tx = []),e.t,()):=by
  by_cases h:e.su=0 <;> simp [h]
 have hR : ∀ z:Bool,(if decide (e.le=0)=true then if decide (e.me.length+e.pa.length≤9223372036854775807)=true then if decide ((e.me ++ e.pa).length+e.bo.length≤9223372036854775807)=true then some ((),z,decide (e.me ++ e.pa ++ e.bo = []),e.t,()) else none else none else some ((),z,false,e.t,()))
   = some ((),z,decide (e.le=0∧e.me = []∧e.pa = []∧e.bo = []),e.t,()):=by
  intro z
  by_cases h:e.le=0
  ·simp [h,l1,l2]
  ·simp [h]
 rw [Jf]
 simp only [kn,rR,e1,e2,e3,e4,e5,e6,e7,e8,e9,em,ep,eb,Option.bind_some]
 cases gJ e.te e.key
 ·rfl
 cases decide (1≤e.ep∧e.ep≤1073741824)
 ·rfl
 simp only [Bool.not_true,if_true,Option.bind_some,kn,e3]
 cases decide (1≤e.tk∧e.tk≤1073741824)
 ·rfl
 simp only [Bool.not_true,if_true,Option.bind_some,e4]
 cases decide (e.pt<0)
 case true=>rfl
 simp only [Bool.not_true,Bool.not_false,if_true,Option.bind_some,kn,rR,e1,e2,e3,e4,e5,e6,e7,e8,e9,em,ep,eb]
 cases decide (5<e.pt)
 case true=>rfl
 simp only [Bool.not_true,Bool.not_false,if_true,Option.bind_some,kn,rR,e1,e2,e3,e4,e5,e6,e7,e8,e9,em,ep,eb]
 cases decide ((e.pr.length:Int)=32)
 case false=>rfl
 simp only [Bool.not_true,Bool.not_false,if_true,Option.bind_some,kn,rR,e1,e2,e3,e4,e5,e6,e7,e8,e9,em,ep,eb]
 cases decide (0≤e.le∧e.le≤1099511627776)
 case false=>rfl
 simp only [Bool.not_true,Bool.not_false,if_true,Option.bind_some,kn,rR,e1,e2,e3,e4,e5,e6,e7,e8,e9,em,ep,eb]
 cases decide (0≤e.ex∧e.ex≤1099511627776)
 case false=>rfl
 simp only [Bool.not_true,Bool.not_false,if_true,Option.bind_some,e8,e9,hA,e6,em,ep,eb,hR,e1,Bool.true_and,Bool.false_eq_true,if_false]
 rw [show ez F e.t=some (kx e) from k2,AR]
 cases decide (e.st=1)
 ·cases decide (e.st=2)
  ·cases decide (e.st=3)
   ·cases decide (e.le=0∧e.me = []∧e.pa = []∧e.bo = []) <;> rfl
   ·cases decide (e.le=0∧e.me = []∧e.pa = []∧e.bo = []) <;> rfl
  ·cases decide (e.le=0∧e.me = []∧e.pa = []∧e.bo = []) <;> rfl
 ·cases decide (e.su=0∧e.tx = []) <;> cases kx e <;> rfl
def rB (e:Ent):Bool:=if decide (e.st=1)=true then ((gT e.me).2 && ((gk e.pa).2 && (decide ((gT e.me).1=e.me) && (decide ((gk e.pa).1=e.pa) && (decide ((e.bo.length:Int)≤80) && (decide (e.su=0) && decide (e.tx = []))))))) else (decide (e.le=0) && (decide (e.me = []) && (decide (e.pa = []) && (decide (e.bo = []) && (if decide (e.st=2)=true then ((decide (e.su=200) || (decide (e.su=201) || decide (e.su=402))) && decide ((e.tx.length:Int)≤40)) else (decide (e.st=3) && (decide (e.su=0) && decide (e.tx = []))))))))
theorem Mg (e:Ent):ni e=rB e:=by
 unfold ni kx rB
 have h80:decide ((e.bo.length:Int)≤80)=decide (e.bo.length≤80):=by rw [decide_eq_decide]; omega
 have h40:decide ((e.tx.length:Int)≤40)=decide (e.tx.length≤40):=by rw [decide_eq_decide]; omega
 rw [h80,h40]
 by_cases h1:e.st=1
 ·simp only [h1,if_true,decide_true,Bool.decide_and,Bool.and_assoc]
 ·by_cases h2:e.st=2
  ·simp only [if_neg h1,if_pos h2,decide_eq_false h1,decide_eq_true h2,Bool.false_eq_true,if_false,if_true,Bool.decide_and,Bool.and_assoc,Bool.decide_or]
  ·simp only [if_neg h1,if_neg h2,decide_eq_false h1,decide_eq_false h2,Bool.false_eq_true,if_false,Bool.decide_and,Bool.and_assoc]
theorem Gs (e:Ent):fL e=(gJ e.te e.key && (!decide (e.ep<1) && (!decide (1073741824<e.ep) && (!decide (e.tk<1) && (!decide (1073741824<e.tk) && (!decide (e.pt<0) && (!decide (5<e.pt) && (decide ((e.pr.length:Int)=32) && (!decide (e.le<0) && (!decide (1099511627776<e.le) && (!decide (e.ex<0) && (!decide (1099511627776<e.ex) && rB e)))))))))))):=by
 unfold fL
 rw [Mg,Bool.and_assoc]
 congr 1
 generalize rB e=Z
 unfold nT
 rw [Bool.eq_iff_iff]
 simp only [Bool.and_eq_true,decide_eq_true_eq,Bool.not_eq_true',decide_eq_false_iff_not]
 constructor
 ·rintro ⟨h,hz⟩; refine ⟨?_,?_,?_,?_,?_,?_,?_,?_,?_,?_,?_,hz⟩ <;> omega
 ·rintro ⟨h1,h2,h3,h4,h5,h6,h7,h8,h9,h10,h11,hz⟩; refine ⟨?_,hz⟩; omega
theorem uU (e:Ent):ae (fun F=>cq F e.t) (fL e):=by
 obtain ⟨N1,h1⟩:=yh e
 obtain ⟨N2,h2⟩:=Bq e.me
 obtain ⟨N3,h3⟩:=zH e.pa
 refine ⟨max N1 (max N2 N3),fun F hF => ?_⟩
 have k1:bp F e.t=some (gJ e.te e.key):=h1 F (by omega)
 have k2:ct F e.me=some (gT e.me):=h2 F (by omega)
 have k3:cN F e.pa=some (gk e.pa):=h3 F (by omega)
 show cq F e.t = _
 unfold cq
 rw [k1,Option.bind_some,Gs]
 have e1:e.t.2.2.1=e.st:=rfl
 have e2:e.t.2.2.2.1=e.ep:=rfl
 have e3:e.t.2.2.2.2.1=e.tk:=rfl
 have e4:e.t.2.2.2.2.2.1=e.pt:=rfl
 have e5:e.t.2.2.2.2.2.2.1=e.pr:=rfl
 have e6:e.t.2.2.2.2.2.2.2.1=e.le:=rfl
 have e7:e.t.2.2.2.2.2.2.2.2.1=e.ex:=rfl
 have e8:e.t.2.2.2.2.2.2.2.2.2.1=e.su:=rfl
 have e9:e.t.2.2.2.2.2.2.2.2.2.2.1=e.tx:=rfl
 have em:e.t.2.2.2.2.2.2.2.2.2.2.2.1=e.me:=rfl
 have ep:e.t.2.2.2.2.2.2.2.2.2.2.2.2.1=e.pa:=rfl
 have eb:e.t.2.2.2.2.2.2.2.2.2.2.2.2.2.1=e.bo:=rfl
 simp only [Bool.not_true,Bool.not_false,if_true,Option.bind_some,e1,e2,e3,e4,e5,e6,e7,e8,e9,em,ep,eb,Bool.false_eq_true,if_false,Bool.true_and]
 cases gJ e.te e.key
 case false=>rfl
 simp only [Bool.not_true,Bool.not_false,if_true,Option.bind_some,e1,e2,e3,e4,e5,e6,e7,e8,e9,em,ep,eb,Bool.false_eq_true,if_false,Bool.true_and]
 cases decide (e.ep<1)
 case true=>rfl
 simp only [Bool.not_true,Bool.not_false,if_true,Option.bind_some,e1,e2,e3,e4,e5,e6,e7,e8,e9,em,ep,eb,Bool.false_eq_true,if_false,Bool.true_and]
 cases decide (1073741824<e.ep)
 case true=>rfl
 simp only [Bool.not_true,Bool.not_false,if_true,Option.bind_some,e1,e2,e3,e4,e5,e6,e7,e8,e9,em,ep,eb,Bool.false_eq_true,if_false,Bool.true_and]
 cases decide (e.tk<1)
 case true=>rfl
 simp only [Bool.not_true,Bool.not_false,if_true,Option.bind_some,e1,e2,e3,e4,e5,e6,e7,e8,e9,em,ep,eb,Bool.false_eq_true,if_false,Bool.true_and]
 cases decide (1073741824<e.tk)
 case true=>rfl
 simp only [Bool.not_true,Bool.not_false,if_true,Option.bind_some,e1,e2,e3,e4,e5,e6,e7,e8,e9,em,ep,eb,Bool.false_eq_true,if_false,Bool.true_and]
 cases decide (e.pt<0)
 case true=>rfl
 simp only [Bool.not_true,Bool.not_false,if_true,Option.bind_some,e1,e2,e3,e4,e5,e6,e7,e8,e9,em,ep,eb,Bool.false_eq_true,if_false,Bool.true_and]
 cases decide (5<e.pt)
 case true=>rfl
 simp only [Bool.not_true,Bool.not_false,if_true,Option.bind_some,e1,e2,e3,e4,e5,e6,e7,e8,e9,em,ep,eb,Bool.false_eq_true,if_false,Bool.true_and]
 cases decide ((e.pr.length:Int)=32)
 case false=>rfl
 simp only [Bool.not_true,Bool.not_false,if_true,Option.bind_some,e1,e2,e3,e4,e5,e6,e7,e8,e9,em,ep,eb,Bool.false_eq_true,if_false,Bool.true_and]
 cases decide (e.le<0)
 case true=>rfl
 simp only [Bool.not_true,Bool.not_false,if_true,Option.bind_some,e1,e2,e3,e4,e5,e6,e7,e8,e9,em,ep,eb,Bool.false_eq_true,if_false,Bool.true_and]
 cases decide (1099511627776<e.le)
 case true=>rfl
 simp only [Bool.not_true,Bool.not_false,if_true,Option.bind_some,e1,e2,e3,e4,e5,e6,e7,e8,e9,em,ep,eb,Bool.false_eq_true,if_false,Bool.true_and]
 cases decide (e.ex<0)
 case true=>rfl
 simp only [Bool.not_true,Bool.not_false,if_true,Option.bind_some,e1,e2,e3,e4,e5,e6,e7,e8,e9,em,ep,eb,Bool.false_eq_true,if_false,Bool.true_and]
 cases decide (1099511627776<e.ex)
 case true=>rfl
 unfold rB
 simp only [Bool.not_true,Bool.not_false,if_true,Option.bind_some,e1,e2,e3,e4,e5,e6,e7,e8,e9,em,ep,eb,Bool.false_eq_true,if_false,Bool.true_and]
 cases decide (e.st=1)
 case true =>
  simp only [Bool.not_true,Bool.not_false,if_true,Option.bind_some,e1,e2,e3,e4,e5,e6,e7,e8,e9,em,ep,eb,Bool.false_eq_true,if_false,Bool.true_and]
  rw [k2,Option.bind_some,k3,Option.bind_some]
  generalize gT e.me=m
  generalize gk e.pa=p
  obtain ⟨m,b1⟩:=m
  obtain ⟨p,b2⟩:=p
  simp only [Bool.not_true,Bool.not_false,if_true,Option.bind_some,e1,e2,e3,e4,e5,e6,e7,e8,e9,em,ep,eb,Bool.false_eq_true,if_false,Bool.true_and]
  cases b1
  case false=>rfl
  simp only [Bool.not_true,Bool.not_false,if_true,Option.bind_some,e1,e2,e3,e4,e5,e6,e7,e8,e9,em,ep,eb,Bool.false_eq_true,if_false,Bool.true_and]
  cases b2
  case false=>rfl
  simp only [Bool.not_true,Bool.not_false,if_true,Option.bind_some,e1,e2,e3,e4,e5,e6,e7,e8,e9,em,ep,eb,Bool.false_eq_true,if_false,Bool.true_and]
  cases decide (m=e.me)
  case false=>rfl
  simp only [Bool.not_true,Bool.not_false,if_true,Option.bind_some,e1,e2,e3,e4,e5,e6,e7,e8,e9,em,ep,eb,Bool.false_eq_true,if_false,Bool.true_and]
  cases decide (p=e.pa)
  case false=>rfl
  simp only [Bool.not_true,Bool.not_false,if_true,Option.bind_some,e1,e2,e3,e4,e5,e6,e7,e8,e9,em,ep,eb,Bool.false_eq_true,if_false,Bool.true_and]
  cases decide ((e.bo.length:Int)≤80)
  case false=>rfl
  simp only [Bool.not_true,Bool.not_false,if_true,Option.bind_some,e1,e2,e3,e4,e5,e6,e7,e8,e9,em,ep,eb,Bool.false_eq_true,if_false,Bool.true_and]
  cases decide (e.su=0) <;> rfl
 simp only [Bool.not_true,Bool.not_false,if_true,Option.bind_some,e1,e2,e3,e4,e5,e6,e7,e8,e9,em,ep,eb,Bool.false_eq_true,if_false,Bool.true_and]
 cases decide (e.le=0)
 case false=>rfl
 simp only [Bool.not_true,Bool.not_false,if_true,Option.bind_some,e1,e2,e3,e4,e5,e6,e7,e8,e9,em,ep,eb,Bool.false_eq_true,if_false,Bool.true_and]
 cases decide (e.me = [])
 case false=>rfl
 simp only [Bool.not_true,Bool.not_false,if_true,Option.bind_some,e1,e2,e3,e4,e5,e6,e7,e8,e9,em,ep,eb,Bool.false_eq_true,if_false,Bool.true_and]
 cases decide (e.pa = [])
 case false=>rfl
 simp only [Bool.not_true,Bool.not_false,if_true,Option.bind_some,e1,e2,e3,e4,e5,e6,e7,e8,e9,em,ep,eb,Bool.false_eq_true,if_false,Bool.true_and]
 cases decide (e.bo = [])
 case false=>rfl
 simp only [Bool.not_true,Bool.not_false,if_true,Option.bind_some,e1,e2,e3,e4,e5,e6,e7,e8,e9,em,ep,eb,Bool.false_eq_true,if_false,Bool.true_and]
 cases decide (e.st=2)
 case true =>
  simp only [Bool.not_true,Bool.not_false,if_true,Option.bind_some,e1,e2,e3,e4,e5,e6,e7,e8,e9,em,ep,eb,Bool.false_eq_true,if_false,Bool.true_and]
  cases decide (e.su=200)
  case true=>rfl
  simp only [Bool.not_true,Bool.not_false,if_true,Option.bind_some,e1,e2,e3,e4,e5,e6,e7,e8,e9,em,ep,eb,Bool.false_eq_true,if_false,Bool.true_and]
  cases decide (e.su=201)
  case true=>rfl
  simp only [Bool.not_true,Bool.not_false,if_true,Option.bind_some,e1,e2,e3,e4,e5,e6,e7,e8,e9,em,ep,eb,Bool.false_eq_true,if_false,Bool.true_and]
  cases decide (e.su=402) <;> rfl
 simp only [Bool.not_true,Bool.not_false,if_true,Option.bind_some,e1,e2,e3,e4,e5,e6,e7,e8,e9,em,ep,eb,Bool.false_eq_true,if_false,Bool.true_and]
 cases decide (e.st=3)
 case false=>rfl
 simp only [Bool.not_true,Bool.not_false,if_true,Option.bind_some,e1,e2,e3,e4,e5,e6,e7,e8,e9,em,ep,eb,Bool.false_eq_true,if_false,Bool.true_and]
 cases decide (e.su=0) <;> rfl
/-! ### bytes -/
end Go.Vm
