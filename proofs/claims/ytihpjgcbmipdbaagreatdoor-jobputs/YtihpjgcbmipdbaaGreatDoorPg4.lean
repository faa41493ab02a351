import Derived.Test.YtihpjgcbmipdbaaGreatDoorFlaw29
import Derived.Test.YtihpjgcbmipdbaaGreatDoorPh4
import Derived.Test.YtihpjgcbmipdbaaGreatDoorPk1
import Derived.Test.YtihpjgcbmipdbaaGreatDoorPj7
import Derived.Test.YtihpjgcbmipdbaaGreatDoorPj2
import Derived.Test.YtihpjgcbmipdbaaGreatDoorFnums
import Derived.Test.YtihpjgcbmipdbaaGreatDoorFlease
import Derived.Test.YtihpjgcbmipdbaaGreatDoorFprog2
import Derived.Test.YtihpjgcbmipdbaaGreatDoorPu2
import Derived.Lib.AtoiAllCases
/- Phrases: the document's names, gaps and checks are the plain ones; the wake; the law of checks. No condition but on lengths. -/
namespace Go.Vm
open Go.Proofs
open Go.Lib (decodeL decodeN decodeL_N decode_N decodeN_shape decodeL_le)
set_option linter.unusedVariables false
set_option linter.unusedSimpArgs false
/-! ### names and gaps -/
def uZ (s:By):Bool:=decide (s.length≤60) && (oB s).isSome
theorem IW (s:By) (hs:s.length≤1000):ae (fun F=>iB F s) (uZ s):=by
 unfold iB
 refine ae.bind (Kh s hs) (.of fun F => ?_)
 unfold Jo uZ
 by_cases h6:60<s.length
 ·rw [if_pos h6,decide_eq_false (by omega)]; rfl
 ·rw [if_neg h6,decide_eq_true (by omega)]
  cases oB s <;> rfl
end Go.Vm
/- Programs: numbers, phases, their texts, what reads them: plainly. No condition. -/
namespace Go.Vm
open Go.Lib (decDigits itoa decNat decFrom digitVal)
set_option linter.unusedVariables false
set_option linter.unusedSimpArgs false
/-! ### numbers -/
abbrev PhT:=Int×By×Int×By×Unit
def pI (s:By):Bool:=s.all (fun c=>c != 59) && uZ s
def ic (p:PhT):Bool :=
 if p.1=1 then decide (1≤p.2.2.1) && decide (p.2.2.1≤80) && decide (p.2.1 = []) && decide (p.2.2.2.1 = [])
 else if p.1=2 then decide (1≤p.2.2.1) && decide (p.2.2.1≤1073741824) && nmP p.2.1 && decide (p.2.2.2.1 = [])
 else if p.1=3 then decide (p.2.2.1=0) && nmP p.2.1 && pI p.2.2.2.1
 else if p.1=4 then (decide (p.2.2.1=200) || decide (p.2.2.1=201)) && decide (p.2.1 = []) && pI p.2.2.2.1
 else false
def Bj:List PhT→Bool
 | []=>true
 | p :: r=>ic p && (decide (p.1=4) == decide (r = [])) && Bj r
def BC (l:List PhT):Bool:=decide (1≤l.length) && decide (l.length≤5) && Bj l
abbrev Kr:By := [111,110,108,121]
abbrev Kg:By := [110,101,101,100]
theorem Ba {p:PhT} (h:ic p=true) :
  (∃ n:Nat,p=(1,[],(n:Int),[],())∧1≤n∧n≤80)∨(∃ (nm:By) (n:Nat),p=(2,nm,(n:Int),[],())∧nmP nm=true∧1≤n∧n≤1073741824) ∨
  (∃ nm t,p=(3,nm,0,t,())∧nmP nm=true∧pI t=true) ∨ ∃ (n:Nat) (t:By),p=(4,[],(n:Int),t,())∧(n=200∨n=201)∧pI t=true:=by
 obtain ⟨k,nm,n,t,u⟩:=p
 unfold ic at h
 simp only at h
 split at h
 ·rename_i hk
  subst hk
  simp only [Bool.and_eq_true,decide_eq_true_eq] at h
  obtain ⟨⟨⟨h1,h2⟩,rfl⟩,rfl⟩:=h
  exact .inl ⟨n.toNat,by rw [show ((n.toNat:Nat):Int)=n by omega],by omega,by omega⟩
 split at h
 ·rename_i hk
  subst hk
  simp only [Bool.and_eq_true,decide_eq_true_eq] at h
  obtain ⟨⟨⟨h1,h2⟩,h3⟩,rfl⟩:=h
  exact .inr (.inl ⟨nm,n.toNat,by rw [show ((n.toNat:Nat):Int)=n by omega],h3,by omega,by omega⟩)
 split at h
 ·rename_i hk
  subst hk
  simp only [Bool.and_eq_true,decide_eq_true_eq] at h
  obtain ⟨⟨rfl,h2⟩,h3⟩:=h
  exact .inr (.inr (.inl ⟨nm,t,rfl,h2,h3⟩))
 split at h
 ·rename_i hk
  subst hk
  simp only [Bool.and_eq_true,Bool.or_eq_true,decide_eq_true_eq] at h
  obtain ⟨⟨h1,rfl⟩,h3⟩:=h
  exact .inr (.inr (.inr ⟨n.toNat,t,by rw [show ((n.toNat:Nat):Int)=n by omega],by omega,h3⟩))
 ·cases h
end Go.Vm
/- Programs: printed and parsed, plainly; the document's parser on a printed one. No condition. -/
namespace Go.Vm
open Go.Lib (decDigits itoa)
set_option linter.unusedVariables false
set_option linter.unusedSimpArgs false
theorem uA : ∀ l:List PhT,Bj l=true → ∀ p∈l,ic p=true
 | [],h,p,hp=>by cases hp
 | q :: l,h,p,hp=>by
  unfold Bj at h
  rw [Bool.and_eq_true,Bool.and_eq_true] at h
  rcases List.mem_cons.1 hp with rfl | hp
  ·exact h.1.1
  ·exact uA l h.2 p hp
theorem Fq {l:List PhT} (h:BC l=true):(∀ p∈l,ic p=true)∧1≤l.length∧l.length≤5:=by
 unfold BC at h
 simp only [Bool.and_eq_true,decide_eq_true_eq] at h
 exact ⟨uA l h.2,h.1.1,h.1.2⟩
end Go.Vm
/- Phrases: gaps; the wake; the law of checks. No condition but on lengths. -/
namespace Go.Vm
open Go.Proofs
open Go.Lib (decodeL decodeN decodeL_N decode_N decodeN_shape decodeL_le)
set_option linter.unusedVariables false
set_option linter.unusedSimpArgs false
theorem oh : ∀ s:By,(∀ b∈s,b.toNat<128)→(bt s).map (·.1)=s.map fun b=>(b.toNat:Int)
 | [],h=>by rw [dL]; rfl
 | c :: s,h=>by
  rw [Fk c (h c (List.mem_cons_self ..)),List.map_cons,List.map_cons,oh s fun b hb=>h b (List.mem_cons_of_mem _ hb)]
end Go.Vm
/- Phrases: what the document fills is the plain text. No condition but on lengths. -/
namespace Go.Vm
open Go.Proofs
open Go.Lib (decodeL decodeN decodeL_N decode_N decodeN_shape decodeL_le)
set_option linter.unusedVariables false
set_option linter.unusedSimpArgs false
/-! ### members -/
end Go.Vm
/- Programs: what is to be done next, how many calls are ahead: plainly. No condition. -/
namespace Go.Vm
open Go.Proofs
set_option linter.unusedVariables false
set_option linter.unusedSimpArgs false
abbrev DoT:=Int×Int×By×Int×By×Int×Int×Int×By×By×Unit
abbrev zDo:DoT:=(0,0,[],0,[],0,0,0,[],[],())
abbrev MA:By := [114,101,102,117,115,101,100,32]
abbrev EnT.pt (e:EnT):Int:=e.2.2.2.2.2.1
abbrev EnT.tk (e:EnT):Int:=e.2.2.2.2.1
abbrev EnT.ep (e:EnT):Int:=e.2.2.2.1
def GC (s:By) (n:Int):Bool:=decide (((bt s).length:Int)≤n) && ((bt s).map (·.1)).all fun x=>decide (1≤cR x∧cR x≤3)
def D3 (body name:By) (n:Int):Bool:=(firstM name (s7 (vP body))).2 && (decide (uV (vP (firstM name (s7 (vP body))).1)=3) && (decide (1≤Ht (vP (firstM name (s7 (vP body))).1)) && decide (Ht (vP (firstM name (s7 (vP body))).1)≤n)))
def w7 (ok:Bool) (why:By):DoT:=if ok=true then (1,0,[],0,[],0,0,0,[],[],()) else (2,402,MA ++ why,0,[],0,0,0,[],[],())
def doT (x:PhT) (e:EnT):DoT :=
 if x.1=1 then w7 (GC e.body x.2.2.1) Kr
 else if x.1=2 then w7 (D3 e.body x.2.1 x.2.2.1) (Kg ++ 32 :: x.2.1)
 else if x.1=3 then (3,0,[],e.1,e.key,e.ep,e.pt,e.tk,x.2.1,qR x.2.2.2.1 e,())
 else (2,x.2.2.1,qR x.2.2.2.1 e,0,[],0,0,0,[],[],())
def lR (p:List PhT) (e:EnT):DoT×Int :=
 if BC p=false then (zDo,1) else if e.pt<0∨(p.length:Int)≤e.pt then (zDo,6) else
 match p[e.pt.toNat]? with
 | none=>(zDo,6)
 | some x=>(doT x e,0)
/-! ### calls -/
def iI (p:List PhT) (n:Nat):Nat:=((p.take n).filter fun x=>decide (x.1=3)).length
def rY (p:List PhT) (point:Int):Int:=(iI p point.toNat:Nat)
theorem A0 {p:List PhT} {n:Nat} {x:PhT} (h:p[n]? = some x):iI p (n+1)=iI p n+if x.1=3 then 1 else 0:=by
 unfold iI
 rw [List.take_add_one,h,List.filter_append,List.length_append]
 congr 1
 by_cases c:x.1=3 <;> simp [c]
theorem Fe (p:List PhT) (n:Nat):iI p n≤p.length:=by
 unfold iI
 have h1:=List.length_filter_le (fun x:PhT=>decide (x.1=3)) (p.take n)
 rw [List.length_take] at h1
 omega
theorem Da {p:List PhT} {n:Nat} (h:p.length≤n):iI p n=iI p p.length:=by
 unfold iI
 rw [List.take_of_length_le h,List.take_of_length_le (Nat.le_refl _)]
end Go.Vm
/- Jobs: plainly: what is planned. No condition. -/
namespace Go.Vm
open Go.Proofs
set_option linter.unusedVariables false
set_option linter.unusedSimpArgs false
abbrev JbT:=Int×Int×Int×By×Int×Int×Bool×Int×Unit
abbrev RpT:=Int×By×Int×Int×Int×Int×Unit
abbrev AnT:=Int×Int×Int×By×Int×Int×Unit
abbrev CaT:=Int×By×Int×Int×Int×By×By×Unit
abbrev PlT:=Int×Int×By×Int×Int×Int×Int×By×Int×Int×Int×By×By×By×By×Int×By×Int×Int×Int×By×By×Int×Int×Int×By×Int×Int×Unit
abbrev zCa:CaT:=(0,[],0,0,0,[],[],())
abbrev zAn:AnT:=(0,0,0,[],0,0,())
def yQ (k:Int) (e:Ent) (c:CaT) (a:AnT):PlT :=
 (k,e.te,e.key,e.st,e.ep,e.tk,e.pt,e.pr,e.le,e.ex,e.su,e.tx,e.me,e.pa,e.bo,c.1,c.2.1,c.2.2.1,c.2.2.2.1,c.2.2.2.2.1,c.2.2.2.2.2.1,c.2.2.2.2.2.2.1,a.1,a.2.1,a.2.2.1,a.2.2.2.1,a.2.2.2.2.1,a.2.2.2.2.2.1,())
abbrev zPl:PlT:=yQ 0 Ent.zero zCa zAn
abbrev JbT.cl (j:JbT):Int:=j.1
abbrev JbT.se (j:JbT):Int:=j.2.1
abbrev JbT.te (j:JbT):Int:=j.2.2.1
abbrev JbT.ky (j:JbT):By:=j.2.2.2.1
abbrev JbT.eo (j:JbT):Int:=j.2.2.2.2.1
abbrev JbT.to (j:JbT):Int:=j.2.2.2.2.2.1
abbrev JbT.wa (j:JbT):Bool:=j.2.2.2.2.2.2.1
abbrev JbT.ph (j:JbT):Int:=j.2.2.2.2.2.2.2.1
abbrev RpT.code (r:RpT):Int:=r.2.2.2.2.2.1
def LP (j:JbT) (e:Ent):Bool:=decide (j.te=e.te) && (decide (j.ky=e.key) && (decide (j.eo=e.ep) && decide (j.to=e.tk)))
def lT (j:JbT) (e:Ent) (now:Int):Bool:=LP j e && Dq e now
def vr (j:JbT) (r:RpT):Bool:=j.wa && (decide (j.te=r.1) && (decide (j.ky=r.2.1) && (decide (j.eo=r.2.2.1) && (decide (j.ph=r.2.2.2.1) && decide (j.to=r.2.2.2.2.1)))))
def lp (j:JbT):AnT:=(j.cl,j.se,503,[],1,0,())
def Ap (j:JbT):PlT:=yQ 1 Ent.zero zCa (lp j)
def wC (j:JbT) (k:Int) (x:Ent×Int) (a:AnT):PlT:=if x.2=0 then yQ k x.1 zCa a else Ap j
abbrev DoT.ca (d:DoT):CaT:=d.2.2.2
def qL (j:JbT) (e:Ent) (p:List PhT) (now:Int) (c:CfT):PlT :=
 if lT j e now=false then Ap j else if j.wa=true then zPl
 else if (lR p e.t).2≠0 then Ap j
 else if (lR p e.t).1.1=3 then yQ 2 Ent.zero (lR p e.t).1.ca zAn
 else if (lR p e.t).1.1=1 then wC j 3 (nk e j.to now c) zAn
 else wC j 4 (r9 e j.to (lR p e.t).1.2.1 (lR p e.t).1.2.2.1 now c) (j.cl,j.se,(lR p e.t).1.2.1,(lR p e.t).1.2.2.1,0,e.ep,())
def A3 (j:JbT) (e:Ent) (p:List PhT) (r:RpT) (now:Int) (c:CfT):PlT :=
 if vr j r=false∨r.code<1∨3<r.code then zPl else if lT j e now=false then Ap j
 else if r.code=1 then wC j 3 (nk e j.to now c) zAn
 else if r.code=2∧rY p e.pt=0 then wC j 4 (pq e j.to) (lp j)
 else wC j 4 (uK e j.to now) (lp j)
end Go.Vm
/- Leases: the program's answer and the document's are the plain one. No condition. -/
namespace Go.Vm
open Go.Proofs
set_option linter.unusedVariables false
set_option linter.unusedSimpArgs false
theorem gO (F:Nat) (n lo hi:Int) (h:lo≤hi):cA F (n,lo,hi)=some (brT n lo hi):=by
 unfold cA brT
 by_cases h1:n<lo
 ·have h2 : ¬ hi<lo:=by omega
  simp [h1,h2]
 ·simp [h1]
theorem qg (F:Nat) (n:Int):gC F n=some (u9 n):=by
 unfold gC
 rw [gO F n 0 1099511627776 (by decide)]
 rfl
theorem KK {n lo hi:Int} (h1:lo≤n) (h2:n≤hi):brT n lo hi=n:=by
 unfold brT
 rw [if_neg (by omega),if_neg (by omega)]
theorem DQ (F:Nat) (now s:Int) (h:1≤s∧s≤1073741824):kO F (now,s)=some (pP now s):=by
 unfold kO
 have e:j1 F s=some s:=by
  unfold j1
  rw [gO F s 0 1073741824 (by decide),KK (by omega) (by omega)]
  rfl
 have ht:=Br now
 simp only [qg,e,Option.bind_some]
 rw [wrap64 _ (by omega) (by omega)]
 rfl
def cfg (c:CfT):CfT:=(brT c.1 1 4,pN c,yu c,brT c.2.2.2.1 1 200,brT c.2.2.2.2.1 500 20000,brT c.2.2.2.2.2.1 1000 60000,())
theorem w6 (F:Nat) (c:CfT):ij F c=some (cfg c):=by
 unfold ij
 rw [gO F c.1 1 4 (by decide),gO F c.2.1 1 1073741824 (by decide),gO F c.2.2.1 1 1073741824 (by decide),gO F c.2.2.2.1 1 200 (by decide),gO F c.2.2.2.2.1 500 20000 (by decide),gO F c.2.2.2.2.2.1 1000 60000 (by decide)]
 rfl
theorem IX (F:Nat) (e:Ent) (now:Int):kf F (e.t,now)=some (Dq e now):=by
 unfold kf Dq
 simp only [Ent.t,qg]
 by_cases h:e.st=1
 ·simp [h]
  rfl
 ·simp [h]
theorem ry (F:Nat) (e:Ent) (tok:Int) (hm:bU F e.t=some (fL e)):ey F (e.t,tok)=some (okP e tok):=by
 have h1:k7 F e.t=some (decide (e.st=1) && fL e):=by
  unfold k7
  have e1:e.t.2.2.1=e.st:=rfl
  simp only [hm,e1]
  by_cases h:e.st=1 <;> simp [h]
 unfold ey okP
 have e2:e.t.2.2.2.2.1=e.tk:=rfl
 simp only [h1,Option.bind_some,e2]
 cases (decide (e.st=1) && fL e) with
 | true=>by_cases h:e.tk=tok <;> simp [h]
 | false=>simp
theorem D9 {e:Ent} (h:fL e=true):0≤e.pt∧e.pt≤5:=by
 unfold fL nT at h
 simp only [Bool.and_eq_true,decide_eq_true_eq] at h
 omega
theorem Jk (F:Nat) (e:Ent) (tok now:Int) (c:CfT) (hm:bU F e.t=some (fL e)):fP F (e.t,tok,now,c)=some ((nk e tok now c).1.t,(nk e tok now c).2):=by
 unfold fP nk
 simp only [ry F e tok hm,Option.bind_some,w6]
 by_cases h:okP e tok=0
 ·rw [if_pos h,if_neg (by simp [h])]
  have hb:=D9 (og h).2.1
  have e1:e.t.2.2.2.2.2.1=e.pt:=rfl
  by_cases h5:e.pt=5
  ·rw [if_pos h5,if_pos (by rw [e1]; exact decide_eq_true h5)]
   rfl
  ·rw [if_neg h5,if_neg (by rw [e1,decide_eq_true_eq]; exact h5),e1]
   have hp:=DQ F now (pN c) (Eu c)
   have e2:(cfg c).2.1=pN c:=rfl
   rw [e2,hp,wrap64 _ (by omega) (by omega)]
   rfl
 ·rw [if_neg h,if_pos (by simp [h])]
  rfl
def kZ (e:Ent) (status:Int) (text:B8) (now:Int) (c:CfT):Ent:={ vd e 2 with su:=status,tx:=text,ex:=pP now (yu c) }
theorem Fs (F:Nat) (e:Ent) (tok status:Int) (text:B8) (now:Int) (c:CfT) (hm:bU F e.t=some (fL e)) (hm2:bU F (kZ e status text now c).t=some (fL (kZ e status text now c))) :
  fG F (e.t,tok,status,text,now,c)=some ((r9 e tok status text now c).1.t,(r9 e tok status text now c).2):=by
 unfold fG r9
 simp only [ry F e tok hm,Option.bind_some,w6]
 by_cases h:okP e tok=0
 ·rw [if_pos h,if_neg (by simp [h])]
  have ho:jW F (e.t,2)=some (vd e 2).t:=rfl
  have hp:=DQ F now (yu c) (JQ c)
  have e2:(cfg c).2.2.1=yu c:=rfl
  rw [ho,Option.bind_some,e2,hp,Option.bind_some,Option.bind_some]
  show ((bU F (kZ e status text now c).t).bind fun v5=>if (!v5)=true then some (Ent.zero.t,1) else some ((kZ e status text now c).t,0)) = _
  rw [hm2,Option.bind_some]
  show _=some ((if fL (kZ e status text now c)=true then (kZ e status text now c,0) else (Ent.zero,1):Ent×Int).1.t,(if fL (kZ e status text now c)=true then (kZ e status text now c,0) else (Ent.zero,1):Ent×Int).2)
  cases fL (kZ e status text now c) <;> rfl
 ·rw [if_neg h,if_pos (by simp [h])]
  rfl
theorem GG (F:Nat) (e:Ent) (tok:Int) (hm:bU F e.t=some (fL e)):ix F (e.t,tok)=some ((pq e tok).1.t,(pq e tok).2):=by
 unfold ix pq
 simp only [ry F e tok hm,Option.bind_some]
 by_cases h:okP e tok=0
 ·rw [if_pos h,if_neg (by simp [h])]
  rfl
 ·rw [if_neg h,if_pos (by simp [h])]
  rfl
theorem BL (F:Nat) (e:Ent) (tok now:Int) (hm:bU F e.t=some (fL e)):eW F (e.t,tok,now)=some ((uK e tok now).1.t,(uK e tok now).2):=by
 unfold eW uK
 simp only [ry F e tok hm,Option.bind_some,qg]
 by_cases h:okP e tok=0
 ·rw [if_pos h,if_neg (by simp [h])]
  rfl
 ·rw [if_neg h,if_pos (by simp [h])]
  rfl
end Go.Vm
/- Signs of a text: how many, and whether all are of some sorts (cut out of the texts of sign). No condition but on lengths. -/
namespace Go.Vm
open Go.Lib (decodeL decodeN decodeL_N decode_N decodeN_shape decodeL_le)
set_option linter.unusedVariables false
set_option linter.unusedSimpArgs false
theorem JI {α:Type} (l:List α) (k:Nat):idx l (k:Int)=l[k]? := by
 unfold idx
 rw [if_pos (by omega)]
 simp
theorem J3 {α:Type} (pre t:List α) (x:α):idx (pre ++ x :: t) (pre.length:Int)=some x:=by
 rw [JI]; simp
def ju (r:Int):Nat→List Int→Int
 | _,[] => -1
 | k,x :: t=>if x=r then (k:Int) else ju r (k+1) t
theorem Av (l:List Int) (hl:l.length≤1000000000000) (v:Int):ae (fun F=>dA F (l,v)) (ju v 0 l):=by
 have loop : ∀ (t pre:List Int),l=pre ++ t → ∃ y,ag bR (l,v,(l.length:Int),(pre.length:Int),()) y∧dh y (fun _=>(-1:Int)) (fun v=>v.1)=ju v pre.length t:=by
  intro t
  induction t with
  | nil =>
   intro pre h
   simp only [List.append_nil] at h
   subst h
   refine ⟨.inl (),ag.fin (ae.of fun F => ?_),rfl⟩
   unfold bR
   simp
  | cons x t ih =>
   intro pre h
   have hlen:l.length=pre.length+(t.length+1):=by rw [h]; simp
   have h1:(pre.length:Int)<(l.length:Int):=by omega
   have hi:idx l (pre.length:Int)=some x:=by rw [h]; exact J3 pre t x
   simp only [ju]
   by_cases he:x=v
   ·rw [if_pos he]
    refine ⟨.inr ((pre.length:Int),()),ag.fin (ae.of fun F => ?_),rfl⟩
    unfold bR
    simp [h1,hi,he]
   ·rw [if_neg he]
    obtain ⟨y,q1,q2⟩:=ih (pre ++ [x]) (by rw [h]; simp)
    refine ⟨y,ag.step (ae.of fun F => ?_) q1,by simpa using q2⟩
    unfold bR
    have he' : ¬ v=x:=fun e=>he e.symm
    have hw:IntKind.i64.wrap ((pre.length:Int)+1)=((pre.length+1:Nat):Int):=by rw [wrap64 _ (by omega) (by omega)]; rfl
    simp [h1,hi,he',hw]
 obtain ⟨y,h1,h2⟩:=loop l [] rfl
 unfold dA
 refine h1.run.bind ?_
 refine ae.of fun F => ?_
 rw [← (show _=ju v 0 l from h2)]
 cases y <;> rfl
theorem rr (v:Int) : ∀ (l:List Int) (k:Nat),decide (0≤ju v k l)=decide (v∈l)
 | [],k=>by simp [ju]
 | x :: t,k=>by
  unfold ju
  by_cases h:x=v
  ·rw [if_pos h]
   have:(0:Int)≤(k:Int):=by omega
   simp [this,h]
  ·rw [if_neg h,rr v t (k+1)]
   have h' : ¬ v=x:=fun e=>h e.symm
   simp [h']
theorem uv (l:List Int) (hl:l.length≤1000000000000) (v:Int):ae (fun F=>cM F (l,v)) (decide (v∈l)):=by
 unfold cM
 refine (Av l hl v).bind ?_
 exact ae.of fun F=>by rw [rr]
def Ah (sorts:List Int) (l:List Int):Bool:=l.all fun x=>decide (cR x∈sorts)
theorem CM (s:B8) (sorts:List Int) (hl:sorts.length≤1000000000000):ae (fun F=>jj F (s,sorts)) (Ah sorts ((bt s).map (·.1))):=by
 have loop : ∀ (n p:Nat),s.length - p≤n→p≤s.length →
   ∃ y,ag fw (sorts,(),(s,p),()) y∧dh y (fun _=>true) (fun v=>v.1)=Ah sorts ((bt (s.drop p)).map (·.1)):=by
  intro n
  induction n with
  | zero =>
   intro p hn hp
   have hpe:p=s.length:=by omega
   subst hpe
   refine ⟨.inl (),ag.fin (ae.of fun F => ?_),by rw [List.drop_length,dL]; rfl⟩
   unfold fw
   simp
  | succ n ih =>
   intro p hn hp
   by_cases hlt:p<s.length
   case neg=>exact ih p (by omega) hp
   have hpos:=bg (s.drop p)
   have hnx:=oP hlt
   rw [fB (ki hlt),lE]
   have hc:=uv sorts hl (cR ((decodeL (s.drop p)).1:Int))
   by_cases he:cR ((decodeL (s.drop p)).1:Int)∈sorts
   ·obtain ⟨y,h1,h2⟩:=ih (p+(decodeL (s.drop p)).2) (by omega) hnx
    refine ⟨y,ag.step ?_ h1,by rw [h2]; simp [Ah,he]⟩
    unfold fw
    simp only [hlt,decide_true,if_true,iX,Option.bind_some,fS,dN]
    refine hc.bind ?_
    exact ae.of fun F=>by simp [he]
   ·refine ⟨.inr (false,()),ag.fin ?_,by simp [Ah,he,dh]⟩
    unfold fw
    simp only [hlt,decide_true,if_true,iX,Option.bind_some,fS,dN]
    refine hc.bind ?_
    exact ae.of fun F=>by simp [he]
 obtain ⟨y,h1,h2⟩:=loop s.length 0 (by omega) (by omega)
 unfold jj
 refine h1.run.bind ?_
 refine ae.of fun F => ?_
 rw [List.drop_zero] at h2
 rw [← h2]
 cases y <;> rfl
theorem E1 (s:B8) (hs:s.length≤100000000000) (p:Nat) (hp:p≤s.length) (k:Nat) (hk:k+(s.length - p)≤1000000000000):ag dY ((k:Int),(),(s,p),()) (((k+(bt (s.drop p)).length:Nat):Int),()):=by
 have main : ∀ n p k,s.length - p≤n→p≤s.length→k+(s.length - p)≤1000000000000→ag dY ((k:Int),(),(s,p),()) (((k+(bt (s.drop p)).length:Nat):Int),()):=by
  intro n
  induction n with
  | zero =>
   intro p k hn hp hk
   have:p=s.length:=by omega
   subst this
   refine ag.fin (ae.of fun F => ?_)
   unfold dY
   simp [dL]
  | succ n ih =>
   intro p k hn hp hk
   by_cases hlt:p<s.length
   ·have hpos:=bg (s.drop p)
    have hnx:=oP hlt
    rw [fB (ki hlt),lE]
    refine ag.step (x':=(((k+1:Nat):Int),(),(s,p+(decodeL (s.drop p)).2),())) (ae.of fun F => ?_) ?_
    ·have w:IntKind.i64.wrap ((k:Int)+1)=((k+1:Nat):Int):=by rw [wrap64 _ (by omega) (by omega)]; rfl
     unfold dY
     simp only [hlt,decide_true,if_true,dN,w]
    ·have:=ih (p+(decodeL (s.drop p)).2) (k+1) (by omega) hnx (by omega)
     rw [List.length_cons,show k+((bt (List.drop (p+(decodeL (List.drop p s)).2) s)).length+1)=k+1+(bt (List.drop (p+(decodeL (List.drop p s)).2) s)).length by omega]
     exact this
   ·have:p=s.length:=by omega
    subst this
    refine ag.fin (ae.of fun F => ?_)
    unfold dY
    simp [dL]
 exact main _ p k (Nat.le_refl _) hp hk
theorem Ae (s:B8) (hs:s.length≤100000000000):ae (fun F=>j0 F s) ((bt s).length:Int):=by
 unfold j0
 have:=E1 s hs 0 (by omega) 0 (by omega)
 rw [List.drop_zero,Nat.zero_add] at this
 exact this.run.bind (k:=fun F (v1:Int×Unit)=>some v1.1) (ae.of fun F=>rfl)
end Go.Vm
/- Programs: the program's functions are the plain ones. No condition but on lengths. -/
namespace Go.Vm
open Go.Proofs
open Go.Lib (decDigits itoa)
set_option linter.unusedVariables false
set_option linter.unusedSimpArgs false
/-! ### cutting -/
theorem LS (x:By):decide (Lib.indexByte x 59<0)=x.all (fun c=>c != 59):=by
 have hg:=Lib.indexByte_ge x 59
 by_cases h:Lib.indexByte x 59<0
 ·rw [decide_eq_true h]
  have hm:Lib.indexByte x 59 = -1:=by omega
  symm
  rw [List.all_eq_true]
  intro c hc
  obtain ⟨k,hk⟩:=List.getElem?_of_mem hc
  have:=Lib.indexByte_none hm k
  rw [bne_iff_ne]
  rintro rfl
  exact this hk
 ·rw [decide_eq_false h]
  obtain ⟨o,ho⟩ : ∃ o:Nat,Lib.indexByte x 59=o:=⟨(Lib.indexByte x 59).toNat,by omega⟩
  have h1:=(Lib.indexByte_some ho).1
  symm
  rw [List.all_eq_false]
  exact ⟨59,List.mem_of_getElem? h1,by decide⟩
theorem Dr (x:By) (hx:x.length≤1000):ae (fun F=>jg F x) (pI x):=by
 unfold jg pI
 have hi : ∀ F,av F (x,59)=some (Lib.indexByte x 59):=fun F=>rfl
 have h9:=LS x
 by_cases h:Lib.indexByte x 59<0
 ·rw [decide_eq_true h] at h9
  rw [← h9,Bool.true_and]
  refine ae.bind (r:=((uZ x,()):Bool×Unit)) (ae.bind (.of hi) (ae.pos (decide_eq_true h) (ae.bind (IW x hx) (.ret _)))) (.ret _)
 ·rw [decide_eq_false h] at h9
  rw [← h9,Bool.false_and]
  refine ae.bind (r:=((false,()):Bool×Unit)) (ae.bind (.of hi) (ae.neg (by rw [decide_eq_true_eq]; exact h) (.ret _))) (.ret _)
def wA (p:PhT):Prop:=p.2.1.length≤1000∧p.2.2.2.1.length≤1000
theorem J9 (p:PhT) (hp:wA p):ae (fun F=>jX F p) (ic p):=by
 obtain ⟨k,nm,n,t,u⟩:=p
 obtain ⟨hn,ht⟩:=hp
 simp only at hn ht
 unfold jX ic
 simp only
 by_cases k1:k=1
 ·rw [if_pos k1]
  refine ae.pos (decide_eq_true k1) (.of fun F => ?_)
  by_cases c1:1≤n
  ·by_cases c2:n≤80
   ·have hlen:nm.length+t.length≤9223372036854775807:=by omega
    rw [if_pos (decide_eq_true c1)]
    simp only [Option.bind_some,decide_eq_true c2,if_true,decide_eq_true hlen]
    by_cases c3:nm = [] <;> by_cases c4:t = [] <;> simp [c1,c3,c4]
   ·simp [c1,c2]
  ·simp [c1]
 rw [if_neg k1]
 refine ae.neg (by rw [decide_eq_true_eq]; exact k1) ?_
 by_cases k2:k=2
 ·rw [if_pos k2]
  refine ae.pos (decide_eq_true k2) (.of fun F => ?_)
  simp only [zo]
  by_cases c1:1≤n
  ·by_cases c2:n≤1073741824
   ·cases hnm:nmP nm <;> simp [c1,c2,hnm]
   ·simp [c1,c2]
  ·simp [c1]
 rw [if_neg k2]
 refine ae.neg (by rw [decide_eq_true_eq]; exact k2) ?_
 by_cases k3:k=3
 ·rw [if_pos k3]
  refine ae.pos (decide_eq_true k3) ?_
  refine ae.bind (r:=(((),decide (n=0) && nmP nm,(k,nm,n,t,()),()):Unit×Bool×PhT×Unit)) (.of fun F=>by
   simp only [zo]
   by_cases c1:n=0 <;> simp [c1]) ?_
  refine ae.bind (r:=(((decide (n=0) && nmP nm) && pI t,()):Bool×Unit)) ?_ (.ret _)
  cases hb:(decide (n=0) && nmP nm) with
  | true=>exact ae.pos rfl (ae.bind (Dr t ht) (.ret _))
  | false=>exact ae.neg Bool.false_ne_true (.ret _)
 rw [if_neg k3]
 refine ae.neg (by rw [decide_eq_true_eq]; exact k3) ?_
 by_cases k4:k=4
 ·rw [if_pos k4]
  refine ae.pos (decide_eq_true k4) ?_
  refine ae.bind (r:=(((),decide (n=200) || decide (n=201),(k,nm,n,t,()),()):Unit×Bool×PhT×Unit)) (.of fun F=>by
   by_cases c1:n=200 <;> simp [c1]) ?_
  refine ae.bind (r:=(((),(decide (n=200) || decide (n=201)) && decide (nm = []),(k,nm,n,t,()),()):Unit×Bool×PhT×Unit)) (.of fun F=>by
   cases hb:(decide (n=200) || decide (n=201)) <;> simp [hb]) ?_
  refine ae.bind (r:=((((decide (n=200) || decide (n=201)) && decide (nm = [])) && pI t,()):Bool×Unit)) ?_ (.ret _)
  cases hb:((decide (n=200) || decide (n=201)) && decide (nm = [])) with
  | true=>exact ae.pos rfl (ae.bind (Dr t ht) (.ret _))
  | false=>exact ae.neg Bool.false_ne_true (.ret _)
 ·rw [if_neg k4]
  exact ae.neg (by rw [decide_eq_true_eq]; exact k4) (.ret _)
theorem xW {α:Type} (l:List α) (i:Nat) (h:i<l.length):(l.drop (i+1) = []) ↔ i=l.length - 1:=by
 rw [List.drop_eq_nil_iff]
 omega
theorem w5 (l:List PhT) (hl:l.length≤1000000) (hb : ∀ p∈l,wA p) : ∀ (n i:Nat),i+n=l.length→ag gq (l,l,(l.length:Int),(i:Int),()) (if Bj (l.drop i)=true then .inl () else .inr (false,()))
 | 0,i,h=>by
  refine ag.fin (.of fun F => ?_)
  unfold gq
  rw [if_neg (by rw [decide_eq_true_eq]; simp only; omega),List.drop_eq_nil_of_le (by omega)]
  rfl
 | n+1,i,h=>by
  have hi:i<l.length:=by omega
  have hx:idx l (i:Int)=some l[i]:=eE _ _ _ (List.getElem?_eq_getElem hi)
  have hw:IntKind.i64.wrap ((i:Int)+1)=((i+1:Nat):Int):=by rw [wrap64 _ (by omega) (by omega)]; omega
  have hw1:IntKind.i64.wrap ((l.length:Int) - 1)=((l.length - 1:Nat):Int):=by rw [wrap64 _ (by omega) (by omega)]; omega
  have ih:=w5 l hl hb n (i+1) (by omega)
  have hr:=J9 l[i] (hb _ (List.getElem_mem hi))
  have hd:=xW l i hi
  rw [List.drop_eq_getElem_cons hi]
  generalize l[i]=p at *
  have hk:decide (l.drop (i+1) = [])=decide ((i:Int)=((l.length - 1:Nat):Int)):=by
   rw [Bool.eq_iff_iff,decide_eq_true_eq,decide_eq_true_eq,hd]; omega
  have e:Bj (p :: l.drop (i+1))=(ic p && (decide (p.1=4) == decide ((i:Int)=((l.length - 1:Nat):Int))) && Bj (l.drop (i+1))):=by rw [← hk]; rfl
  rw [e]
  have hbody:ae (fun F=>gq F (l,l,(l.length:Int),(i:Int),())) (if (ic p && (decide (p.1=4) == decide ((i:Int)=((l.length - 1:Nat):Int))))=true then .inl (l,l,(l.length:Int),((i+1:Nat):Int),()) else .inr (.inr (false,()))):=by
   unfold gq
   refine ae.pos (by rw [decide_eq_true_eq]; simp only; omega) ?_
   refine ae.bind (.of fun F=>hx) ?_
   refine ae.bind (r:=((l,l,(l.length:Int),(i:Int), !(ic p && (decide (p.1=4) == decide ((i:Int)=((l.length - 1:Nat):Int)))),()):List PhT×List PhT×Int×Int×Bool×Unit)) (ae.bind hr ?_) ?_
   ·cases hrp:ic p with
    | true=>exact .of fun F=>by simp [hw1]
    | false=>exact .of fun F=>by simp
   ·cases hrp:(ic p && (decide (p.1=4) == decide ((i:Int)=((l.length - 1:Nat):Int)))) with
    | true=>exact ae.neg (by simp) (.of fun F=>by simp [hw])
    | false=>exact ae.pos (by simp) (.of fun F=>by simp)
  cases hrp:(ic p && (decide (p.1=4) == decide ((i:Int)=((l.length - 1:Nat):Int)))) with
  | true =>
   rw [hrp,if_pos rfl] at hbody
   rw [Bool.true_and]
   exact ag.step hbody ih
  | false =>
   rw [hrp,if_neg Bool.false_ne_true] at hbody
   rw [Bool.false_and,if_neg Bool.false_ne_true]
   exact ag.fin hbody
theorem Lo (l:List PhT) (hl:l.length≤1000000) (hb : ∀ p∈l,wA p):ae (fun F=>mw F l) (BC l):=by
 unfold mw BC
 refine ae.bind (r:=((l, !(decide (1≤l.length) && decide (l.length≤5)),()):List PhT×Bool×Unit)) (.of fun F => ?_) ?_
 ·by_cases h0:l.length=0
  ·rw [if_neg (by rw [decide_eq_true (by omega)]; decide),decide_eq_false (by omega)]
   rfl
  ·rw [if_pos (decide_eq_false (by omega)),decide_eq_true (by omega:1≤l.length),Bool.true_and]
   by_cases h5:l.length≤5
   ·rw [decide_eq_false (by omega),decide_eq_true h5]; rfl
   ·rw [decide_eq_true (by omega),decide_eq_false h5]; rfl
 cases hc:(decide (1≤l.length) && decide (l.length≤5)) with
 | false=>exact ae.pos rfl (.ret _)
 | true =>
  refine ae.neg (by simp) ?_
  have h:=w5 l hl hb l.length 0 (by omega)
  rw [List.drop_zero] at h
  refine ae.bind h.run ?_
  rw [Bool.true_and]
  cases Bj l <;> exact .ret _
end Go.Vm
