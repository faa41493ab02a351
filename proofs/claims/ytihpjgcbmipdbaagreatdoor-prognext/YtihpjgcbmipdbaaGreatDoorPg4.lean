import Derived.Test.YtihpjgcbmipdbaaGreatDoorPh6
import Derived.Test.YtihpjgcbmipdbaaGreatDoorPh7
import Derived.Test.YtihpjgcbmipdbaaGreatDoorFprog2
import Derived.Test.YtihpjgcbmipdbaaGreatDoorPj2
import Derived.Test.YtihpjgcbmipdbaaGreatDoorPh1
import Derived.Test.YtihpjgcbmipdbaaGreatDoorFprog
import Derived.Lib.AtoiAllCases
/- Programs: what is to be done next, how many calls are ahead: plainly. No condition. -/
namespace Go.Vm
open Go.Proofs
set_option linter.unusedVariables false
set_option linter.unusedSimpArgs false
abbrev DoT:=Int×Int×By×Int×By×Int×Int×Int×By×By×Unit
abbrev zDo:DoT:=(0,0,[],0,[],0,0,0,[],[],())
abbrev MN:By := [114,101,102,117,115,101,100,32]
abbrev EnT.pt (e:EnT):Int:=e.2.2.2.2.2.1
abbrev EnT.tk (e:EnT):Int:=e.2.2.2.2.1
abbrev EnT.ep (e:EnT):Int:=e.2.2.2.1
def yE (s:By) (n:Int):Bool:=decide (((bX s).length:Int)≤n) && ((bX s).map (·.1)).all fun x=>decide (1≤bA x∧bA x≤3)
def wV (body name:By) (n:Int):Bool:=(firstM name (iS (vP body))).2 && (decide (lF (vP (firstM name (iS (vP body))).1)=3) && (decide (1≤wH (vP (firstM name (iS (vP body))).1)) && decide (wH (vP (firstM name (iS (vP body))).1)≤n)))
def xK (ok:Bool) (why:By):DoT:=if ok=true then (1,0,[],0,[],0,0,0,[],[],()) else (2,402,MN ++ why,0,[],0,0,0,[],[],())
def doT (x:PhT) (e:EnT):DoT :=
 if x.1=1 then xK (yE e.body x.2.2.1) rF
 else if x.1=2 then xK (wV e.body x.2.1 x.2.2.1) (qz ++ 32 :: x.2.1)
 else if x.1=3 then (3,0,[],e.1,e.key,e.ep,e.pt,e.tk,x.2.1,oY x.2.2.2.1 e,())
 else (2,x.2.2.1,oY x.2.2.2.1 e,0,[],0,0,0,[],[],())
def yH (p:List PhT) (e:EnT):DoT×Int :=
 if oz p=false then (zDo,1) else if e.pt<0∨(p.length:Int)≤e.pt then (zDo,6) else
 match p[e.pt.toNat]? with
 | none=>(zDo,6)
 | some x=>(doT x e,0)
/-! ### calls -/
def fT (p:List PhT) (n:Nat):Nat:=((p.take n).filter fun x=>decide (x.1=3)).length
def wU (p:List PhT) (point:Int):Int:=(fT p point.toNat:Nat)
theorem ua {p:List PhT} {n:Nat} {x:PhT} (h:p[n]? = some x):fT p (n+1)=fT p n+if x.1=3 then 1 else 0:=by
 unfold fT
 rw [List.take_add_one,h,List.filter_append,List.length_append]
 congr 1
 by_cases c:x.1=3 <;> simp [c]
theorem yq (p:List PhT) (n:Nat):fT p n≤p.length:=by
 unfold fT
 have h1:=List.length_filter_le (fun x:PhT=>decide (x.1=3)) (p.take n)
 rw [List.length_take] at h1
 omega
theorem xb {p:List PhT} {n:Nat} (h:p.length≤n):fT p n=fT p p.length:=by
 unfold fT
 rw [List.take_of_length_le h,List.take_of_length_le (Nat.le_refl _)]
end Go.Vm
/- Signs of a text: how many, and whether all are of some sorts (cut out of the texts of sign). No condition but on lengths. -/
namespace Go.Vm
open Go.Lib (decodeL decodeN decodeL_N decode_N decodeN_shape decodeL_le)
set_option linter.unusedVariables false
set_option linter.unusedSimpArgs false
theorem Jq {α:Type} (l:List α) (k:Nat):idx l (k:Int)=l[k]? := by
 unfold idx
 rw [if_pos (by omega)]
 simp
theorem Kw {α:Type} (pre t:List α) (x:α):idx (pre ++ x :: t) (pre.length:Int)=some x:=by
 rw [Jq]; simp
def j1 (r:Int):Nat→List Int→Int
 | _,[] => -1
 | k,x :: t=>if x=r then (k:Int) else j1 r (k+1) t
theorem B3 (l:List Int) (hl:l.length≤1000000000000) (v:Int):ae (fun F=>eF F (l,v)) (j1 v 0 l):=by
 have loop : ∀ (t pre:List Int),l=pre ++ t → ∃ y,af cG (l,v,(l.length:Int),(pre.length:Int),()) y∧fc y (fun _=>(-1:Int)) (fun v=>v.1)=j1 v pre.length t:=by
  intro t
  induction t with
  | nil =>
   intro pre h
   simp only [List.append_nil] at h
   subst h
   refine ⟨.inl (),af.fin (ae.of fun F => ?_),rfl⟩
   unfold cG
   simp
  | cons x t ih =>
   intro pre h
   have hlen:l.length=pre.length+(t.length+1):=by rw [h]; simp
   have h1:(pre.length:Int)<(l.length:Int):=by omega
   have hi:idx l (pre.length:Int)=some x:=by rw [h]; exact Kw pre t x
   simp only [j1]
   by_cases he:x=v
   ·rw [if_pos he]
    refine ⟨.inr ((pre.length:Int),()),af.fin (ae.of fun F => ?_),rfl⟩
    unfold cG
    simp [h1,hi,he]
   ·rw [if_neg he]
    obtain ⟨y,q1,q2⟩:=ih (pre ++ [x]) (by rw [h]; simp)
    refine ⟨y,af.step (ae.of fun F => ?_) q1,by simpa using q2⟩
    unfold cG
    have he' : ¬ v=x:=fun e=>he e.symm
    have hw:IntKind.i64.wrap ((pre.length:Int)+1)=((pre.length+1:Nat):Int):=by rw [wrap64 _ (by omega) (by omega)]; rfl
    simp [h1,hi,he',hw]
 obtain ⟨y,h1,h2⟩:=loop l [] rfl
 unfold eF
 refine h1.run.bind ?_
 refine ae.of fun F => ?_
 rw [← (show _=j1 v 0 l from h2)]
 cases y <;> rfl
theorem rD (v:Int) : ∀ (l:List Int) (k:Nat),decide (0≤j1 v k l)=decide (v∈l)
 | [],k=>by simp [j1]
 | x :: t,k=>by
  unfold j1
  by_cases h:x=v
  ·rw [if_pos h]
   have:(0:Int)≤(k:Int):=by omega
   simp [this,h]
  ·rw [if_neg h,rD v t (k+1)]
   have h' : ¬ v=x:=fun e=>h e.symm
   simp [h']
theorem uX (l:List Int) (hl:l.length≤1000000000000) (v:Int):ae (fun F=>dM F (l,v)) (decide (v∈l)):=by
 unfold dM
 refine (B3 l hl v).bind ?_
 exact ae.of fun F=>by rw [rD]
def Bn (sorts:List Int) (l:List Int):Bool:=l.all fun x=>decide (bA x∈sorts)
theorem Cg (s:B8) (sorts:List Int) (hl:sorts.length≤1000000000000):ae (fun F=>kn F (s,sorts)) (Bn sorts ((bX s).map (·.1))):=by
 have loop : ∀ (n p:Nat),s.length - p≤n→p≤s.length →
   ∃ y,af gP (sorts,(),(s,p),()) y∧fc y (fun _=>true) (fun v=>v.1)=Bn sorts ((bX (s.drop p)).map (·.1)):=by
  intro n
  induction n with
  | zero =>
   intro p hn hp
   have hpe:p=s.length:=by omega
   subst hpe
   refine ⟨.inl (),af.fin (ae.of fun F => ?_),by rw [List.drop_length,fF]; rfl⟩
   unfold gP
   simp
  | succ n ih =>
   intro p hn hp
   by_cases hlt:p<s.length
   case neg=>exact ih p (by omega) hp
   have hpos:=bC (s.drop p)
   have hnx:=uM hlt
   rw [gN (nU hlt),sP]
   have hc:=uX sorts hl (bA ((decodeL (s.drop p)).1:Int))
   by_cases he:bA ((decodeL (s.drop p)).1:Int)∈sorts
   ·obtain ⟨y,h1,h2⟩:=ih (p+(decodeL (s.drop p)).2) (by omega) hnx
    refine ⟨y,af.step ?_ h1,by rw [h2]; simp [Bn,he]⟩
    unfold gP
    simp only [hlt,decide_true,if_true,nz,Option.bind_some,lh,fU]
    refine hc.bind ?_
    exact ae.of fun F=>by simp [he]
   ·refine ⟨.inr (false,()),af.fin ?_,by simp [Bn,he,fc]⟩
    unfold gP
    simp only [hlt,decide_true,if_true,nz,Option.bind_some,lh,fU]
    refine hc.bind ?_
    exact ae.of fun F=>by simp [he]
 obtain ⟨y,h1,h2⟩:=loop s.length 0 (by omega) (by omega)
 unfold kn
 refine h1.run.bind ?_
 refine ae.of fun F => ?_
 rw [List.drop_zero] at h2
 rw [← h2]
 cases y <;> rfl
theorem Gk (s:B8) (hs:s.length≤100000000000) (p:Nat) (hp:p≤s.length) (k:Nat) (hk:k+(s.length - p)≤1000000000000):af fj ((k:Int),(),(s,p),()) (((k+(bX (s.drop p)).length:Nat):Int),()):=by
 have main : ∀ n p k,s.length - p≤n→p≤s.length→k+(s.length - p)≤1000000000000→af fj ((k:Int),(),(s,p),()) (((k+(bX (s.drop p)).length:Nat):Int),()):=by
  intro n
  induction n with
  | zero =>
   intro p k hn hp hk
   have:p=s.length:=by omega
   subst this
   refine af.fin (ae.of fun F => ?_)
   unfold fj
   simp [fF]
  | succ n ih =>
   intro p k hn hp hk
   by_cases hlt:p<s.length
   ·have hpos:=bC (s.drop p)
    have hnx:=uM hlt
    rw [gN (nU hlt),sP]
    refine af.step (x':=(((k+1:Nat):Int),(),(s,p+(decodeL (s.drop p)).2),())) (ae.of fun F => ?_) ?_
    ·have w:IntKind.i64.wrap ((k:Int)+1)=((k+1:Nat):Int):=by rw [wrap64 _ (by omega) (by omega)]; rfl
     unfold fj
     simp only [hlt,decide_true,if_true,fU,w]
    ·have:=ih (p+(decodeL (s.drop p)).2) (k+1) (by omega) hnx (by omega)
     rw [List.length_cons,show k+((bX (List.drop (p+(decodeL (List.drop p s)).2) s)).length+1)=k+1+(bX (List.drop (p+(decodeL (List.drop p s)).2) s)).length by omega]
     exact this
   ·have:p=s.length:=by omega
    subst this
    refine af.fin (ae.of fun F => ?_)
    unfold fj
    simp [fF]
 exact main _ p k (Nat.le_refl _) hp hk
theorem AP (s:B8) (hs:s.length≤100000000000):ae (fun F=>lg F s) ((bX s).length:Int):=by
 unfold lg
 have:=Gk s hs 0 (by omega) 0 (by omega)
 rw [List.drop_zero,Nat.zero_add] at this
 exact this.run.bind (k:=fun F (v1:Int×Unit)=>some v1.1) (ae.of fun F=>rfl)
end Go.Vm
/- Programs: the program's functions are the plain ones. No condition but on lengths. -/
namespace Go.Vm
open Go.Proofs
open Go.Lib (decDigits itoa)
set_option linter.unusedVariables false
set_option linter.unusedSimpArgs false
/-! ### cutting -/
theorem Kr (F:Nat) (s c:By) (h:s.length≤4294967280):de F (s,c)=some (Lib.index s c):=by
 unfold de Au
 exact if_pos (decide_eq_true h)
theorem uN (s d:By):(Lib.cut s d).1.length≤s.length∧(Lib.cut s d).2.1.length≤s.length:=by
 unfold Lib.cut
 split
 ·exact ⟨by simp only [List.length_take]; omega,by simp only [List.length_drop]; omega⟩
 ·exact ⟨Nat.le_refl _,Nat.zero_le _⟩
theorem IW (F:Nat) (s d:By) (h:s.length≤1000000) (hd:d.length≤1000):ij F (s,d)=some (Lib.cut s d):=by
 unfold ij eQ
 simp only [Kr F s d (by omega),Option.bind_some]
 have hr:=Lib.index_room s d
 have hg:=Lib.index_ge s d
 by_cases h0:0≤Lib.index s d
 ·obtain ⟨i,hi⟩ : ∃ i:Nat,Lib.index s d=i:=⟨(Lib.index s d).toNat,by omega⟩
  have hr':=hr h0
  rw [hi] at hr'
  have s1:sub s 0 (i:Int)=some (s.take i):=by
   have:=fE s 0 i (Nat.zero_le _) (by omega)
   simpa using this
  have s2:sub s ((i+d.length:Nat):Int) (s.length:Int)=some (s.drop (i+d.length)):=ek s _ (by omega)
  have hw:IntKind.i64.wrap ((i:Int)+(d.length:Int))=((i+d.length:Nat):Int):=by rw [wrap64 _ (by omega) (by omega)]; omega
  have e:Lib.cut s d=(s.take i,s.drop (i+d.length),true):=by
   unfold Lib.cut
   rw [hi,if_pos (by omega),Int.toNat_natCast]
  rw [hi,if_pos (by rw [decide_eq_true_eq]; omega),e]
  simp only [s1,hw,s2,Option.bind_some]
 ·have e:Lib.cut s d=(s,[],false):=by unfold Lib.cut; rw [if_neg h0]
  rw [if_neg (by rw [decide_eq_true_eq]; exact h0),e]
  rfl
theorem JI (F:Nat) (t:By) (h:t.length≤1000000):dH F (32 :: t,[32])=some (t,true):=by
 unfold dH b9 aY
 have s0:sub (32 :: t:By) 0 (([32]:By).length:Int)=some [32]:=by
  have:=fE (32 :: t:By) 0 1 (by omega) (by simp)
  exact this
 have s1:sub (32 :: t:By) (([32]:By).length:Int) ((32 :: t:By).length:Int)=some t:=ek (32 :: t:By) 1 (by simp)
 rw [if_pos (by rw [decide_eq_true_eq]; simp only [List.length_cons,List.length_nil]; omega)]
 simp only [s0,Option.bind_some,decide_true,Bool.not_true,Bool.false_eq_true,if_false,s1]
theorem Hx (F:Nat) (x:By) (h : ∀ t,x≠32 :: t):dH F (x,[32])=some (x,false):=by
 unfold dH b9 aY
 cases x with
 | nil=>rfl
 | cons c t =>
  have s0:sub (c :: t:By) 0 (([32]:By).length:Int)=some [c]:=by
   have:=fE (c :: t:By) 0 1 (by omega) (by simp)
   exact this
  have hc : ¬ ([c]:By) = [32]:=by
   intro hh
   injection hh with hh _
   exact h t (by rw [hh])
  rw [if_pos (by rw [decide_eq_true_eq]; simp only [List.length_cons,List.length_nil]; omega)]
  simp only [s0,Option.bind_some,decide_eq_false hc,Bool.not_false,if_true]
/-! ### numbers, phases -/
theorem tf (F:Nat) (s:By) (h:s.length≤1000000):gj F s=some (Dw s):=by
 unfold gj Dw
 cases hx:Lib.atoiAll s with
 | ok n =>
  have ha:dJ F s=some (n,false):=by
   unfold dJ sU
   rw [if_pos (decide_eq_true (by omega)),hx]
  obtain ⟨b1,b2⟩:=Lib.atoiAll_bounds hx
  have hi:jE F n=some (itoa n):=by
   unfold jE Bm
   rw [if_pos (decide_eq_true b1),if_pos (decide_eq_true b2)]
  simp only [ha,Option.bind_some,Bool.not_false,Bool.not_true,if_true]
  by_cases c1:n<1
  ·simp [c1]
  ·by_cases c2:itoa n=s
   ·simp [c1,c2,hi]
   ·simp [c1,c2,hi]
 | range =>
  have ha:dJ F s=some (Lib.atoiSat s,true):=by
   unfold dJ sU
   rw [if_pos (decide_eq_true (by omega)),hx]
  simp [ha]
 | _ =>
  have ha:dJ F s=some (0,true):=by
   unfold dJ sU
   rw [if_pos (decide_eq_true (by omega)),hx]
  simp [ha]
theorem En (F:Nat) (s:By) (h:s.length≤100000):l8 F s=some (fX s):=by
 unfold l8 fX
 have hl:=(uN s [32]).2
 simp only [IW F s [32] (by omega) (by decide),Option.bind_some]
 generalize Lib.cut s [32]=c at hl
 obtain ⟨kind,rest,more⟩:=c
 simp only at hl ⊢
 have hl2:=uN rest [32]
 cases more with
 | false=>rfl
 | true =>
  simp only [Bool.not_true,Bool.false_eq_true,if_false,Bool.true_eq_false]
  by_cases k1:kind=rF
  ·rw [if_pos (decide_eq_true k1),if_pos k1,tf F rest (by omega)]
   rfl
  rw [if_neg (by rw [decide_eq_true_eq]; exact k1),if_neg k1,IW F rest [32] (by omega) (by decide)]
  simp only [Option.bind_some]
  generalize Lib.cut rest [32]=d at hl2
  obtain ⟨one,behind,mo⟩:=d
  simp only at hl2 ⊢
  have hb:(if decide (behind = [])=true then some ((),kind,one,behind, !decide (one=rest),z23,()) else some ((),kind,one,behind,false,z23,()):Option (Unit×By×By×By×Bool×PhT×Unit))=some ((),kind,one,behind,decide (behind = []∧one≠rest),z23,()):=by
   by_cases b1:behind = []
   ·rw [if_pos (decide_eq_true b1)]
    by_cases b2:one=rest <;> simp [b1,b2]
   ·rw [if_neg (by rw [decide_eq_true_eq]; exact b1)]
    simp [b1]
  rw [hb,Option.bind_some]
  simp only
  by_cases b3:behind = []∧one≠rest
  ·rw [if_pos (decide_eq_true b3),if_pos b3]
  rw [if_neg (by rw [decide_eq_true_eq]; exact b3),if_neg b3]
  by_cases k2:kind=qz
  ·rw [if_pos (decide_eq_true k2),if_pos k2,tf F behind (by omega)]
   rfl
  rw [if_neg (by rw [decide_eq_true_eq]; exact k2),if_neg k2]
  by_cases k3:kind=vK
  ·rw [if_pos (decide_eq_true k3),if_pos k3]
  rw [if_neg (by rw [decide_eq_true_eq]; exact k3),if_neg k3]
  by_cases k4:kind=AW
  ·rw [if_pos (decide_eq_true k4),if_pos k4,tf F one (by omega)]
   rfl
  rw [if_neg (by rw [decide_eq_true_eq]; exact k4),if_neg k4]
theorem MB (x:By):decide (Lib.indexByte x 59<0)=x.all (fun c=>c != 59):=by
 have hg:=Lib.indexByte_ge x 59
 by_cases h:Lib.indexByte x 59<0
 ·rw [decide_eq_true h]
  have hm:Lib.indexByte x 59 = -1:=by omega
  symm
  rw [List.all_eq_true]
  intro c hc
  obtain ⟨k,hk⟩:=List.getElem?_of_mem hc
  have:=Lib.indexByte_none hm k
  rw [bne_iff_ne]
  rintro rfl
  exact this hk
 ·rw [decide_eq_false h]
  obtain ⟨o,ho⟩ : ∃ o:Nat,Lib.indexByte x 59=o:=⟨(Lib.indexByte x 59).toNat,by omega⟩
  have h1:=(Lib.indexByte_some ho).1
  symm
  rw [List.all_eq_false]
  exact ⟨59,List.mem_of_getElem? h1,by decide⟩
theorem Ed (x:By) (hx:x.length≤1000):ae (fun F=>j2 F x) (kN x):=by
 unfold j2 kN
 have hi : ∀ F,aR F (x,59)=some (Lib.indexByte x 59):=fun F=>rfl
 have h9:=MB x
 by_cases h:Lib.indexByte x 59<0
 ·rw [decide_eq_true h] at h9
  rw [← h9,Bool.true_and]
  refine ae.bind (r:=((pq x,()):Bool×Unit)) (ae.bind (.of hi) (ae.pos (decide_eq_true h) (ae.bind (Km x hx) (.ret _)))) (.ret _)
 ·rw [decide_eq_false h] at h9
  rw [← h9,Bool.false_and]
  refine ae.bind (r:=((false,()):Bool×Unit)) (ae.bind (.of hi) (ae.neg (by rw [decide_eq_true_eq]; exact h) (.ret _))) (.ret _)
def qW (p:PhT):Prop:=p.2.1.length≤1000∧p.2.2.2.1.length≤1000
theorem Ky (p:PhT) (hp:qW p):ae (fun F=>kO F p) (ee p):=by
 obtain ⟨k,nm,n,t,u⟩:=p
 obtain ⟨hn,ht⟩:=hp
 simp only at hn ht
 unfold kO ee
 simp only
 by_cases k1:k=1
 ·rw [if_pos k1]
  refine ae.pos (decide_eq_true k1) (.of fun F => ?_)
  by_cases c1:1≤n
  ·by_cases c2:n≤80
   ·have hlen:nm.length+t.length≤9223372036854775807:=by omega
    rw [if_pos (decide_eq_true c1)]
    simp only [Option.bind_some,decide_eq_true c2,if_true,decide_eq_true hlen]
    by_cases c3:nm = [] <;> by_cases c4:t = [] <;> simp [c1,c3,c4]
   ·simp [c1,c2]
  ·simp [c1]
 rw [if_neg k1]
 refine ae.neg (by rw [decide_eq_true_eq]; exact k1) ?_
 by_cases k2:k=2
 ·rw [if_pos k2]
  refine ae.pos (decide_eq_true k2) (.of fun F => ?_)
  simp only [zE]
  by_cases c1:1≤n
  ·by_cases c2:n≤1073741824
   ·cases hnm:nmP nm <;> simp [c1,c2,hnm]
   ·simp [c1,c2]
  ·simp [c1]
 rw [if_neg k2]
 refine ae.neg (by rw [decide_eq_true_eq]; exact k2) ?_
 by_cases k3:k=3
 ·rw [if_pos k3]
  refine ae.pos (decide_eq_true k3) ?_
  refine ae.bind (r:=(((),decide (n=0) && nmP nm,(k,nm,n,t,()),()):Unit×Bool×PhT×Unit)) (.of fun F=>by
   simp only [zE]
   by_cases c1:n=0 <;> simp [c1]) ?_
  refine ae.bind (r:=(((decide (n=0) && nmP nm) && kN t,()):Bool×Unit)) ?_ (.ret _)
  cases hb:(decide (n=0) && nmP nm) with
  | true=>exact ae.pos rfl (ae.bind (Ed t ht) (.ret _))
  | false=>exact ae.neg Bool.false_ne_true (.ret _)
 rw [if_neg k3]
 refine ae.neg (by rw [decide_eq_true_eq]; exact k3) ?_
 by_cases k4:k=4
 ·rw [if_pos k4]
  refine ae.pos (decide_eq_true k4) ?_
  refine ae.bind (r:=(((),decide (n=200) || decide (n=201),(k,nm,n,t,()),()):Unit×Bool×PhT×Unit)) (.of fun F=>by
   by_cases c1:n=200 <;> simp [c1]) ?_
  refine ae.bind (r:=(((),(decide (n=200) || decide (n=201)) && decide (nm = []),(k,nm,n,t,()),()):Unit×Bool×PhT×Unit)) (.of fun F=>by
   cases hb:(decide (n=200) || decide (n=201)) <;> simp [hb]) ?_
  refine ae.bind (r:=((((decide (n=200) || decide (n=201)) && decide (nm = [])) && kN t,()):Bool×Unit)) ?_ (.ret _)
  cases hb:((decide (n=200) || decide (n=201)) && decide (nm = [])) with
  | true=>exact ae.pos rfl (ae.bind (Ed t ht) (.ret _))
  | false=>exact ae.neg Bool.false_ne_true (.ret _)
 ·rw [if_neg k4]
  exact ae.neg (by rw [decide_eq_true_eq]; exact k4) (.ret _)
theorem sH {α:Type} (l:List α) (i:Nat) (h:i<l.length):(l.drop (i+1) = []) ↔ i=l.length - 1:=by
 rw [List.drop_eq_nil_iff]
 omega
theorem xM (l:List PhT) (hl:l.length≤1000000) (hb : ∀ p∈l,qW p) : ∀ (n i:Nat),i+n=l.length→af il (l,l,(l.length:Int),(i:Int),()) (if uu (l.drop i)=true then .inl () else .inr (false,()))
 | 0,i,h=>by
  refine af.fin (.of fun F => ?_)
  unfold il
  rw [if_neg (by rw [decide_eq_true_eq]; simp only; omega),List.drop_eq_nil_of_le (by omega)]
  rfl
 | n+1,i,h=>by
  have hi:i<l.length:=by omega
  have hx:idx l (i:Int)=some l[i]:=bn _ _ _ (List.getElem?_eq_getElem hi)
  have hw:IntKind.i64.wrap ((i:Int)+1)=((i+1:Nat):Int):=by rw [wrap64 _ (by omega) (by omega)]; omega
  have hw1:IntKind.i64.wrap ((l.length:Int) - 1)=((l.length - 1:Nat):Int):=by rw [wrap64 _ (by omega) (by omega)]; omega
  have ih:=xM l hl hb n (i+1) (by omega)
  have hr:=Ky l[i] (hb _ (List.getElem_mem hi))
  have hd:=sH l i hi
  rw [List.drop_eq_getElem_cons hi]
  generalize l[i]=p at *
  have hk:decide (l.drop (i+1) = [])=decide ((i:Int)=((l.length - 1:Nat):Int)):=by
   rw [Bool.eq_iff_iff,decide_eq_true_eq,decide_eq_true_eq,hd]; omega
  have e:uu (p :: l.drop (i+1))=(ee p && (decide (p.1=4) == decide ((i:Int)=((l.length - 1:Nat):Int))) && uu (l.drop (i+1))):=by rw [← hk]; rfl
  rw [e]
  have hbody:ae (fun F=>il F (l,l,(l.length:Int),(i:Int),())) (if (ee p && (decide (p.1=4) == decide ((i:Int)=((l.length - 1:Nat):Int))))=true then .inl (l,l,(l.length:Int),((i+1:Nat):Int),()) else .inr (.inr (false,()))):=by
   unfold il
   refine ae.pos (by rw [decide_eq_true_eq]; simp only; omega) ?_
   refine ae.bind (.of fun F=>hx) ?_
   refine ae.bind (r:=((l,l,(l.length:Int),(i:Int), !(ee p && (decide (p.1=4) == decide ((i:Int)=((l.length - 1:Nat):Int)))),()):List PhT×List PhT×Int×Int×Bool×Unit)) (ae.bind hr ?_) ?_
   ·cases hrp:ee p with
    | true=>exact .of fun F=>by simp [hw1]
    | false=>exact .of fun F=>by simp
   ·cases hrp:(ee p && (decide (p.1=4) == decide ((i:Int)=((l.length - 1:Nat):Int)))) with
    | true=>exact ae.neg (by simp) (.of fun F=>by simp [hw])
    | false=>exact ae.pos (by simp) (.of fun F=>by simp)
  cases hrp:(ee p && (decide (p.1=4) == decide ((i:Int)=((l.length - 1:Nat):Int)))) with
  | true =>
   rw [hrp,if_pos rfl] at hbody
   rw [Bool.true_and]
   exact af.step hbody ih
  | false =>
   rw [hrp,if_neg Bool.false_ne_true] at hbody
   rw [Bool.false_and,if_neg Bool.false_ne_true]
   exact af.fin hbody
theorem GN (l:List PhT) (hl:l.length≤1000000) (hb : ∀ p∈l,qW p):ae (fun F=>lK F l) (oz l):=by
 unfold lK oz
 refine ae.bind (r:=((l, !(decide (1≤l.length) && decide (l.length≤5)),()):List PhT×Bool×Unit)) (.of fun F => ?_) ?_
 ·by_cases h0:l.length=0
  ·rw [if_neg (by rw [decide_eq_true (by omega)]; decide),decide_eq_false (by omega)]
   rfl
  ·rw [if_pos (decide_eq_false (by omega)),decide_eq_true (by omega:1≤l.length),Bool.true_and]
   by_cases h5:l.length≤5
   ·rw [decide_eq_false (by omega),decide_eq_true h5]; rfl
   ·rw [decide_eq_true (by omega),decide_eq_false h5]; rfl
 cases hc:(decide (1≤l.length) && decide (l.length≤5)) with
 | false=>exact ae.pos rfl (.ret _)
 | true =>
  refine ae.neg (by simp) ?_
  have h:=xM l hl hb l.length 0 (by omega)
  rw [List.drop_zero] at h
  refine ae.bind h.run ?_
  rw [Bool.true_and]
  cases uu l <;> exact .ret _
end Go.Vm
