/- Part 8 of an abstract value machine: a framework of this session's own, in which functions of the program are run once and for all inputs. No condition. -/
import Derived.Test.YtcnigpigmhpakaaGreatDoorV7
import Derived.Shelf.SlSortCmp.NoneTotal
import Derived.Laws.Cover1
/- The abstract value machine: slices.SortFunc at json's members. -/
namespace Go.Vm
open Go.Proofs Go.Shelf Go.RowKit Go.Sort Go.Lib
set_option linter.unusedVariables false
/-! ### pairs of cells -/
abbrev pP:={ p:ByteArray×Value // p.2.oneCell'=true }
instance:Inhabited pP:=⟨⟨(ByteArray.empty, .nilIface),rfl⟩⟩
def iL (p:pP):List Value := [.string p.1.1,p.1.2]
def Eu (a b:ByteArray):Int:=if Go.Op.bytesLess a.toList b.toList=true then -1 else if (!(Go.Op.bytesLess a.toList b.toList || a.toList == b.toList))=true then 1 else 0
def cfS (x y:pP):Int:=Eu x.1.1 y.1.1
theorem rI (x y:pP):ltOf cfS x y=Go.Op.bytesLess x.1.1.toList y.1.1.toList:=by
 unfold ltOf cfS Eu
 by_cases h:Go.Op.bytesLess x.1.1.toList y.1.1.toList=true
 ·rw [if_pos h,h]; rfl
 ·rw [if_neg h]
  split
  ·simp [h]
  ·simp [h]
theorem Kr:SWO (ltOf cfS) where
 irrefl x:=by rw [rI]; exact pf _
 trans x y z h1 h2:=by rw [rI] at *; exact kY _ _ _ h1 h2
 ntrans x y z h1 h2:=by
  rw [rI] at *
  cases e:Go.Op.bytesLess x.1.1.toList z.1.1.toList with
  | false=>rfl
  | true =>
   cases e2:Go.Op.bytesLess z.1.1.toList y.1.1.toList with
   | true=>have:=kY _ _ _ e e2; exact absurd (this.symm.trans h1) (by decide)
   | false =>
    have:=pv _ _ h2 e2
    rw [this] at h1
    rw [e] at h1; cases h1
theorem so : ∀ (l:List pP) (t:Nat),t<l.length * 2→(l.flatMap iL)[t]? = some ((iL (l.toArray[t / 2]!))[t % 2]!)
 | [],t,h=>by simp at h
 | p :: l,0,h=>rfl
 | p :: l,1,h=>rfl
 | p :: l,t+2,h=>by
  have ih:=so l t (by simp at h; omega)
  have e1:(t+2) / 2=t / 2+1:=by omega
  have e2:(t+2) % 2=t % 2:=by omega
  rw [e1,e2]
  have e3:(p :: l).toArray[t / 2+1]! = l.toArray[t / 2]! := by
   have hl:t / 2<l.length:=by simp at h; omega
   rw [getElem!_pos _ _ (by simpa using hl),getElem!_pos _ _ (by simpa using hl)]
   simp
  rw [e3, ← ih]
  rfl
theorem sI (l:List pP):(l.flatMap iL).length=l.length * 2:=by
 induction l with
 | nil=>rfl
 | cons p l ih=>rw [List.flatMap_cons,List.length_append,ih]; simp [iL]; omega
theorem Cn (d:Array pP):(flatK iL 2 d).toList=d.toList.flatMap iL:=by
 apply List.ext_getElem?
 intro t
 by_cases ht:t<d.size * 2
 ·rw [so d.toList t (by simpa using ht)]
  have h:=get_flatK iL 2 d t ht
  rw [Array.getElem?_toList,Array.getElem?_eq_getElem (by simpa using ht), ← getElem!_pos (flatK iL 2 d) t (by simpa using ht),h]
 ·rw [List.getElem?_eq_none (by simp; omega),List.getElem?_eq_none (by rw [sI]; simp; omega)]
theorem DF {β γ:Type} {f:β→γ} {a b:List γ} (h:a.Perm b) : ∀ l:List β,l.map f=b → ∃ l':List β,l'.Perm l∧l'.map f=a:=by
 induction h with
 | nil=>intro l hl; exact ⟨l, .refl _,hl⟩
 | cons x h ih =>
  intro l hl
  cases l with
  | nil=>cases hl
  | cons y l =>
   injection hl with h1 h2
   obtain ⟨l',q1,q2⟩:=ih l h2
   exact ⟨y :: l',q1.cons y,by rw [List.map_cons,q2,h1]⟩
 | swap x y l0 =>
  intro l hl
  match l,hl with
  | p :: q :: l,hl =>
   injection hl with h1 h2
   injection h2 with h2 h3
   exact ⟨q :: p :: l, .swap p q l,by rw [List.map_cons,List.map_cons,h1,h2,h3]⟩
 | trans h1 h2 i1 i2 =>
  intro l hl
  obtain ⟨l1,q1,q2⟩:=i2 l hl
  obtain ⟨l2,q3,q4⟩:=i1 l1 q2
  exact ⟨l2,q3.trans q1,q4⟩
section
variable {P:Program} {kt:KT}
def J8 (T:Tab El) (w:World) (X:Nat→Prop) (p:pP×Me):Prop:=p.1.1.1=⟨p.2.1.toArray⟩∧Rep T w X (.any .jv p.2.2.1) p.1.1.2
theorem xw {w:World} {X:Nat→Prop} : ∀ (l:List Me) (xs:List Value),Els (aX kt) w X .me l xs → ∃ z:List (pP×Me),z.map (·.2)=l∧xs=(z.map (·.1)).flatMap iL ∧ ∀ p∈z,J8 (aX kt) w X p
 | [],xs,h=>by
  have:=h.len
  have hx:xs = []:=List.eq_nil_of_length_eq_zero (by simpa using this)
  exact ⟨[],rfl,by rw [hx]; rfl,fun p hp=>by cases hp⟩
 | m :: l,xs,h=>by
  have hlen:xs.length=(l.length+1) * 2:=h.len
  match xs,h,hlen with
  | [],h,hl=>simp at hl
  | [u],h,hl=>simp at hl; omega
  | u0 :: u1 :: xs,h,hl =>
   obtain ⟨v0,a0,r0⟩:=h.rep 0 (Nat.zero_lt_succ _) 0 (by show 0<2; omega)
   obtain ⟨v1,a1,r1⟩:=h.rep 0 (Nat.zero_lt_succ _) 1 (by show 1<2; omega)
   have e0:u0=v0:=by
    have:(u0 :: u1 :: xs)[0 * 2+0]? = some v0:=a0
    simpa using this
   have e1:u1=v1:=by
    have:(u0 :: u1 :: xs)[0 * 2+1]? = some v1:=a1
    simpa using this
   subst e0; subst e1
   have r0':Rep (aX kt) w X (.str m.1) u0:=r0
   have r1':Rep (aX kt) w X (.any .jv m.2.1) u1:=r1
   have ho:=h.one u1 (by simp)
   have ht:Els (aX kt) w X .me l xs:=by
    refine ⟨by simp at hl; show xs.length=l.length * 2; omega,fun u hu=>h.one u (List.mem_cons_of_mem _ (List.mem_cons_of_mem _ hu)),fun i hi c hcc => ?_,fun i hi c hcc=>h.pl (i+1) (by simpa using hi) c hcc⟩
    obtain ⟨v,a,r⟩:=h.rep (i+1) (by simpa using hi) c hcc
    refine ⟨v,?_,r⟩
    have a':(u0 :: u1 :: xs)[(i+1) * 2+c]? = some v:=a
    show xs[i * 2+c]? = some v
    rw [← a',show (i+1) * 2+c=(i * 2+c)+2 by omega]
    simp
   obtain ⟨z,z1,z2,z3⟩:=xw l xs ht
   cases r0'
   refine ⟨(⟨(⟨m.1.toArray⟩,u1),ho⟩,m) :: z,by rw [List.map_cons,z1],by rw [List.map_cons,List.flatMap_cons,z2]; rfl,fun p hp => ?_⟩
   rcases List.mem_cons.1 hp with rfl | hp
   ·exact ⟨rfl,r1'⟩
   ·exact z3 p hp
theorem qQ {w:World} {X:Nat→Prop} : ∀ z:List (pP×Me),(∀ p∈z,J8 (aX kt) w X p)→Els (aX kt) w X .me (z.map (·.2)) ((z.map (·.1)).flatMap iL)
 | [],_=>Els.nil _
 | p :: z,h=>by
  have ih:=qQ z fun q hq=>h q (List.mem_cons_of_mem _ hq)
  obtain ⟨p1,p2⟩:=h p (List.mem_cons_self ..)
  have h1:Els (aX kt) w X .me [p.2] (iL p.1):=by
   refine ⟨rfl,?_,fun i hi c hcc => ?_,fun i hi c hcc => ?_⟩
   ·intro u hu
    simp only [iL,List.mem_cons,List.not_mem_nil,or_false] at hu
    rcases hu with rfl | rfl
    ·rfl
    ·exact p.1.2
   ·have hi0:i=0:=by simp at hi; exact hi
    subst hi0
    have hc2:c<2:=hcc
    match c,hc2 with
    | 0,_=>exact ⟨.string p.1.1.1,rfl,by show Rep _ _ _ (.str p.2.1) _; rw [p1]; exact .str _⟩
    | 1,_=>exact ⟨p.1.1.2,rfl,p2⟩
   ·have hi0:i=0:=by simp at hi; exact hi
    subst hi0
    have hc2:c<2:=hcc
    match c,hc2 with
    | 0,_=>rfl
    | 1,_=>rfl
  exact h1.append ih
/-! ### the sort -/
def zp (e g:TypeId):Spec Kd:={ params := [.newb e [.row e .me], .a (.fn g)],ret := .one (.a .junk),pins := [[.row e .me]],pl:={ nt:=0 },ts := [] }
def uy (x:(List Me×Unit)×Unit):Option (Unit×(List Me×Unit)):=if decide ((x.1.1.map fun m=>m.1).Nodup)=true then if decide (x.1.1.length≤1000000000000)=true then some ((),(a8 x.1.1,())) else none else none
theorem zM {l:List Me} {r:Unit×(List Me×Unit)} (h:uy ((l,()),())=some r):Uni l∧l.length≤1000000000000∧r=((),(a8 l,())):=by
 unfold uy at h
 split at h
 case isFalse=>cases h
 split at h
 case isFalse=>cases h
 rename_i h1 h2
 cases h
 exact ⟨List.pairwise_map.1 (of_decide_eq_true h1),of_decide_eq_true h2,rfl⟩
theorem As {w:World} {n g m:Nat} {os:Array Obj} {d':Array pP} {cur:Array Value} {e:TypeId} {fz:Nat×Nat} (hg:w.heap[g]? = some (.cells cur e fz)):(sortWorldK iL 2 w g 0 m d' os).heap[g]? = some (.cells (putCells id 0 (flatK iL 2 d') cur) e fz):=by
 have hlt:=kP hg
 unfold sortWorldK putRowK putRow mapBlock
 show ((w.heap.modify g (onCells (putCells id 0 (flatK iL 2 d')))) ++ os)[g]? = _
 rw [Array.getElem?_append_left (by simpa using hlt),Array.getElem?_modify,if_pos rfl,hg]
 rfl
theorem l7 {w:World} {g m k:Nat} {os:Array Obj} {d':Array pP} (hk:k<w.heap.size) (hne:g≠k):(sortWorldK iL 2 w g 0 m d' os).heap[k]? = w.heap[k]? := by
 unfold sortWorldK putRowK putRow mapBlock
 show ((w.heap.modify g (onCells (putCells id 0 (flatK iL 2 d')))) ++ os)[k]? = _
 rw [Array.getElem?_append_left (by simpa using hk),Array.getElem?_modify,if_neg hne]
theorem D8 {e:TypeId} {g f:FuncId} (hnone : ∀ w:World,Calls P f #[.slice none 0 0, .func (.func g) #[] #[]] w fun e w'=>e = .returned (.tuple #[])∧w'=w)
  (hsome : ∀ (gg cap:Nat) (d:Array pP) (w:World),HoldsK iL 2 w gg 0 d→gg<w.heap.size→d.size<4611686018427387904→Calls P f #[.slice (some ⟨gg,0,none⟩) d.size cap, .func (.func g) #[] #[]] w fun e w'=>e = .returned (.tuple #[]) ∧ ∃ d' n os,PermIn 0 d.size d d'∧SortedIn (ltOf cfS) 0 d.size d'∧w'=sortWorldK iL 2 w gg 0 n d' os)
  {fn:Func} (hf:P.funcs[f]? = some fn) (hb:fn.body.isSome=true) (hname:(fn.name == "runtime.NumGoroutine")=false) :
  Ctr (aX kt) P f (ak (aX kt) (zp e g) uy):=by
 refine js fun x r hx w vs Y bl hown hnd hY hg hgb => ?_
 obtain ⟨⟨l,⟨⟩⟩,⟨⟩⟩:=x
 obtain ⟨hu,hlen,rfl⟩:=zM hx
 obtain ⟨u,v,b1,b2,rfl,o1,o2,rfl⟩:=tY hown
 have hr:aP (aX kt) w Y e .me l u∧b1=(blk u).toList:=by
  cases o1 with
  | c h=>cases h with
   | sh h hs=>cases hs
  | lend h=>exact ⟨h,rfl⟩
 obtain ⟨hr,rfl⟩:=hr
 have hv:v = .func (.func g) #[] #[]∧b2 = []:=by
  cases o2 with
  | c h=>cases h with
   | sh h hs =>
    cases h with
    | fn f hl hr =>
     rename_i vs
     have:vs = #[]:=by
      apply Array.eq_empty_of_size_eq_zero
      simpa using hl.symm
     subst this
     exact ⟨rfl,rfl⟩
 obtain ⟨rfl,rfl⟩:=hv
 obtain ⟨xs,hx1,hx2⟩:=hr.els
 refine .inl ⟨dz hf hb hname,?_⟩
 have fin : ∀ w':World,aP (aX kt) w' (fun b=>(Y b∨w.heap.size≤b∨b∈(blk u).toList ++ [])∧b ∉ [] ++ ((blk u).toList ++ [])) e .me (a8 l) u→w'.os=w.os→w'.tape=w.tape→w'.output=w.output→w.heap.size≤w'.heap.size→(∀ k,k<w.heap.size→k ∉ (blk u).toList→w'.heap[k]? = w.heap[k]?) →
   Comes (aX kt) (zp e g) (iv (aX kt) (zp e g).params ((l,()),())) ((),(a8 l,())) w #[u, .func (.func g) #[] #[]].toList Y ((blk u).toList ++ []) (.returned (.tuple #[])) w':=by
  intro w' hrow q1 q2 q3 q4 q5
  refine ⟨.tuple #[],[],(blk u).toList ++ [],rfl,by simpa using hnd,fun k hk=>⟨Nat.lt_of_lt_of_le (hY k (by simpa using hk)).2 q4, .inr (by simpa using hk)⟩,Ans.c (.junk _),?_,⟨q1,q2,q3,q4,fun k hk hk2=>q5 k hk (by simpa using hk2)⟩⟩
  exact fW.lend hrow (.skip (by intro t cs; exact ⟨nofun,nofun⟩) .nil)
 rcases hx1.2 with ⟨rfl,h0⟩ | ⟨gg,cap,cur,rfl,_,⟨fz,hfz,hgg⟩,hnc,hcm,hcs,htk⟩
 ·have:l = []:=List.length_eq_zero_iff.1 h0
  subst this
  refine Calls.mono (hnone w) ?_
  rintro e' w' ⟨rfl,rfl⟩
  refine fin _ ?_ rfl rfl rfl (Nat.le_refl _) (fun _ _ _=>rfl)
  exact aP.mk' (kX _ _ _) (Els.nil _)
 ·obtain ⟨z,rfl,rfl,z3⟩:=xw l xs hx2
  have hds:((z.map (·.1)).toArray).size=z.length:=by simp
  have hnl:List.length (z.map (·.2))=z.length:=by simp
  have hszk:(aX kt).sz .me=2:=rfl
  rw [hszk] at hcs htk
  rw [hnl] at htk hnc
  have hcur : ∀ (j:Nat) (u:Value),((z.map (·.1)).flatMap iL)[j]? = some u→cur[j]? = some u:=by
   intro j u hj
   rw [← htk] at hj
   rw [List.getElem?_take] at hj
   split at hj
   ·rw [← Array.getElem?_toList]; exact hj
   ·cases hj
  have hH:HoldsK iL 2 w gg 0 (z.map (·.1)).toArray:=by
   intro j hj
   rw [size_flatK] at hj
   have h1:=so (z.map (·.1)) j (by simpa using hj)
   have h2:=hcur j _ h1
   refine ⟨?_,?_⟩
   ·rw [Nat.zero_add,get_flatK iL 2 _ j hj,Lib.cell_of_heap hgg]
    exact h2
   ·obtain ⟨lo,hi'⟩:=fz
    have hjc:=(Array.getElem?_eq_some_iff.1 h2).1
    simp only [World.frozen?,hgg,Bool.and_eq_false_iff,decide_eq_false_iff_not]
    simp only at hfz
    omega
  have hs:=hsome gg cap (z.map (·.1)).toArray w hH (kP hgg) (by rw [hds, ← hnl]; omega)
  rw [hds, ← hnl] at hs
  refine Calls.mono hs ?_
  rintro e' w' ⟨rfl,d',n,os,hp,hso,rfl⟩
  rw [hnl] at hp hso
  have hsz':d'.size=z.length:=by rw [hp.1,hds]
  have hperm:d'.toList.Perm (z.map (·.1)):=by
   have h:=hp.2.2
   rw [← hds] at h
   have e1:(d'.extract 0 (z.map (·.1)).toArray.size)=d':=by rw [hds, ← hsz']; simp
   have e2:((z.map (·.1)).toArray.extract 0 (z.map (·.1)).toArray.size)=(z.map (·.1)).toArray:=by simp [List.take_of_length_le]
   rw [e1,e2] at h
   exact h
  obtain ⟨z',p1,p2⟩:=DF (f:=fun p:pP×Me=>p.1) hperm z rfl
  have hz' : ∀ p∈z',J8 (aX kt) w Y p:=fun p hp'=>z3 p (p1.mem_iff.1 hp')
  have hlen':z'.length=z.length:=p1.length_eq
  have hsorted:a8 (z.map (·.2))=z'.map (·.2):=by
   refine zQ hu ?_ (p1.map _)
   show List.Pairwise _ _
   have hu':Uni (z'.map (·.2)):=GX (p1.map _).symm hu
   unfold Uni at hu'
   rw [List.pairwise_iff_getElem] at hu' ⊢
   intro i j hi hj hij
   have hi':i<z'.length:=by simpa using hi
   have hj':j<z'.length:=by simpa using hj
   have h1:=hso i j (Nat.zero_le _) hij (by omega)
   rw [rI] at h1
   have hd : ∀ (k:Nat) (hk:k<z'.length),d'[k]! = (z'[k]'hk).1:=by
    intro k hk
    have:d'.toList[k]? = some z'[k].1:=by rw [← p2]; simp [hk]
    rw [Array.getElem?_toList] at this
    obtain ⟨q1,q2⟩:=Array.getElem?_eq_some_iff.1 this
    rw [getElem!_pos d' k q1,q2]
   rw [hd j hj',hd i hi',(hz' _ (List.getElem_mem hj')).1,(hz' _ (List.getElem_mem hi')).1] at h1
   have h2:Go.Op.bytesLess z'[j].2.1 z'[i].2.1=false:=by simpa [Lib.toList_data] using h1
   simp only [List.getElem_map] at hu' ⊢
   cases h3:ltB z'[i].2.1 z'[j].2.1 with
   | true=>rfl
   | false=>exact absurd (pv _ _ h3 h2) (by have:=hu' i j hi hj hij; simpa using this)
  have hgg':=As (n:=0) (m:=n) (os:=os) (d':=d') hgg
  refine fin _ ?_ rfl rfl rfl (by unfold sortWorldK putRowK putRow mapBlock; show w.heap.size≤((w.heap.modify gg _) ++ os).size; rw [Array.size_append]; simp) (fun k hk hk2=>l7 hk (fun e=>hk2 (by simp [blk,e])))
  rw [hsorted]
  have hF:(flatK iL 2 d').toList=(z'.map (·.1)).flatMap iL:=by rw [Cn,p2]
  refine aP.mk' (xs:=(z'.map (·.1)).flatMap iL) ?_ ?_
  ·refine ⟨by rw [sI]; simp [hszk], .inr ⟨gg,cap,_,?_,Nat.zero_le _,⟨fz,?_,hgg'⟩,?_,hcm,?_,?_⟩⟩
   ·simp [hlen']
   ·rcases hfz with hfz | hfz
    ·exact .inl hfz
    ·right; simpa [putCells] using hfz
   ·simpa [hlen'] using hnc
   ·simpa [putCells,hszk] using hcs
   ·have hl2:List.length (z'.map (·.2)) * (aX kt).sz .me=z.length * 2:=by simp [hlen',hszk]
    rw [hl2]
    apply List.ext_getElem?
    intro t
    rw [List.getElem?_take]
    split
    ·rename_i ht
     rw [← hF,Array.getElem?_toList,Array.getElem?_toList]
     unfold putCells
     rw [Array.getElem?_mapIdx]
     have hc:t<cur.size:=by omega
     have hfs:(flatK iL 2 d').size=z.length * 2:=by rw [size_flatK,hsz']
     rw [Array.getElem?_eq_getElem hc,Option.map_some,if_pos ⟨Nat.zero_le _,by rw [hfs]; omega⟩,Nat.sub_zero,Array.getElem?_eq_getElem (by rw [hfs]; exact ht),getElem!_pos _ _ (by rw [hfs]; exact ht)]
     rfl
    ·rename_i ht
     rw [List.getElem?_eq_none]
     rw [sI]; simp [hlen']; omega
  ·refine (qQ (kt:=kt) z' hz').mono fun b hb1 hb2 => ?_
   have hne:gg≠b:=by
    rintro rfl
    exact (hY gg (by simp [blk])).1 hb1
   refine ⟨⟨.inl hb1,by simpa [blk] using Ne.symm hne⟩,?_,l7 hb2 hne⟩
   unfold sortWorldK putRowK putRow mapBlock
   show b<((w.heap.modify gg _) ++ os).size
   rw [Array.size_append]; simp; omega
end
end Go.Vm
