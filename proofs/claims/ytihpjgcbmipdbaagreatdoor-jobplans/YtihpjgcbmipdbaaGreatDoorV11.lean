import Derived.Test.YtihpjgcbmipdbaaGreatDoorV7
import Derived.Shelf.SlSortCmp.NoneTotal
import Derived.Laws.Cover1
import Derived.Shelf.Unicode.ValidAny
import Derived.Lib.LaidU8T
import Derived.Shelf.Strings.SlTrimAscii
import Derived.Shelf.Strconv.Itoa3
import Derived.Shelf.Strconv.AtoiAll
import Derived.Shelf.Strings.Search2
import Derived.Shelf.Strings.OnBuilder
import Derived.Handed
import Derived.SizedLaws
import Derived.Shelf.Vars
set_option linter.unusedVariables false
namespace Go.Vm
open Go.Proofs Go.Shelf Go.RowKit Go.Sort Go.Lib
abbrev vl:={ p:ByteArray×Value // p.2.oneCell'=true }
instance:Inhabited vl:=⟨⟨(ByteArray.empty,.nilIface),rfl⟩⟩
def kB (p:vl):List Value:=[.string p.1.1,p.1.2]
def NT (a b:ByteArray):Int:=if Go.Op.bytesLess a.toList b.toList=true then -1 else if (!(Go.Op.bytesLess a.toList b.toList || a.toList == b.toList))=true then 1 else 0
def cfS (x y:vl):Int:=NT x.1.1 y.1.1
theorem wS (x y:vl):ltOf cfS x y=Go.Op.bytesLess x.1.1.toList y.1.1.toList:=by
 unfold ltOf cfS NT;by_cases h:Go.Op.bytesLess x.1.1.toList y.1.1.toList=true
 ·rw[if_pos h,h]; rfl
 ·rw[if_neg h]
  split
  ·simp[h]
  ·simp[h]
theorem Xs:SWO (ltOf cfS) where
 irrefl x:=by rw[wS]; exact uN _
 trans x y z h1 h2:=by rw[wS] at *; exact ot _ _ _ h1 h2
 ntrans x y z h1 h2:=by
  rw[wS] at *
  cases e:Go.Op.bytesLess x.1.1.toList z.1.1.toList with
  | false=>rfl
  | true =>
   cases e2:Go.Op.bytesLess z.1.1.toList y.1.1.toList with
   | true=>have:=ot _ _ _ e e2; exact absurd (this.symm.trans h1) (by decide)
   | false =>
    have:=uE _ _ h2 e2;rw[this] at h1;rw[e] at h1; cases h1
theorem yI:∀ (l:List vl) (t:Nat),t<l.length*2->(l.flatMap kB)[t]? = some ((kB (l.toArray[t / 2]!))[t % 2]!)
 | [],t,h=>by simp at h
 | p::l,0,h=>rfl
 | p::l,1,h=>rfl
 | p::l,t+2,h=>by
  have ih:=yI l t (by simp at h; omega);have e1:(t+2) / 2=t / 2+1:=by omega
  have e2:(t+2) % 2=t % 2:=by omega
  rw[e1,e2];have e3:(p::l).toArray[t / 2+1]! = l.toArray[t / 2]! := by
   have hl:t / 2<l.length:=by simp at h; omega
   rw[getElem!_pos _ _ (by simpa using hl),getElem!_pos _ _ (by simpa using hl)];simp
  rw[e3,<-ih];rfl
theorem yB (l:List vl):(l.flatMap kB).length=l.length*2:=by
 induction l with
 | nil=>rfl
 | cons p l ih=>rw[List.flatMap_cons,adf,ih]; simp[kB]; omega
theorem Ka (d:Array vl):(flatK kB 2 d).toList=d.toList.flatMap kB:=by
 apply List.ext_getElem?;intro t;by_cases ht:t<d.size*2
 ·rw[yI d.toList t (by simpa using ht)]
  have h:=get_flatK kB 2 d t ht;rw[Array.getElem?_toList,Array.getElem?_eq_getElem (by simpa using ht),<-getElem!_pos (flatK kB 2 d) t (by simpa using ht),h]
 ·rw[List.getElem?_eq_none (by simp; omega),List.getElem?_eq_none (by rw[yB]; simp; omega)]
theorem MV {β γ:Type} {f:β->γ} {a b:List γ} (h:a.Perm b):∀ l:List β,l.map f=b -> ∃ l':List β,l'.Perm l/\l'.map f=a:=by
 induction h with
 | nil=>intro l hl; exact ⟨l,.refl _,hl⟩
 | cons x h ih =>
  intro l hl;cases l with
  | nil=>cases hl
  | cons y l =>
   injection hl with h1 h2
   obtain ⟨l',q1,q2⟩:=ih l h2;exact ⟨y::l',q1.cons y,by rw[List.map_cons,q2,h1]⟩
 | swap x y l0 =>
  intro l hl
  match l,hl with
  | p::q::l,hl =>
   injection hl with h1 h2
   injection h2 with h2 h3
   exact ⟨q::p::l,.swap p q l,by rw[List.map_cons,List.map_cons,h1,h2,h3]⟩
 | trans h1 h2 i1 i2 =>
  intro l hl;obtain ⟨l1,q1,q2⟩:=i2 l hl;obtain ⟨l2,q3,q4⟩:=i1 l1 q2;exact ⟨l2,q3.trans q1,q4⟩
section
variable {P:Program} {kt:KT}
def Vy (T:Tab El) (w:World) (X:Nat->Prop) (p:vl×Me):Prop:=p.1.1.1=⟨p.2.1.toArray⟩/\Rep T w X (.any .jv p.2.2.1) p.1.1.2
theorem DT {w:World} {X:Nat->Prop}:∀ (l:List Me) (xs:List Value),Els (bg kt) w X .me l xs -> ∃ z:List (vl×Me),z.map (·.2)=l/\xs=(z.map (·.1)).flatMap kB /\ ∀ p∈z,Vy (bg kt) w X p
 | [],xs,h=>by
  have:=h.len;have hx:xs=[]:=List.eq_nil_of_length_eq_zero (by simpa using this);exact ⟨[],rfl,by rw[hx]; rfl,fun p hp=>by cases hp⟩
 | m::l,xs,h=>by
  have hlen:xs.length=(l.length+1)*2:=h.len
  match xs,h,hlen with
  | [],h,hl=>simp at hl
  | [u],h,hl=>simp at hl; omega
  | u0::u1::xs,h,hl =>
   obtain ⟨v0,a0,r0⟩:=h.rep 0 (Nat.zero_lt_succ _) 0 (by show 0<2; omega);obtain ⟨v1,a1,r1⟩:=h.rep 0 (Nat.zero_lt_succ _) 1 (by show 1<2; omega);have e0:u0=v0:=by
    have:(u0::u1::xs)[0*2+0]? = some v0:=a0;simpa using this
   have e1:u1=v1:=by
    have:(u0::u1::xs)[0*2+1]? = some v1:=a1;simpa using this
   subst e0; subst e1;have r0':Rep (bg kt) w X (.str m.1) u0:=r0;have r1':Rep (bg kt) w X (.any .jv m.2.1) u1:=r1;have ho:=h.one u1 (by simp);have ht:Els (bg kt) w X .me l xs:=by
    refine ⟨by simp at hl; show xs.length=l.length*2; omega,fun u hu=>h.one u (adm _ (adm _ hu)),fun i hi c dh => ?_,fun i hi c dh=>h.pl (i+1) (by simpa using hi) c dh⟩;obtain ⟨v,a,r⟩:=h.rep (i+1) (by simpa using hi) c dh;refine ⟨v,?_,r⟩;have a':(u0::u1::xs)[(i+1)*2+c]? = some v:=a;show xs[i*2+c]? = some v;rw[<-a',show (i+1)*2+c=(i*2+c)+2 by omega];simp
   obtain ⟨z,z1,z2,z3⟩:=DT l xs ht;cases r0';refine ⟨(⟨(⟨m.1.toArray⟩,u1),ho⟩,m)::z,by rw[List.map_cons,z1],by rw[List.map_cons,List.flatMap_cons,z2]; rfl,fun p hp => ?_⟩;rcases List.mem_cons.1 hp with rfl | hp
   ·exact ⟨rfl,r1'⟩
   ·exact z3 p hp
theorem xQ {w:World} {X:Nat->Prop}:∀ z:List (vl×Me),(∀ p∈z,Vy (bg kt) w X p)->Els (bg kt) w X .me (z.map (·.2)) ((z.map (·.1)).flatMap kB)
 | [],_=>Els.nil _
 | p::z,h=>by
  have ih:=xQ z fun q hq=>h q (adm _ hq)
  obtain ⟨p1,p2⟩:=h p (adn ..);have h1:Els (bg kt) w X .me [p.2] (kB p.1):=by
   refine ⟨rfl,?_,fun i hi c dh => ?_,fun i hi c dh => ?_⟩
   ·intro u hu
    simp only[kB,List.mem_cons,List.not_mem_nil,or_false] at hu;rcases hu with rfl | rfl
    ·rfl
    ·exact p.1.2
   ·have u5:i=0:=by simp at hi; exact hi
    subst u5;have Dq:c<2:=dh
    match c,Dq with
    | 0,_=>exact ⟨.string p.1.1.1,rfl,by show Rep _ _ _ (.str p.2.1) _; rw[p1]; exact .str _⟩
    | 1,_=>exact ⟨p.1.1.2,rfl,p2⟩
   ·have u5:i=0:=by simp at hi; exact hi
    subst u5;have Dq:c<2:=dh
    match c,Dq with
    | 0,_=>rfl
    | 1,_=>rfl
  exact h1.append ih
def Fw (e g:TypeId):Spec Kd:={ params:=[.newb e [.row e .me],.a (.fn g)],ret := .one (.a .junk),pins:=[[.row e .me]],pl:={ nt:=0 },ts:=[] }
def Cm (x:(List Me×Unit)×Unit):Option (Unit×(List Me×Unit)):=if decide ((x.1.1.map fun m=>m.1).Nodup)=true then if decide (x.1.1.length<=1000000000000)=true then some ((),(bt x.1.1,())) else none else none
theorem Hk {l:List Me} {r:Unit×(List Me×Unit)} (h:Cm ((l,()),())=some r):Uni l/\l.length<=1000000000000/\r=((),(bt l,())):=by
 unfold Cm at h;split at h
 case isFalse=>cases h
 split at h
 case isFalse=>cases h
 rename_i h1 h2;cases h;exact ⟨List.pairwise_map.1 (of_decide_eq_true h1),of_decide_eq_true h2,rfl⟩
theorem IV {w:World} {n g m:Nat} {os:Array Obj} {d':Array vl} {cur:Array Value} {e:TypeId} {fz:Nat×Nat} (hg:w.heap[g]? = some (.cells cur e fz)):(sortWorldK kB 2 w g 0 m d' os).heap[g]? = some (.cells (putCells id 0 (flatK kB 2 d') cur) e fz):=by
 have aH:=mr hg;unfold sortWorldK putRowK putRow mapBlock;show ((w.heap.modify g (onCells (putCells id 0 (flatK kB 2 d'))))++os)[g]? = _;rw[Array.getElem?_append_left (by simpa using aH),Array.getElem?_modify,if_pos rfl,hg];rfl
theorem pz {w:World} {g m k:Nat} {os:Array Obj} {d':Array vl} (hk:k<w.heap.size) (iv:g≠k):(sortWorldK kB 2 w g 0 m d' os).heap[k]? = w.heap[k]? := by
 unfold sortWorldK putRowK putRow mapBlock;show ((w.heap.modify g (onCells (putCells id 0 (flatK kB 2 d'))))++os)[k]? = _;rw[Array.getElem?_append_left (by simpa using hk),Array.getElem?_modify,if_neg iv]
theorem Oj {e:TypeId} {g f:FuncId} (RD:∀ w:World,Calls P f #[.slice none 0 0,.func (.func g) #[] #[]] w fun e w'=>e = .returned (.tuple #[])/\w'=w)
  (Rq:∀ (gg cap:Nat) (d:Array vl) (w:World),HoldsK kB 2 w gg 0 d->gg<w.heap.size->d.size<4611686018427387904->Calls P f #[.slice (some ⟨gg,0,none⟩) d.size cap,.func (.func g) #[] #[]] w fun e w'=>e = .returned (.tuple #[]) /\ ∃ d' n os,PermIn 0 d.size d d'/\SortedIn (ltOf cfS) 0 d.size d'/\w'=sortWorldK kB 2 w gg 0 n d' os)
  {fn:Func} (hf:P.funcs[f]? = some fn) (hb:fn.body.isSome=true) (iT:(fn.name == "runtime.NumGoroutine")=false) :
  Ctr (bg kt) P f (ai (bg kt) (Fw e g) Cm):=by
 refine mD fun x r hx w vs Y bl dD vO hY hg UP => ?_
 obtain ⟨⟨l,⟨⟩⟩,⟨⟩⟩:=x;obtain ⟨hu,hlen,rfl⟩:=Hk hx;obtain ⟨u,v,b1,b2,rfl,o1,o2,rfl⟩:=Aj dD;have hr:bc (bg kt) w Y e .me l u/\b1=(blk u).toList:=by
  cases o1 with
  | c h=>cases h with
   | sh h hs=>cases hs
  | lend h=>exact ⟨h,rfl⟩
 obtain ⟨hr,rfl⟩:=hr;have hv:v = .func (.func g) #[] #[]/\b2=[]:=by
  cases o2 with
  | c h=>cases h with
   | sh h hs =>
    cases h with
    | fn f hl hr =>
     rename_i vs;have:vs = #[]:=by
      apply Array.eq_empty_of_size_eq_zero;simpa using hl.symm
     subst this;exact ⟨rfl,rfl⟩
 obtain ⟨rfl,rfl⟩:=hv;obtain ⟨xs,yk,K9⟩:=hr.els;refine .inl ⟨fA hf hb iT,?_⟩;have fin:∀ w':World,bc (bg kt) w' (fun b=>(Y b\/w.heap.size<=b\/b∈(blk u).toList++[])/\b ∉ []++((blk u).toList++[])) e .me (bt l) u->w'.os=w.os->w'.tape=w.tape->w'.output=w.output->w.heap.size<=w'.heap.size->(∀ k,k<w.heap.size->k ∉ (blk u).toList->w'.heap[k]? = w.heap[k]?) ->
   Comes (bg kt) (Fw e g) (kN (bg kt) (Fw e g).params ((l,()),())) ((),(bt l,())) w #[u,.func (.func g) #[] #[]].toList Y ((blk u).toList++[]) (.returned (.tuple #[])) w':=by
  intro w' mZ q1 q2 q3 q4 q5;refine ⟨.tuple #[],[],(blk u).toList++[],rfl,by simpa using vO,fun k hk=>⟨Nat.lt_of_lt_of_le (hY k (by simpa using hk)).2 q4,.inr (by simpa using hk)⟩,Ans.c (.junk _),?_,⟨q1,q2,q3,q4,fun k hk uw=>q5 k hk (by simpa using uw)⟩⟩;exact iP.lend mZ (.skip (by intro t cs; exact ⟨nofun,nofun⟩) .nil)
 rcases yk.2 with ⟨rfl,h0⟩ | ⟨gg,cap,cur,rfl,_,⟨fz,zG,UA⟩,ER,Dt,uy,I4⟩
 ·have:l=[]:=List.length_eq_zero_iff.1 h0
  subst this;refine Calls.mono (RD w) ?_
  rintro e' w' ⟨rfl,rfl⟩
  refine fin _ ?_ rfl rfl rfl (Nat.le_refl _) (fun _ _ _=>rfl);exact bc.mk' (ou _ _ _) (Els.nil _)
 ·obtain ⟨z,rfl,rfl,z3⟩:=DT l xs K9
  have GV:((z.map (·.1)).toArray).size=z.length:=by simp
  have W9:List.length (z.map (·.2))=z.length:=by simp
  have T3:(bg kt).sz .me=2:=rfl;rw[T3] at uy I4;rw[W9] at I4 ER;have Z9:∀ (j:Nat) (u:Value),((z.map (·.1)).flatMap kB)[j]? = some u->cur[j]? = some u:=by
   intro j u hj;rw[<-I4] at hj;rw[List.getElem?_take] at hj;split at hj
   ·rw[<-Array.getElem?_toList]; exact hj
   ·cases hj
  have hH:HoldsK kB 2 w gg 0 (z.map (·.1)).toArray:=by
   intro j hj;rw[size_flatK] at hj;have h1:=yI (z.map (·.1)) j (by simpa using hj);have h2:=Z9 j _ h1;refine ⟨?_,?_⟩
   ·rw[Nat.zero_add,get_flatK kB 2 _ j hj,Lib.cell_of_heap UA]
    exact h2
   ·obtain ⟨lo,bq⟩:=fz
    have hjc:=(Array.getElem?_eq_some_iff.1 h2).1;simp only[World.frozen?,UA,Bool.and_eq_false_iff,decide_eq_false_iff_not];simp only at zG;omega
  have hs:=Rq gg cap (z.map (·.1)).toArray w hH (mr UA) (by rw[GV,<-W9]; omega);rw[GV,<-W9] at hs;refine Calls.mono hs ?_
  rintro e' w' ⟨rfl,d',n,os,hp,hso,rfl⟩
  rw[W9] at hp hso;have T4:d'.size=z.length:=by rw[hp.1,GV]
  have Yv:d'.toList.Perm (z.map (·.1)):=by
   have h:=hp.2.2;rw[<-GV] at h;have e1:(d'.extract 0 (z.map (·.1)).toArray.size)=d':=by rw[GV,<-T4]; simp
   have e2:((z.map (·.1)).toArray.extract 0 (z.map (·.1)).toArray.size)=(z.map (·.1)).toArray:=by simp[List.take_of_length_le]
   rw[e1,e2] at h;exact h
  obtain ⟨z',p1,p2⟩:=MV (f:=fun p:vl×Me=>p.1) Yv z rfl;have hz':∀ p∈z',Vy (bg kt) w Y p:=fun p Zz=>z3 p (p1.mem_iff.1 Zz)
  have yg:z'.length=z.length:=p1.length_eq;have T5:bt (z.map (·.2))=z'.map (·.2):=by
   refine QS hu ?_ (p1.map _);show List.Pairwise _ _;have wG:Uni (z'.map (·.2)):=O5 (p1.map _).symm hu;unfold Uni at wG;rw[List.pairwise_iff_getElem] at wG ⊢
   intro i j hi hj wF;have bq:i<z'.length:=by simpa using hi
   have sf:j<z'.length:=by simpa using hj
   have h1:=hso i j (Nat.zero_le _) wF (by omega);rw[wS] at h1;have hd:∀ (k:Nat) (hk:k<z'.length),d'[k]! = (z'[k]'hk).1:=by
    intro k hk;have:d'.toList[k]? = some z'[k].1:=by rw[<-p2]; simp[hk]
    rw[Array.getElem?_toList] at this;obtain ⟨q1,q2⟩:=Array.getElem?_eq_some_iff.1 this;rw[getElem!_pos d' k q1,q2]
   rw[hd j sf,hd i bq,(hz' _ (List.getElem_mem sf)).1,(hz' _ (List.getElem_mem bq)).1] at h1;have h2:Go.Op.bytesLess z'[j].2.1 z'[i].2.1=false:=by simpa[Lib.toList_data] using h1
   simp only[List.getElem_map] at wG ⊢
   cases h3:ltB z'[i].2.1 z'[j].2.1 with
   | true=>rfl
   | false=>exact absurd (uE _ _ h3 h2) (by have:=wG i j hi hj wF; simpa using this)
  have aab:=IV (n:=0) (m:=n) (os:=os) (d':=d') UA;refine fin _ ?_ rfl rfl rfl (by unfold sortWorldK putRowK putRow mapBlock; show w.heap.size<=((w.heap.modify gg _)++os).size; rw[Array.size_append]; simp) (fun k hk uw=>pz hk (fun e=>uw (by simp[blk,e])));rw[T5];have hF:(flatK kB 2 d').toList=(z'.map (·.1)).flatMap kB:=by rw[Ka,p2]
  refine bc.mk' (xs:=(z'.map (·.1)).flatMap kB) ?_ ?_
  ·refine ⟨by rw[yB]; simp[T3],.inr ⟨gg,cap,_,?_,Nat.zero_le _,⟨fz,?_,aab⟩,?_,Dt,?_,?_⟩⟩
   ·simp[yg]
   ·rcases zG with zG | zG
    ·exact .inl zG
    ·right; simpa[putCells] using zG
   ·simpa[yg] using ER
   ·simpa[putCells,T3] using uy
   ·have Xb:List.length (z'.map (·.2))*(bg kt).sz .me=z.length*2:=by simp[yg,T3]
    rw[Xb];apply List.ext_getElem?;intro t;rw[List.getElem?_take];split
    ·rename_i ht
     rw[<-hF,Array.getElem?_toList,Array.getElem?_toList];unfold putCells;rw[Array.getElem?_mapIdx];have hc:t<cur.size:=by omega
     have Yq:(flatK kB 2 d').size=z.length*2:=by rw[size_flatK,T4]
     rw[Array.getElem?_eq_getElem hc,Option.map_some,if_pos ⟨Nat.zero_le _,by rw[Yq]; omega⟩,Nat.sub_zero,Array.getElem?_eq_getElem (by rw[Yq]; exact ht),getElem!_pos _ _ (by rw[Yq]; exact ht)];rfl
    ·rename_i ht
     rw[List.getElem?_eq_none];rw[yB]; simp[yg]; omega
  ·refine (xQ (kt:=kt) z' hz').mono fun b OD G1 => ?_
   have iv:gg≠b:=by
    rintro rfl
    exact (hY gg (by simp[blk])).1 OD
   refine ⟨⟨.inl OD,by simpa[blk] using Ne.symm iv⟩,?_,pz G1 iv⟩;unfold sortWorldK putRowK putRow mapBlock;show b<((w.heap.modify gg _)++os).size;rw[Array.size_append]; simp; omega
end
end Go.Vm
namespace Go.Vm
open Go.Proofs Go.Shelf Go.RowKit
variable {P:Program} {ρ:Ren}
theorem Se {g3 g4 gb:Nat} (h3:g3<gb) (h4:g4<gb) (w w':World) (h:Lib.Utf8Tabs g3 g4 w) (hw:∀ b,b<gb->w'.heap[b]? = w.heap[b]?):Lib.Utf8Tabs g3 g4 w':=by
 refine ⟨fun c hc => ?_,fun i hi => ?_⟩
 ·rw[oP (hw g3 h3)]; exact h.1 c hc
 ·rw[oP (hw g4 h4),oP (hw g4 h4)]; exact h.2 i hi
theorem Gq (L:U8Types P ρ) (X:U8Extra P ρ) {w:World} {l:List (String×DataW Unit)} (hm:laidMet P l w) (h3:("unicode/utf8.first",Lib.firstData)∈l) (h4:("unicode/utf8.acceptRanges",Lib.acceptData)∈l):Lib.Utf8Tabs (ρ.g 3) (ρ.g 4) w:=by
 obtain ⟨ps,hl,_⟩:=hm;exact utf8Tabs_of_readsT L X (Lib.LaidVars_reads hl _ _ h3) (Lib.LaidVars_reads hl _ _ h4)
section
variable {kt:KT}
end
end Go.Vm
namespace Go.Vm
open Go.Proofs Go.Shelf Go.RowKit
variable {P:Program} {ρ:Ren} {kt:KT}
def Ui:Spec Kd:={ params:=[.a .str,.a .str],ret := .one (.a .str),pins:=[],pl:={ nt:=0 },ts:=[] }
def Mc (x:List UInt8×List UInt8):Option (List UInt8):=if decide (x.1.length<=9223372036854775807)=true then if decide (x.2.length<=4294967280)=true then if (x.2.all fun b=>decide (b.toNat<128))=true then some (Lib.trimS x.1 x.2) else none else none else none
theorem OS (L:Lays.n160 P ρ) (aac:(P.info? (ρ.t 116)).map (fun i=>(i.zero,i.size))=some (some (.agg (Array.replicate 256 (.bool false))),256)) {f:FuncId} {fn:Func} (hf:P.funcs[f]? = some fn) (hb:fn.body.isSome=true) (iT:(fn.name == "runtime.NumGoroutine")=false) (ef:ρ.f 160=f) :
  Ctr (bg kt) P f (ai (bg kt) Ui Mc):=by
 refine mD fun x r hx w vs Y bl dD vO hY hg UP => ?_
 obtain ⟨s,c⟩:=x;unfold Mc at hx;split at hx
 case isFalse=>cases hx
 rename_i h1;split at hx
 case isFalse=>cases hx
 rename_i h2;split at hx
 case isFalse=>cases hx
 rename_i h3;have h1:=of_decide_eq_true h1;have h2:=of_decide_eq_true h2;cases hx;obtain ⟨u,v,b1,b2,rfl,o1,o2,rfl⟩:=Aj dD;obtain ⟨rfl,rfl⟩:=u4 o1;obtain ⟨rfl,rfl⟩:=u4 o2;refine .inl ⟨fA hf hb iT,?_⟩;refine Calls.mono (ef ▸ Any.strings_Trim_laid L aac ⟨s.toArray⟩ ⟨c.toArray⟩ w (FC h1) (Nat.lt_of_le_of_lt (FC h2) (by decide)) (by simpa using ascii_of_all h3)) ?_
 rintro e w' ⟨rfl,hw⟩
 refine ⟨_,[],[],rfl,by simp,by simp,.c (.sh (wq (⟨(Lib.trimS s c).toArray⟩:ByteArray)) ?_),.skip (by intro t cs; exact ⟨nofun,nofun⟩) (.skip (by intro t cs; exact ⟨nofun,nofun⟩) .nil),⟨hw.os,hw.tape,hw.output,hw.size,fun k hk _=>hw.block k hk⟩⟩;rfl
end Go.Vm
namespace Go.Vm
open Go.Proofs Go.Shelf Go.RowKit Go.Sort Go.Lib
def EV (l:List Nat) (w:World):Prop:=∀ g∈l,∃ m,w.cell? ⟨g,0,none⟩=some (.int .i64 m)
theorem J7 {l:List Nat} {gb:Nat} (hl:∀ g∈l,g<gb) (w w':World) (h:EV l w) (hw:∀ b,b<gb->w'.heap[b]? = w.heap[b]?):EV l w':=by
 intro g hg;obtain ⟨m,hm⟩:=h g hg;exact ⟨m,by rw[oP (hw g (hl g hg))]; exact hm⟩
theorem Dm {H:Type} {enc:TypeId×Value->H} {a:Assume} {C:Checked} {os:Os} {f:FuncId} {fn:Func} {s:ChangeSpec} {conds:List PathCond} {apart fresh handsOn again:Bool} {X:World->Array Value->Prop}
  (hX:∀ (w w':World) (args:Array Value),w.heap=w'.heap->X w args->X w' args)
  (own:ownKnob C.prog.godebug=none) (started:os.Started) (noInit:C.prog.inits.idxOf? f=none) (hfn:C.prog.funcs[f]? = some fn)
  (witness:∃ (w:World) (tape:Tape) (i:Input),w.os=os/\(w.forCall tape i).Shaped C.prog/\i.vars=[]/\Input.okWide C.prog (w.forCall tape i) .any w.heap.size f i /\
   ((s.pre enc C.prog fn conds apart (w.forCall tape i).memory i.args/\X (w.forCall tape i).memory i.args)/\sizedMet enc C.prog fn (OpenSpec.ofChange s) apart (w.forCall tape i).memory i.args)/\a.holds C.prog (lone (Frame.enter C.prog f i.args .normal) [] (w.forCall tape i)))
  (contract:∀ (W:World) (base:Nat) (args:Array Value) (ds gs:List (DataW H)) (before:List MemPlace),
   (∀ (j:Nat) t v,fn.params[j]? = some t->args[j]? = some v->Value.okWide C.prog W .any base t v) ->
   DataW.Whole enc C.prog fn.params.toList s.vars apart W args.toList ds gs before ->
   conds.all (PathCond.test C.prog ⟨fn.params.toList,ds,s.plain.varTypes C.prog,gs⟩)=true ->
   (DataW.weightsEach C.prog (fn.params.toList++s.plain.varTypes C.prog) (ds++gs)).all (· <= reachBytes)=true->X W args->W.ShapedOpen C.prog ->
   a.holds C.prog (lone (Frame.enter C.prog f args .normal) [] W) ->
   Calls C.prog f args W fun e W' => ∃ v,e = .returned v/\s.post enc C.prog fn apart fresh handsOn again W args v W') :
  ReturnsInHanded a C os f .any (fun w args=>(s.pre enc C.prog fn conds apart w args/\X w args)/\sizedMet enc C.prog fn (OpenSpec.ofChange s) apart w args) (s.post enc C.prog fn apart fresh handsOn again):=by
 refine returnsInHanded_of_calls own started noInit witness ?_;intro w tape i _ Jd _ zI Yc WL;obtain ⟨_,_,_,fn',aae,_,_,_,_,r8⟩:=zI;have e:fn'=fn:=Option.some.inj (aae.symm.trans hfn);subst e;obtain ⟨⟨⟨ds,gs,before,hw,hc⟩,hx⟩,hz⟩:=Yc;have WI:=DataW.Whole.of_heap (w':=w.forCall tape i) (by rfl) hw;refine (contract (w.forCall tape i) w.heap.size i.args ds gs before r8 WI hc (hz.weights hw) (hX _ _ _ (by rfl) hx) Jd WL).mono fun e W' ⟨v,he,hp⟩ => ?_
 subst he;exact ChangeSpec.post_blind hp
section
variable {P:Program} {ρ:Ren} {kt:KT}
end
end Go.Vm
