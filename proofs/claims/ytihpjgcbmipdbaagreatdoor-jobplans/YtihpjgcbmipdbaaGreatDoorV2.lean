import Derived.Test.YtihpjgcbmipdbaaGreatDoorV1
import Derived.Lib.ConvBytes
set_option linter.unusedVariables false
namespace Go.Vm
open Go.Lib
variable {K:Type} {E:K->Type}
def wz:Box E->Bool
 | .row .. => true
 | _=>false
def qV (mem:Mem E) (d:DV E):DV E:=match d with
 | .ptr n 0=>match look mem n with
  | some (.cells _ _) => .ptr n 0
  | _ => .junk
 | _ => .junk
def uJ (nm:Nat) (args:List (DV E×Md)) (mem:Mem E) (res:Res E):Option (Out E) :=
 let ds:=args.map (·.1)
 let inv:=args.flatMap fun x=>jV mem x.2 x.1
 let ks0:=args.flatMap fun x=>Pm mem x.2 x.1
 let cv:=IA nm (ds.map (qV mem)) res.v
 let cp:=gq mem args res.pins
 if inv.isEmpty&&cv.2.isEmpty then some (val cv.1)
 else if nodupB ((cv.2++cp).map (·.1)) then
  let ks:=ks0++(cv.2.map (·.1)++(cp.filter fun x=>wz x.2 && !(A3 mem args).contains x.1).map (·.1))
  some ⟨cv.1,ks,some ((cv.2++cp)++dI ks (jO mem (inv++ks)))⟩
 else none
def wK (d:Nat) (args:List (DV E×Md)):Nat :=
 match args.flatMap fun x=>if x.2 = .give then (match x.1 with
  | .rowp n => [n]
  | _ => []) else [] with
 | [n]=>n
 | _=>64*d
def Bh (env:Env E) (d:Nat) (f:DV E) (args:List (DV E×Md)) (mem:Mem E):Cal E :=
 match f with
 | .fn id cap =>
  let con:=env id (args.map (fun x=>cC mem x.2 x.1)++cap)
  let inv:=args.flatMap fun x=>jV mem x.2 x.1
  let vw:=args.flatMap fun x=>tG x.2 x.1
  if nodupB inv&&vw.all (fun n => !inv.contains n)&&(vw.isEmpty || con.fl)&&cap.all DV.plain then
   .retO con.R con.m fun r=>uJ (wK d args) args mem (con.out r)
  else .bad
 | _ => .bad
def L9 (env:Env E) (d:Nat) (f:DV E) (ds:List (DV E)):Cal E :=
 match f with
 | .fn id cap =>
  let con:=env id (ds++cap)
  if ds.all DV.share&&cap.all DV.plain then
   .retO con.R con.m fun r=>let cv:=IA (64*d) (ds.map fun _ => .junk) (con.out r).v
    if cv.2.isEmpty then some (val cv.1) else none
  else .bad
 | _ => .bad
theorem JK {args:List (DV E×Md)} (mem:Mem E) (h:(args.map (·.1)).all DV.share=true) :
  args.map (fun x=>cC mem x.2 x.1)=args.map (·.1)/\(args.flatMap fun x=>jV mem x.2 x.1)=[]/\(args.flatMap fun x=>tG x.2 x.1)=[]/\(args.map (·.1)).map (qV mem)=(args.map (·.1)).map (fun _ => .junk) /\ ∀ d,wK d args=64*d:=by
 have one:∀ x∈args,cC mem x.2 x.1=x.1/\jV mem x.2 x.1=[]/\tG x.2 x.1=[]/\qV mem x.1 = .junk/\(if x.2 = .give then (match x.1 with | .rowp n => [n] | _ => []) else []:List Nat)=[]:=by
  intro x hx;have hs:x.1.share=true:=List.all_eq_true.1 h x.1 (List.mem_map.2 ⟨x,hx,rfl⟩);obtain ⟨d,md⟩:=x;simp only at hs ⊢
  cases d <;> first | (simp[DV.share,DV.lay,DV.plain] at hs; done) | (refine ⟨?_,rfl,rfl,rfl,by split <;> rfl⟩; unfold cC; simp only[hs,if_true])
 refine ⟨List.map_congr_left fun x hx=>(one x hx).1,List.flatMap_eq_nil_iff.2 fun x hx=>(one x hx).2.1,List.flatMap_eq_nil_iff.2 fun x hx=>(one x hx).2.2.1,?_,fun d => ?_⟩
 ·rw[List.map_map,List.map_map]
  exact List.map_congr_left fun x hx=>(one x hx).2.2.2.1
 ·unfold wK
  rw[List.flatMap_eq_nil_iff.2 fun x hx=>(one x hx).2.2.2.2]
theorem JB {env:Env E} {d:Nat} {f:DV E} {args:List (DV E×Md)} {mem:Mem E} {out:Out E} (h:(L9 env d f (args.map (·.1))).has out):(Bh env d f args mem).has out:=by
 unfold L9 at h;unfold Bh;cases f with
 | fn id cap =>
  simp only at h ⊢
  split at h
  ·rename_i hc
   rw[adi] at hc;obtain ⟨q1,q2,q3,q4,q5⟩:=JK mem hc.1;rw[q1,q2,q3,q5,if_pos (by simp[nodupB,hc.2])];obtain ⟨r,hr,ho⟩:=h;refine ⟨r,hr,?_⟩;unfold uJ;simp only[q2,q4] at ho ⊢
   split at ho
   ·rename_i YW
    rw[if_pos (by rw[YW]; rfl)];exact ho
   ·cases ho
  ·obtain ⟨_,h,_⟩:=h; cases h
 | _=>obtain ⟨_,h,_⟩:=h; cases h
variable {T:Tab E} {P:Program} {w0:World} {G:GP} {st:St E} {a:Act} {w:World} {g:Gh}
theorem kG:∀ {l:List Nat},nodupB l=true->l.Nodup
 | [],_=>List.nodup_nil
 | x::l,h=>by
  simp only[nodupB,adi,Bool.not_eq_true',List.contains_eq_mem,decide_eq_false_iff_not] at h;exact List.nodup_cons.2 ⟨h.1,kG h.2⟩
def bk (g:Gh) (n:Nat):List Nat:=(blk (g n)).toList
theorem ig.append {R:DV E->Value->List Nat->Prop} {ds:List (DV E)} {vs:List Value} {bl:List Nat} (h:ig R ds vs bl) {ds':List (DV E)} {vs':List Value} {bl':List Nat} (h':ig R ds' vs' bl') :
  ig R (ds++ds') (vs++vs') (bl++bl'):=by
 induction h with
 | nil=>exact h'
 | cons h t ih=>rw[List.append_assoc]; exact .cons h ih
theorem ig.Ch {R:DV E->Value->List Nat->Prop}:∀ (ds:List (DV E)) (vs:List Value) (f:DV E->List Nat),ds.length=vs.length ->
  (∀ i (h:i<ds.length) (h':i<vs.length),R ds[i] vs[i] (f ds[i]))->ig R ds vs (ds.flatMap f)
 | [],[],f,_,_ => .nil
 | [],_ :: _,f,h,_=>by simp at h
 | _ :: _,[],f,h,_=>by simp at h
 | d::ds,v::vs,f,h,hr=>by
  rw[List.flatMap_cons];exact .cons (hr 0 (by simp) (by simp)) (ig.Ch ds vs f (by simpa using h) fun i hi bq=>hr (i+1) (by simpa using hi) (by simpa using bq))
theorem ig.map {R R':DV E->Value->List Nat->Prop} {ds:List (DV E)} {vs:List Value} {bl:List Nat} (h:ig R ds vs bl) (f:DV E->DV E) (hf:∀ d v b,R d v b->R' (f d) v b):ig R' (ds.map f) vs bl:=by
 induction h with
 | nil=>exact .nil
 | cons h t ih=>exact .cons (hf _ _ _ h) ih
theorem wu {Y:Nat->Prop} {e:TypeId} {k:K} {l:List (E k)} {v:Value} (h:bc T w Y e k l v) (hY:∀ b,blk v=some b->Y b):Rep T w Y (.slc k l) v:=by
 obtain ⟨xs,h1,h2⟩:=h.els;rcases h1.2 with ⟨rfl,hn⟩ | ⟨gg,cap,cur,rfl,_,hg,ER,Dt,uy,I4⟩
 ·have:l=[]:=List.eq_nil_of_length_eq_zero hn
  subst this;exact .slcn k
 ·have jT:=h1.cells (g:=gg) rfl
  refine Rep.slc (b:=gg) (off:=0) cap (fun j=>xs.getD j undef) ER (fun _=>⟨hY gg rfl,by obtain ⟨fz,_,hg⟩:=hg; exact mr hg⟩) ?_ ?_ h2.pl
  ·intro j hj
   have:=jT j (xs.getD j undef) (by rw[<-h2.len] at hj; simp[hj]);rw[Addr.add_lit] at this;exact this
  ·intro i hi c dh
   obtain ⟨u,hu,hr⟩:=h2.rep i hi c dh;have:xs.getD (i*T.sz k+c) undef=u:=by simp[hu]
   rw[this];exact hr
theorem bc.mono {w':World} {X X':Nat->Prop} {e:TypeId} {k:K} {l:List (E k)} {v:Value} (h:bc T w X e k l v)
  (hm:∀ b,X b->b<w.heap.size->X' b/\b<w'.heap.size/\w'.heap[b]? = w.heap[b]?) (hb:∀ b,blk v=some b->w'.heap[b]? = w.heap[b]?):bc T w' X' e k l v:=by
 obtain ⟨xs,p1,p2⟩:=h.els;refine bc.mk' ⟨p1.1,?_⟩ (p2.mono hm);rcases p1.2 with hn | ⟨gg,cap,cur,e1,e2,e3,e4⟩
 ·exact .inl hn
 ·exact .inr ⟨gg,cap,cur,e1,e2,by rw[hb gg (by rw[e1]; rfl)]; exact e3,e4⟩
theorem Nu (h:Inv T w0 G st a w g) {Y:Nat->Prop} (hY:∀ b,free st.mem g b->Y b) {me b0:Nat} (hme:g me = .pointer (some ⟨b0,0,none⟩)) {d:DV E} {v:Value} (p1:eH T w (free st.mem g) g d v) (p2:v.oneCell'=true) :
  vK T w Y b0 (lx me st.mem d) v ((eP st.mem d).flatMap (bk g)):=by
 have hm:∀ b,free st.mem g b->b<w.heap.size->Y b/\b<w.heap.size/\w.heap[b]? = w.heap[b]? := fun b hf aH=>⟨hY b hf,aH,rfl⟩
 cases d with
 | rowp m =>
  have hvm:v=g m:=p1;subst hvm;simp only[lx,eP];cases hlm:look st.mem m with
  | none=>exact .inl ⟨.junk _,p2,rfl⟩
  | some bx =>
   cases bx with
   | cells t' cs'=>exact .inl ⟨.junk _,p2,rfl⟩
   | siter s p=>exact .inl ⟨.junk _,p2,rfl⟩
   | arr _ _ _ _=>exact .inl ⟨.junk _,p2,rfl⟩
   | row e k l =>
    have hr:=h.mm m _ (cd hlm);have:([m]:List Nat).flatMap (bk g)=(blk (g m)).toList:=by simp[bk]
    simp only[this];exact .inl ⟨.row (hr.mono hm fun _ _=>rfl),p2,by rfl⟩
 | argp m =>
  obtain ⟨b,h1,h2⟩:=p1;simp only[lx];split
  ·rename_i e
   subst e;rw[hme] at h1;cases h1;exact .inr ⟨rfl,rfl,h2⟩
  ·exact .inl ⟨.junk _,p2,rfl⟩
 | _=>first
  | exact .inl ⟨.sh ((eH.plain p1 rfl).mono hm) rfl,p2,rfl⟩
  | exact .inl ⟨.junk _,p2,rfl⟩
theorem Al (h:Inv T w0 G st a w g) {Y:Nat->Prop} (hY:∀ b,free st.mem g b->Y b) (md:Md) {d:DV E} {v:Value} (hd:aD T w (free st.mem g) g d v)
  (hv:∀ n∈tG md d,n∈names st.mem -> ∀ b,blk (g n)=some b->Y b):Own T w Y (cC st.mem md d) v ((jV st.mem md d).flatMap (bk g)):=by
 have hm:∀ b,free st.mem g b->b<w.heap.size->Y b/\b<w.heap.size/\w.heap[b]? = w.heap[b]? := fun b hf aH=>⟨hY b hf,aH,rfl⟩
 have shr:∀ d':DV E,aD T w (free st.mem g) g d' v->jV st.mem md d=[]->Own T w Y (if d'.share then d' else .junk) v ((jV st.mem md d).flatMap (bk g)):=by
  intro d' Ox he;rw[he];split
  ·rename_i hs
   exact .c (.sh ((Ox.plain hs).mono hm) hs)
  ·exact .c (.junk v)
 cases d with
 | rowp n =>
  have X2:v=g n:=hd;simp only[cC,jV,eP];cases hl:look st.mem n with
  | none=>cases md <;> exact .c (.junk v)
  | some bx =>
   cases bx with
   | cells t cs=>cases md <;> exact .c (.junk v)
   | siter s p=>cases md <;> exact .c (.junk v)
   | arr _ _ _ _=>cases md <;> exact .c (.junk v)
   | row e k l =>
    have hr:=h.mm n _ (cd hl);have W6:([n]:List Nat).flatMap (bk g)=(blk (g n)).toList:=by simp[bk]
    cases md
    ·rw[X2]
     exact .c (.sh (wu (hr.mono hm fun _ _=>rfl) fun b hb=>hv n (by simp[tG]) (cu hl) b hb) rfl)
    ·rw[X2]
     simp only[W6];exact .c (.row (hr.mono hm fun _ _=>rfl))
    ·rw[X2]
     simp only[W6];exact .lend (hr.mono hm fun _ _=>rfl)
 | rowv n q =>
  obtain ⟨ad,len,cap,hg,rfl,hq⟩:=hd;simp only[cC];cases hl:look st.mem n with
  | none=>exact .c (.junk _)
  | some bx =>
   cases bx with
   | cells t cs=>exact .c (.junk _)
   | siter s p=>exact .c (.junk _)
   | arr _ _ _ _=>exact .c (.junk _)
   | row e k l =>
    have hr:bc T w (free st.mem g) e k l (g n):=h.mm n _ (cd hl);have si:=wu (hr.mono hm fun _ _=>rfl) fun b hb=>hv n (by simp[tG]) (cu hl) b hb
    rw[hg] at si;refine .c (.sh ?_ rfl);rcases ke (g:=g) (Rep.toT si) with ⟨he,rfl⟩ | ⟨a0,c0,he,rfl⟩ | ⟨b,off,cap',f,he,h1,h2,h3,h4,h5⟩
    ·cases he
     have:q=0:=by omega
     subst this;exact .slcn k
    ·cases he
     have:q=0:=by omega
     subst this;exact .slcz k _ _
    ·cases he
     have hlen:(l.take q).length=q:=by simp; omega
     have:=Rep.slc (T:=T) (w:=w) (X:=Y) (k:=k) (l:=l.take q) (b:=b) (off:=off) cap f (by rw[hlen]; omega) (fun hh=>h2 (by rw[hlen] at hh; omega))
      (fun j hj=>h3 j (by rw[hlen] at hj; exact Nat.lt_of_lt_of_le hj (Nat.mul_le_mul_right _ hq)))
      (fun i hi c dh=>by
       simp only[List.getElem_take] at dh ⊢
       exact h4 i (by rw[hlen] at hi; omega) c dh)
      (fun i hi c dh=>by
       simp only[List.getElem_take] at dh ⊢
       exact h5 i (by rw[hlen] at hi; omega) c dh)
     rw[hlen] at this;exact this
 | ptr n off =>
  cases off with
  | succ off=>exact .c (.junk v)
  | zero =>
   obtain ⟨b,hg,rfl⟩:=gp hd;simp only[cC,jV];cases hl:look st.mem n with
   | none=>exact .c (.junk _)
   | some bx =>
    cases bx with
    | row e k l=>exact .c (.junk _)
    | siter s p=>exact .c (.junk _)
    | arr _ _ _ _=>exact .c (.junk _)
    | cells t cs =>
     obtain ⟨b',vs,h1,h2,h3,h4⟩:=h.mm n _ (cd hl);rw[hg] at h1;cases h1;have W6:bk g n=[b]:=by simp[bk,hg,blk]
     rw[List.flatMap_cons,W6];refine .pin ⟨b,vs,(cs.flatMap (eP st.mem)).flatMap (bk g),rfl,h2,?_,rfl⟩;rw[List.flatMap_assoc];have uA:ig (fun d v bs=>vK T w Y b (lx n st.mem d) v bs) cs vs.toList (cs.flatMap fun d=>(eP st.mem d).flatMap (bk g)):=by
      refine ig.Ch cs vs.toList (fun d=>(eP st.mem d).flatMap (bk g)) (by simpa using h3) fun i hi bq => ?_
      obtain ⟨p1,p2,p3⟩:=h4 i hi (by simpa using bq);simp only[Array.getElem_toList];exact Nu h hY hg p1 p2
     exact uA.map (lx n st.mem) fun d v b hd=>hd
 | _=>exact shr _ hd rfl
end Go.Vm
namespace Go.Vm
open Go.Lib
variable {K:Type} {E:K->Type}
variable {T:Tab E} {P:Program} {w0:World} {G:GP} {st:St E} {a:Act} {w:World} {g:Gh}
def yN (T:Tab E) (w:World) (X:Nat->Prop) (g:Gh) (es:lG E):Prop:=∀ x∈es,GC T w X g x.2.2 x.2.1
def jh (g:Gh) (es:lG E):Prop:=∀ x∈es,g x.1=x.2.2
theorem jh.left {es es':lG E} (h:jh g (es++es')):jh g es:=fun x hx=>h x (List.mem_append_left _ hx)
theorem jh.right {es es':lG E} (h:jh g (es++es')):jh g es':=fun x hx=>h x (List.mem_append_right _ hx)
def pN (T:Tab E) (w:World) (Y X:Nat->Prop):Prop:=∀ b,Y b->b<w.heap.size->X b
theorem bc.wide {Y X:Nat->Prop} (hw:pN T w Y X) {e:TypeId} {k:K} {l:List (E k)} {v:Value} (h:bc T w Y e k l v):bc T w X e k l v :=
 h.mono (fun b hb aH=>⟨hw b hb aH,aH,rfl⟩) fun _ _=>rfl
theorem Rep.wide {Y X:Nat->Prop} (hw:pN T w Y X) {d:DV E} {v:Value} (h:Rep T w Y d v):Rep T w X d v:=h.mono fun b hb aH=>⟨hw b hb aH,aH,rfl⟩
theorem jr {es es':lG E}:fJ (es++es')=fJ es++fJ es':=by simp[fJ]
theorem mw {es es':lG E}:fp (es++es')=fp es++fp es':=by simp[fp]
theorem Gi (n:Nat) {Y:Nat->Prop} {cs:List (DV E)} {vs:List Value} {bl:List Nat} {b0:Nat} (h:ig (vK T w Y b0) cs vs bl):∀ (c:Nat) (olds:List (DV E)),
  ∃ es:lG E,fp es=(bh n c olds cs).2/\fJ es=bl/\(∀ X g',pN T w Y X->yN T w X g' es)/\(∀ x∈es,wz x.2.1=true) /\
   (bh n c olds cs).1.length=vs.length /\
   ∀ X g',pN T w Y X->g' n = .pointer (some ⟨b0,0,none⟩)->jh g' es -> ∀ i (hi:i<(bh n c olds cs).1.length) (bq:i<vs.length),eH T w X g' (bh n c olds cs).1[i] vs[i]/\vs[i].oneCell'=true/\(bh n c olds cs).1[i].fP=true:=by
 induction h with
 | nil=>intro c olds; exact ⟨[],rfl,rfl,fun _ _ _ x hx=>(by cases hx),fun x hx=>(by cases hx),rfl,fun _ _ _ _ _ i hi=>absurd hi (by simp[bh])⟩
 | @cons d v b ds vs bs h t ih =>
  intro c olds;obtain ⟨es,e1,e2,e3,e3',e4,e5⟩:=ih (c+1) olds.tail;rcases h with ⟨hc,h1,hs⟩ | ⟨rfl,rfl,hv⟩
  case inr =>
   refine ⟨es,by simpa[bh] using e1,by simpa using e2,e3,e3',by simpa[bh] using e4,?_⟩;intro X g' hw Ab ha i hi bq;cases i with
   | zero=>exact ⟨⟨b0,Ab,hv⟩,by rcases hv with rfl | rfl <;> rfl,rfl⟩
   | succ i=>exact e5 X g' hw Ab ha i (by simpa[bh] using hi) (by simpa using bq)
  cases hc with
  | junk v =>
   refine ⟨es,by simpa[bh] using e1,by simpa using e2,e3,e3',by simpa[bh] using e4,?_⟩;intro X g' hw Ab ha i hi bq;cases i with
   | zero=>exact ⟨Rep.junk _,h1,rfl⟩
   | succ i=>exact e5 X g' hw Ab ha i (by simpa[bh] using hi) (by simpa using bq)
  | sh hr Jd =>
   have hp:d.plain=true:=by rw[<-hs]; exact Jd
   have dh:bh n c olds (d::ds)=(d::(bh n (c+1) olds.tail ds).1,(bh n (c+1) olds.tail ds).2):=by
    cases d <;> first | rfl | (simp[DV.plain] at hp; done)
   rw[dh];refine ⟨es,e1,by simpa using e2,e3,e3',by simpa using e4,?_⟩;intro X g' hw Ab ha i hi bq;cases i with
   | zero=>exact ⟨(hr.wide hw).KY,h1,pQ hp⟩
   | succ i=>exact e5 X g' hw Ab ha i (by simpa using hi) (by simpa using bq)
  | @row e k l _ hr =>
   refine ⟨(BL n c (olds.headD .junk),.row e k l,v)::es,by simp[bh,fp] at e1 ⊢; exact e1,by simp[fJ] at e2 ⊢; rw[e2],?_,?_,by simpa[bh] using e4,?_⟩
   ·intro X g' hw x hx
    rcases List.mem_cons.1 hx with rfl | hx
    ·exact hr.wide hw
    ·exact e3 X g' hw x hx
   ·intro x hx
    rcases List.mem_cons.1 hx with rfl | hx
    ·rfl
    ·exact e3' x hx
   ·intro X g' hw Ab ha i hi bq
    cases i with
    | zero=>exact ⟨(ha _ (adn ..)).symm,h1,rfl⟩
    | succ i=>exact e5 X g' hw Ab (fun x hx=>ha x (adm _ hx)) i (by simpa[bh] using hi) (by simpa using bq)
theorem CD (n:Nat) (olds:List (DV E)) {Y:Nat->Prop} {t:TypeId} {cs:List (DV E)} {v:Value} {bl:List Nat} (h:pR T w Y t cs v bl) :
  ∃ es:lG E,fp es=(n,.cells t (bh n 0 olds cs).1)::(bh n 0 olds cs).2/\fJ es=bl/\(∀ X g',pN T w Y X->jh g' es->yN T w X g' es) /\
   (∀ x∈es,wz x.2.1=true\/(x.1=n/\x.2.2=v))/\(∃ b,v = .pointer (some ⟨b,0,none⟩)) /\ ∃ x∈es,x.1=n/\x.2.2=v:=by
 obtain ⟨b,vs,bs,rfl,h2,h3,rfl⟩:=h;obtain ⟨es,e1,e2,e3,e3',e4,e5⟩:=Gi n h3 0 olds;refine ⟨(n,.cells t (bh n 0 olds cs).1,.pointer (some ⟨b,0,none⟩))::es,by simp[fp] at e1 ⊢; exact e1,by simp[fJ,blk] at e2 ⊢; exact e2,?_,?_,⟨b,rfl⟩,_,adn ..,rfl,rfl⟩
 ·intro X g' hw ha x hx
  rcases List.mem_cons.1 hx with rfl | hx
  ·refine ⟨b,vs,rfl,h2,by simpa using e4,?_⟩
   intro i hi bq;have:=e5 X g' hw (ha _ (adn ..)) (fun x hx=>ha x (adm _ hx)) i hi (by simpa using bq);simpa using this
  ·exact e3 X g' hw x hx
 ·intro x hx
  rcases List.mem_cons.1 hx with rfl | hx
  ·exact .inr ⟨rfl,rfl⟩
  ·exact .inl (e3' x hx)
theorem zB (nm:Nat) (ds:List (DV E)) {Y:Nat->Prop} {args:List Value} {d:DV E} {v:Value} {bl:List Nat} (h:Ans T w Y args d v bl) :
  ∃ es:lG E,fp es=(lM nm ds d).2/\fJ es=bl/\(∀ X g',pN T w Y X->jh g' es->yN T w X g' es) /\
   ∀ X g',pN T w Y X->jh g' es->(∀ (j n:Nat) (u:Value),ds[j]? = some (.ptr n 0)->args[j]? = some u->eH T w X g' (.ptr n 0) u) ->
    eH T w X g' (lM nm ds d).1 v/\(lM nm ds d).1.noR=true:=by
 cases h with
 | c h =>
  cases h with
  | junk v=>exact ⟨[],rfl,rfl,fun _ _ _ _ x hx=>(by cases hx),fun X g' _ _ _=>⟨Rep.junk _,rfl⟩⟩
  | sh hr hs =>
   have dh:lM nm ds d=(d,[]):=by cases d <;> first | rfl | (simp[DV.share,DV.lay,DV.plain] at hs; done)
   rw[dh];exact ⟨[],rfl,rfl,fun _ _ _ _ x hx=>(by cases hx),fun X g' hw _ _=>⟨(hr.wide hw).KY,by cases d <;> first | rfl | (simp[DV.share,DV.lay,DV.plain] at hs; done)⟩⟩
  | @row e k l _ hr =>
   refine ⟨[(nm,.row e k l,v)],rfl,by simp[fJ],?_,?_⟩
   ·intro X g' hw _ x hx
    simp only[List.mem_singleton] at hx;subst hx;exact hr.wide hw
   ·intro X g' hw ha _
    exact ⟨(ha _ (List.mem_singleton.2 rfl)).symm,rfl⟩
 | newb h =>
  obtain ⟨es,e1,e2,e3,e4,⟨b,e5⟩,x,hx,e6,e7⟩:=CD nm [] h;refine ⟨es,e1,e2,e3,fun X g' hw ha _=>⟨?_,rfl⟩⟩;refine ⟨b,?_,e5⟩;rw[<-e6,ha x hx,e7,e5]
 | argp hj =>
  rename_i j;refine ⟨[],?_,rfl,fun _ _ _ _ x hx=>(by cases hx),?_⟩
  ·simp only[lM]
   split <;> rfl
  ·intro X g' hw _ hp
   simp only[lM];split
   ·rename_i n hn
    exact ⟨hp j n v hn hj,rfl⟩
   ·exact ⟨Rep.junk _,rfl⟩
theorem xI (ds:List (DV E)) {Y:Nat->Prop} {args:List Value} {rs:List (DV E)} {vs:List Value} {bl:List Nat} (h:ig (Ans T w Y args) rs vs bl):∀ (nm:Nat),
  ∃ es:lG E,fp es=(cM nm ds rs).2/\fJ es=bl/\(∀ X g',pN T w Y X->jh g' es->yN T w X g' es)/\(cM nm ds rs).1.length=vs.length /\
   ∀ X g',pN T w Y X->jh g' es->(∀ (j n:Nat) (u:Value),ds[j]? = some (.ptr n 0)->args[j]? = some u->eH T w X g' (.ptr n 0) u) ->
    ∀ i (hi:i<(cM nm ds rs).1.length) (bq:i<vs.length),eH T w X g' (cM nm ds rs).1[i] vs[i]/\(cM nm ds rs).1[i].noR=true:=by
 induction h with
 | nil=>intro nm; exact ⟨[],rfl,rfl,fun _ _ _ _ x hx=>(by cases hx),rfl,fun _ _ _ _ _ i hi=>absurd hi (by simp[cM])⟩
 | @cons d v b ds' vs bs h t ih =>
  intro nm;obtain ⟨es,e1,e2,e3,e4⟩:=zB nm ds h;obtain ⟨es',f1,f2,f3,f4,f5⟩:=ih (nm+1);refine ⟨es++es',by rw[mw,e1,f1]; rfl,by rw[jr,e2,f2],?_,by simpa[cM] using f4,?_⟩
  ·intro X g' hw ha x hx
   rcases List.mem_append.1 hx with hx | hx
   ·exact e3 X g' hw ha.left x hx
   ·exact f3 X g' hw ha.right x hx
  ·intro X g' hw ha hp i hi bq
   cases i with
   | zero=>exact e4 X g' hw ha.left hp
   | succ i=>exact f5 X g' hw ha.right hp i (by simpa[cM] using hi) (by simpa using bq)
theorem Ri (nm:Nat) (ds:List (DV E)) {Y:Nat->Prop} {args:List Value} {d:DV E} {v:Value} {bl:List Nat} (h:zK T w Y args d v bl) :
  ∃ es:lG E,fp es=(IA nm ds d).2/\fJ es=bl/\(∀ X g',pN T w Y X->jh g' es->yN T w X g' es) /\
   ∀ X g',pN T w Y X->jh g' es->(∀ (j n:Nat) (u:Value),ds[j]? = some (.ptr n 0)->args[j]? = some u->eH T w X g' (.ptr n 0) u) ->
    aD T w X g' (IA nm ds d).1 v/\(IA nm ds d).1.noR=true:=by
 cases d with
 | tup rs =>
  obtain ⟨vs,rfl,h⟩:=h;obtain ⟨es,e1,e2,e3,e4,e5⟩:=xI ds h (nm+1);refine ⟨es,e1,e2,e3,fun X g' hw ha hp=>⟨⟨vs,rfl,by simpa using e4.symm,?_⟩,rfl⟩⟩;intro i hi bq;have:=e5 X g' hw ha hp i hi (by simpa using bq);simpa using this
 | _ =>
  obtain ⟨es,e1,e2,e3,e4⟩:=zB nm ds h;exact ⟨es,e1,e2,e3,fun X g' hw ha hp=>⟨aD.of1 (e4 X g' hw ha hp).1,(e4 X g' hw ha hp).2⟩⟩
end Go.Vm
namespace Go.Vm
open Go.Lib
variable {K:Type} {E:K->Type}
variable {T:Tab E} {P:Program} {w0:World} {G:GP} {st:St E} {a:Act} {w:World} {g:Gh}
def j5:DV E->Bool
 | .pin _ _=>true
 | .newb _ _=>true
 | _=>false
def U9 (mem:Mem E) (x:DV E×Md):Prop:=(∃ n t cs,x.1 = .ptr n 0/\look mem n=some (.cells t cs))\/(x.2 = .lend /\ ∃ n e k l,x.1 = .rowp n/\look mem n=some (.row e k l))
theorem zw (mem:Mem E) (x:DV E×Md) (h:¬ U9 mem x):j5 (cC mem x.2 x.1)=false:=by
 obtain ⟨d,md⟩:=x;change j5 (cC mem md d)=false;unfold cC;split
 ·rename_i n
  split
  ·rename_i e k l hl
   split
   ·rfl
   ·rfl
   ·exact absurd (Or.inr ⟨rfl,_,e,k,l,rfl,hl⟩) h
  ·rfl
 ·split <;> rfl
 ·rename_i n
  split
  ·rename_i t cs hl; exact absurd (Or.inl ⟨_,t,cs,rfl,hl⟩) h
  ·rfl
 ·split
  ·rename_i d' _ _ _ hs
   cases d <;> first | rfl | (simp[DV.share,DV.lay,DV.plain] at hs; done)
  ·rfl
theorem Kc {Y:Nat->Prop} {ds:List (DV E)} {vs:List Value} {ps:List (List (DV E))} {bl:List Nat} (h:iP T w Y ds vs ps bl) (hd:∀ d∈ds,j5 d=false):ps=[]/\bl=[]:=by
 induction h with
 | nil=>exact ⟨rfl,rfl⟩
 | skip _ _ ih=>exact ih fun d hm=>hd d (adm _ hm)
 | pin _ _ _=>have:=hd _ (adn ..); simp[j5] at this
 | lend _ _ _=>have:=hd _ (adn ..); simp[j5] at this
def Pinned (mem:Mem E) (args:List (DV E×Md)) (n:Nat):Prop :=
 ∃ x∈args,(x.1 = .ptr n 0 /\ ∃ t cs,look mem n=some (.cells t cs))\/(x.2 = .lend/\x.1 = .rowp n /\ ∃ e k l,look mem n=some (.row e k l))
theorem vB (mem:Mem E) (x:DV E×Md) (ds:List (DV E×Md)) (ps:List (List (DV E))) (h:¬ U9 mem x):gq mem (x::ds) ps=gq mem ds ps:=by
 obtain ⟨d,md⟩:=x;cases ps with
 | nil=>cases d <;> cases md <;> (try rfl) <;> rename_i off <;> cases off <;> rfl
 | cons p ps =>
  cases d with
  | ptr n off =>
   cases off with
   | succ off=>rfl
   | zero =>
    simp only[gq];split
    ·rename_i t cs hl; exact absurd (.inl ⟨n,t,cs,rfl,hl⟩) h
    ·rfl
  | rowp n =>
   cases md with
   | lend =>
    simp only[gq];split
    ·rename_i e k l hl; exact absurd (.inr ⟨rfl,n,e,k,l,rfl,hl⟩) h
    ·rfl
   | _=>rfl
  | _=>rfl
theorem PB {mem:Mem E} {args:List (DV E×Md)} {n:Nat}:n∈A3 mem args ↔ ∃ x∈args,x.2 = .lend/\x.1 = .rowp n /\ ∃ e k l,look mem n=some (.row e k l):=by
 unfold A3;rw[List.mem_flatMap];constructor
 ·rintro ⟨⟨d,md⟩,hx,hn⟩
  cases md <;> simp only[List.not_mem_nil] at hn
  cases d <;> simp only[List.not_mem_nil] at hn
  rename_i m;simp only[eP] at hn;cases hl:look mem m with
  | none=>rw[hl] at hn; cases hn
  | some bx =>
   rw[hl] at hn;cases bx with
   | row e k l =>
    simp only[List.mem_singleton] at hn;subst hn;exact ⟨_,hx,rfl,rfl,e,k,l,hl⟩
   | cells t cs=>cases hn
   | siter s p=>cases hn
   | arr _ _ _ _=>cases hn
 ·rintro ⟨⟨d,md⟩,hx,h1,h2,e,k,l,hl⟩
  simp only at h1 h2;subst h1; subst h2;exact ⟨_,hx,by simp[eP,hl]⟩
theorem zv {w':World} {Y:Nat->Prop} {cap:List (DV E)} {vcap:List Value} (yT:∀ d∈cap,j5 d=false) :
  ∀ (args:List (DV E×Md)) (vs:List Value) (pins:List (List (DV E))) (bl:List Nat),args.length=vs.length ->
   (∀ i (hi:i<args.length) (bq:i<vs.length),aD T w (free st.mem g) g args[i].1 vs[i]) ->
   iP T w' Y (args.map (fun x=>cC st.mem x.2 x.1)++cap) (vs++vcap) pins bl ->
   ∃ es:lG E,fp es=gq st.mem args pins/\fJ es=bl/\(∀ X g',pN T w' Y X->jh g' es->yN T w' X g' es) /\
    (∀ x∈es,wz x.2.1=true\/(x.2.2=g x.1/\Pinned st.mem args x.1))/\(∀ n,Pinned st.mem args n -> ∃ x∈es,x.1=n/\x.2.2=g n)
 | [],[],pins,bl,_,_,h=>by
  obtain ⟨rfl,rfl⟩:=Kc h yT;exact ⟨[],rfl,rfl,fun _ _ _ _ x hx=>(by cases hx),fun x hx=>(by cases hx),fun n ⟨x,hx,_⟩=>(by cases hx)⟩
 | [],_ :: _,_,_,hl,_,_=>by simp at hl
 | _ :: _,[],_,_,hl,_,_=>by simp at hl
 | x::args,v::vs,pins,bl,hl,hr,h=>by
  have ih:=zv (w':=w') (Y:=Y) (vcap:=vcap) yT args vs;have Av:args.length=vs.length:=by simpa using hl
  have si:∀ i (hi:i<args.length) (bq:i<vs.length),aD T w (free st.mem g) g args[i].1 vs[i]:=fun i hi bq=>hr (i+1) (by simpa using hi) (by simpa using bq)
  have yn:aD T w (free st.mem g) g x.1 v:=hr 0 (by simp) (by simp);simp only[List.map_cons,List.cons_append] at h;by_cases hp:U9 st.mem x
  ·rcases hp with ⟨n,t,olds,hx,dE⟩ | ⟨ZC,n,e,k,l,hx,dE⟩
   ·have Rs:cC st.mem x.2 x.1 = .pin t (olds.map (lx n st.mem)):=by rw[hx]; simp[cC,dE]
    rw[Rs] at h;cases h with
    | skip hd _=>exact absurd rfl (hd _ _).1
    | @pin _ _ cs' _ b _ _ ps bl' hb h =>
     obtain ⟨es',f1,f2,f3,f4,f5⟩:=ih ps bl' Av si h;obtain ⟨es,e1,e2,e3,e4,e5,y,hy,e6,e7⟩:=CD n olds hb;have TP:v=g n:=by
      rw[hx] at yn;obtain ⟨b0,h1,h2⟩:=gp yn;rw[h1,h2]
     refine ⟨es++es',?_,by rw[jr,e2,f2],?_,?_,?_⟩
     ·rw[mw,e1,f1]
      obtain ⟨d,md⟩:=x;simp only at hx;subst hx;simp only[gq,dE]
     ·intro X g' hw ha z hz
      rcases List.mem_append.1 hz with hz | hz
      ·exact e3 X g' hw ha.left z hz
      ·exact f3 X g' hw ha.right z hz
     ·intro z hz
      rcases List.mem_append.1 hz with hz | hz
      ·rcases e4 z hz with h1 | ⟨h1,h2⟩
       ·exact .inl h1
       ·exact .inr ⟨by rw[h1,h2,TP],x,adn ..,.inl ⟨by rw[h1]; exact hx,t,olds,by rw[h1]; exact dE⟩⟩
      ·rcases f4 z hz with h1 | ⟨h1,y0,h2,h3⟩
       ·exact .inl h1
       ·exact .inr ⟨h1,y0,adm _ h2,h3⟩
     ·rintro m ⟨z,hz,wD⟩
      rcases List.mem_cons.1 hz with rfl | hz
      ·rcases wD with ⟨wD,_⟩ | ⟨_,wD,_⟩
       ·rw[hx] at wD
        cases wD;exact ⟨y,List.mem_append_left _ hy,e6,by rw[e7,TP]⟩
       ·rw[hx] at wD; cases wD
      ·obtain ⟨y',ZD,e8⟩:=f5 m ⟨z,hz,wD⟩
       exact ⟨y',List.mem_append_right _ ZD,e8⟩
   ·have Rs:cC st.mem x.2 x.1 = .newb e [.row e k l]:=by rw[hx,ZC]; simp[cC,dE]
    rw[Rs] at h;cases h with
    | skip hd _=>exact absurd rfl (hd _ _).2
    | @lend _ e' k' l' _ _ _ _ ps bl' hb h =>
     obtain ⟨es',f1,f2,f3,f4,f5⟩:=ih ps bl' Av si h;have TP:v=g n:=by rw[hx] at yn; exact yn
     refine ⟨(n,.row e' k' l',v)::es',?_,?_,?_,?_,?_⟩
     ·obtain ⟨d,md⟩:=x
      simp only at hx ZC;subst hx; subst ZC;simp only[gq,dE,<-f1];rfl
     ·simp only[fJ,List.flatMap_cons] at f2 ⊢
      rw[f2]
     ·intro X g' hw ha z hz
      rcases List.mem_cons.1 hz with rfl | hz
      ·exact hb.wide hw
      ·exact f3 X g' hw (fun y hy=>ha y (adm _ hy)) z hz
     ·intro z hz
      rcases List.mem_cons.1 hz with rfl | hz
      ·exact .inl rfl
      ·rcases f4 z hz with h1 | ⟨h1,y0,h2,h3⟩
       ·exact .inl h1
       ·exact .inr ⟨h1,y0,adm _ h2,h3⟩
     ·rintro m ⟨z,hz,wD⟩
      rcases List.mem_cons.1 hz with rfl | hz
      ·rcases wD with ⟨wD,_⟩ | ⟨_,wD,_⟩
       ·rw[hx] at wD; cases wD
       ·rw[hx] at wD
        cases wD;exact ⟨_,adn ..,rfl,TP⟩
      ·obtain ⟨y',ZD,e8⟩:=f5 m ⟨z,hz,wD⟩
       exact ⟨y',adm _ ZD,e8⟩
  ·have Wp:=zw st.mem x hp
   cases Zg:cC st.mem x.2 x.1 <;> rw[Zg] at h Wp
   case pin=>simp[j5] at Wp
   case newb=>simp[j5] at Wp
   all_goals
    cases h with
    | skip hd h =>
     obtain ⟨es',f1,f2,f3,f4,f5⟩:=ih pins bl Av si h;refine ⟨es',by rw[f1,vB st.mem x _ _ hp],f2,f3,?_,?_⟩
     ·intro z hz
      rcases f4 z hz with h1 | ⟨h1,y0,h2,h3⟩
      ·exact .inl h1
      ·exact .inr ⟨h1,y0,adm _ h2,h3⟩
     rintro m ⟨z,hz,wD⟩
     rcases List.mem_cons.1 hz with rfl | hz
     ·refine absurd ?_ hp
      rcases wD with ⟨h1,t,cs,h2⟩ | ⟨h1,h2,e,k,l,h3⟩
      ·exact .inl ⟨m,t,cs,h1,h2⟩
      ·exact .inr ⟨h1,m,e,k,l,h2,h3⟩
     ·exact f5 m ⟨z,hz,wD⟩
end Go.Vm
namespace Go.Vm
open Go.Lib
variable {K:Type} {E:K->Type}
variable {T:Tab E} {P:Program} {w0:World} {G:GP} {st:St E} {a:Act} {w:World} {g:Gh}
theorem Rep.Uw {fk:K->Bool} {Y Y':Nat->Prop} {w':World} {d:DV E} {v:Value} (h:Rep T w Y d v) (hf:d.flat fk=true) (hn:∀ n k l,d ≠ .arr n k l):Rep T w' Y' d v:=by
 cases h <;> first | (simp[DV.flat] at hf; done) | skip
 case int h=>exact .int h
 case bool b=>exact .bool b
 case str s=>exact .str s
 case nilp=>exact .nilp
 case nili=>exact .nili
 case nils=>exact .nils
 case arr n k l hl hp h=>exact absurd rfl (hn n k l)
theorem Rep.flat {fk:K->Bool} (hfk:∀ k (x:E k),fk k=true->(T.enc k x).all (DV.flat fun _=>false)=true) {Y Y':Nat->Prop} {w':World} {d:DV E} {v:Value} (h:Rep T w Y d v) (hf:d.flat fk=true):Rep T w' Y' d v:=by
 by_cases hd:∃ n k l,d = .arr n k l
 ·obtain ⟨n,k,l,rfl⟩:=hd
  cases h with
  | arr hl hp h =>
   cases h with
   | agg h1 h2 =>
    refine .arr hl hp (.agg h1 fun i hi bq => ?_);obtain ⟨x,_,hx⟩:=List.mem_flatMap.1 (show (j6 T k l)[i]∈l.flatMap (T.enc k) from List.getElem_mem hi);have ZE:=List.all_eq_true.1 (hfk k x hf) _ hx;refine (h2 i hi bq).Uw ZE ?_;intro n' k' l' e;rw[e] at ZE;cases ZE
 ·exact h.Uw hf fun n k l e=>hd ⟨n,k,l,e⟩
theorem Rep.Uv {Y Y':Nat->Prop} {w':World} {d:DV E} {v:Value} (h:Rep T w Y d v) (hf:d.flat (fun _=>false)=true):Rep T w' Y' d v :=
 h.flat (fk:=fun _=>false) (fun k x h=>by cases h) hf
theorem bc.flat {Y Y':Nat->Prop} {e:TypeId} {k:K} {l:List (E k)} {v:Value} (h:bc T w Y e k l v) (hf:T.fk k=true):bc T w Y' e k l v:=by
 obtain ⟨xs,h1,h2⟩:=h.els;refine bc.mk' h1 ⟨h2.len,h2.one,fun i hi c dh => ?_,h2.pl⟩;obtain ⟨u,hu,hr⟩:=h2.rep i hi c dh;exact ⟨u,hu,hr.Uv (List.all_eq_true.1 (T.fk_ok k l[i] hf) _ (List.getElem_mem dh))⟩
theorem FW.move {Y Y':Nat->Prop} {d:DV E} {v:Value} {bl:List Nat} (h:FW T w Y d v bl) (hm:pN T w Y Y'\/d.flat T.fk=true\/(∃ cs,d = .agg cs/\cs.all (DV.flat fun _=>false)=true)):FW T w Y' d v bl:=by
 cases h with
 | junk v=>exact .junk v
 | sh hr hs =>
  rcases hm with hw | hf | ⟨cs,rfl,hf⟩
  ·exact .sh (hr.wide hw) hs
  ·exact .sh (hr.flat T.fk_ok hf) hs
  ·cases hr with
   | agg hl hr=>exact .sh (.agg hl fun i hi bq=>(hr i hi bq).Uv (List.all_eq_true.1 hf _ (List.getElem_mem hi))) hs
 | row hr =>
  rcases hm with hw | hf | ⟨cs,he,hf⟩
  ·exact .row (hr.wide hw)
  ·exact .row (hr.flat hf)
  ·cases he
theorem ig.move {R R':DV E->Value->List Nat->Prop} {ds:List (DV E)} {vs:List Value} {bl:List Nat} (h:ig R ds vs bl) (hf:∀ d∈ds,∀ v b,R d v b->R' d v b):ig R' ds vs bl:=by
 induction h with
 | nil=>exact .nil
 | cons h t ih=>exact .cons (hf _ (adn ..) _ _ h) (ih fun d hd=>hf d (adm _ hd))
theorem pR.move {Y Y':Nat->Prop} {t:TypeId} {cs:List (DV E)} {v:Value} {bl:List Nat} (h:pR T w Y t cs v bl) (hm:pN T w Y Y'\/cs.all (DV.flat T.fk)=true):pR T w Y' t cs v bl:=by
 obtain ⟨b,vs,bs,h1,h2,h3,h4⟩:=h;refine ⟨b,vs,bs,h1,h2,h3.move fun d hd v b hh => ?_,h4⟩;rcases hh with hh | hh
 ·refine .inl ⟨hh.1.move ?_,hh.2⟩
  rcases hm with hw | hf
  ·exact .inl hw
  ·exact .inr (.inl (List.all_eq_true.1 hf d hd))
 ·exact .inr hh
theorem Ans.move {Y Y':Nat->Prop} {args:List Value} {d:DV E} {v:Value} {bl:List Nat} (h:Ans T w Y args d v bl) (hm:pN T w Y Y'\/d.flat T.fk=true\/(∃ cs,d = .agg cs/\cs.all (DV.flat fun _=>false)=true)):Ans T w Y' args d v bl:=by
 cases h with
 | c h=>exact .c (h.move hm)
 | newb h =>
  rcases hm with hw | hf | ⟨cs,he,hf⟩
  ·exact .newb (h.move (.inl hw))
  ·simp[DV.flat] at hf
  ·cases he
 | argp h=>exact .argp h
theorem zK.move {Y Y':Nat->Prop} {args:List Value} {d:DV E} {v:Value} {bl:List Nat} (h:zK T w Y args d v bl) (hm:pN T w Y Y'\/zu T.fk d=true):zK T w Y' args d v bl:=by
 cases d with
 | tup ds =>
  obtain ⟨vs,h1,h2⟩:=h;refine ⟨vs,h1,h2.move fun d hd v b hh=>hh.move ?_⟩;rcases hm with hw | hf
  ·exact .inl hw
  ·exact .inr (.inl (List.all_eq_true.1 hf d hd))
 | agg cs =>
  refine Ans.move h ?_;rcases hm with hw | hf
  ·exact .inl hw
  ·exact .inr (.inr ⟨cs,rfl,hf⟩)
 | _ =>
  refine Ans.move h ?_;rcases hm with hw | hf
  ·exact .inl hw
  ·exact .inr (.inl hf)
theorem iP.move {Y Y':Nat->Prop} {ds:List (DV E)} {vs:List Value} {ps:List (List (DV E))} {bl:List Nat} (h:iP T w Y ds vs ps bl) (hm:pN T w Y Y' \/ ∀ p∈ps,p.all (DV.flat T.fk)=true):iP T w Y' ds vs ps bl:=by
 induction h with
 | nil=>exact .nil
 | skip hd h ih=>exact .skip hd (ih hm)
 | pin hb h ih =>
  refine .pin (hb.move ?_) (ih ?_)
  ·rcases hm with hw | hf
   ·exact .inl hw
   ·exact .inr (hf _ (adn ..))
  ·rcases hm with hw | hf
   ·exact .inl hw
   ·exact .inr fun p hp=>hf p (adm _ hp)
 | lend hb h ih =>
  refine .lend ?_ (ih ?_)
  ·rcases hm with hw | hf
   ·exact hb.wide hw
   ·have:=hf _ (adn ..)
    exact hb.flat (by simpa[DV.flat] using this)
  ·rcases hm with hw | hf
   ·exact .inl hw
   ·exact .inr fun p hp=>hf p (adm _ hp)
theorem uY {mem:Mem E} {b:Md} {d:DV E} {n:Nat} (h:n∈jV mem b d):n∈names mem:=by
 have hc:∀ (d:DV E),n∈eP mem d->n∈names mem:=by
  intro d h;unfold eP at h;split at h
  ·split at h
   ·rename_i hl; simp only[List.mem_singleton] at h; subst h; exact cu hl
   ·cases h
  ·cases h
 unfold jV at h;split at h
 ·split at h
  ·cases h
  ·exact hc _ h
 ·split at h
  ·rename_i hl
   rcases List.mem_cons.1 h with rfl | h
   ·exact cu hl
   ·obtain ⟨c,_,dh⟩:=List.mem_flatMap.1 h
    exact hc _ dh
  ·cases h
 ·cases h
theorem Nb {mem:Mem E} {b:Md} {d:DV E} {n:Nat} (h:n∈jV mem b d) :
  n∈Pm mem b d\/(d = .ptr n 0 /\ ∃ t cs,look mem n=some (.cells t cs))\/(n+RK∈Pm mem b d/\b = .lend/\d = .rowp n /\ ∃ e k l,look mem n=some (.row e k l)):=by
 unfold jV at h;unfold Pm;split at h
 ·rename_i m
  cases b with
  | look=>cases h
  | give=>exact .inl h
  | lend =>
   have h0:n∈eP mem (.rowp m:DV E):=h
   right; right
   unfold eP at h;simp only at h;cases hl:look mem m with
   | none=>rw[hl] at h; cases h
   | some bx =>
    rw[hl] at h;cases bx with
    | row e k l =>
     simp only[List.mem_singleton] at h;subst h;exact ⟨List.mem_map.2 ⟨n,h0,rfl⟩,rfl,rfl,e,k,l,hl⟩
    | cells t cs=>cases h
    | siter s p=>cases h
    | arr _ _ _ _=>cases h
 ·rename_i m
  cases hl:look mem m with
  | none=>simp[hl] at h
  | some bx =>
   cases bx with
   | cells t cs =>
    simp only[hl] at h ⊢
    rcases List.mem_cons.1 h with rfl | h
    ·exact .inr (.inl ⟨rfl,t,cs,hl⟩)
    ·exact .inl h
   | row e k l=>simp[hl] at h
   | siter s p=>simp[hl] at h
   | arr _ _ _ _=>simp[hl] at h
 ·cases h
theorem AW (hd:(fv st.mem g).Nodup) (hn:(names st.mem).Nodup):∀ {l:List Nat},l.Nodup->(∀ n∈l,n∈names st.mem)->(l.flatMap (bk g)).Nodup
 | [],_,_=>List.nodup_nil
 | n::l,h,hm=>by
  obtain ⟨h1,h2⟩:=List.nodup_cons.1 h;rw[List.flatMap_cons,List.nodup_append];refine ⟨by unfold bk; cases blk (g n) <;> simp,AW hd hn h2 fun k hk=>hm k (adm _ hk),?_⟩
  rintro b hb b' qI rfl
  obtain ⟨k,hk,vq⟩:=List.mem_flatMap.1 qI;have e1:blk (g n)=some b:=by simpa[bk] using hb
  have e2:blk (g k)=some b:=by simpa[bk] using vq
  exact h1 (mf hd hn (hm n (adn ..)) (hm k (adm _ hk)) e1 e2 ▸ hk)
theorem DW (h:Inv T w0 G st a w g) {Y:Nat->Prop} (hY:∀ b,free st.mem g b->Y b):∀ (args:List (DV E×Md)) (vs:List Value),args.length=vs.length ->
  (∀ i (hi:i<args.length) (bq:i<vs.length),aD T w (free st.mem g) g args[i].1 vs[i]) ->
  (∀ x∈args,∀ n∈tG x.2 x.1,n∈names st.mem -> ∀ b,blk (g n)=some b->Y b) ->
  ig (Own T w Y) (args.map fun x=>cC st.mem x.2 x.1) vs ((args.flatMap fun x=>jV st.mem x.2 x.1).flatMap (bk g))
 | [],[],_,_,_ => .nil
 | [],_ :: _,hl,_,_=>by simp at hl
 | _ :: _,[],hl,_,_=>by simp at hl
 | x::args,v::vs,hl,hr,hv=>by
  simp only[List.map_cons,List.flatMap_cons,List.flatMap_append];exact .cons (Al h hY x.2 (hr 0 (by simp) (by simp)) (hv x (adn ..)))
   (DW h hY args vs (by simpa using hl) (fun i hi bq=>hr (i+1) (by simpa using hi) (by simpa using bq)) fun y hy=>hv y (adm _ hy))
end Go.Vm
namespace Go.Vm
open Go.Lib
variable {K:Type} {E:K->Type}
variable {T:Tab E} {P:Program} {w0:World} {G:GP} {st:St E} {a:Act} {w:World} {g:Gh}
theorem F8 {d:DV E} (h:d.plain=true):j5 d=false:=by
 cases d <;> first | rfl | (simp[DV.plain] at h; done)
theorem HA {d:DV E} (h:d.plain=true):d.share=true:=by
 cases d <;> first | rfl | (simp[DV.plain] at h; done)
theorem ry (es:lG E):bQ es=(fp es).map (·.1):=by simp[bQ,fp]
theorem Ii {es:lG E} (h:fp es=[]):es=[]:=by
 cases es with
 | nil=>rfl
 | cons x es=>simp[fp] at h
theorem vC (mem:Mem E):∀ (args:List (DV E×Md)) (ps:List (List (DV E))),(args.flatMap fun x=>jV mem x.2 x.1)=[]->gq mem args ps=[]
 | [],ps,_=>by cases ps <;> rfl
 | x::args,ps,h=>by
  simp only[List.flatMap_cons,List.append_eq_nil_iff] at h;rw[vB]
  ·exact vC mem args ps h.2
  ·rintro (⟨n,t,cs,hx,hl⟩ | ⟨hm,n,e,k,l,hx,hl⟩)
   ·have:=h.1
    rw[hx] at this;simp[jV,hl] at this
   ·have:=h.1
    rw[hx,hm] at this;simp[jV,eP,hl] at this
theorem Qf {es:lG E} (h:(bQ es).Nodup) {x y:Nat×Box E×Value} (hx:x∈es) (hy:y∈es) (he:x.1=y.1):x=y:=by
 induction es with
 | nil=>cases hx
 | cons q es ih =>
  simp only[bQ,List.map_cons,List.nodup_cons] at h;rcases List.mem_cons.1 hx with yk | yk <;> rcases List.mem_cons.1 hy with TL | TL
  ·rw[yk,TL]
  ·exact absurd (show q.1∈es.map (·.1) from List.mem_map.2 ⟨y,TL,by rw[<-he,yk]⟩) h.1
  ·exact absurd (show q.1∈es.map (·.1) from List.mem_map.2 ⟨x,yk,by rw[he,TL]⟩) h.1
  ·exact ih h.2 yk TL
theorem FI (f:DV E) (id:FuncId) (cap:List (DV E)) (as:Array Operand) (o:Oper) (ats:Array TypeId) (fo:Operand) (ho:o.op = .call { callee := .value fo,args:=as,argTypes:=ats })
  (vcap:Array Value) (hf:a.eval fo = .func (.func id) #[] vcap):(execOp a.eval o).run P w=(callFunc id (as.map a.eval++vcap)).run P w:=by
 simp only[execOp,ho,resolve,hf,Deferred.ofValue,Sem.run_bind,Sem.run_pure,Result.andThen_ok,invoke];simp
set_option maxHeartbeats 800000 in
theorem QI [Ad:zT T w0 G] (env:Env E) (o7:∀ f,Ctr T P f (env f)) (orc:Orc) (h:Inv T w0 G st a w g) (o:Oper) (fo:Operand) (as:Array Operand) (ats:Array TypeId) (d:Nat)
  (ho:o.op = .call { callee := .value fo,args:=as,argTypes:=ats }) (out:Out E)
  (hh:(Bh env d (st.ev fo) (as.toList.map fun x=>(st.ev x,vH orc x)) st.mem).has out) (next:Act->World->Prop) (Q:Exit->Act->World->Prop)
  (sj:∀ v w' g',Inv T w0 G (st.app o.dst out) (a.put o.dst v) w' g'->next (a.put o.dst v) w'):o.wp P a w next Q:=by
 obtain ⟨args,sk⟩:∃ args,args=as.toList.map fun x=>(st.ev x,vH orc x):=⟨_,rfl⟩
 rw[<-sk] at hh;have hlen:args.length=(as.map a.eval).toList.length:=by rw[sk]; simp
 have CL:∀ i (hi:i<args.length) (bq:i<(as.map a.eval).toList.length),aD T w (free st.mem g) g args[i].1 (as.map a.eval).toList[i]:=by
  intro i hi bq;subst sk;simp only[List.getElem_map,Array.getElem_toList,Array.getElem_map];exact h.ev _
 obtain ⟨vargs,Rt⟩:∃ vargs,vargs=as.map a.eval:=⟨_,rfl⟩
 rw[<-Rt] at hlen CL;unfold Bh at hh;split at hh
 case h_2=>exact (ak hh).elim
 rename_i fd id cap Zp;have OG:=h.ev fo;rw[Zp] at OG;have ZF:∃ vcap:Array Value,a.eval fo = .func (.func id) #[] vcap/\cap.length=vcap.size /\ ∀ i (hi:i<cap.length) (bq:i<vcap.size),Rep T w (free st.mem g) cap[i] vcap[i]:=by
  generalize a.eval fo=vf at OG;cases OG with
  | fn _ hl hr=>exact ⟨_,rfl,hl,hr⟩
 obtain ⟨vcap,ZF,Oq,hcr⟩:=ZF
 dsimp only at hh
 split at hh
 case isFalse=>exact (ak hh).elim
 rename_i UF;simp only[adi,Bool.or_eq_true] at UF;obtain ⟨⟨⟨c1,c2⟩,c3⟩,c4⟩:=UF;obtain ⟨r,hm,pw⟩:=hh
 -- the blocks that views look at
 obtain ⟨vw,hvw⟩:∃ vw,vw=args.flatMap fun x=>tG x.2 x.1:=⟨_,rfl⟩
 obtain ⟨inv,hinv⟩:∃ inv,inv=args.flatMap fun x=>jV st.mem x.2 x.1:=⟨_,rfl⟩
 rw[<-hvw] at c2 c3;rw[<-hinv] at c1 c2;have Wq:∀ b,free st.mem g b->(free st.mem g b \/ ∃ n∈vw,n∈names st.mem/\blk (g n)=some b):=fun b hb => .inl hb
 have dD:=(DW h Wq args vargs.toList hlen CL (fun x hx n hn zF b hb => .inr ⟨n,by rw[hvw]; exact List.mem_flatMap.2 ⟨x,hx,hn⟩,zF,hb⟩)).append
  (ig.Ch (R:=Own T w fun b=>free st.mem g b \/ ∃ n∈vw,n∈names st.mem/\blk (g n)=some b) cap vcap.toList (fun _ => []) (by simpa using Oq) fun i hi bq=>by
   have hp:cap[i].plain=true:=List.all_eq_true.1 c4 _ (List.getElem_mem hi);have hr:=hcr i hi (by simpa using bq);simp only[Array.getElem_toList];exact .c (.sh (hr.mono fun b hb aH=>⟨.inl hb,aH,rfl⟩) (HA hp)))
 rw[<-hinv] at dD;have TQ:cap.flatMap (fun _=>([]:List Nat))=[]:=by simp
 rw[TQ,List.append_nil] at dD;have I5:∀ n∈inv,n∈names st.mem:=by
  intro n hn;rw[hinv] at hn;obtain ⟨x,_,hx⟩:=List.mem_flatMap.1 hn;exact uY hx
 have X3:=AW (g:=g) h.nd h.nn (kG c1) I5;have ZG:∀ b∈inv.flatMap (bk g),¬ (free st.mem g b \/ ∃ n∈vw,n∈names st.mem/\blk (g n)=some b)/\b<w.heap.size:=by
  intro b hb;obtain ⟨n,hn,CN⟩:=List.mem_flatMap.1 hb;have e1:blk (g n)=some b:=by simpa[bk] using CN
  refine ⟨?_,(h.bo b (aF.2 ⟨n,I5 n hn,e1⟩)).1⟩
  rintro (hf | ⟨m,Ro,RN,hm3⟩)
  ·exact hf.1 (aF.2 ⟨n,I5 n hn,e1⟩)
  ·have:=mf h.nd h.nn (I5 n hn) RN e1 hm3
   subst this;have:=List.all_eq_true.1 c2 _ Ro;simp only[Bool.not_eq_true',List.contains_eq_mem,decide_eq_false_iff_not] at this;exact this hn
 have hS:=o7 id _ r hm w (vargs++vcap) _ (inv.flatMap (bk g)) (by rw[Array.toList_append]; exact dD) X3 ZG (zT.now h.fr) (fun b hb=>by
  obtain ⟨n,hn,CN⟩:=List.mem_flatMap.1 hb;have e1:blk (g n)=some b:=by simpa[bk] using CN
  rcases (h.bo b (aF.2 ⟨n,I5 n hn,e1⟩)).2 with h1 | h1
  ·exact Nat.le_trans (T.gl_sz w0 Ad.gl) h1
  ·exact Ad.gv b h1)
 have j3:=FI (P:=P) (w:=w) (st.ev fo) id cap as o ats fo ho vcap ZF;rw[<-Rt] at j3;obtain ⟨res,Oy⟩:∃ res,(env id (args.map (fun x=>cC st.mem x.2 x.1)++cap)).out r=res:=⟨_,rfl⟩
 obtain ⟨fl,Wr⟩:∃ fl,(env id (args.map (fun x=>cC st.mem x.2 x.1)++cap)).fl=fl:=⟨_,rfl⟩
 have pw:uJ (wK d args) args st.mem res=some out:=by rw[<-Oy]; exact pw
 have c3:vw.isEmpty=true\/fl=true:=by rw[<-Wr]; exact c3
 rw[Oy,Wr] at hS;clear Oy Wr hm
 -- what is there behind it
 have key:∀ (v:Value) (w':World) (bl1 bl2:List Nat),(bl1++bl2).Nodup->(∀ b∈bl1++bl2,b<w'.heap.size/\(w.heap.size<=b\/b∈inv.flatMap (bk g))) ->
   zK T w' (fun b=>((free st.mem g b \/ ∃ n∈vw,n∈names st.mem/\blk (g n)=some b)\/w.heap.size<=b\/b∈inv.flatMap (bk g))/\b ∉ bl1++bl2) (vargs++vcap).toList
    res.v v bl1 ->
   iP T w' (fun b=>((free st.mem g b \/ ∃ n∈vw,n∈names st.mem/\blk (g n)=some b)\/w.heap.size<=b\/b∈inv.flatMap (bk g))/\b ∉ bl1++bl2) (args.map (fun x=>cC st.mem x.2 x.1)++cap) (vargs++vcap).toList
    res.pins bl2 ->
   l6 (· ∈ inv.flatMap (bk g)) w w' ->
   (fl=true->zu T.fk res.v=true /\ ∀ p∈res.pins,p.all (DV.flat T.fk)=true)->next (a.put o.dst v) w':=by
  intro v w' bl1 bl2 vO hbo TR Mj Oz Mk;have UG:∀ {f:Prop},(pN T w' (fun b=>((free st.mem g b \/ ∃ n∈vw,n∈names st.mem/\blk (g n)=some b)\/w.heap.size<=b\/b∈inv.flatMap (bk g))/\b ∉ bl1++bl2) (fun b=>(free st.mem g b\/w.heap.size<=b\/b∈inv.flatMap (bk g))/\b ∉ bl1++bl2)) \/
    fl=true:=by
   intro f;rcases c3 with c3 | c3
   ·left
    intro b hb _;refine ⟨?_,hb.2⟩;rcases hb.1 with (h1 | ⟨n,hn,_⟩) | h1
    ·exact .inl h1
    ·have:vw=[]:=by simpa using c3
     rw[this] at hn; cases hn
    ·exact .inr h1
   ·exact .inr c3
  have TR:=TR.move (Y':=fun b=>(free st.mem g b\/w.heap.size<=b\/b∈inv.flatMap (bk g))/\b ∉ bl1++bl2) ((UG (f:=True)).imp (fun x=>x) fun hf=>(Mk hf).1);have Mj:=Mj.move (Y':=fun b=>(free st.mem g b\/w.heap.size<=b\/b∈inv.flatMap (bk g))/\b ∉ bl1++bl2) ((UG (f:=True)).imp (fun x=>x) fun hf=>(Mk hf).2);rw[Array.toList_append] at TR Mj;have X4:∀ d∈cap,j5 d=false:=by
   intro d hd;exact F8 (List.all_eq_true.1 c4 d hd)
  obtain ⟨es1,e1,e2,e3,e4⟩:=Ri (wK d args) ((args.map (·.1)).map (qV st.mem)) TR;obtain ⟨es2,f1,f2,f3,f4,f5⟩:=zv X4 args vargs.toList res.pins bl2 hlen CL Mj;unfold uJ at pw;simp only[<-hinv] at pw;rw[<-e1,<-f1] at pw;split at pw
  ·rename_i X5
   simp only[adi,List.isEmpty_iff] at X5;obtain ⟨u5,RR⟩:=X5;have X6:=Ii RR;cases pw;have hK:Kept w w' none:=⟨Oz.os,Oz.tape,Oz.output,Oz.size,fun k hk _=>Oz.block k hk (by rw[u5]; simp)⟩
   have OD:bl1=[]:=by rw[<-e2,X6]; rfl
   have G1:bl2=[]:=by
    have:es2=[]:=Ii (by rw[f1,vC st.mem args res.pins (by rw[<-hinv]; exact u5)]);rw[<-f2,this]; rfl
   have hw:pN T w' (fun b=>(free st.mem g b\/w.heap.size<=b\/b∈inv.flatMap (bk g))/\b ∉ bl1++bl2) (free st.mem g):=by
    intro b hb _;rcases hb.1 with h1 | h1 | h1
    ·exact h1
    ·refine ⟨fun hx => ?_,fun hx => ?_⟩
     ·have:=(h.bo b hx).1
      omega
     ·have:=(h.hz.2 b hx).1
      have:=h.fr.size;omega
    ·rw[u5] at h1; cases h1
   have hv:=e4 (free st.mem g) g hw (by rw[X6]; intro x hx; cases hx) (by
    intro j n u hj hu;simp only[List.getElem?_map,Option.map_eq_some_iff] at hj;obtain ⟨q,⟨x,hx,rfl⟩,hq⟩:=hj;obtain ⟨aH,TU⟩:=List.getElem?_eq_some_iff.1 hx;have TV:Pinned st.mem args n:=by
     unfold qV at hq;split at hq
     ·rename_i m Ac
      split at hq
      ·rename_i t cs hl
       cases hq;exact ⟨x,List.mem_of_getElem? hx,.inl ⟨Ac,t,cs,hl⟩⟩
      ·cases hq
     ·cases hq
    obtain ⟨x',zZ,W7⟩:=TV;have:n∈inv:=by
     rw[hinv];refine List.mem_flatMap.2 ⟨x',zZ,?_⟩;rcases W7 with ⟨h1,t,cs,h2⟩ | ⟨Ro,h1,e,k,l,h2⟩
     ·rw[h1]; simp[jV,h2]
     ·rw[h1,Ro]; simp[jV,eP,h2]
    rw[u5] at this;cases this)
   exact sj _ _ g (h.grow hK o.dst _ v hv.1 (fun k j cs off he=>by have:=hv.2; rw[he] at this; simp[DV.noR] at this))
  ·split at pw
   case isFalse=>cases pw
   rename_i Ws;cases pw;have TW:=kG Ws;rw[<-mw,<-ry] at TW
   -- names
   obtain ⟨ks,X7⟩:∃ ks,ks=(args.flatMap fun x=>Pm st.mem x.2 x.1)++((fp es1).map (·.1)++((fp es2).filter fun x=>wz x.2 && !(A3 st.mem args).contains x.1).map (·.1)):=⟨_,rfl⟩
   have X8:∀ x∈es1,x.1∈ks:=by
    intro x hx;rw[X7];refine List.mem_append_right _ (List.mem_append_left _ ?_);exact List.mem_map.2 ⟨(x.1,x.2.1),List.mem_map.2 ⟨x,hx,rfl⟩,rfl⟩
   have f4:∀ x∈es2,(wz x.2.1=true/\x.1 ∉ A3 st.mem args)\/(x.2.2=g x.1/\Pinned st.mem args x.1):=by
    intro x hx;by_cases hl:x.1∈A3 st.mem args
    ·right
     obtain ⟨y,hy,h1,h2⟩:=PB.1 hl;have hp:Pinned st.mem args x.1:=⟨y,hy,.inr ⟨h1,h2⟩⟩
     refine ⟨?_,hp⟩;obtain ⟨z,hz,wD,Wt⟩:=f5 _ hp;have e:z=x:=by
      have ZH:(bQ es2).Nodup:=by
       rw[bQ,List.map_append] at TW;exact (List.nodup_append.1 TW).2.1
      exact Qf ZH hz hx wD
     rw[<-e,Wt,wD]
    ·rcases f4 x hx with h1 | h1
     ·exact .inl ⟨h1,hl⟩
     ·exact .inr h1
   have UH:∀ x∈es2,wz x.2.1=true->x.1 ∉ A3 st.mem args->x.1∈ks:=by
    intro x hx hr hl;rw[X7];refine List.mem_append_right _ (List.mem_append_right _ ?_);exact List.mem_map.2 ⟨(x.1,x.2.1),List.mem_filter.2 ⟨List.mem_map.2 ⟨x,hx,rfl⟩,by simp[hr,hl]⟩,rfl⟩
   have TX:∀ n,Pinned st.mem args n->n∈inv:=by
    rintro n ⟨x',zZ,W7⟩
    rw[hinv];refine List.mem_flatMap.2 ⟨x',zZ,?_⟩;rcases W7 with ⟨h1,t,cs,h2⟩ | ⟨Ro,h1,e,k,l,h2⟩
    ·rw[h1]; simp[jV,h2]
    ·rw[h1,Ro]; simp[jV,eP,h2]
   have UI:∀ n∈inv,n∈ks\/Pinned st.mem args n/\(n+RK∈ks \/ ∃ t cs,look st.mem n=some (.cells t cs)):=by
    intro n hn;rw[hinv] at hn;obtain ⟨x,hx,hxn⟩:=List.mem_flatMap.1 hn;rcases Nb hxn with hk | ⟨hk,t,cs,hl⟩ | ⟨hk,Ro,vM,e,k,l,hl⟩
    ·left; rw[X7]; exact List.mem_append_left _ (List.mem_flatMap.2 ⟨x,hx,hk⟩)
    ·exact .inr ⟨⟨x,hx,.inl ⟨hk,t,cs,hl⟩⟩,.inr ⟨t,cs,hl⟩⟩
    ·exact .inr ⟨⟨x,hx,.inr ⟨Ro,vM,e,k,l,hl⟩⟩,.inl (by rw[X7]; exact List.mem_append_left _ (List.mem_flatMap.2 ⟨x,hx,hk⟩))⟩
   have Wu:∀ n∈bQ (es1++es2),n∈inv++ks:=by
    intro n hn;obtain ⟨x,hx,rfl⟩:=List.mem_map.1 hn;rcases List.mem_append.1 hx with hx | hx
    ·exact List.mem_append_right _ (X8 x hx)
    ·rcases f4 x hx with ⟨hr,hl⟩ | ⟨_,hr⟩
     ·exact List.mem_append_right _ (UH x hx hr hl)
     ·exact List.mem_append_left _ (TX _ hr)
   have M:IM st w g w' (es1++es2) ks (inv++ks) (inv.flatMap (bk g)):=by
    refine ⟨TW,Wu,by rw[jr,e2,f2]; exact vO,by rw[jr,e2,f2]; exact hbo,?_,?_,?_,?_,Oz⟩
    ·intro b hb
     obtain ⟨n,hn,CN⟩:=List.mem_flatMap.1 hb;exact ⟨n,List.mem_append_left _ hn,I5 n hn,by simpa[bk] using CN⟩
    ·intro x hx
     rcases List.mem_append.1 hx with hx | hx
     ·exact .inr (X8 x hx)
     ·rcases f4 x hx with ⟨hr,hl⟩ | hr
      ·exact .inr (UH x hx hr hl)
      ·exact .inl hr.1
    ·intro n hn
     rcases List.mem_append.1 hn with hn | hn
     ·rcases UI n hn with hk | ⟨_,hk | ⟨t,cs,hl⟩⟩
      ·exact .inl hk
      ·exact .inr (.inl hk)
      ·right; right
       obtain ⟨b,vs,hb,_⟩:=h.mm n _ (cd hl);exact ⟨b,hb⟩
     ·exact .inl hn
    ·intro n hn
     rcases List.mem_append.1 hn with hn | hn
     ·rcases UI n hn with hk | ⟨hp,_⟩
      ·exact .inl hk
      ·right
       obtain ⟨x,hx,h1,_⟩:=f5 n hp;exact List.mem_map.2 ⟨x,List.mem_append_right _ hx,h1⟩
     ·exact .inl hn
   have Ru:pN T w' (fun b=>(free st.mem g b\/w.heap.size<=b\/b∈inv.flatMap (bk g))/\b ∉ bl1++bl2) (free (gx st.mem (es1++es2) ks (inv++ks)) (il g (es1++es2))):=by
    intro b hb _;refine ⟨?_,fun hh => ?_⟩
    ·rw[mL M.en M.es_ns,jr,e2,f2,List.mem_append]
     rintro (hx | hx)
     ·exact hb.2 hx
     ·have zZ:=kT.subset hx
      rcases hb.1 with h1 | h1 | h1
      ·exact h1.1 zZ
      ·have:=(h.bo b zZ).1
       omega
      ·obtain ⟨n,hn,CN⟩:=List.mem_flatMap.1 h1
       obtain ⟨n',h2,h3⟩:=aF.1 hx;obtain ⟨h4,h5⟩:=mR.1 h2;have:=mf h.nd h.nn (I5 n hn) h4 (by simpa[bk] using CN) h3;exact h5 (this ▸ List.mem_append_left _ hn)
    ·have hh:g.hid b:=hh
     have h0:=h.hz.2 b hh;rcases hb.1 with h1 | h1 | h1
     ·exact h1.2 hh
     ·have:=h.fr.size
      omega
     ·obtain ⟨n,hn,CN⟩:=List.mem_flatMap.1 h1
      rcases (h.bo b (aF.2 ⟨n,I5 n hn,by simpa[bk] using CN⟩)).2 with h2 | h2
      ·omega
      ·exact h0.2 h2
   have K7:jh (il g (es1++es2)) (es1++es2):=fun x hx=>qt M.en hx
   have ZI:∀ (j n:Nat) (u:Value),((args.map (·.1)).map (qV st.mem))[j]? = some (.ptr n 0)->(vargs.toList++vcap.toList)[j]? = some u ->
     eH T w' (free (gx st.mem (es1++es2) ks (inv++ks)) (il g (es1++es2))) (il g (es1++es2)) (.ptr n 0) u:=by
    intro j n u hj hu;simp only[List.getElem?_map,Option.map_eq_some_iff] at hj;obtain ⟨q,⟨x,hx,rfl⟩,hq⟩:=hj;obtain ⟨aH,TU⟩:=List.getElem?_eq_some_iff.1 hx;have TV:x.1 = .ptr n 0/\Pinned st.mem args n:=by
     unfold qV at hq;split at hq
     ·rename_i m Ac
      split at hq
      ·rename_i t cs hl
       cases hq;exact ⟨Ac,x,List.mem_of_getElem? hx,.inl ⟨Ac,t,cs,hl⟩⟩
      ·cases hq
     ·cases hq
    have hju:j<vargs.toList.length:=by omega
    rw[List.getElem?_append_left hju] at hu;obtain ⟨_,Zv⟩:=List.getElem?_eq_some_iff.1 hu;have hr:=CL j aH hju;rw[TU,TV.1,Zv] at hr;obtain ⟨b,OD,G1⟩:=gp hr;obtain ⟨y,hy,TL,hy2⟩:=f5 n TV.2;refine ⟨b,?_,G1⟩;have:=qt (g:=g) M.en (List.mem_append_right es1 hy);rw[TL,hy2] at this;rw[this,OD]
   have hv:=e4 _ _ Ru K7.left ZI;have Rv:=h.Un M (fun x hx=>by
    rcases List.mem_append.1 hx with hx | hx
    ·exact e3 _ _ Ru K7.left x hx
    ·exact f3 _ _ Ru K7.right x hx) o.dst _ v hv.1 (fun k j cs off he=>by have:=hv.2; rw[he] at this; simp[DV.noR] at this)
   refine sj _ _ (il g (es1++es2)) ?_;unfold after gx at Rv;rw[mw] at Rv;rw[<-X7];exact Rv
 unfold Oper.wp;rw[j3];rcases hS with ⟨wE,hC⟩ | ⟨v,w',r8,hC⟩
 ·rw[wE]
  refine hC.mono fun e w' X9 => ?_
  obtain ⟨v,bl1,bl2,rfl,q1,q2,q3,q4,q5,q6⟩:=X9;exact key v w' bl1 bl2 q1 q2 q3 q4 q5 q6
 ·rw[r8]
  obtain ⟨v',bl1,bl2,he,q1,q2,q3,q4,q5,q6⟩:=hC;cases he;exact key v w' bl1 bl2 q1 q2 q3 q4 q5 q6
end Go.Vm
namespace Go.Vm
open Go.Lib
variable {K:Type} {E:K->Type}
def MQ (mem:Mem E) (d:DV E):Option (Nat×(k:K)×List (E k)) :=
 match d with
 | .rowp n=>match look mem n with
  | some (.row _ k l)=>some (n,⟨k,l⟩)
  | _=>none
 | _=>none
def Vs (x:DV E) (mem:Mem E):Cal E :=
 match MQ mem x with
 | some (_,⟨_,l⟩) => .v (.int .i64 l.length)
 | none => .bad
def indexB (T:Tab E) (P:Program) (t:TypeId) (x i:DV E) (mem:Mem E):Cal E :=
 match MQ mem x,mH P t,wO i with
 | some (n,⟨k,l⟩),some e,some i=>if T.isK P e k=true then .ret (E k) (idx l i) (fun a=>val (.rptr n i.toNat (T.enc k a) 0)) else .bad
 | _,_,_ => .bad
theorem Mv {w:World} {e:TypeId} {sz n:Nat} {v:Value} {xs:List Value} (h:fF w e sz v n xs):∀ b,blk v=some b->b<w.heap.size:=xZ h
def sliceB (T:Tab E) (P:Program) (t:TypeId) (x:DV E) (lo hi:Option (DV E)) (mem:Mem E):Cal E :=
 match MQ mem x,mH P t,lo with
 | some (n,⟨k,l⟩),some e,none=>match hi with
  | some h=>match asInt h with
   | some b=>if P.cellsOf e=0 then .bad else .chk (decide (0<=b)&&decide (b<=(l.length:Int))) (.v (.rowv n b.toNat))
   | none => .bad
  | none => .bad
 | _,_,_ => .bad
variable {T:Tab E} {P:Program} {w0:World} {G:GP} {st:St E} {a:Act} {w:World} {g:Gh}
theorem uS (h:Inv T w0 G st a w g) {d:DV E} {n:Nat} {k:K} {l:List (E k)} {v:Value} (hl:MQ st.mem d=some (n,⟨k,l⟩)) (hd:aD T w (free st.mem g) g d v) :
  d = .rowp n/\v=g n/\n∈names st.mem /\ ∃ e,bc T w (free st.mem g) e k l (g n):=by
 unfold MQ at hl;split at hl
 ·split at hl
  ·rename_i e k' l' dE
   cases hl;exact ⟨rfl,hd,cu dE,e,h.mm _ _ (cd dE)⟩
  ·cases hl
 ·cases hl
theorem rr {X:Nat->Prop} {e:TypeId} {k:K} {l:List (E k)} {v:Value} (h:bc T w X e k l v):(v = .slice none 0 0/\l=[]) \/ ∃ gg cap xs,v = .slice (some ⟨gg,0,none⟩) l.length cap/\l.length<=cap/\gg<w.heap.size /\
  (∀ j u,xs[j]? = some u->w.cell? ⟨gg,j,none⟩=some u)/\Els T w X k l xs:=by
 obtain ⟨xs,h1,h2⟩:=h.els;rcases h1.2 with ⟨rfl,hn⟩ | ⟨gg,cap,cur,rfl,_,hg,ER,Dt,uy,I4⟩
 ·exact .inl ⟨rfl,List.eq_nil_of_length_eq_zero hn⟩
 ·refine .inr ⟨gg,cap,xs,rfl,ER,(by obtain ⟨_,_,hg⟩:=hg; exact mr hg),?_,h2⟩
  intro j u hj;have:=h1.cells (g:=gg) rfl j u hj
  rwa [Addr.add_lit,Nat.zero_add] at this
theorem SA (dst:Option Nat) {t ty:TypeId} {e:TypeId} (ht:P.underlying t=some (.slice e)) {x:DV E} {v:Value} (h:Inv T w0 G st a w g) (hx:aD T w (free st.mem g) g x v) (out:Out E) (hh:(Vs x st.mem).has out) :
  ji T P w0 G st a w g dst out (do pure (.value (<-Builtin.len_ #[t] ty #[v]))):=by
 unfold Vs at hh;split at hh
 ·rename_i n k l hl
  obtain ⟨_,rfl,_,e',hr⟩:=uS h hl hx;rw[eR hh];refine .inl ⟨.int .i64 l.length,w,g,?_,h.put dst (oH rfl) (fun _ _ _ _ e=>by cases e)⟩;rcases rr hr with ⟨hv,rfl⟩ | ⟨gg,cap,xs,hv,_⟩
  ·rw[hv]; simp[Builtin.len_,run_underlying ht]; rfl
  ·rw[hv]; simp[Builtin.len_,run_underlying ht]; rfl
 ·exact (ak hh).elim
theorem M7 (dst:Option Nat) {t:TypeId} {x i:DV E} {v vi:Value} (h:Inv T w0 G st a w g) (hx:aD T w (free st.mem g) g x v) (hi:aD T w (free st.mem g) g i vi) (out:Out E) (hh:(indexB T P t x i st.mem).has out) :
  ji T P w0 G st a w g dst out (do pure (.value (<-Instr.indexAt t v vi))):=by
 unfold indexB at hh;split at hh
 ·rename_i n k l e q hl he hq
  split at hh
  ·rename_i hk
   obtain ⟨vM,uw,W0⟩:=mC hk;obtain ⟨y,hy,rfl⟩:=hh;obtain ⟨h0,aH,rfl⟩:=qx hy;obtain ⟨_,rfl,hn,e',hr⟩:=uS h hl hx;obtain ⟨kd,Ya⟩:=jq hq hi;subst Ya;have hu:=iH he;rcases rr hr with ⟨hv,rfl⟩ | ⟨gg,cap,xs,hv,hc,UA,jT,o8⟩
   ·simp at aH
   ·have hs:P.cellsOf e≠0:=by omega
    refine .inl ⟨.pointer (some ⟨gg,q.toNat*T.sz k,none⟩),w,g,?_,h.put dst ?_ (fun k' j cs off e=>by cases e; exact hn)⟩
    ·rw[hv]
     have h1:0<=q/\q<(l.length:Int):=⟨h0,by omega⟩
     simp only[Instr.indexAt,asIntOf,Sem.run_bind,Sem.run_pure,Result.andThen_ok,run_underlying hu];simp[h1,cU hs,uw,Addr.add_lit]
    ·refine ⟨gg,q.toNat*T.sz k,fun j=>xs.getD (q.toNat*T.sz k+j) undef,rfl,⟨l.length,cap,hv,aH⟩,by rw[T.enc_len],?_,?_⟩
     ·intro j hj
      obtain ⟨u,wG,_⟩:=o8.rep q.toNat aH j hj;rw[jT _ u wG];simp[wG]
     ·intro j hj
      obtain ⟨u,wG,si⟩:=o8.rep q.toNat aH j hj;refine ⟨?_,o8.pl q.toNat aH j hj⟩;have:xs.getD (q.toNat*T.sz k+j) undef=u:=by simp[wG]
      show Rep T w (free st.mem g) _ (xs.getD (q.toNat*T.sz k+j) undef);rw[this];exact si
  ·exact (ak hh).elim
 ·exact (ak hh).elim
theorem Od (dst:Option Nat) {t:TypeId} {x:DV E} {v:Value} (ρd:Operand->DV E) (ρ:Operand->Value) (hρ : ∀ x,aD T w (free st.mem g) g (ρd x) (ρ x)) (lo hi:Option Operand) (h:Inv T w0 G st a w g) (hx:aD T w (free st.mem g) g x v) (out:Out E)
  (hh:(sliceB T P t x (lo.map ρd) (hi.map ρd) st.mem).has out):ji T P w0 G st a w g dst out (do pure (.value (<-Instr.sliceAt t v (lo.map ρ) (hi.map ρ) none))):=by
 unfold sliceB at hh;split at hh
 case h_2=>exact (ak hh).elim
 rename_i n k l e hl he Jb;have ZJ:lo.map ρ=none:=by cases lo <;> simp_all
 rw[ZJ];split at hh
 case h_2=>exact (ak hh).elim
 rename_i hd TM;obtain ⟨ho,rfl,rfl⟩:=Option.map_eq_some_iff.1 TM;split at hh
 case h_2=>exact (ak hh).elim
 rename_i b hb;split at hh
 case isTrue=>exact (ak hh).elim
 rename_i hs;obtain ⟨hc,hh⟩:=ij hh;rw[eR hh];simp only[adi,ac9] at hc;obtain ⟨_,rfl,hn,e',hr⟩:=uS h hl hx;have Ya:=Cc hb (hρ ho);have hu:=iH he;have Wv:∃ ad cap,g n = .slice ad l.length cap/\l.length<=cap/\(cap=0 \/ ∃ bb,ad=some ⟨bb,0,none⟩):=by
  rcases rr hr with ⟨hv,rfl⟩ | ⟨gg,cap,xs,hv,hc,_⟩
  ·exact ⟨none,0,hv,Nat.le_refl _,.inl rfl⟩
  ·exact ⟨some ⟨gg,0,none⟩,cap,hv,hc,.inr ⟨gg,rfl⟩⟩
 obtain ⟨ad,cap,hv,yT,ZK⟩:=Wv;have Oo:=fN (P:=P) (w:=w) true l.length cap none (some (.int .i64 b)) 0 b (.inl ⟨rfl,rfl⟩) (.inr ⟨_,rfl⟩) (by omega) (by omega) hc.2 yT;refine .inl ⟨.slice ad b.toNat cap,w,g,?_,h.put dst ⟨ad,l.length,cap,hv,rfl,by omega⟩ (fun _ _ _ _ e=>by cases e)⟩;rw[hv,Option.map_some,Ya];simp only[Instr.sliceAt,Instr.slice,Sem.run_bind,run_underlying hu,Result.andThen_ok,Oo,cU hs,Sem.run_pure];rcases ZK with rfl | ⟨bb,rfl⟩
 ·simp
 ·by_cases h0:cap=0
  ·simp[h0]
  ·simp[h0,Addr.add]
def SL (P:Program) (t:TypeId) (x:DV E) (hi:Option (DV E)) (mem:Mem E):Cal E :=
 match x with
 | .rowp n=>match look mem n,mH P t,hi.bind asInt with
  | some (.row e' k l),some e,some b=>if P.cellsOf e=0 then .bad else .chk (decide (0<=b)&&decide (b<=(l.length:Int))) (.one ⟨.rowp n,[n],some (je mem n (.row e' k (l.take b.toNat)))⟩)
  | _,_,_ => .bad
 | _ => .bad
theorem fF.cut {w:World} {e:TypeId} {size:Nat} {v:Value} {n:Nat} {xs:List Value} (h:fF w e size v n xs) (m:Nat) (hm:m<=n):∃ ad cap,v = .slice ad n cap/\n<=cap/\(cap=0 \/ ∃ bb,ad=some ⟨bb,0,none⟩)/\fF w e size (.slice ad m cap) m (xs.take (m*size)):=by
 have hle:m*size<=n*size:=Nat.mul_le_mul_right _ hm;rcases h.2 with ⟨rfl,hn⟩ | ⟨gg,cap,cur,rfl,h0,hg,ER,Dt,uy,I4⟩
 ·have:m=0:=by omega
  subst this; subst hn;exact ⟨none,0,rfl,Nat.le_refl _,.inl rfl,by simp,.inl ⟨rfl,rfl⟩⟩
 ·refine ⟨some ⟨gg,0,none⟩,cap,rfl,ER,.inr ⟨gg,rfl⟩,by rw[List.length_take,h.1]; omega,.inr ⟨gg,cap,cur,rfl,h0,hg,by omega,Dt,uy,?_⟩⟩
  rw[<-I4,List.take_take];congr 1;omega
theorem Tt (dst:Option Nat) {t:TypeId} {x:DV E} {v:Value} (ρd:Operand->DV E) (ρ:Operand->Value) (hρ : ∀ x,aD T w (free st.mem g) g (ρd x) (ρ x)) (hi:Option Operand) (h:Inv T w0 G st a w g) (hx:aD T w (free st.mem g) g x v) (out:Out E)
  (hh:(SL P t x (hi.map ρd) st.mem).has out):ji T P w0 G st a w g dst out (do pure (.value (<-Instr.sliceAt t v none (hi.map ρ) none))):=by
 unfold SL at hh;split at hh
 case h_2=>exact (ak hh).elim
 rename_i n;split at hh
 case h_2=>exact (ak hh).elim
 rename_i e' k l e b dE he hb;split at hh
 case isTrue=>exact (ak hh).elim
 rename_i hs;obtain ⟨hc,hh⟩:=ij hh;simp only[adi,ac9] at hc;obtain ⟨_,_,rfl⟩:=hh;obtain ⟨ho,rfl⟩:∃ o,hi=some o:=by cases hi with
  | none=>simp at hb
  | some o=>exact ⟨o,rfl⟩
 have Ya:=Cc (show asInt (ρd ho)=some b by simpa using hb) (hρ ho);have hu:=iH he;have hv:v=g n:=hx;subst hv;have hn:=cu dE;obtain ⟨xs,h1,h2⟩:=bc.els (h.mm n _ (cd dE));have Yb:b.toNat<=l.length:=by omega
 obtain ⟨ad,cap,hv,yT,ZK,dD⟩:=h1.cut b.toNat Yb;have Oo:=fN (P:=P) (w:=w) true l.length cap none (some (.int .i64 b)) 0 b (.inl ⟨rfl,rfl⟩) (.inr ⟨_,rfl⟩) (by omega) (by omega) hc.2 yT;have mZ:∀ q,(none:Option Nat)=some q->n∈names st.mem/\blk (g n)=some q:=fun q hq=>by cases hq
 have u6:∀ q,blk (.slice ad b.toNat cap)=some q->q<w.heap.size/\(w.heap.size<=q\/(n∈names st.mem/\blk (g n)=some q)):=fun q hq =>
  ⟨Mv dD q hq,.inr ⟨hn,by rw[hv]; cases ad with
   | none=>simp[blk] at hq
   | some ad=>exact hq⟩⟩
 have hX:=uR h (w':=w) n (.row e' k (l.take b.toNat)) (.slice ad b.toNat cap) _ (Kept.refl w) mZ u6;refine .inl ⟨.slice ad b.toNat cap,w,upd g n (.slice ad b.toNat cap),?_,?_⟩
 ·rw[hv,Option.map_some,Ya]
  simp only[Instr.sliceAt,Instr.slice,Sem.run_bind,run_underlying hu,Result.andThen_ok,Oo,cU hs,Sem.run_pure];rcases ZK with rfl | ⟨bb,rfl⟩
  ·cases ad <;> simp
  ·by_cases h0:cap=0
   ·simp[h0]
   ·simp[h0,Addr.add]
 ·have hlen:(l.take b.toNat).length=b.toNat:=by rw[List.length_take]; omega
  exact h.renew n (.row e' k (l.take b.toNat)) (.slice ad b.toNat cap) _ (Kept.refl w) mZ u6 (bc.mk' (by rw[hlen]; exact dD) ((h2.mono hX).take b.toNat Yb)) _ (.rowp n) (.slice ad b.toNat cap) (by show _=upd g n _ n; rw[jg]) (fun _ _ _ _ h=>by cases h)
def kV (P:Program) (sz:Nat) (ρ:Operand->DV E):Nat->List (Nat×Operand)->Option (List (DV E))
 | _,[]=>some []
 | j,(i,x)::r=>if i=j/\(ρ x).cells.length=sz/\(ρ x).lay=true then (kV P sz ρ (j+1) r).map ((ρ x).cells ++ ·) else none
def JJ (T:Tab E) (P:Program) (orc:Orc) (t:TypeId) (len:Nat) (parts:List (Nat×Operand)) (dst:Option Nat) (ρ:Operand->DV E) (mem:Mem E):Cal E :=
 match mH P t,dst with
 | some e,some d =>
  match kindOf T P e with
  | some k =>
   if parts.length=len/\len*T.sz k<=16777216/\Bk P e=true then
    match kV P (T.sz k) ρ 0 parts with
    | some cs=>match oz T k len cs with
     | some l=>if orc.rv.contains d then .one ⟨.rowp (64*d),[64*d],some (je mem (64*d) (.row e k l))⟩ else .v (.slc k l)
     | none => .bad
    | none => .bad
   else .bad
  | none => .bad
 | _,_ => .bad
theorem zx (k:K):∀ (n:Nat) (cs:List (DV E)) (l:List (E k)),(∀ c∈cs,c.inr)->cs.length=n*T.sz k->oz T k n cs=some l ->
  l.length=n /\ ∀ i (hi:i<l.length) (c:Nat),c<T.sz k->(T.enc k l[i])[c]? = cs[i*T.sz k+c]?
 | 0,cs,l,_,_,h=>by simp[oz] at h; subst h; exact ⟨rfl,fun i hi=>by simp at hi⟩
 | n+1,cs,l,GR,hlen,h=>by
  simp only[oz] at h;obtain ⟨x,hx,h⟩:=adk.1 h;obtain ⟨l',Av,rfl⟩:=Option.map_eq_some_iff.1 h;have zZ:=T.dec_ok k _ _ (fun c hc=>GR c (List.mem_of_mem_take hc)) hx;have yg:(cs.drop (T.sz k)).length=n*T.sz k:=by rw[List.length_drop,hlen,Nat.add_mul]; omega
  obtain ⟨h1,h2⟩:=zx k n _ l' (fun c hc=>GR c (List.mem_of_mem_drop hc)) yg Av;refine ⟨by simp[h1],fun i hi c hc => ?_⟩;cases i with
  | zero=>simp only[List.getElem_cons_zero,zZ,Nat.zero_mul,Nat.zero_add,List.getElem?_take,if_pos hc]
  | succ i =>
   simp only[List.getElem_cons_succ];rw[h2 i (by simpa using hi) c hc,List.getElem?_drop];congr 1;rw[Nat.add_mul]; omega
theorem Gf {X:Nat->Prop} {k:K} {n:Nat} {cs:List (DV E)} {vs:List Value} {l:List (E k)} (hc:Cells T w X cs vs) (hp:∀ c∈cs,c.plain=true) (hlen:cs.length=n*T.sz k) (h:oz T k n cs=some l) :
  l.length=n/\Els T w X k l vs:=by
 obtain ⟨h1,h2⟩:=zx k n cs l hc.inr hlen h;have ux:∀ i (hi:i<l.length) (c:Nat) (dh:c<(T.enc k l[i]).length),∃ hq:i*T.sz k+c<cs.length,(T.enc k l[i])[c]=cs[i*T.sz k+c]:=by
  intro i hi c dh;have uy:c<T.sz k:=by rw[T.enc_len] at dh; exact dh
  have aH:i*T.sz k+c<cs.length:=by
   rw[hlen];have:(i+1)*T.sz k<=n*T.sz k:=Nat.mul_le_mul_right _ (by omega);rw[Nat.add_mul] at this;omega
  have:=h2 i hi c uy;rw[adl dh,adl aH] at this;exact ⟨aH,by simpa using this⟩
 refine ⟨h1,by rw[<-hc.1,hlen,h1],?_,?_,?_⟩
 ·intro u hu
  obtain ⟨i,hi,rfl⟩:=List.getElem_of_mem hu;have bq:i<cs.length:=by rw[hc.1]; exact hi
  exact (ee (hc.2 i bq hi) (hp _ (List.getElem_mem bq))).2.2
 ·intro i hi c dh
  obtain ⟨hq,he⟩:=ux i hi c dh;rw[he];exact ⟨vs[i*T.sz k+c]'(by rw[<-hc.1]; exact hq),by simp[adl (show i*T.sz k+c<vs.length by rw[<-hc.1]; exact hq)],hc.2 _ hq _⟩
 ·intro i hi c dh
  obtain ⟨hq,he⟩:=ux i hi c dh;rw[he];exact hp _ (List.getElem_mem hq)
theorem Vc {α:Type} (A B C:List α) {n m:Nat} (hA:A.length=n) (hB:B.length=m):((A++B++C).drop n).take m=B:=by
 subst hA; subst hB;rw[List.append_assoc,List.drop_left,List.take_left]
theorem vJ {X:Nat->Prop} {sz:Nat} {ρd:Operand->DV E} {ρ:Operand->Value} (hρ : ∀ x,aD T w X g (ρd x) (ρ x)):∀ (parts:List (Nat×Operand)) (j:Nat) (cs:List (DV E)) (arr:Array Value),
  kV P sz ρd j parts=some cs->arr.size=(j+parts.length)*sz ->
  ∃ arr':Array Value,Instr.fill (fun i=>some (i*sz,sz)) arr (parts.map fun p=>(p.1,ρ p.2))=some arr'/\arr'.toList.take (j*sz)=arr.toList.take (j*sz)/\arr'.size=arr.size /\
   Cells T w X cs (arr'.toList.drop (j*sz))/\(∀ c∈cs,c.plain=true)/\cs.length=parts.length*sz
 | [],j,cs,arr,h,hs=>by
  simp[kV] at h;subst h;refine ⟨arr,by simp[Instr.fill],rfl,rfl,⟨?_,fun i hi=>by simp at hi⟩,by simp,by simp⟩;simp at hs ⊢
  omega
 | (i,x)::parts,j,cs,arr,h,hs=>by
  simp only[kV] at h;split at h
  ·rename_i hc
   obtain ⟨rfl,h1,h2⟩:=hc;obtain ⟨cs',ZL,rfl⟩:=Option.map_eq_some_iff.1 h;have hx:=tf (hρ x) h2;have ZM:(ρ x).cells.size=sz:=by rw[<-h1,hx.1]; simp
   simp only[adb] at hs;have Aa:i*sz+(ρ x).cells.size<=arr.size:=by
    rw[hs,ZM];have:(i+1)*sz<=(i+(parts.length+1))*sz:=Nat.mul_le_mul_right _ (by omega);rw[Nat.add_mul] at this;omega
   have hf:=BM arr (ρ x).cells (i*sz) Aa;generalize qg:(ρ x).cells.zipIdx.foldl (fun cs (c,j)=>cs.setIfInBounds (i*sz+j) c) arr=arr1 at hf;have Aw:arr1.size=arr.size:=by
    have:=congrArg List.length hf;simp at this;omega
   obtain ⟨arr',q1,q2,q3,q4,q5,q6⟩:=vJ hρ parts (i+1) cs' arr1 ZL (by rw[Aw,hs]; congr 1; omega);have GU:(i+1)*sz=i*sz+sz:=by rw[Nat.add_mul]; omega
   refine ⟨arr',?_,?_,by rw[q3,Aw],?_,?_,?_⟩
   ·simp only[List.map_cons,Instr.fill]
    rw[if_neg (by simp; omega),qg];exact q1
   ·have:arr'.toList.take (i*sz)=(arr'.toList.take ((i+1)*sz)).take (i*sz):=by rw[List.take_take,Nat.min_eq_left (by omega)]
    rw[this,q2,List.take_take,Nat.min_eq_left (by omega),hf,List.append_assoc,List.take_append_of_le_length (by simp; omega),List.take_take,Nat.min_self]
   ·have e1:arr'.toList.drop (i*sz)=(arr'.toList.drop (i*sz)).take sz++arr'.toList.drop ((i+1)*sz):=by
     rw[GU,<-List.drop_drop,List.take_append_drop]
    have e2:(arr'.toList.drop (i*sz)).take sz=(ρ x).cells.toList:=by
     have W8:∀ l:List Value,(l.drop (i*sz)).take sz=(l.take ((i+1)*sz)).drop (i*sz):=by
      intro l; rw[GU,List.drop_take]; congr 1; omega
     rw[W8,q2,<-W8,hf];exact Vc _ _ _ (by simp; omega) (by simpa using ZM)
    rw[e1,e2];exact hx.append q4
   ·intro c hc
    rcases List.mem_append.1 hc with hc | hc
    ·revert hc h2
     cases hq:ρd x <;> simp[DV.cells,DV.lay]
     all_goals first | (intro h hc; subst hc; exact h) | (intro h hc; exact h c hc)
    ·exact q5 c hc
   ·simp[h1,q6,Nat.add_mul]; omega
  ·cases h
theorem np (w:World) (o:Obj):Kept w (w.alloc o) none:=⟨rfl,rfl,rfl,by simp,fun k hk _=>heap_alloc_old w o k hk⟩
theorem To (orc:Orc) (dst:Option Nat) {t:TypeId} (len:Nat) (parts:Array (Nat×Operand)) (ρd:Operand->DV E) (ρ:Operand->Value) (hρ : ∀ x,aD T w (free st.mem g) g (ρd x) (ρ x)) (h:Inv T w0 G st a w g) (out:Out E)
  (hh:(JJ T P orc t len parts.toList dst ρd st.mem).has out):ji T P w0 G st a w g dst out (do pure (.value (<-Instr.buildSlice t len (parts.map fun (i,x)=>(i,ρ x))))):=by
 unfold JJ at hh;split at hh
 case h_2=>exact (ak hh).elim
 rename_i e d he;split at hh
 case h_2=>exact (ak hh).elim
 rename_i k hk;split at hh
 case isFalse=>exact (ak hh).elim
 rename_i hc;obtain ⟨hlen,h24,hz⟩:=hc;split at hh
 case h_2=>exact (ak hh).elim
 rename_i cs uy;split at hh
 case h_2=>exact (ak hh).elim
 rename_i l hl;have hu:=iH he;obtain ⟨vM,uw,W0⟩:=mC (zD hk);obtain ⟨i,z,hi,Mg,UC,nf,Wn⟩:=zi hz;have jT:i.size=T.sz k:=by rw[uw]; simp[Program.cellsOf,hi]
 have hs:P.cellsOf e≠0:=by omega
 -- the cells before the parts are laid
 obtain ⟨arr,qg⟩:∃ arr:Array Value,arr=(Array.range (len*T.sz k)).map ((if len*T.sz k=0 then #[] else z.cells)[· % (if len*T.sz k=0 then #[] else z.cells).size]!):=⟨_,rfl⟩
 have Rw:arr.size=(0+parts.toList.length)*T.sz k:=by rw[qg,Nat.zero_add,hlen]; simp
 obtain ⟨arr',q1,q2,q3,q4,q5,q6⟩:=vJ hρ parts.toList 0 cs arr uy Rw;simp only[Nat.zero_mul,List.drop_zero] at q4;rw[hlen] at q6;obtain ⟨Ae,o8⟩:=Gf q4 q5 q6 hl;have j3:(Instr.buildSlice t len (parts.map fun (i,x)=>(i,ρ x))).run P w = .ok (.slice (some ⟨w.heap.size,0,none⟩) len len) (w.alloc (.cells arr' e)):=by
  have u7:(parts.map fun (p:Nat×Operand)=>(p.1,ρ p.2)).toList=parts.toList.map fun p=>(p.1,ρ p.2):=by simp
  simp only[Instr.buildSlice,Sem.run_bind,run_underlying hu,Result.andThen_ok,cU hs];rw[if_neg (by rw[<-uw]; omega)];rw[uw] at qg q1;by_cases h0:len*P.cellsOf e=0
  ·rw[if_pos h0]
   simp only[if_pos h0] at qg;simp only[Sem.run_bind,Sem.run_pure,Result.andThen_ok];rw[u7,<-qg,q1];simp[newRow]
  ·rw[if_neg h0]
   simp only[if_neg h0] at qg;simp only[Sem.run_bind,zeroValue,typeInfo,run_program,hi,Sem.run_pure,Mg,Result.andThen_ok];rw[u7,<-qg,q1];simp[newRow]
 split at hh
 ·obtain ⟨_,_,rfl⟩:=hh
  have u6:∀ b,blk (.slice (some ⟨w.heap.size,0,none⟩) len len)=some b->b<(w.alloc (.cells arr' e)).heap.size/\(w.heap.size<=b\/(64*d∈names st.mem/\blk (g (64*d))=some b)):=by
   intro b hb;simp only[blk,Option.some.injEq] at hb;subst hb;exact ⟨by simp,.inl (Nat.le_refl _)⟩
  have hX:=uR h (w':=w.alloc (.cells arr' e)) (64*d) (.row e k l) _ none (np w _) (fun _ h=>by cases h) u6;refine .inl ⟨_,_,upd g (64*d) (.slice (some ⟨w.heap.size,0,none⟩) len len),by simp only[Sem.run_bind,j3,Result.andThen_ok,Sem.run_pure]; rfl,?_⟩;refine h.renew (64*d) (.row e k l) _ none (np w _) (fun _ h=>by cases h) u6 ?_ _ (.rowp (64*d)) _ (by show _=upd g (64*d) _ (64*d); rw[jg]) (fun _ _ _ _ h=>by cases h);refine bc.mk' (xs:=arr'.toList) ⟨by rw[o8.len],.inr ⟨w.heap.size,len,arr',by rw[Ae],Nat.zero_le _,⟨(0,0),.inl rfl,heap_alloc_new w _⟩,by omega,?_,?_,?_⟩⟩ (o8.mono hX)
  ·have:len*1<=len*T.sz k:=Nat.mul_le_mul_left _ W0
   simp only[maxLen]; omega
  ·rw[q3,Rw,Nat.zero_add,hlen]
  ·rw[List.take_of_length_le]
   rw[Array.length_toList,q3,Rw,Nat.zero_add,hlen,Ae];exact Nat.le_refl _
 ·rw[eR hh]
  refine .inl ⟨_,_,g,by simp only[Sem.run_bind,j3,Result.andThen_ok,Sem.run_pure]; rfl,?_⟩;refine h.grow (np w _) _ (.slc k l) _ ?_ (fun _ _ _ _ h=>by cases h);have hX:∀ b,free st.mem g b->b<w.heap.size->free st.mem g b/\b<(w.alloc (.cells arr' e)).heap.size/\(w.alloc (.cells arr' e)).heap[b]? = w.heap[b]? :=
   fun b hf aH=>⟨hf,by simp; omega,heap_alloc_old w _ b aH⟩
  have UJ:=o8.mono hX;have Ww:∀ j u,arr'.toList[j]? = some u->(w.alloc (.cells arr' e)).cell? ⟨w.heap.size,j,none⟩=some u:=by
   intro j u hj;rw[cell_of_row _ w.heap.size j arr' e (0,0) (heap_alloc_new w _)];simpa using hj
  rw[<-Ae];refine Rep.slc (b:=w.heap.size) (off:=0) l.length (fun j=>arr'.toList.getD j undef) (Nat.le_refl _) (fun _=>⟨?_,by simp⟩) ?_ ?_ UJ.pl
  ·refine ⟨fun hx => ?_,fun hx => ?_⟩
   ·have:=(h.bo _ hx).1
    omega
   ·have:=(h.hz.2 _ hx).1
    have:=h.fr.size;omega
  ·intro j hj
   rw[Nat.zero_add];have Rx:j<arr'.toList.length:=by rw[o8.len]; exact hj
   exact Ww j _ (by simp at Rx; simp[Rx])
  ·intro i' bq c dh
   obtain ⟨u,wG,hr⟩:=UJ.rep i' bq c dh;have:arr'.toList.getD (i'*T.sz k+c) undef=u:=by simp[List.getD_eq_getElem?_getD,wG]
   show Rep T _ _ _ (arr'.toList.getD (i'*T.sz k+c) undef);rw[this];exact hr
end Go.Vm
namespace Go.Vm
open Go.Lib
variable {K:Type} {E:K->Type}
def Zd (T:Tab E) (k:K) (l:List (E k)) (i off:Nat) (cs:List (DV E)):Option (E k):=(idx l (i:Int)).bind fun x=>T.dec k (cR (T.enc k x) off cs)
def XA {α:Type} (l:List α) (i:Nat) (y:α):List α:=l.set i y
def J8 (T:Tab E) (P:Program) (t:TypeId) (x v:DV E) (mem:Mem E):Cal E :=
 match x with
 | .rptr n i cs off=>match look mem n with
  | some (.row e k l)=>if cs.length=T.sz k/\v.lay=true/\v.cells.all DV.plain=true/\v.cells.length=P.cellsOf t/\off+v.cells.length<=T.sz k/\0<P.cellsOf t then
    .ret (E k) (Zd T k l i off v.cells) fun y=>⟨.junk,[n+RK],some (j8 mem n (.row e k (XA l i y)))⟩ else .bad
  | _ => .bad
 | _ => .bad
variable {T:Tab E} {P:Program} {w0:World} {G:GP} {st:St E} {a:Act} {w:World} {g:Gh}
theorem Inv.Rg (h:Inv T w0 G st a w g) (ns:List Nat):Inv T w0 G ⟨st.tmps.map (DV.kill ns),st.mem⟩ a w g:=by
 have hk:∀ d:DV E,d.kill ns = .junk\/d.kill ns=d:=by
  intro d; unfold DV.kill; split
  ·exact .inl rfl
  ·exact .inr rfl
 refine ⟨h.df,by simpa using h.tl,fun i hi => ?_,h.nn,h.nd,h.mm,h.bo,h.fr,fun i hi n j cs off he => ?_,h.hz⟩
 ·have bq:i<st.tmps.length:=by simpa using hi
  simp only[List.getElem_map];rcases hk st.tmps[i] with e | e
  ·rw[e]; exact (Rep.junk _).toT
  ·rw[e]; exact h.tm i bq
 ·have bq:i<st.tmps.length:=by simpa using hi
  simp only[List.getElem_map] at he;rcases hk st.tmps[i] with e | e
  ·rw[e] at he; cases he
  ·rw[e] at he; exact h.rl i bq n j cs off he
theorem Nk {t:TypeId} {x y:DV E} {v u:Value} (h:Inv T w0 G st a w g) (hx:aD T w (free st.mem g) g x v) (hy:aD T w (free st.mem g) g y u) (out:Out E)
  (hh:(J8 T P t x y st.mem).has out):ji T P w0 G st a w g none out (do Instr.storeAt t v u; pure .skip):=by
 unfold J8 XA at hh;split at hh
 case h_2=>exact (ak hh).elim
 rename_i n i cs off;split at hh
 case h_2=>exact (ak hh).elim
 rename_i e k l dE;split at hh
 case isFalse=>exact (ak hh).elim
 rename_i hc;obtain ⟨Oq,Jd,u7,nf,Ow,uB⟩:=hc;obtain ⟨z,hz,rfl⟩:=hh;obtain ⟨xi,hxi,I6⟩:=adk.1 hz;obtain ⟨_,ES,TU⟩:=qx hxi;have ES:i<l.length:=by simpa using ES
 have TU:l[i]=xi:=by simpa using TU
 obtain ⟨b,o,f,rfl,⟨len,cap,hg,hlen⟩,ho,jT,CL⟩:=hx;have mZ:bc T w (free st.mem g) e k l (g n):=h.mm n _ (cd dE);obtain ⟨xs,dD,o8⟩:=mZ.els;obtain ⟨cp,cur,TP,Ml,ER,Dt,uy,CJ⟩:∃ cp cur,g n = .slice (some ⟨b,0,none⟩) l.length cp/\(∃ fz:Nat×Nat,(fz.2=0\/cur.size<=fz.1)/\w.heap[b]? = some (.cells cur e fz))/\l.length<=cp/\cp<=maxLen/\cur.size=cp*T.sz k/\cur.toList.take (l.length*T.sz k)=xs:=by
  rcases dD.2 with ⟨h1,_⟩ | ⟨b',cp,cur,h1,_,h2⟩
  ·rw[h1] at hg; cases hg
  ·rw[h1] at hg
   cases hg;exact ⟨_,cur,h1,h2⟩
 have On:=tf hy Jd;have Ov:∀ q∈u.cells.toList,q.oneCell'=true:=by
  intro q hq;obtain ⟨j,hj,rfl⟩:=List.getElem_of_mem hq;have sf:j<y.cells.length:=by rw[On.1]; exact hj
  exact (ee (On.2 j sf hj) (List.all_eq_true.1 u7 _ (List.getElem_mem sf))).2.2
 have W9:y.cells.length=u.cells.toList.length:=On.1;obtain ⟨S,hS⟩:∃ S,S=T.sz k:=⟨_,rfl⟩
 obtain ⟨m,hm⟩:∃ m,m=u.cells.toList.length:=⟨_,rfl⟩
 rw[<-hS] at Oq Ow uy CJ;have hmul:i*S+S<=l.length*S:=by
  have:=Nat.mul_le_mul_right S (show i+1<=l.length from ES);rw[Nat.add_mul,Nat.one_mul] at this;exact this
 have aaK:l.length*S<=cp*S:=Nat.mul_le_mul_right S ER;rw[Oq] at ho;have Aa:o+off+m<=cur.size:=by rw[uy,hm]; omega
 obtain ⟨fz,zG,Ml⟩:=Ml;have yV:=mo P b (o+off) e fz u.cells.toList 0 cur w Ml zG (by rw[<-hm]; omega) Ov;simp only[Nat.add_zero] at yV;rw[<-hm] at yV;obtain ⟨arr,qg⟩:∃ arr,arr=cur.toList.take (o+off)++u.cells.toList++cur.toList.drop (o+off+m):=⟨_,rfl⟩
 rw[<-qg] at yV;have Ry:P.cellsOf t≠0:=by omega
 have j3:(Instr.storeAt t (.pointer (some ⟨b,o+off,none⟩)) u).run P w = .ok () (w.setRow b arr.toArray):=by
  simp only[Instr.storeAt,Instr.sureAddr,storeVar,Sem.run_bind,Sem.run_pure,Result.andThen_ok,cU Ry];rw[if_neg (by rw[<-nf,W9]; simp)];exact yV
 refine .inr ⟨w.setRow b arr.toArray,g,by simp only[Sem.run_bind,j3,Result.andThen_ok]; rfl,?_⟩;have hblk:blk (g n)=some b:=by rw[TP]; rfl
 have hk:=h.Rg [n+RK];have hX:∀ c,free st.mem g c->c<w.heap.size->free st.mem g c/\c<(w.setRow b arr.toArray).heap.size/\(w.setRow b arr.toArray).heap[c]? = w.heap[c]? := by
  intro c hf aH;refine ⟨hf,by simpa using aH,setRow_other _ _ _ _ fun e'=>hf.1 ?_⟩;subst e';exact aF.2 ⟨n,cu dE,hblk⟩
 -- the element's cells
 have ZM:∀ j,xs[j]? = if j<l.length*S then cur.toList[j]? else none:=by
  intro j; rw[<-CJ,List.getElem?_take]
 have Mm:Cells T w (free st.mem g) (T.enc k xi) ((xs.drop (i*S)).take S):=by
  have hlx:xs.length=l.length*S:=by rw[o8.len,<-hS]
  refine ⟨by rw[T.enc_len,<-hS]; simp only[List.length_take,List.length_drop]; omega,fun c Mh Dq => ?_⟩;have dh:c<(T.enc k l[i]).length:=by rw[TU]; exact Mh
  obtain ⟨q,OE,Jc⟩:=o8.rep i ES c dh;rw[<-hS] at OE;have e1:(T.enc k l[i])[c]=(T.enc k xi)[c]:=by simp only[TU]
  rw[e1] at Jc;have e2:((xs.drop (i*S)).take S)[c]=q:=by
   simp only[List.getElem_take,List.getElem_drop];obtain ⟨hh1,hh2⟩:=List.getElem?_eq_some_iff.1 OE;exact hh2
  rw[e2];exact Jc
 have yW:=wU (off:=off) Mm (show Cells T w (free st.mem g) y.cells u.cells.toList from On);have yi:T.enc k z=cR (T.enc k xi) off y.cells:=by
  refine T.dec_ok k _ z (fun c hc => ?_) I6;obtain ⟨j,hj,rfl⟩:=List.getElem_of_mem hc;exact (yW.2 j hj (by rw[<-yW.1]; exact hj)).inr
 have aaL:xs.length=l.length*S:=by rw[o8.len,<-hS]
 have Yc:(xs.drop (i*S)).take S=(cur.toList.drop (i*S)).take S:=by
  rw[<-CJ,List.drop_take,List.take_take];congr 1;omega
 have ZN:arr.take (l.length*S)=xs.take (o+off)++u.cells.toList++xs.drop (o+off+m):=by
  have l1:(cur.toList.take (o+off)++u.cells.toList).length=o+off+m:=by
   simp only[adf,List.length_take,Array.length_toList,<-hm];omega
  rw[qg,List.take_append,l1,List.take_of_length_le (by rw[l1]; omega)];rw[<-CJ,List.take_take,List.drop_take];congr 3;omega
 have Yd:arr.length=cur.size:=by
  rw[qg];simp only[adf,List.length_take,List.length_drop,Array.length_toList,<-hm];omega
 have ux:∀ j,(xs.take (o+off)++u.cells.toList++xs.drop (o+off+m))[j]? = if j<o+off then xs[j]? else if j<o+off+m then u.cells.toList[j-(o+off)]? else xs[j]? := by
  intro j;have l0:(xs.take (o+off)).length=o+off:=by simp only[List.length_take]; omega
  have l1:(xs.take (o+off)++u.cells.toList).length=o+off+m:=by rw[adf,l0,<-hm]
  by_cases h1:j<o+off
  ·rw[if_pos h1,List.getElem?_append_left (by omega),List.getElem?_append_left (by omega),List.getElem?_take,if_pos h1]
  ·rw[if_neg h1]
   by_cases h2:j<o+off+m
   ·rw[if_pos h2,List.getElem?_append_left (by omega),List.getElem?_append_right (by omega),l0]
   ·rw[if_neg h2,List.getElem?_append_right (by omega),l1,List.getElem?_drop]
    congr 1;omega
 have Ye:Els T (w.setRow b arr.toArray) (free st.mem g) k (l.set i z) (xs.take (o+off)++u.cells.toList++xs.drop (o+off+m)):=by
  refine ⟨?_,?_,?_,?_⟩
  ·rw[<-hS]
   simp only[adf,List.length_take,List.length_drop,List.length_set,<-hm];omega
  ·intro q hq
   rcases List.mem_append.1 hq with hq | hq
   ·rcases List.mem_append.1 hq with hq | hq
    ·exact o8.one q (List.mem_of_mem_take hq)
    ·exact Ov q hq
   ·exact o8.one q (List.mem_of_mem_drop hq)
  ·intro i' bq c dh
   have u5:i'<l.length:=by simpa using bq
   rw[<-hS];by_cases UE:i'=i
   ·subst UE
    have e1:(l.set i' z)[i']=z:=by simp
    have Mh:c<(T.enc k z).length:=by rw[e1] at dh; exact dh
    have hcS:c<S:=by rw[T.enc_len,<-hS] at Mh; exact Mh
    have Dq:c<(cR (T.enc k xi) off y.cells).length:=by rw[<-yi]; exact Mh
    have RQ:=yW.2 c Dq (by rw[<-yW.1]; exact Dq);have e2:(T.enc k (l.set i' z)[i'])[c]=(cR (T.enc k xi) off y.cells)[c]:=by simp only[e1,yi]
    rw[e2];refine ⟨_,?_,RQ.mono hX⟩;rw[ux,<-adl];have l0:(((xs.drop (i'*S)).take S).take off).length=off:=by simp only[List.length_take,List.length_drop]; omega
    have l1:(((xs.drop (i'*S)).take S).take off++u.cells.toList).length=off+m:=by rw[adf,l0,<-hm]
    rw[<-hm];by_cases h1:c<off
    ·rw[if_pos (by omega),List.getElem?_append_left (by omega),List.getElem?_append_left (by omega),List.getElem?_take,if_pos h1,List.getElem?_take,if_pos hcS,List.getElem?_drop]
    ·rw[if_neg (by omega)]
     by_cases h2:c<off+m
     ·rw[if_pos (by omega),List.getElem?_append_left (by omega),List.getElem?_append_right (by omega),l0]
      congr 1;omega
     ·rw[if_neg (by omega),List.getElem?_append_right (by omega),l1,List.getElem?_drop,List.getElem?_take,if_pos (by omega),List.getElem?_drop]
      congr 1;omega
   ·have e1:(l.set i z)[i']=l[i']:=by simp[List.getElem_set_ne (Ne.symm UE)]
    have I2:c<(T.enc k l[i']).length:=by rw[e1] at dh; exact dh
    have hcS:c<S:=by rw[T.enc_len,<-hS] at I2; exact I2
    obtain ⟨q,OE,Jc⟩:=o8.rep i' u5 c I2;rw[<-hS] at OE;have e2:(T.enc k (l.set i z)[i'])[c]=(T.enc k l[i'])[c]:=by simp only[e1]
    rw[e2];refine ⟨q,?_,Jc.mono hX⟩;rw[ux];rcases Nat.lt_or_gt_of_ne UE with aH | aH
    ·have:i'*S+S<=i*S:=by
      have:=Nat.mul_le_mul_right S (show i'+1<=i from aH);rw[Nat.add_mul,Nat.one_mul] at this;exact this
     rw[if_pos (by omega)];exact OE
    ·have:i*S+S<=i'*S:=by
      have:=Nat.mul_le_mul_right S (show i+1<=i' from aH);rw[Nat.add_mul,Nat.one_mul] at this;exact this
     rw[if_neg (by omega),if_neg (by omega)];exact OE
  ·intro i' bq c dh
   have u5:i'<l.length:=by simpa using bq
   by_cases UE:i'=i
   ·subst UE
    have e1:(l.set i' z)[i']=z:=by simp
    have e2:(T.enc k (l.set i' z)[i'])[c]=(cR (T.enc k xi) off y.cells)[c]'(by rw[<-yi,<-e1]; exact dh):=by simp only[e1,yi]
    rw[e2];have uz:(cR (T.enc k xi) off y.cells).all DV.plain=true:=by
     unfold cR;rw[List.all_append,List.all_append];have hp:(T.enc k xi).all DV.plain=true:=by
      rw[List.all_eq_true];intro d hd;obtain ⟨j,hj,rfl⟩:=List.getElem_of_mem hd;have:=o8.pl i' ES j (by rw[TU]; exact hj);simpa only[TU] using this
     rw[u7];simp only[Bool.and_true,adi,List.all_eq_true] at hp ⊢
     exact ⟨fun d hd=>hp d (List.mem_of_mem_take hd),fun d hd=>hp d (List.mem_of_mem_drop hd)⟩
    exact List.all_eq_true.1 uz _ (List.getElem_mem _)
   ·have e1:(l.set i z)[i']=l[i']:=by simp[List.getElem_set_ne (Ne.symm UE)]
    have e2:(T.enc k (l.set i z)[i'])[c]=(T.enc k l[i'])[c]'(by rw[<-e1]; exact dh):=by simp only[e1]
    rw[e2];exact o8.pl i' u5 c _
 have Rv:=hk.write n (.row e k (l.set i z)) (cu dE) (by rw[hblk]; exact uf _ _ _) (bc.mk' (xs:=xs.take (o+off)++u.cells.toList++xs.drop (o+off+m)) ⟨by rw[Ye.len],.inr ⟨b,cp,arr.toArray,by rw[List.length_set]; exact TP,Nat.zero_le _,⟨fz,by simpa[Yd] using zG,setRow_heap w b cur _ e fz Ml⟩,by rw[List.length_set]; exact ER,Dt,by rw[<-hS]; simpa using Yd.trans uy,by rw[List.length_set,<-hS]; exact ZN⟩⟩ Ye)
  (by
   intro j hj q c' off' he;have sf:j<st.tmps.length:=by simpa using hj
   simp only[List.getElem_map] at he;unfold DV.kill at he;split at he
   ·cases he
   ·rename_i ht
    rw[he] at ht;simp[DV.eV,DV.ix] at ht) none .junk undef (Rep.junk _).toT (fun _ _ _ _ e=>by cases e)
 exact Rv
end Go.Vm
namespace Go.Vm
open Go.Lib
variable {K:Type} {E:K->Type}
def Tl:DV E->Bool
 | .rptr .. => true
 | _=>false
def K0 (P:Program) (t:TypeId) (x:DV E) (dst:Option Nat) (mem:Mem E):Cal E :=
 match x,dst with
 | .str s,some d=>if CI P t then .one ⟨.ptr (64*d) 0,[64*d],some (je mem (64*d) (.siter s 0))⟩ else .bad
 | _,_ => .bad
def cT (s:List UInt8) (pos:Nat):Int:=Int.ofNat (Utf8.decode ⟨s.toArray⟩ pos).1
def runeLen (s:List UInt8) (pos:Nat):Nat:=(Utf8.decode ⟨s.toArray⟩ pos).2
def Q1 (x:DV E) (isString:Bool) (mem:Mem E):Cal E :=
 match x,isString with
 | .ptr n 0,true=>match look mem n with
  | some (.siter s pos) => .br (decide (pos<s.length))
    (.one ⟨.tup [.bool true,.int .i64 pos,.int .i32 (cT s pos)],[],some (j8 mem n (.siter s (pos+runeLen s pos)))⟩) (.v (.tup [.bool false]))
  | _ => .bad
 | _,_ => .bad
def Q9 (T:Tab E) (P:Program) (src dst:TypeId) (x:DV E) (mem:Mem E):Cal E :=
 match MQ mem x,mH P src with
 | some (_,⟨k,l⟩),some e=>if CI P dst then match Lv T P e k l with
   | some s => .v (.str s)
   | none => .bad
  else .bad
 | _,_ => .bad
def KN (T:Tab E) (P:Program) (orc:Orc) (t:TypeId) (x:DV E) (dst:Option Nat) (mem:Mem E):Cal E :=
 match x,mH P t,dst with
 | .nils,some e,some d=>match kindOf T P e with
  | some k => .one ⟨.rowp (64*d),[64*d],some (je mem (64*d) (.row e k []))⟩
  | none => .bad
 | _,_,_ => .bad
def zeroOf (P:Program) (t:TypeId):Option Value:=(P.info? t).bind (·.zero)
def Jg (P:Program) (t:TypeId) (x i:DV E):Option (Cal E) :=
 match P.underlying t,x,wO i with
 | some (.array m e),.ptr n off,some j=>if P.cellsOf e == 1 && !(m == 1) then some (.chk (decide (0<=j)&&decide (j<(m:Int))) (.v (.ptr n (Rh off j)))) else none
 | _,_,_=>none
def JL (T:Tab E) (P:Program) (src dst:TypeId) (d:Option Nat) (x:DV E) (mem:Mem E):Option (Cal E) :=
 match x,mH P dst,d with
 | .str s,some e,some d=>match kindOf T P e with
  | some k=>if V4 P e&&T.sz k == 1&&(P.underlying src).isSome then match T.ofStr k s with
    | some l=>some (.chk (decide (s.length<=9223372036854775807)) (.one ⟨.rowp (64*d),[64*d],some (je mem (64*d) (.row e k l))⟩))
    | none=>none
   else none
  | none=>none
 | _,_,_=>none
def j4 (T:Tab E) (P:Program) (env:Env E) (orc:Orc) (o:Oper) (ρ:Operand->DV E) (mem:Mem E):Cal E :=
 match o.op with
 | .move x | .assign x=>KN T P orc o.type (ρ x) o.dst mem
 | .alloc t=>match zeroOf P t with
  | some z=>match xH T P t (lN z).cells with
   | some (n,⟨k,l⟩)=>we o.dst t n k l mem
   | none=>oB o.dst t (lN z).cells mem
  | none => .bad
 | .box t x=>match ρ x with
  | .arr n k l=>we o.dst t n k l mem
  | d=>if d.lay then oB o.dst t d.cells mem else .bad
 | .load t x=>DK T P t (ρ x) mem
 | .store t x y=>if o.dst.isNone&&wZ mem (wg T P t (ρ y)) then
   (if Tl (ρ x)=true then J8 T P t (ρ x) (ρ y) mem else if VN mem (ρ x)=true then Cu T P t (ρ x) (ρ y) mem else A0 P t (ρ x) (wg T P t (ρ y)) mem) else .bad
 | .buildSlice t len parts=>JJ T P orc t len parts.toList o.dst ρ mem
 | .indexAddr t x i=>match Jg P t (ρ x) (ρ i) with
  | some c=>c
  | none=>indexB T P t (ρ x) (ρ i) mem
 | .slice t x lo hi none=>if lo.isNone&&(o.dst.map orc.rv.contains).getD false then SL P t (ρ x) (hi.map ρ) mem else sliceB T P t (ρ x) (lo.map ρ) (hi.map ρ) mem
 | .convert src dst x=>match JL T P src dst o.dst (ρ x) mem with
  | some c=>c
  | none=>Q9 T P src dst (ρ x) mem
 | .range t x=>K0 P t (ρ x) o.dst mem
 | .next x s=>Q1 (ρ x) s mem
 | .call { callee := .builtin .append,args,argTypes } =>
  match args.toList,argTypes.toList with
  | [s,x],[st,xt]=>xn T P st xt o.dst (ρ s) (ρ x) mem
  | _,_ => .bad
 | .call { callee := .builtin .len,args,argTypes } =>
  match args.toList,argTypes.toList with
  | [x],[t]=>if (mH P t).isSome then Vs (ρ x) mem else .bad
  | _,_ => .bad
 | .call { callee := .value f,args,.. }=>if (o.dst.map orc.pr.contains).getD false=true then L9 env (o.dst.getD 999) (ρ f) (args.toList.map ρ) else Bh env (match o.dst with
   | some d=>d
   | none=>999) (ρ f) (args.toList.map fun x=>(ρ x,vH orc x)) mem
 | _ => .bad
def eff (T:Tab E) (P:Program) (env:Env E) (orc:Orc) (o:Oper) (ρ:Operand->DV E) (mem:Mem E):Cal E :=
 match vj T P orc o ρ with
 | some c=>c
 | none=>j4 T P env orc o ρ mem
variable {T:Tab E} {P:Program} {w0:World} {G:GP} {st:St E} {a:Act} {w:World} {g:Gh}
theorem ji.wp {dst:Option Nat} {out:Out E} {o:Oper} (h:ji T P w0 G st a w g o.dst out (execOp a.eval o)) (next:Act->World->Prop) (Q:Exit->Act->World->Prop)
  (sj:∀ v w' g',Inv T w0 G (st.app o.dst out) (a.put o.dst v) w' g'->next (a.put o.dst v) w'):o.wp P a w next Q:=by
 unfold Oper.wp;rcases h with ⟨v,w',g',hr,hi⟩ | ⟨w',g',hr,hi⟩
 ·rw[hr]; exact sj _ _ _ hi
 ·rw[hr]; exact sj _ _ _ hi
def cZ:DV E->Option Nat
 | .rptr n _ _ _=>some n
 | _=>none
theorem KD {op:BinOp} {xt:TypeId} {cy:Bool} {x y:DV E} {c:Cal E} {out:Out E} (h:BZ T P op xt cy x y=some c) (hh:c.has out):cZ out.v=none:=by
 unfold BZ at h;split at h
 ·by_cases hc:(gT P xt&&cy)=true
  ·rw[if_pos hc] at h
   cases op <;> simp only at h <;> first | (cases h; done) | (cases h; rw[eR hh]; rfl)
  ·rw[if_neg hc] at h
   cases h
 ·cases h
theorem Wc {X:Nat->Prop} {t:TypeId} {ok:Bool} {x:DV E} {v:Value} {c:Cal E} {out:Out E} (hx:aD T w X g x v) (h:taD T P t ok x=some c) (hh:c.has out):cZ out.v=none:=by
 unfold taD at h;split at h
 ·cases h
 have GS:(if ok then Cal.v (.tup [AY P t,.bool false]) else (Cal.bad:Cal E)).has out->cZ out.v=none:=by
  intro ho;cases ok
  ·obtain ⟨r,hr,_⟩:=ho
   cases hr
  ·rw[eR ho]; rfl
 have Ot:∀ d:DV E,cZ d=none->out=val (if ok then .tup [d,.bool true] else d)->cZ out.v=none:=by
  intro d hd ho;subst ho;cases ok
  ·exact hd
  ·rfl
 have key:∀ (R:Type) (m:Option R) (f:R->DV E),(∀ r,cZ (f r)=none)->(Cal.br (s8 m) (.ret R m fun b=>val (if ok then .tup [f b,.bool true] else f b)) (if ok then Cal.v (.tup [AY P t,.bool false]) else .bad)).has out->cZ out.v=none:=by
  intro R m f hf hh;cases m with
  | none=>exact GS (by simpa[Cal.has,s8] using hh)
  | some b =>
   obtain ⟨r,h1,h2⟩:∃ r,some b=some r/\val (if ok then .tup [f r,.bool true] else f r)=out:=by simpa[Cal.has,s8] using hh
   exact Ot _ (hf r) h2.symm
 cases x <;> simp only at h <;> first | (cases h; done) | skip
 case nili =>
  obtain rfl:=Option.some.inj h;exact GS hh
 case ifc t' d =>
  have hx:Rep T w X (.ifc t' d) v:=hx;cases hx with
  | ifc _ hr =>
  by_cases he:t'=t
  ·subst he
   rw[if_pos rfl] at h;obtain rfl:=Option.some.inj h;obtain ⟨r,_,si⟩:=hh;exact Ot d (by cases hr <;> rfl) si.symm
  ·rw[if_neg he] at h
   obtain rfl:=Option.some.inj h;exact GS hh
 case any k x =>
  split at h
  ·obtain rfl:=Option.some.inj h
   simp only[Cal.has] at hh;cases hg:T.gU k x
   ·rw[hg] at hh
    exact GS (by simpa using hh)
   ·rw[hg] at hh
    obtain ⟨r,h1,h2⟩:(Cal.v (if ok then .tup [.agg [],.bool true] else .agg []):Cal E).has out:=by simpa using hh
    exact Ot (.agg []) rfl h2.symm
  ·obtain rfl:=Option.some.inj h
   exact key _ _ _ (fun _=>rfl) hh
  ·obtain rfl:=Option.some.inj h
   exact key _ _ _ (fun _=>rfl) hh
  ·obtain rfl:=Option.some.inj h
   exact key _ _ _ (fun _=>rfl) hh
  ·obtain rfl:=Option.some.inj h
   exact key _ _ _ (fun _=>rfl) hh
  ·cases h
theorem xe {X:Nat->Prop} {t:TypeId} {cs:List (DV E)} {vs:Nat->Value} (off:Nat) (h:∀ i (hi:i<cs.length),Rep T w X cs[i] (vs i)):cZ (vD P t cs off)=none:=by
 unfold vD;split
 ·rfl
 ·by_cases ho:off<cs.length
  ·rw[fB _ _ _ ho]
   have:=h off ho;generalize cs[off]=d at this;generalize vs off=u at this;cases this <;> rfl
  ·rw[List.getD_eq_getElem?_getD,List.getElem?_eq_none (Nat.le_of_not_lt ho)]; rfl
theorem PJ {op:BinOp} {xt:TypeId} {cx cy:Bool} {x y:DV E} {out:Out E} (h:(Jk P op xt cx cy x y).has out):cZ out.v=none:=by
 have hv:∀ d:DV E,cZ d=none->(Cal.v d).has out->cZ out.v=none:=fun d hd h=>by rw[eR h]; exact hd
 have hb:(Cal.bad:Cal E).has out->cZ out.v=none:=fun h=>(ak h).elim
 have hc:∀ b (c:Cal E),(c.has out->cZ out.v=none)->(Cal.chk b c).has out->cZ out.v=none:=fun b c hh h=>hh (ij h).2
 unfold Jk at h;split at h
 ·split at h
  ·exact hc _ _ (hv _ rfl) h
  ·exact hc _ _ (hv _ rfl) h
  ·split at h
   ·unfold Fp at h
    split at h <;> first | exact hv _ rfl h | exact hc _ _ (hv _ rfl) h | exact hb h
   ·exact hb h
 ·unfold F2 at h
  split at h <;> first | exact hv _ rfl h | exact hc _ _ (hv _ rfl) h | exact hb h
 all_goals first
  | exact hb h
  | (split at h
     ·split at h <;> first | exact hv _ rfl h | exact hb h
     ·exact hb h)
theorem O8 {orc:Orc} {o:Oper} {c:Cal E} (h:Inv T w0 G st a w g) (he:vj T P orc o st.ev=some c) {out:Out E} (hh:c.has out):∀ k j cs off,out.v = .rptr k j cs off->k∈names st.mem:=by
 have o9:∀ x:Operand,∀ k,cZ (st.ev x)=some k->k∈names st.mem:=by
  intro x k hx;cases x with
  | tmp t =>
   simp only[St.ev] at hx;by_cases ht:t<st.tmps.length
   ·rw[fB _ _ _ ht] at hx
    cases hd:st.tmps[t] <;> rw[hd] at hx <;> simp[cZ] at hx
    subst hx;exact h.rl t ht _ _ _ _ hd
   ·rw[List.getD_eq_getElem?_getD,List.getElem?_eq_none (Nat.le_of_not_lt ht)] at hx; cases hx
  | const v=>simp only[St.ev,ofConst] at hx; (repeat' split at hx) <;> cases hx
  | global i=>cases hx
  | func f=>cases hx
 suffices hs:cZ out.v=none \/ ∃ x k,cZ (st.ev x)=some k/\cZ out.v=some k by
  intro k j cs off hv;rcases hs with hs | ⟨x,k',h1,h2⟩
  ·rw[hv] at hs; cases hs
  ·rw[hv] at h2
   cases h2;exact o9 x k h1
 have yj:∀ d:DV E,cZ d=none->(Cal.v d).has out->cZ out.v=none \/ ∃ x k,cZ (st.ev x)=some k/\cZ out.v=some k:=fun d hd h=>by rw[eR h]; exact .inl hd
 have W8:∀ x:Operand,(Cal.v (st.ev x)).has out->cZ out.v=none \/ ∃ x k,cZ (st.ev x)=some k/\cZ out.v=some k:=fun x h=>by
  rw[eR h];show cZ (st.ev x)=none \/ ∃ y k,cZ (st.ev y)=some k/\cZ (st.ev x)=some k
  cases hq:cZ (st.ev x) with
  | none=>exact .inl rfl
  | some k=>exact .inr ⟨x,k,hq,rfl⟩
 obtain ⟨dst,op,ty,pos,after,guard⟩:=o;have mv:∀ x,(match st.ev x with
  | .nils=>match (mH P ty).bind fun e=>(T.kind e).map fun k=>(e,k) with
   | some (_,k)=>if (dst.map orc.rv.contains).getD false then none else some (.v (.slc k []))
   | none=>some (.v .nils)
  | d=>(some (.v d):Option (Cal E)))=some c->cZ out.v=none \/ ∃ x k,cZ (st.ev x)=some k/\cZ out.v=some k:=by
  intro x h;have hx:=W8 x;split at h
  ·split at h
   ·split at h
    ·cases h
    ·cases h; exact yj _ rfl hh
   ·cases h; exact yj _ rfl hh
  ·cases h; exact hx hh
 cases op <;> simp only[vj] at he
 case move x=>exact mv x he
 case assign x=>exact mv x he
 case pick c' x y =>
  split at he
  ·cases he; exact W8 _ hh
  ·cases he; exact W8 _ hh
  ·cases he
 case binOp op xt x y yt =>
  split at he
  ·rename_i c' hc
   cases he;exact .inl (KD hc hh)
  ·cases he; exact .inl (PJ hh)
 case unOp op xt x =>
  cases he;unfold unD at hh;split at hh <;> first | exact yj _ rfl hh | exact (ak hh).elim
 case convert src dst x =>
  unfold Lt at he;split at he
  ·cases he; exact yj _ rfl hh
  ·cases he; exact yj _ rfl hh
  ·cases he; exact yj _ rfl hh
  ·split at he
   ·cases he; exact yj _ rfl hh
   ·cases he
  ·cases he
 case nilCheck x =>
  split at he
  ·cases he; exact yj _ rfl hh
  ·cases he; exact yj _ rfl hh
  ·cases he; exact yj _ rfl hh
  ·cases he; exact yj _ rfl (ij hh).2
  ·cases he
 case fieldAddr s x f =>
  split at he
  ·split at he <;> cases he; exact yj _ rfl hh
  ·split at he <;> cases he; exact yj _ rfl hh
  ·rename_i off ft n i cs o _ hd
   split at he <;> cases he
   rw[eR hh];exact .inr ⟨x,n,by rw[hd]; rfl,rfl⟩
  ·split at he <;> cases he; exact yj _ rfl hh
  ·split at he <;> cases he
   exact yj _ rfl (ij hh).2
  ·cases he
 case field xt x f =>
  have hx:=h.ev x;split at he
  ·rename_i off ft cs _ hd
   rw[hd] at hx;obtain ⟨vs,_,hl,hr⟩:=tz hx;split at he <;> cases he
   exact yj _ (xe off (vs:=fun i=>vs.getD i undef) fun i hi=>by
    have:=hr i hi (by omega);simpa[Array.getElem?_eq_getElem (show i<vs.size by omega)] using this) hh
  ·cases he
 case indexAddr t x i =>
  split at he
  ·split at he <;> cases he
   obtain ⟨_,_,rfl⟩:=hh;exact .inl rfl
  ·cases he
 case index t x i =>
  have hx:=h.ev x;split at he
  ·cases he
   obtain ⟨_,_,rfl⟩:=hh;exact .inl rfl
  ·rename_i m e m' k l n ht hd hi
   split at he
   ·rename_i hc
    cases he;simp only[adi,beq_iff_eq,Bool.not_eq_true'] at hc;rw[hd] at hx;obtain ⟨hl,hp,_⟩:=oy hx;obtain ⟨y,hy,rfl⟩:=hh;obtain ⟨_,aH,rfl⟩:=qx hy;have hg:=xy hc.1.1.1.2 l n.toNat aH;obtain ⟨yU,I7⟩:=List.getElem?_eq_some_iff.1 hg;have u7:=List.all_eq_true.1 hp _ (List.getElem_mem yU);rw[I7] at u7
    left
    show cZ ((T.enc k l[n.toNat]).getD 0 .junk)=none;cases hq:(T.enc k l[n.toNat]).getD 0 DV.junk <;> rw[hq] at u7 <;> first | rfl | (simp[DV.plain] at u7; done)
   ·cases he
  ·cases he
 case slice t x lo hi mx =>
  cases mx with
  | some m =>
   cases hi with
   | none=>simp only at he; cases he
   | some hi =>
    simp only at he;split at he
    ·split at he
     ·split at he <;> cases he
      obtain ⟨_,_,rfl⟩:=hh;exact .inl rfl
     ·cases he
    ·cases he
  | none =>
   simp only at he;split at he
   ·split at he <;> cases he
    obtain ⟨_,_,rfl⟩:=hh;exact .inl rfl
   ·split at he
    ·split at he <;> cases he
     obtain ⟨_,_,rfl⟩:=hh;exact .inl rfl
    ·cases he
   ·cases he
 case build t parts =>
  split at he
  ·split at he
   ·split at he <;> cases he
    exact yj _ rfl hh
   ·cases he
  ·split at he
   ·split at he <;> cases he
    exact yj _ rfl hh
   ·cases he
  ·cases he
 case extract x i =>
  have hx:=h.ev x;split at he
  ·rename_i vs hd
   rw[hd] at hx;obtain ⟨us,_,hl,hr⟩:=hx;split at he
   ·rename_i hi
    cases he;rw[fB _ _ _ hi] at hh;refine yj _ ?_ hh;have:=(hr i hi (by omega)).2;cases hq:vs[i] <;> rw[hq] at this <;> first | rfl | (simp[DV.noR] at this; done)
   ·cases he
  ·cases he
 case load t x =>
  have hx:=h.ev x;split at he
  ·rename_i cs off hd
   rw[hd] at hx;obtain ⟨b,o,f,_,_,_,_,h4⟩:=hx;split at he <;> cases he
   exact yj _ (xe off fun i hi=>(h4 i hi).1) hh
  ·rename_i n i cs off hd
   rw[hd] at hx;obtain ⟨b,o,f,_,_,_,_,h4⟩:=hx;split at he <;> cases he
   exact yj _ (xe off fun i hi=>(h4 i hi).1) hh
  ·rename_i cs hd
   rw[hd] at hx;obtain ⟨b,o,f,_,_,_,h4⟩:=wQ hx;split at he <;> cases he
   exact yj _ (xe 0 fun i hi=>(h4 i hi).1) hh
  ·cases he
 case makeFunc fn first caps =>
  cases fn <;> simp only at he <;> first | (cases he; done) | skip
  split at he <;> cases he
  exact yj _ rfl hh
 case typeAssert x xt t ok=>exact .inl (Wc (h.ev x) he hh)
 case makeInterface t x =>
  split at he <;> cases he
  exact yj _ rfl hh
 case call cl =>
  obtain ⟨callee,args,argTypes⟩:=cl;cases callee <;> simp only at he <;> first | (cases he; done) | skip
  unfold xr at he;split at he
  ·cases he; exact yj _ rfl hh
  ·cases he; exact yj _ rfl hh
  ·cases he; exact yj _ rfl hh
  ·split at he <;> cases he; exact yj _ rfl hh
  ·split at he <;> cases he; exact yj _ rfl hh
  ·cases he
 all_goals (first | (cases he; done) | skip)
end Go.Vm
namespace Go.Vm
open Go.Lib
variable {K:Type} {E:K->Type}
variable {T:Tab E} {P:Program} {w0:World} {G:GP} {st:St E} {a:Act} {w:World} {g:Gh}
theorem MC (dst:Option Nat) {t:TypeId} {x:DV E} {v:Value} (h:Inv T w0 G st a w g) (hx:aD T w (free st.mem g) g x v) (out:Out E) (hh:(K0 P t x dst st.mem).has out) :
  ji T P w0 G st a w g dst out (do pure (.value (<-Instr.range t v))):=by
 unfold K0 at hh;split at hh
 case h_2=>exact (ak hh).elim
 rename_i s d;split at hh
 case isFalse=>exact (ak hh).elim
 rename_i ht;obtain ⟨_,_,rfl⟩:=hh;obtain rfl:=kZ hx;have hu:=tQ ht;refine .inl ⟨_,_,upd g (64*d) (.pointer (some ⟨w.heap.size,0,none⟩)),?_,h.alloc (64*d) (.siter s 0) (.stringIter ⟨s.toArray⟩ 0) _ _ rfl ?_⟩
 ·simp[Instr.range,run_underlying hu]
 ·intro X' _
  exact ⟨w.heap.size,rfl,heap_alloc_new w _⟩
theorem Cz (w:World) (r k:Nat) (o:Obj) (h:k≠r):({ w with heap:=w.heap.setIfInBounds r o }:World).heap[k]? = w.heap[k]? := by
 simp[Array.getElem?_setIfInBounds_ne (Ne.symm h)]
theorem PR (dst:Option Nat) {ty:TypeId} {x:DV E} {s:Bool} {v:Value} (h:Inv T w0 G st a w g) (hx:aD T w (free st.mem g) g x v) (out:Out E) (hh:(Q1 x s st.mem).has out) :
  ji T P w0 G st a w g dst out (do pure (.value (<-Instr.next v s ty))):=by
 unfold Q1 at hh;split at hh
 case h_2=>exact (ak hh).elim
 rename_i n;split at hh
 case h_2=>exact (ak hh).elim
 rename_i s' pos dE;obtain ⟨b,hg,rfl⟩:=gp hx;obtain ⟨b',h1,h2⟩:=h.mm n _ (cd dE);rw[hg] at h1;cases h1;have W3:(⟨s'.toArray⟩:ByteArray).size=s'.length:=rfl;by_cases hp:pos<s'.length
 ·have hh:(Cal.one ⟨.tup [.bool true,.int .i64 pos,.int .i32 (cT s' pos)],[],some (j8 st.mem n (.siter s' (pos+runeLen s' pos)))⟩:Cal E).has out:=by
   simpa[Cal.has,hp] using hh
  obtain ⟨_,_,rfl⟩:=hh;have j3:(Instr.next (.pointer (some ⟨b,0,none⟩)) true ty).run P w = .ok (.tuple #[.bool true,.int .i64 pos,.int .i32 (cT s' pos)]) { w with heap:=w.heap.setIfInBounds b (.stringIter ⟨s'.toArray⟩ (pos+runeLen s' pos)) }:=by
   have ux:(getObj b).run P w = .ok (.stringIter ⟨s'.toArray⟩ pos) w:=by simp[getObj,Sem.run,h2]
   have ZO:∀ o:Obj,(setObj b o).run P w = .ok () { w with heap:=w.heap.setIfInBounds b o }:=by intro o; simp[setObj,Sem.run,h2]
   simp only[Instr.next,Sem.run_bind,ux,Result.andThen_ok,W3,hp,if_true,ZO,Sem.run_pure]
   rfl
  have hblk:blk (g n)=some b:=by rw[hg]; rfl
  refine .inl ⟨_,_,g,by simp only[Sem.run_bind,j3,Result.andThen_ok,Sem.run_pure]; rfl,?_⟩;refine h.write n (.siter s' (pos+runeLen s' pos)) (cu dE) ?_ ?_ (wW h hg) dst _ _ ?_ (fun _ _ _ _ e=>by cases e)
  ·rw[hblk]
   exact ⟨rfl,rfl,rfl,by simp,fun k hk iv=>Cz w b k _ fun e=>iv (by rw[e])⟩
  ·exact ⟨b,hg,by simp only[Array.getElem?_setIfInBounds,if_true,if_pos (mr h2)]⟩
  ·refine ⟨_,rfl,rfl,?_⟩
   intro i hi bq;have:i=0\/i=1\/i=2:=by simp at hi; omega
   rcases this with rfl | rfl | rfl
   ·exact ⟨Rep.bool true,rfl⟩
   ·exact ⟨Rep.int rfl,rfl⟩
   ·exact ⟨Rep.int rfl,rfl⟩
 ·have hh:(Cal.v (.tup [.bool false]):Cal E).has out:=by simpa[Cal.has,hp] using hh
  rw[eR hh];have j3:(Instr.next (.pointer (some ⟨b,0,none⟩)) true ty).run P w = .ok (.tuple #[.bool false]) w:=by
   have ux:(getObj b).run P w = .ok (.stringIter ⟨s'.toArray⟩ pos) w:=by simp[getObj,Sem.run,h2]
   simp only[Instr.next,Sem.run_bind,ux,Result.andThen_ok,W3,hp,if_false,Sem.run_pure]
  refine .inl ⟨.tuple #[.bool false],w,g,by simp only[Sem.run_bind,j3,Result.andThen_ok,Sem.run_pure],h.put dst ?_ (fun _ _ _ _ e=>by cases e)⟩;refine ⟨_,rfl,rfl,?_⟩;intro i hi bq;have:i=0:=by simp at hi; omega
  subst this;exact ⟨Rep.bool false,rfl⟩
theorem Oi {e:TypeId} (h:V4 P e=true):P.underlying e=some (.int .u8):=by
 unfold V4 at h; split at h <;> simp_all
theorem Pj (dst:Option Nat) {src ds:TypeId} {x:DV E} {v:Value} (h:Inv T w0 G st a w g) (hx:aD T w (free st.mem g) g x v) (out:Out E) (hh:(Q9 T P src ds x st.mem).has out) :
  ji T P w0 G st a w g dst out (do pure (.value (<-convert src ds v))):=by
 unfold Q9 at hh;split at hh
 case h_2=>exact (ak hh).elim
 rename_i n k l e hl he;split at hh
 case isFalse=>exact (ak hh).elim
 rename_i hc;split at hh
 case h_2=>exact (ak hh).elim
 rename_i s hs;rw[eR hh];obtain ⟨_,rfl,hn,e',hr⟩:=uS h hl hx;have CL:=wu (Y:=fun _=>True) (hr.mono (fun b hb aH=>⟨trivial,aH,rfl⟩) fun _ _=>rfl) (fun _ _=>trivial);have:=Ey (P:=P) (g:=g) (iH he) (tQ hc) hs (Rep.toT CL);exact .inl ⟨_,w,g,by simp only[Sem.run_bind,this,Result.andThen_ok,Sem.run_pure],h.put dst (NZ s) (fun _ _ _ _ e=>by cases e)⟩
theorem NJ (dst:Option Nat) {src ds:TypeId} {x:DV E} {v:Value} (h:Inv T w0 G st a w g) (hx:aD T w (free st.mem g) g x v) (c:Cal E) (hc:JL T P src ds dst x st.mem=some c) (out:Out E) (hh:c.has out) :
  ji T P w0 G st a w g dst out (do pure (.value (<-convert src ds v))):=by
 unfold JL at hc;split at hc
 case h_2=>cases hc
 rename_i s e d he;split at hc
 case h_2=>cases hc
 rename_i k hk;split at hc
 case isFalse=>cases hc
 rename_i dh;simp only[adi,beq_iff_eq] at dh;obtain ⟨⟨hu8,Aw⟩,vr⟩:=dh;split at hc
 case h_2=>cases hc
 rename_i l hl;cases hc;obtain ⟨hb,hh⟩:=ij hh;simp only[ac9] at hb;obtain ⟨_,_,rfl⟩:=hh;obtain rfl:=kZ hx;obtain ⟨u,hu⟩:=Option.isSome_iff_exists.1 vr;have j3:=Lib.run_convert_string_bytes (P:=P) w src ds e ⟨s.toArray⟩ hu (iH he) (Oi hu8);have W3:(⟨s.toArray⟩:ByteArray).size=s.length:=rfl;rw[W3] at j3;have Ae:=(T.ofStr_ok k s l hl).1;have o8:Els T w (free st.mem g) k l (strCells ⟨s.toArray⟩):=LC hl Aw;have yW:=Lib.bytesWorld_at_new w e ⟨s.toArray⟩;have hold:=fun j hj=>Lib.bytesWorld_at_old w e ⟨s.toArray⟩ j hj
 have nf:=Lib.bytesWorld_size w e ⟨s.toArray⟩;have hK:Kept w (Lib.bytesWorld w e ⟨s.toArray⟩) none:=by
  refine ⟨?_,?_,?_,by omega,fun j hj _=>hold j hj⟩ <;> (unfold Lib.bytesWorld World.freeze; split <;> rfl)
 have Wl:=grownCap_ge w s.length 0 e;have Dt:grownCap w s.length 0 e<=maxLen:=grownCap_le_maxLen w s.length 0 e (by simp only[maxLen]; exact hb);have u6:∀ b,blk (.slice (some ⟨w.heap.size,0,none⟩) s.length (grownCap w s.length 0 e))=some b->b<(Lib.bytesWorld w e ⟨s.toArray⟩).heap.size/\(w.heap.size<=b\/(64*d∈names st.mem/\blk (g (64*d))=some b)):=by
  intro b hb;simp only[blk,Option.some.injEq] at hb;subst hb;exact ⟨by omega,.inl (Nat.le_refl _)⟩
 have hX:=uR h (w':=Lib.bytesWorld w e ⟨s.toArray⟩) (64*d) (.row e k l) _ none hK (fun _ h=>by cases h) u6;refine .inl ⟨_,_,upd g (64*d) (.slice (some ⟨w.heap.size,0,none⟩) s.length (grownCap w s.length 0 e)),by simp only[Sem.run_bind,j3,Result.andThen_ok,Sem.run_pure]; rfl,?_⟩;refine h.renew (64*d) (.row e k l) _ none hK (fun _ h=>by cases h) u6 ?_ _ (.rowp (64*d)) _ (by show _=upd g (64*d) _ (64*d); rw[jg]) (fun _ _ _ _ h=>by cases h);have uy:(Lib.bytesCells w e ⟨s.toArray⟩).size=grownCap w s.length 0 e:=by
  simp[Lib.bytesCells];show s.length+(grownCap w s.length 0 e-s.length) = _;omega
 refine bc.mk' (xs:=strCells ⟨s.toArray⟩) ⟨by rw[o8.len],.inr ⟨w.heap.size,_,Lib.bytesCells w e ⟨s.toArray⟩,by rw[Ae],Nat.zero_le _,⟨_,.inr (Nat.le_refl _),yW⟩,by omega,Dt,?_,?_⟩⟩ (o8.mono hX)
 ·rw[uy,Aw,Nat.mul_one]
 ·have e1:(Lib.bytesCells w e ⟨s.toArray⟩).toList=strCells ⟨s.toArray⟩++List.replicate (grownCap w s.length 0 e-s.length) (.int .u8 0):=by
   simp[Lib.bytesCells,strCells];rfl
  have e2:(strCells ⟨s.toArray⟩).length=l.length*T.sz k:=o8.len;rw[e1,<-e2];exact List.take_left
theorem EH (orc:Orc) (dst:Option Nat) {t:TypeId} {x:DV E} {v:Value} (h:Inv T w0 G st a w g) (hx:aD T w (free st.mem g) g x v) (out:Out E) (hh:(KN T P orc t x dst st.mem).has out) :
  ji T P w0 G st a w g dst out (pure (.value v)):=by
 unfold KN at hh;split at hh
 case h_2=>exact (ak hh).elim
 rename_i e d he;split at hh
 case h_2=>exact (ak hh).elim
 rename_i k hk;obtain ⟨_,_,rfl⟩:=hh;obtain rfl:=kF hx;refine .inl ⟨_,w,upd g (64*d) (.slice none 0 0),rfl,?_⟩;exact h.renew (64*d) (.row e k []) _ none (Kept.refl w) (fun _ h=>by cases h) (fun b hb=>by cases hb) (bc.mk' (ou w e (T.sz k)) (.nil k)) _ (.rowp (64*d)) _
  (by show _=upd g (64*d) _ (64*d); rw[jg]) (fun _ _ _ _ h=>by cases h)
theorem MG (dst:Option Nat) {t:TypeId} {x i:DV E} {v u:Value} (h:Inv T w0 G st a w g) (hx:aD T w (free st.mem g) g x v) (hi:aD T w (free st.mem g) g i u) (c:Cal E) (hc:Jg P t x i=some c) (out:Out E) (hh:c.has out) :
  ji T P w0 G st a w g dst out (do pure (.value (<-Instr.indexAt t v u))):=by
 unfold Jg at hc;split at hc
 case h_2=>cases hc
 rename_i m e n off j hu hj;split at hc
 case isFalse=>cases hc
 rename_i dh;simp only[adi,beq_iff_eq,Bool.not_eq_true',beq_eq_false_iff_ne] at dh;cases hc;obtain ⟨hb,hh⟩:=ij hh;simp only[adi,ac9] at hb;rw[eR hh];obtain ⟨b,hg,rfl⟩:=gp hx;obtain ⟨kd,rfl⟩:=jq hj hi;have Ow:Rh off j=off+j.toNat:=by unfold Rh; split <;> omega
 refine .inl ⟨.pointer (some ⟨b,off+j.toNat,none⟩),w,g,?_,h.put dst (by rw[Ow]; exact ⟨b,hg,rfl⟩) (fun _ _ _ _ e=>by cases e)⟩;have qI:(0<=j/\j<(m:Int)):=hb;simp only[Instr.indexAt,asIntOf,Instr.sureAddr,Sem.run_bind,Sem.run_pure,Result.andThen_ok,run_underlying hu,if_pos qI,cU (P:=P) (w:=w) (t:=e) (by omega),dh.1,Nat.mul_one,Addr.add_lit]
theorem VA [Ad:zT T w0 G] (env:Env E) (o7:∀ f,Ctr T P f (env f)) (orc:Orc) (h:Inv T w0 G st a w g) (o:Oper) (out:Out E) (hh:(eff T P env orc o st.ev st.mem).has out) (next:Act->World->Prop) (Q:Exit->Act->World->Prop)
  (sj:∀ v w' g',Inv T w0 G (st.app o.dst out) (a.put o.dst v) w' g'->next (a.put o.dst v) w'):o.wp P a w next Q:=by
 unfold eff at hh;split at hh
 ·rename_i c he
  obtain ⟨h1,h2,v,hr,CL⟩:=Tk o st.ev a.eval h.ev c he out hh;have ho:out=val out.v:=by
   obtain ⟨v',ks,m⟩:=out;simp only at h1 h2;subst h1; subst h2;rfl
  refine ji.wp (g:=g) (dst:=o.dst) (.inl ⟨v,w,g,hr,?_⟩) next Q sj
  rw[ho];exact h.put o.dst CL (O8 h he hh)
 ·rename_i he
  by_cases UK:∃ f as ats,o.op = .call { callee := .value f,args:=as,argTypes:=ats }
  ·obtain ⟨f,as,ats,ho⟩:=UK
   unfold j4 at hh;simp only[ho] at hh;have hh':(Bh env (match o.dst with
     | some d=>d
     | none=>999) (st.ev f) (as.toList.map fun x=>(st.ev x,vH orc x)) st.mem).has out:=by
    split at hh
    ·have e:as.toList.map st.ev=(as.toList.map fun x=>(st.ev x,vH orc x)).map (·.1):=by rw[List.map_map]; rfl
     rw[e] at hh;have:=JB (mem:=st.mem) hh;cases hd:o.dst with
     | none=>rw[hd] at this; exact this
     | some d=>rw[hd] at this; exact this
    ·exact hh
   exact QI env o7 orc h o f as ats _ ho out hh' next Q sj
  ·refine ji.wp (g:=g) (dst:=o.dst) ?_ next Q sj
   obtain ⟨dst,op,ty,pos,aft,guard⟩:=o;cases op <;> simp only[j4] at hh <;> try (exact (ak hh).elim)
   case move x=>exact EH orc dst h (h.ev x) out hh
   case assign x=>exact EH orc dst h (h.ev x) out hh
   case alloc t =>
    split at hh
    case h_2=>exact (ak hh).elim
    rename_i z hz;obtain ⟨i,hi,Mg⟩:=adk.1 hz;have j3:(Instr.alloc t true (.tuple #[])).run P w = .ok (.pointer (some ⟨w.heap.size,0,none⟩)) (w.alloc (.cells z.cells t)):=by
     simp only[Instr.alloc,Sem.run_bind,zeroValue,typeInfo,run_program,hi,Mg,Sem.run_pure,Result.andThen_ok,A6]
    split at hh
    ·rename_i n k l hm
     obtain ⟨_,_,hr⟩:=vR (P:=P) (t:=t) (rV (T:=T) (w:=w) (X:=free st.mem g) z) hm;exact DN dst h z.cells (by simpa using hr) out hh _ j3
    ·exact zk dst h z (rV z) out hh _ j3
   case box t x =>
    have j3:(Instr.box t (a.eval x)).run P w = .ok (.pointer (some ⟨w.heap.size,0,none⟩)) (w.alloc (.cells (a.eval x).cells t)):=by
     simp only[Instr.box,Sem.run_bind,A6,Result.andThen_ok,Sem.run_pure]
    split at hh
    ·rename_i n k l hd
     have hx:=h.ev x;rw[hd] at hx;obtain ⟨_,_,vs,hv,_⟩:=oy hx;rw[hv] at j3;rw[hv] at hx;have:=DN dst h vs (hx.plain rfl) out hh (Instr.box t (a.eval x)) (by rw[hv]; exact j3);exact this
    ·split at hh
     case isFalse=>exact (ak hh).elim
     rename_i hs;exact zk dst h (a.eval x) (tf (h.ev x) hs) out hh _ j3
   case load t x=>exact Qq dst h (h.ev x) out hh
   case store t x y =>
    split at hh
    case isFalse=>exact (ak hh).elim
    rename_i hc;simp only[adi,Option.isNone_iff_eq_none] at hc;obtain ⟨rfl,hk⟩:=hc;split at hh
    ·exact Nk h (h.ev x) (h.ev y) out hh
    ·split at hh
     ·exact Oe h (h.ev x) (h.ev y) out hh
     ·exact Nz h (h.ev x) (EE (P:=P) (t:=t) (h.ev y)) out (by rw[if_pos hk]; exact hh)
   case buildSlice t len parts=>exact To orc dst len parts st.ev a.eval h.ev h out hh
   case indexAddr t x i =>
    split at hh
    ·rename_i c hc
     exact MG dst h (h.ev x) (h.ev i) c hc out hh
    ·exact M7 dst h (h.ev x) (h.ev i) out hh
   case slice t x lo hi mx =>
    cases mx with
    | some m=>exact (ak hh).elim
    | none =>
     replace hh:(if lo.isNone&&(dst.map orc.rv.contains).getD false then SL P t (st.ev x) (hi.map st.ev) st.mem else sliceB T P t (st.ev x) (lo.map st.ev) (hi.map st.ev) st.mem).has out:=hh
     split at hh
     ·rename_i hc
      have Jb:lo=none:=by simp only[adi,Option.isNone_iff_eq_none] at hc; exact hc.1
      subst Jb;exact Tt dst st.ev a.eval h.ev hi h (h.ev x) out hh
     ·exact Od dst st.ev a.eval h.ev lo hi h (h.ev x) out hh
   case convert src ds x =>
    split at hh
    ·rename_i c hc
     exact NJ dst h (h.ev x) c hc out hh
    ·exact Pj dst h (h.ev x) out hh
   case range t x=>exact MC dst h (h.ev x) out hh
   case next x s=>exact PR dst h (h.ev x) out hh
   case call cl =>
    obtain ⟨callee,args,argTypes⟩:=cl;cases callee with
    | value f=>exact absurd ⟨f,args,argTypes,rfl⟩ UK
    | invoke r m=>exact (ak hh).elim
    | builtin b =>
     cases b <;> simp only at hh <;> try (exact (ak hh).elim)
     case append =>
      split at hh
      ·rename_i s x t xt ha Rr
       have e1:args = #[s,x]:=by apply Array.ext'; simpa using ha
       have e2:argTypes = #[t,xt]:=by apply Array.ext'; simpa using Rr
       subst e1; subst e2;have:=Kw (T:=T) (P:=P) (ty:=ty) dst h (h.ev s) (h.ev x) out hh;simpa[execOp,resolve,invoke,builtin] using this
      ·exact (ak hh).elim
     case len =>
      split at hh
      ·rename_i x t ha Rr
       split at hh
       case isFalse=>exact (ak hh).elim
       rename_i ht;obtain ⟨e,het⟩:=Option.isSome_iff_exists.1 ht;have e1:args = #[x]:=by apply Array.ext'; simpa using ha
       have e2:argTypes = #[t]:=by apply Array.ext'; simpa using Rr
       subst e1; subst e2;have:=SA (T:=T) (P:=P) (ty:=ty) dst (iH het) h (h.ev x) out hh;simpa[execOp,resolve,invoke,builtin] using this
      ·exact (ak hh).elim
end Go.Vm
namespace Go.Vm
open Go.Lib
variable {K:Type} {E:K->Type}
structure Rec (E:K->Type) where
 i:Nat
 o:Oper
 out:Out E
 free:Bool
 reads:List (DV E)
 src:Option (Nat×Box E)
 tch:Option (List Nat)
def Cr (ops:Array Oper) (j:Nat):Option Nat:=(ops[j]?).bind (·.dst)
def E6:DV E->Bool
 | .junk=>true
 | _=>false
def Rec.pure (r:Rec E):Bool:=r.out.kills.isEmpty&&r.out.mem.isNone
def Rec.calm (r:Rec E) (ns:List Nat):Bool:=r.pure && !r.out.v.eV ns&&r.reads.all fun d => !d.eV ns && !E6 d
def EY (o:Oper) (ρ:Operand->DV E) (mem:Mem E):Option (Nat×Box E):=match o.op with
 | .load _ x=>match ρ x with
  | .ptr n _=>match look mem n with
   | some b=>some (n,b)
   | none=>none
  | _=>none
 | _=>none
def VI (as:List (DV E×Md)) (mem:Mem E) (ks:List Nat) (m':Mem E):List Nat :=
 (m'.take (m'.length-(jO mem ((as.flatMap fun x=>jV mem x.2 x.1)++ks)).length)).map (·.1)++((as.flatMap fun x=>jV mem x.2 x.1)++ks)
def JW (orc:Orc) (o:Oper) (ρ:Operand->DV E) (mem:Mem E) (out:Out E):Option (List Nat):=match o.op with
 | .call { callee := .value _,args,.. }=>match out.mem with
  | some m'=>some (VI (args.toList.map fun x=>(ρ x,vH orc x)) mem out.kills m')
  | none=>none
 | .call { callee := .builtin .append,.. }=>some out.kills
 | .alloc _=>some out.kills
 | .buildSlice .. => match out.mem with
  | some _=>some out.kills
  | none=>none
 | .store _ x _=>match ρ x with
  | .ptr n _=>some [n]
  | _=>none
 | _=>none
def Box.O7 (ks:List Nat):Box E->Bool
 | .cells _ cs=>cs.all fun d => !d.eV ks && !E6 d
 | _=>true
def Rec.past (r q:Rec E):Bool:=match r.src,q.tch with
 | some (n,b),some ts=>r.calm q.out.kills && !ts.contains n&&b.O7 q.out.kills
 | _,_=>false
def Ao (o:Oper):Bool:=o.guard.isNone&&match o.op with
 | .alloc _=>true
 | _=>false
def r9 (ops:Array Oper) (a b:Rec E):Bool :=
 a.o.apart ops b.o&&((a.pure&&b.pure) || (a.free&&a.calm b.out.kills) || (b.free&&b.calm a.out.kills) || a.past b || b.past a || (Ao a.o&&Ao b.o))
def Lu (prev:List Nat) (o:Oper):Nat:=o.after.toList.foldl (fun s e=>if Region.binds .any e then s ||| (1 <<< e.on) ||| prev.getD e.on 0 else s) 0
def FU:List Nat->List Oper->List Nat
 | prev,[]=>prev
 | prev,o::r=>FU (prev++[Lu prev o]) r
def HM (ops:Array Oper):List Nat:=FU [] ops.toList
def oK (ms:List Nat) (ops:Array Oper) (b a:Rec E):Bool:=(ms.getD b.i 0).testBit a.i || r9 ops a b
def apB (ops:Array Oper) (i j:Nat):Bool:=match ops[i]?,ops[j]? with
 | some a,some b=>a.apart ops b
 | _,_=>false
def J1 (ops:Array Oper) (j:Nat):Nat:=(List.range j).foldl (fun s i=>if apB ops i j=true then s ||| (1 <<< i) else s) 0
def As (ops:Array Oper):List Nat:=(List.range ops.size).map (J1 ops)
def KI (ms ap:List Nat) (ops:Array Oper) (b a:Rec E):Bool:=(ms.getD b.i 0).testBit a.i || ((ap.getD b.i 0).testBit a.i&&(a.pure&&b.pure)) || r9 ops a b
def uO (ops:Array Oper):Bool:=ops.toList.zipIdx.all fun x=>x.1.after.toList.all fun e => !Region.binds .any e || decide (e.on<x.2)
def yd:Out E:=val (.tup [])
def isLit (orc:Orc) (o:Oper):Bool:=match o.op,o.dst with
 | .buildSlice ..,some d => !orc.rv.contains d
 | _,_=>false
def wV (orc:Orc) (o:Oper):Bool:=match o.op,o.dst with
 | .call { callee := .value _,.. },some d=>orc.pr.contains d
 | _,_=>false
def ny (T:Tab E) (P:Program) (env:Env E) (orc:Orc) (o:Oper) (ρ:Operand->DV E):Option (Cal E):=match vj T P orc o ρ with
 | some c=>some c
 | none=>if isLit orc o=true then some (j4 T P (fun _ _ => .bad) orc o ρ []) else if wV orc o=true then some (j4 T P env orc o ρ []) else none
theorem JA {T:Tab E} {P:Program} {env:Env E} {orc:Orc} {o:Oper} (h:wV orc o=true) (ρ:Operand->DV E) (mem mem':Mem E):j4 T P env orc o ρ mem=j4 T P env orc o ρ mem':=by
 obtain ⟨dst,op,type,pos,after,guard⟩:=o;unfold wV at h;cases op <;> simp only at h <;> first | (cases h; done) | skip
 rename_i c;obtain ⟨callee,args,ats⟩:=c;cases callee with
 | value f =>
  cases dst with
  | none=>cases h
  | some d =>
   simp only at h;simp only[j4,Option.map_some,Option.getD_some,h,if_true]
 | _=>cases h
theorem Pa {T:Tab E} {P:Program} {orc:Orc} {o:Oper} (h:isLit orc o=true) (env env':Env E) (ρ:Operand->DV E) (mem mem':Mem E):j4 T P env orc o ρ mem=j4 T P env' orc o ρ mem':=by
 obtain ⟨dst,op,type,pos,after,guard⟩:=o;unfold isLit at h;cases op <;> simp only at h <;> first | (cases h; done) | skip
 rename_i t len parts;cases dst with
 | none=>cases h
 | some d =>
  have hd:¬ orc.rv.contains d=true:=by simpa using h
  simp only[j4,JJ];cases mH P t with
  | none=>rfl
  | some e =>
   simp only;cases kindOf T P e with
   | none=>rfl
   | some k =>
    simp only;split
    ·cases kV P (T.sz k) ρ 0 parts.toList with
     | none=>rfl
     | some cs =>
      cases oz T k len cs <;> simp_all
    ·rfl
theorem IZ {T:Tab E} {P:Program} {env:Env E} {orc:Orc} {o:Oper} {ρ:Operand->DV E} {c:Cal E} (h:ny T P env orc o ρ=some c) (mem:Mem E):eff T P env orc o ρ mem=c:=by
 unfold ny at h;unfold eff;cases h1:vj T P orc o ρ with
 | some c'=>rw[h1] at h; exact Option.some.inj h
 | none =>
  rw[h1] at h;simp only at h ⊢
  split at h
  ·rename_i hl
   rw[<-Option.some.inj h];exact Pa hl _ _ _ _ _
  ·split at h
   ·rename_i hp
    rw[<-Option.some.inj h];exact JA hp _ _ _
   ·cases h
theorem DB {T:Tab E} {P:Program} {env:Env E} {orc:Orc} {o:Oper} {ρ:Operand->DV E} (h:ny T P env orc o ρ=none) (mem:Mem E):eff T P env orc o ρ mem=j4 T P env orc o ρ mem:=by
 unfold ny at h;unfold eff;cases h1:vj T P orc o ρ with
 | some c'=>rw[h1] at h; cases h
 | none=>rfl
section
variable (T:Tab E) (P:Program) (env:Env E) (orc:Orc) (ops:Array Oper)
def Gr (o:Oper) (ρ:Operand->DV E) (mem:Mem E):Option (Nat×Box E):=match ny T P env orc o ρ with
 | some _=>none
 | none=>EY o ρ mem
def GF (o:Oper) (ρ:Operand->DV E) (mem:Mem E) (out:Out E):Option (List Nat):=match ny T P env orc o ρ with
 | some _=>none
 | none=>JW orc o ρ mem out
def QH {β:Type} (st:St E) (i:Nat) (K:Rec E->St E->Option β):Option β :=
 match ops[i]? with
 | none=>none
 | some o =>
  match o.guard with
  | none =>
   (eff T P env orc o st.ev st.mem).run fun out=>K ⟨i,o,out,(ny T P env orc o st.ev).isSome,o.op.operands.toList.map st.ev,Gr T P env orc o st.ev st.mem,GF T P env orc o st.ev st.mem out⟩ (st.app o.dst out)
  | some (j,w) =>
   match Cr ops j with
   | none=>none
   | some d =>
    match st.tmps.getD d .junk with
    | .bool b =>
     if b=w then
      (eff T P env orc o (st.set d (.bool w)).ev st.mem).run fun out =>
       K ⟨i,o,out,(ny T P env orc o (st.set d (.bool w)).ev).isSome,o.op.operands.toList.map (st.set d (.bool w)).ev,Gr T P env orc o (st.set d (.bool w)).ev (st.set d (.bool w)).mem,GF T P env orc o (st.set d (.bool w)).ev (st.set d (.bool w)).mem out⟩ ((st.set d (.bool w)).app o.dst out)
     else K ⟨i,o,yd,true,[],none,none⟩ ((st.set d (.bool (!w))).app o.dst yd)
    | .tup []=>K ⟨i,o,yd,true,[],none,none⟩ (st.app o.dst yd)
    | _=>none
def uq {β:Type} (ms:Option (List Nat)):List Nat->List (Rec E)->St E->(St E->Option β)->Option β
 | [],_,st,K=>K st
 | i::rest,acc,st,K=>QH T P env orc ops st i fun r st' =>
   match ms with
   | none=>uq ms rest [] st' K
   | some m=>if acc.all (KI m (As ops) ops r) then uq ms rest (r::acc) st' K else none
def act (st:St E) (r:Rec E):Prop :=
 ((r.free=true /\ ∃ c,ny T P env orc r.o st.ev=some c/\c.has r.out)\/(r.free=false/\ny T P env orc r.o st.ev=none/\(j4 T P env orc r.o st.ev st.mem).has r.out))/\r.reads=r.o.op.operands.toList.map st.ev /\
   r.src=Gr T P env orc r.o st.ev st.mem/\r.tch=GF T P env orc r.o st.ev st.mem r.out
def sN (st:St E) (r:Rec E):Prop :=
 ops[r.i]? = some r.o/\match r.o.guard with
  | none=>act T P env orc st r
  | some (j,w) => ∃ d,Cr ops j=some d/\((∃ b,st.tmps[d]? = some (.bool b)/\if b=w then act T P env orc st r else (r.out=yd/\r.free=true/\r.reads=[]/\r.src=none/\r.tch=none))\/(st.tmps[d]? = some (.tup [])/\r.out=yd/\r.free=true/\r.reads=[]/\r.src=none/\r.tch=none))
def Tr:List (Rec E)->St E->St E->Prop
 | [],st,st'=>st=st'
 | r::rs,st,st'=>sN T P env orc ops st r/\Tr rs (st.app r.o.dst r.out) st'
end
variable {T:Tab E} {P:Program} {env:Env E} {orc:Orc} {ops:Array Oper}
theorem II {st:St E} {d:Nat} {v:DV E} (h:st.tmps[d]? = some v):st.set d v=st:=by
 obtain ⟨aH,he⟩:=List.getElem?_eq_some_iff.1 h;unfold St.set;have:st.tmps.set d v=st.tmps:=by rw[<-he]; exact List.set_getElem_self aH
 rw[this]
theorem MP {st:St E} {d:Nat} {b:Bool} (h:st.tmps.getD d .junk = .bool b):st.tmps[d]? = some (.bool b):=by
 by_cases hd:d<st.tmps.length
 ·rw[fB _ _ _ hd] at h; rw[adl hd,h]
 ·rw[List.getD_eq_getElem?_getD,List.getElem?_eq_none (Nat.le_of_not_lt hd)] at h; cases h
theorem PT {st:St E} {d:Nat} (h:st.tmps.getD d .junk = .tup []):st.tmps[d]? = some (.tup []):=by
 by_cases hd:d<st.tmps.length
 ·rw[fB _ _ _ hd] at h; rw[adl hd,h]
 ·rw[List.getD_eq_getElem?_getD,List.getElem?_eq_none (Nat.le_of_not_lt hd)] at h; cases h
theorem Li {o:Oper} {ρ:Operand->DV E} {mem:Mem E} {out:Out E} (h:(eff T P env orc o ρ mem).has out) :
  ((ny T P env orc o ρ).isSome=true /\ ∃ c,ny T P env orc o ρ=some c/\c.has out)\/((ny T P env orc o ρ).isSome=false/\ny T P env orc o ρ=none/\(j4 T P env orc o ρ mem).has out):=by
 cases hc:ny T P env orc o ρ with
 | some c=>rw[IZ hc] at h; exact .inl ⟨rfl,c,rfl,h⟩
 | none=>rw[DB hc] at h; exact .inr ⟨rfl,rfl,h⟩
theorem KE {β:Type} {st:St E} {i:Nat} {K:Rec E->St E->Option β} {x:β} (h:QH T P env orc ops st i K=some x):∃ r,r.i=i/\sN T P env orc ops st r/\K r (st.app r.o.dst r.out)=some x:=by
 unfold QH at h;split at h
 ·cases h
 ·rename_i o ho
  split at h
  ·rename_i hg
   obtain ⟨out,hh,hk⟩:=Cal.GK _ _ _ h;refine ⟨⟨i,o,out,(ny T P env orc o st.ev).isSome,o.op.operands.toList.map st.ev,Gr T P env orc o st.ev st.mem,GF T P env orc o st.ev st.mem out⟩,rfl,⟨ho,?_⟩,hk⟩;rw[hg];exact ⟨Li hh,rfl,rfl,rfl⟩
  ·rename_i j w hg
   split at h
   ·cases h
   ·rename_i d hd
    split at h
    ·rename_i b hb
     have qI:=MP hb;split at h
     ·rename_i Wx
      subst Wx;rw[II qI] at h;obtain ⟨out,hh,hk⟩:=Cal.GK _ _ _ h;refine ⟨⟨i,o,out,(ny T P env orc o st.ev).isSome,o.op.operands.toList.map st.ev,Gr T P env orc o st.ev st.mem,GF T P env orc o st.ev st.mem out⟩,rfl,⟨ho,?_⟩,hk⟩;rw[hg];refine ⟨d,hd,.inl ⟨b,qI,?_⟩⟩;rw[if_pos rfl];exact ⟨Li hh,rfl,rfl,rfl⟩
     ·rename_i Wx
      have G1:(!w)=b:=by cases b <;> cases w <;> simp_all
      rw[G1,II qI] at h;refine ⟨⟨i,o,yd,true,[],none,none⟩,rfl,⟨ho,?_⟩,h⟩;rw[hg];exact ⟨d,hd,.inl ⟨b,qI,by rw[if_neg Wx]; exact ⟨rfl,rfl,rfl,rfl,rfl⟩⟩⟩
    ·rename_i hb
     refine ⟨⟨i,o,yd,true,[],none,none⟩,rfl,⟨ho,?_⟩,h⟩;rw[hg];exact ⟨d,hd,.inr ⟨PT hb,rfl,rfl,rfl,rfl,rfl⟩⟩
    ·cases h
theorem DR (f:Nat->Bool) (i:Nat):∀ (l:List Nat) (s:Nat),(l.foldl (fun s i=>if f i=true then s ||| (1 <<< i) else s) s).testBit i=true->s.testBit i=true\/f i=true
 | [],s,h => .inl h
 | x::l,s,h=>by
  rcases DR f i l _ h with h | h
  ·change (if f x=true then s ||| (1 <<< x) else s).testBit i=true at h
   split at h
   ·rename_i hx
    simp only[Nat.testBit_or,Bool.or_eq_true] at h;rcases h with h | h
    ·exact .inl h
    ·rw[Nat.one_shiftLeft,Nat.testBit_two_pow] at h
     have:x=i:=by simpa using h
     subst this;exact .inr hx
   ·exact .inl h
  ·exact .inr h
theorem GM {i j:Nat} (h:((As ops).getD j 0).testBit i=true) {a b:Oper} (ha:ops[i]? = some a) (hb:ops[j]? = some b):a.apart ops b=true:=by
 unfold As at h;have aH:j<ops.size:=(Array.getElem?_eq_some_iff.1 hb).1;have e:((List.range ops.size).map (J1 ops)).getD j 0=J1 ops j:=by simp[List.getD,aH]
 rw[e] at h;rcases DR (fun i=>apB ops i j) i _ _ h with h | h
 ·simp at h
 ·unfold apB at h
  rw[ha,hb] at h;exact h
theorem Hn {m:List Nat} {a b:Rec E} (ha:ops[a.i]? = some a.o) (hb:ops[b.i]? = some b.o) (h:KI m (As ops) ops b a=true):oK m ops b a=true:=by
 unfold KI at h;unfold oK;simp only[Bool.or_eq_true,adi] at h ⊢
 rcases h with (h | ⟨h,h1,h2⟩) | h
 ·exact .inl h
 ·refine .inr ?_
  unfold r9;rw[GM h ha hb,h1,h2];rfl
 ·exact .inr h
theorem mN {β:Type} {ms:Option (List Nat)}:∀ (l:List Nat) (acc:List (Rec E)) (st:St E) (K:St E->Option β) (x:β) (TZ:∀ a∈acc,ops[a.i]? = some a.o),uq T P env orc ops ms l acc st K=some x ->
  ∃ (rs:List (Rec E)) (st':St E),rs.map (·.i)=l/\Tr T P env orc ops rs st st'/\K st'=some x /\
   ∀ m,ms=some m->(∀ a∈acc,∀ b∈rs,oK m ops b a=true)/\rs.Pairwise fun a b=>oK m ops b a=true
 | [],acc,st,K,x,TZ,h=>⟨[],st,rfl,rfl,h,fun m _=>⟨(fun a _ b hb=>by cases hb),List.Pairwise.nil⟩⟩
 | i::l,acc,st,K,x,TZ,h=>by
  obtain ⟨r,hr,hf,hk⟩:=KE h;cases ms with
  | none =>
   simp only at hk;obtain ⟨rs,st',h1,h2,h3,h4⟩:=mN l [] _ K x (fun a ha=>by cases ha) hk;exact ⟨r::rs,st',by simp[hr,h1],⟨hf,h2⟩,h3,fun m hm=>by cases hm⟩
  | some m =>
   simp only at hk;split at hk
   ·rename_i uz
    obtain ⟨rs,st',h1,h2,h3,h4⟩:=mN l (r::acc) _ K x (fun a ha=>by
     rcases List.mem_cons.1 ha with rfl | ha
     ·exact hf.1
     ·exact TZ a ha) hk
    refine ⟨r::rs,st',by simp[hr,h1],⟨hf,h2⟩,h3,fun m' hm => ?_⟩;cases hm;obtain ⟨q1,q2⟩:=h4 m rfl;refine ⟨fun a ha b hb => ?_,?_⟩
    ·rcases List.mem_cons.1 hb with rfl | hb
     ·exact Hn (TZ a ha) hf.1 (List.all_eq_true.1 uz a ha)
     ·exact q1 a (adm _ ha) b hb
    ·exact List.pairwise_cons.2 ⟨fun b hb=>q1 r (adn ..) b hb,q2⟩
   ·cases hk
end Go.Vm
namespace Go.Vm
open Go.Lib
variable {K:Type} {E:K->Type}
variable {T:Tab E} {P:Program} {env:Env E} {orc:Orc} {ops:Array Oper}
theorem xR {ρ ρ':Operand->DV E}:∀ (ps:List (Nat×Operand)) (cs:List (DV E)),(∀ x∈ps.map (·.2),ρ x=ρ' x)->qX ρ ps cs=qX ρ' ps cs
 | [],cs,_=>rfl
 | (i,x)::r,cs,h=>by
  have hx:=h x (by simp);unfold qX;simp only[hx];split
  ·exact xR r _ fun y hy=>h y (by simp at hy ⊢; exact .inr hy)
  ·rfl
theorem xL {fs:Array Field} {ρ ρ':Operand->DV E}:∀ (ps:List (Nat×Operand)) (cs:List (DV E)),(∀ x∈ps.map (·.2),ρ x=ρ' x)->rO T P fs ρ ps cs=rO T P fs ρ' ps cs
 | [],cs,_=>rfl
 | (i,x)::r,cs,h=>by
  have hx:=h x (by simp);unfold rO;simp only[hx];split
  ·split
   ·exact xL r _ fun y hy=>h y (by simp at hy ⊢; exact .inr hy)
   ·rfl
  ·rfl
theorem tn {sz:Nat} {ρ ρ':Operand->DV E}:∀ (ps:List (Nat×Operand)) (j:Nat),(∀ x∈ps.map (·.2),ρ x=ρ' x)->kV P sz ρ j ps=kV P sz ρ' j ps
 | [],j,_=>rfl
 | (i,x)::r,j,h=>by
  have hx:=h x (by simp);unfold kV;simp only[hx,tn r (j+1) fun y hy=>h y (by simp at hy ⊢; exact .inr hy)]
theorem Ku {ρ ρ':Operand->DV E} (o:Oper) (h:∀ x∈o.op.operands,ρ x=ρ' x):vj T P orc o ρ=vj T P orc o ρ':=by
 obtain ⟨dst,op,type,pos,after,guard⟩:=o;cases op <;> simp only[Op.operands] at h <;> simp only[vj]
 case build t ps=>simp only[xL ps.toList _ (fun x hx=>h x (by simpa using hx)),xR ps.toList _ (fun x hx=>h x (by simpa using hx))]
 case slice t x lo hi mx=>cases lo <;> cases hi <;> cases mx <;> simp_all[tT]
 case makeFunc fn first caps =>
  cases fn <;> simp only[]
  rw[List.map_congr_left fun x hx=>h x (by simp; exact .inr (by simpa using hx))]
 case call c =>
  have sk:∀ x∈c.args,ρ x=ρ' x:=fun x hx=>h x (by simp[Call.operands,hx])
  obtain ⟨callee,args,ats⟩:=c;cases callee <;> simp only[]
  rw[List.map_congr_left fun x hx=>sk x (by simpa using hx)]
 all_goals (first | rfl | (simp_all; done))
theorem wv {ρ ρ':Operand->DV E} (o:Oper) (mem:Mem E) (h:∀ x∈o.op.operands,ρ x=ρ' x):j4 T P env orc o ρ mem=j4 T P env orc o ρ' mem:=by
 obtain ⟨dst,op,type,pos,after,guard⟩:=o;cases op <;> simp only[Op.operands] at h <;> simp only[j4]
 case buildSlice t n ps=>simp only[JJ,tn ps.toList 0 (fun x hx=>h x (by simpa using hx))]
 case slice t x lo hi mx=>cases lo <;> cases hi <;> cases mx <;> simp_all
 case call c =>
  have sk:∀ x∈c.args,ρ x=ρ' x:=fun x hx=>h x (by simp[Call.operands,hx])
  obtain ⟨callee,args,ats⟩:=c;cases callee with
  | value f =>
   have hf:ρ f=ρ' f:=h f (by simp[Call.operands]);have hm:(args.toList.map fun x=>(ρ x,vH orc x))=args.toList.map fun x=>(ρ' x,vH orc x):=List.map_congr_left fun x hx=>by rw[sk x (by simpa using hx)]
   have RN:args.toList.map ρ=args.toList.map ρ':=List.map_congr_left fun x hx=>sk x (by simpa using hx)
   simp only[hf,hm,RN]
  | invoke r m=>rfl
  | builtin b =>
   cases b <;> simp only[]
   case append =>
    split
    ·rename_i s x st xt h1 h2
     have:ρ s=ρ' s:=sk s (by have:s∈args.toList:=by rw[h1]; simp
                             simpa using this)
     have h3:ρ x=ρ' x:=sk x (by have:x∈args.toList:=by rw[h1]; simp
                                simpa using this)
     rw[this,h3]
    ·rfl
   case len =>
    split
    ·rename_i x t h1 h2
     have h3:ρ x=ρ' x:=sk x (by have:x∈args.toList:=by rw[h1]; simp
                                simpa using this)
     rw[h3]
    ·rfl
 all_goals (first | rfl | (simp_all; done))
end Go.Vm
namespace Go.Vm
open Go.Lib
variable {K:Type} {E:K->Type}
variable {T:Tab E} {P:Program} {env:Env E} {orc:Orc} {ops:Array Oper}
theorem NH (d:DV E):d.ix []=false:=by cases d <;> rfl
theorem oG (d:DV E):d.eV []=false:=by
 cases d <;> first | rfl | skip
 simp[DV.eV,NH]
theorem uM (d:DV E):d.kill []=d:=by unfold DV.kill; rw[oG]; rfl
theorem jL {ns:List Nat} {d:DV E} (h:d.eV ns=false):d.kill ns=d:=by unfold DV.kill; rw[h]; rfl
theorem DH {ns:List Nat} {d:DV E} (h:E6 (d.kill ns)=false):d.kill ns=d:=by
 unfold DV.kill at h ⊢
 split
 ·rename_i hh; rw[if_pos hh] at h; cases h
 ·rfl
theorem Nd {ns:List Nat} {d b:DV E} (hb:b = .tup [] \/ ∃ c,b = .bool c) (h:d.kill ns=b):d=b:=by
 unfold DV.kill at h;split at h
 ·rcases hb with rfl | ⟨c,rfl⟩ <;> cases h
 ·exact h
theorem J0 (ns:List Nat) (v:Value):(ofConst v:DV E).kill ns=ofConst v:=jL (by unfold ofConst; (repeat' split) <;> rfl)
theorem re (st:St E) (dst:Option Nat) (o:Out E):st.app dst o=St.mk (match dst with
   | some d=>(st.tmps.map (DV.kill o.kills)).set d o.v
   | none=>st.tmps.map (DV.kill o.kills)) (o.mem.getD st.mem):=by
 obtain ⟨v,ks,m⟩:=o;have hid:DV.kill ([]:List Nat)=(id:DV E->DV E):=funext uM;unfold St.app;cases ks <;> cases m <;> cases dst <;> simp[hid]
theorem Bq {st:St E} {dst:Option Nat} {o:Out E} {d:Nat} (h:dst≠some d):(st.app dst o).tmps[d]? = (st.tmps[d]?).map (DV.kill o.kills):=by
 rw[re];cases dst with
 | none=>simp
 | some i =>
  have:i≠d:=fun e=>h (by rw[e])
  simp[List.getElem?_set_ne this]
theorem OP {st:St E} {dst:Option Nat} {o:Out E} {x:Operand} (h:∀ t,x = .tmp t->dst≠some t):(st.app dst o).ev x=(st.ev x).kill o.kills:=by
 cases x with
 | tmp t =>
  simp only[St.ev,List.getD_eq_getElem?_getD,Bq (h t rfl)];cases st.tmps[t]? with
  | none=>exact (jL rfl).symm
  | some d=>rfl
 | const v=>exact (J0 _ v).symm
 | global g=>exact (jL rfl).symm
 | func f=>exact (jL rfl).symm
theorem Cd {ρ ρ':Operand->DV E} (o:Oper) (h:∀ x∈o.op.operands,ρ x=ρ' x):ny T P env orc o ρ=ny T P env orc o ρ':=by
 unfold ny;rw[Ku o h,wv (env:=fun _ _ => .bad) o [] h,wv (env:=env) o [] h]
def Looks (st st':St E) (r:Rec E):Prop:=∃ t x n off,r.o.op = .load t x/\st.ev x = .ptr n off/\look st'.mem n=look st.mem n
theorem Looks.j4 {st st':St E} {r:Rec E} (h:Looks st st' r) (he:∀ x∈r.o.op.operands,st'.ev x=st.ev x):Go.Vm.j4 T P env orc r.o st'.ev st'.mem=Go.Vm.j4 T P env orc r.o st.ev st.mem:=by
 obtain ⟨t,x,n,off,h1,h2,h3⟩:=h;have hx:st'.ev x=st.ev x:=he x (by rw[h1]; simp[Op.operands]);unfold Go.Vm.j4;rw[h1];simp only;rw[hx,h2];unfold DK;simp only[h3]
theorem Looks.src {st st':St E} {r:Rec E} (h:Looks st st' r) (he:∀ x∈r.o.op.operands,st'.ev x=st.ev x):EY r.o st'.ev st'.mem=EY r.o st.ev st.mem:=by
 obtain ⟨t,x,n,off,h1,h2,h3⟩:=h;have hx:st'.ev x=st.ev x:=he x (by rw[h1]; simp[Op.operands]);unfold EY;rw[h1];simp only;rw[hx,h2];simp only[h3]
theorem Kr {o:Oper} {ρ ρ':Operand->DV E} {mem:Mem E} (he:∀ x∈o.op.operands,ρ' x=ρ x):EY o ρ' mem=EY o ρ mem:=by
 obtain ⟨dst,op,type,pos,after,guard⟩:=o;cases op <;> simp only[EY]
 case load t x =>
  have hx:ρ' x=ρ x:=he x (by simp[Op.operands]);rw[hx]
theorem Km {o:Oper} {ρ ρ':Operand->DV E} {mem:Mem E} {out:Out E} (he:∀ x∈o.op.operands,ρ' x=ρ x):JW orc o ρ' mem out=JW orc o ρ mem out:=by
 obtain ⟨dst,op,type,pos,after,guard⟩:=o;cases op <;> simp only[JW]
 case call c =>
  obtain ⟨callee,args,ats⟩:=c;cases callee with
  | value f =>
   have hm:(args.toList.map fun x=>(ρ' x,vH orc x))=args.toList.map fun x=>(ρ x,vH orc x):=List.map_congr_left fun x hx=>by rw[he x (by simp at hx; simp[Op.operands,Call.operands,hx])]
   simp only[hm]
  | builtin b=>cases b <;> rfl
  | _=>rfl
 case store t x y =>
  have hx:ρ' x=ρ x:=he x (by simp[Op.operands]);rw[hx]
theorem wX {n m:Nat} {bx:Box E} (h:m≠n):∀ mem:Mem E,look (j8 mem n bx) m=look mem m
 | []=>rfl
 | (k,b)::r=>by
  unfold j8;split
  ·rename_i hk
   subst hk;unfold look;rw[if_neg (fun e=>h e.symm),if_neg (fun e=>h e.symm)]
  ·show (if k=m then some b else look (j8 r n bx) m)=(if k=m then some b else look r m)
   rw[wX h r]
theorem Hi (b:Box E):b.kill []=b:=by
 cases b with
 | cells t cs =>
  show Box.cells t (cs.map (DV.kill [])) = _;rw[show (DV.kill ([]:List Nat):DV E->DV E)=id from funext uM,List.map_id]
 | _=>rfl
theorem JF {t:TypeId} {n off:Nat} {v:DV E} {mem:Mem E} {out:Out E} (h:(A0 P t (.ptr n off) v mem).has out):∃ bx,out.kills=[]/\out.mem=some (j8 mem n bx):=by
 unfold A0 at h;simp only at h;split at h
 ·split at h
  ·obtain ⟨_,_,h⟩:=h
   exact ⟨_,by rw[<-h],by rw[<-h]⟩
  ·exact (ak h).elim
 ·exact (ak h).elim
theorem JZ {t:TypeId} {n off:Nat} {v:DV E} {mem:Mem E} {out:Out E} (h:(Cu T P t (.ptr n off) v mem).has out):∃ bx,out.kills=[]/\out.mem=some (j8 mem n bx):=by
 unfold Cu at h;simp only at h;split at h
 ·split at h
  ·split at h
   ·split at h
    ·split at h
     ·obtain ⟨_,_,h⟩:=h
      exact ⟨_,by rw[<-h],by rw[<-h]⟩
     ·exact (ak h).elim
    ·exact (ak h).elim
   ·split at h
    ·split at h
     ·obtain ⟨_,_,h⟩:=h
      exact ⟨_,by rw[<-h],by rw[<-h]⟩
     ·exact (ak h).elim
    ·exact (ak h).elim
  ·exact (ak h).elim
 ·exact (ak h).elim
theorem HN {st xt:TypeId} {dst:Option Nat} {s x:DV E} {mem:Mem E} {out:Out E} (h:(xn T P st xt dst s x mem).has out):∃ n bx,out.kills=[n]/\out.mem=some (je mem n bx):=by
 have chk:∀ {c:Bool} {o:Out E},(Cal.chk c (.one o)).has out->o=out:=by
  intro c o hh;unfold Cal.chk at hh;cases c with
  | true =>
   obtain ⟨_,_,hh⟩:=(show (Cal.one o).has out from hh)
   exact hh
  | false=>exact (ak hh).elim
 unfold xn at h;split at h
 ·split at h
  ·split at h
   ·split at h
    ·split at h
     ·split at h
      ·split at h
       ·have:=chk h
        exact ⟨_,_,by rw[<-this],by rw[<-this]⟩
       ·exact (ak h).elim
      ·exact (ak h).elim
     ·exact (ak h).elim
    ·have:=chk h
     exact ⟨_,_,by rw[<-this],by rw[<-this]⟩
    ·exact (ak h).elim
   ·exact (ak h).elim
  ·exact (ak h).elim
 ·exact (ak h).elim
theorem Pn {t:TypeId} {len:Nat} {parts:List (Nat×Operand)} {dst:Option Nat} {ρ:Operand->DV E} {mem m':Mem E} {out:Out E} (h:(JJ T P orc t len parts dst ρ mem).has out) (hm:out.mem=some m'):∃ n bx,out.kills=[n]/\out.mem=some (je mem n bx):=by
 unfold JJ at h;split at h
 ·split at h
  ·split at h
   ·split at h
    ·split at h
     ·split at h
      ·obtain ⟨_,_,h⟩:=h
       exact ⟨_,_,by rw[<-h],by rw[<-h]⟩
      ·obtain ⟨_,_,h⟩:=h
       rw[<-h] at hm;cases hm
     ·exact (ak h).elim
    ·exact (ak h).elim
   ·exact (ak h).elim
  ·exact (ak h).elim
 ·exact (ak h).elim
theorem oO {ks:List Nat} {n:Nat}:∀ m:Mem E,look (dI ks m) n=(look m n).map (Box.kill ks)
 | []=>rfl
 | (k,b)::r=>by
  show (if k=n then some (b.kill ks) else look (dI ks r) n)=(if k=n then some b else look r n).map (Box.kill ks);split
  ·rfl
  ·exact oO r
theorem MN (ks:List Nat) (m:Mem E):(dI ks m).length=m.length:=by unfold dI; exact List.length_map ..
theorem jD {k n:Nat} (h:n≠k):∀ m:Mem E,look (drop m k) n=look m n
 | []=>rfl
 | (j,b)::r=>by
  unfold drop;split
  ·rename_i hj
   rw[jD h r];conv=>rhs; unfold look
   rw[if_neg (by omega)]
  ·show (if j=n then some b else look (drop r k) n) = _
   conv=>rhs; unfold look
   rw[jD h r]
theorem KJ {ns:List Nat} {n:Nat}:∀ {m:Mem E},n ∉ ns->look (jO m ns) n=look m n:=by
 induction ns with
 | nil=>intro m h; rfl
 | cons k ns ih =>
  intro m h;show look (jO (drop m k) ns) n = _;rw[ih (fun hh=>h (adm _ hh)),jD (fun e=>h (by rw[e]; exact adn ..))]
theorem zy {n:Nat}:∀ {m m':Mem E},n ∉ m.map (·.1)->look (m++m') n=look m' n
 | [],m',h=>rfl
 | (k,b)::r,m',h=>by
  show (if k=n then some b else look (r++m') n) = _;rw[if_neg (fun e=>h (by simp[e])),zy (fun hh=>h (by simp at hh ⊢; exact .inr hh))]
theorem Gn {nm:Nat} {args:List (DV E×Md)} {mem m':Mem E} {res:Res E} {o:Out E} (h:uJ nm args mem res=some o) (hm:o.mem=some m') {n:Nat} (hn:n ∉ VI args mem o.kills m'):look m' n=(look mem n).map (Box.kill o.kills):=by
 unfold uJ at h;simp only at h;split at h
 ·cases h; cases hm
 ·split at h
  ·cases h
   simp only at hm hn ⊢
   cases hm;unfold VI at hn;rw[List.mem_append,not_or] at hn;obtain ⟨h1,h2⟩:=hn;rw[adf,MN,Nat.add_sub_cancel,List.take_left] at h1;rw[zy h1,oO,KJ h2]
  ·cases h
theorem tC {k:Nat} (p:Nat->Bool):∀ m:Mem E,look (m.filter fun x=>p x.1) k=if p k=true then look m k else none
 | []=>by simp[look]
 | (j,b)::r=>by
  have ih:=tC (k:=k) p r;by_cases hj:p j=true
  ·rw[List.filter_cons_of_pos (by simpa using hj)]
   show (if j=k then some b else look (r.filter fun x=>p x.1) k)=if p k=true then (if j=k then some b else look r k) else none
   rw[ih];by_cases hk:j=k
   ·subst hk; simp[hj]
   ·simp[hk]
  ·rw[List.filter_cons_of_neg (by simpa using hj),ih]
   show _=if p k=true then (if j=k then some b else look r k) else none
   by_cases hk:j=k
   ·subst hk; simp[hj]
   ·simp[hk]
theorem HS {k:Nat}:∀ (m m':Mem E),look (m++m') k=(look m k).or (look m' k)
 | [],m'=>rfl
 | (j,b)::r,m'=>by
  show (if j=k then some b else look (r++m') k)=(if j=k then some b else look r k).or (look m' k);rw[HS r m'];by_cases hk:j=k <;> simp[hk]
theorem MX {m:Mem E} {n k:Nat} {bx:Box E} (h:k≠n):look (ja m n bx) k=(look m k).map (Box.kill [n]):=by
 unfold ja;rw[HS,tC (fun x=>decide (x<n))];show Option.or _ (if n=k then some bx else look ((dI [n] (drop m n)).filter fun x=>decide (n<x.1)) k) = _;have iv:¬ n=k:=fun e=>h e.symm
 rw[if_neg iv,tC (fun x=>decide (n<x)),oO,jD h];by_cases hk:k<n
 ·have:¬ n<k:=by omega
  simp[hk,this]
 ·have:n<k:=by omega
  simp[hk,this]
theorem Ig {ks:List Nat} {d:DV E} (h:d.plain=true):d.eV ks=false:=by
 cases d <;> simp_all[DV.plain,DV.eV,DV.ix]
theorem Ev (a b:List Nat) (d:DV E):(d.kill a).kill b=(d.kill b).kill a:=by
 have hj:∀ ks:List Nat,(DV.junk:DV E).kill ks = .junk:=fun ks=>by unfold DV.kill; split <;> rfl
 by_cases ha:d.eV a=true
 ·have e1:d.kill a = .junk:=by unfold DV.kill; rw[if_pos ha]
  rw[e1,hj];by_cases hb:d.eV b=true
  ·have e2:d.kill b = .junk:=by unfold DV.kill; rw[if_pos hb]
   rw[e2,hj]
  ·have e2:d.kill b=d:=jL (by simpa using hb)
   rw[e2,e1]
 ·have e1:d.kill a=d:=jL (by simpa using ha)
  rw[e1];by_cases hb:d.eV b=true
  ·have e2:d.kill b = .junk:=by unfold DV.kill; rw[if_pos hb]
   rw[e2,hj]
  ·have e2:d.kill b=d:=jL (by simpa using hb)
   rw[e2,e1]
theorem GO (a b:List Nat) (x:Box E):(x.kill a).kill b=(x.kill b).kill a:=by
 cases x with
 | cells t cs =>
  show Box.cells t ((cs.map (DV.kill a)).map (DV.kill b))=Box.cells t ((cs.map (DV.kill b)).map (DV.kill a));rw[List.map_map,List.map_map];congr 1;exact List.map_congr_left fun d _=>Ev a b d
 | _=>rfl
theorem pL (n:Nat):∀ m:Mem E,drop m n=m.filter fun x=>decide (x.1≠n)
 | []=>rfl
 | (k,b)::r=>by
  unfold drop;by_cases h:k=n
  ·rw[if_pos h,pL n r,List.filter_cons_of_neg (by simp[h])]
  ·rw[if_neg h,pL n r,List.filter_cons_of_pos (by simp[h])]
theorem jN (ks:List Nat) (p:Nat->Bool) (m:Mem E):dI ks (m.filter fun x=>p x.1)=(dI ks m).filter fun x=>p x.1:=by
 unfold dI;rw[List.filter_map];rfl
theorem D9 {m:Mem E} {a b:Nat} {x y:Box E} (hab:a<b) (hx:x.kill [b]=x) (hy:y.kill [a]=y):ja (ja m a x) b y=ja (ja m b y) a x:=by
 have e0:dI [b] (dI [a] m)=dI [a] (dI [b] m):=by
  unfold dI;rw[List.map_map,List.map_map];exact List.map_congr_left fun z _=>by simp[GO]
 have cons_k:∀ (ks:List Nat) (n:Nat) (z:Box E) (l:Mem E),dI ks ((n,z)::l)=(n,z.kill ks)::dI ks l:=fun _ _ _ _=>rfl
 have app_k:∀ (ks:List Nat) (l l':Mem E),dI ks (l++l')=dI ks l++dI ks l':=fun _ _ _=>List.map_append ..
 have fl:∀ (p q:Nat->Bool) (l:Mem E),(l.filter fun z=>p z.1).filter (fun z=>q z.1)=l.filter fun z=>p z.1&&q z.1:=fun p q l=>by
  rw[List.filter_filter];exact List.filter_congr fun z _=>Bool.and_comm ..
 have key:∀ (ks:List Nat) (n:Nat) (z:Box E),ja m n z=((dI [n] m).filter fun w=>decide (w.1<n))++(n,z)::((dI [n] m).filter fun w=>decide (n<w.1)):=by
  intro ks n z;unfold ja;rw[pL,jN [n] (fun k=>decide (k≠n)),fl (fun k=>decide (k≠n)) (fun k=>decide (k<n)),fl (fun k=>decide (k≠n)) (fun k=>decide (n<k))];congr 1
  ·refine List.filter_congr fun w _ => ?_
   rw[Bool.eq_iff_iff]; simp; omega
  ·congr 1
   refine List.filter_congr fun w _ => ?_
   rw[Bool.eq_iff_iff]; simp; omega
 have keyG:∀ (M:Mem E) (n:Nat) (z:Box E),ja M n z=((dI [n] M).filter fun w=>decide (w.1<n))++(n,z)::((dI [n] M).filter fun w=>decide (n<w.1)):=by
  intro M n z;unfold ja;rw[pL,jN [n] (fun k=>decide (k≠n)),fl (fun k=>decide (k≠n)) (fun k=>decide (k<n)),fl (fun k=>decide (k≠n)) (fun k=>decide (n<k))];congr 1
  ·refine List.filter_congr fun w _ => ?_
   rw[Bool.eq_iff_iff]; simp; omega
  ·congr 1
   refine List.filter_congr fun w _ => ?_
   rw[Bool.eq_iff_iff]; simp; omega
 rw[keyG (ja m a x) b y,keyG (ja m b y) a x,keyG m a x,keyG m b y];simp only[app_k,cons_k,hx,hy,jN [b] (fun k=>decide (k<a)),jN [b] (fun k=>decide (a<k)),jN [a] (fun k=>decide (k<b)),jN [a] (fun k=>decide (b<k)),List.filter_append];rw[e0];generalize dI [a] (dI [b] m)=L;have c1:decide (a<b)=true:=adg hab;have c2:decide (b<a)=false:=adh (by omega);rw[List.filter_cons_of_pos (by simpa using c1),List.filter_cons_of_neg (by simpa using c2),List.filter_cons_of_neg (by simpa using c2),List.filter_cons_of_pos (by simpa using c1)];rw[fl (fun k=>decide (k<a)) (fun k=>decide (k<b)),fl (fun k=>decide (a<k)) (fun k=>decide (k<b)),fl (fun k=>decide (k<a)) (fun k=>decide (b<k)),fl (fun k=>decide (a<k)) (fun k=>decide (b<k)),
  fl (fun k=>decide (k<b)) (fun k=>decide (k<a)),fl (fun k=>decide (b<k)) (fun k=>decide (k<a)),fl (fun k=>decide (k<b)) (fun k=>decide (a<k)),fl (fun k=>decide (b<k)) (fun k=>decide (a<k))]
 have f1:(L.filter fun z=>decide (z.1<a)&&decide (z.1<b))=L.filter fun z=>decide (z.1<a):=List.filter_congr fun z _=>by rw[Bool.eq_iff_iff]; simp; omega
 have f2:(L.filter fun z=>decide (z.1<b)&&decide (z.1<a))=L.filter fun z=>decide (z.1<a):=List.filter_congr fun z _=>by rw[Bool.eq_iff_iff]; simp; omega
 have f3:(L.filter fun z=>decide (z.1<a)&&decide (b<z.1))=[]:=List.filter_eq_nil_iff.2 fun z _=>by simp; omega
 have f4:(L.filter fun z=>decide (b<z.1)&&decide (z.1<a))=[]:=List.filter_eq_nil_iff.2 fun z _=>by simp; omega
 have f5:(L.filter fun z=>decide (a<z.1)&&decide (b<z.1))=L.filter fun z=>decide (b<z.1):=List.filter_congr fun z _=>by rw[Bool.eq_iff_iff]; simp; omega
 have f6:(L.filter fun z=>decide (b<z.1)&&decide (a<z.1))=L.filter fun z=>decide (b<z.1):=List.filter_congr fun z _=>by rw[Bool.eq_iff_iff]; simp; omega
 have f7:(L.filter fun z=>decide (z.1<b)&&decide (a<z.1))=L.filter fun z=>decide (a<z.1)&&decide (z.1<b):=List.filter_congr fun z _=>Bool.and_comm ..
 rw[f1,f2,f3,f4,f5,f6,f7];simp
theorem D0 {o:Oper} {ρ:Operand->DV E} {mem:Mem E} {out:Out E} {t:TypeId} (o9:o.op = .alloc t) (h:(j4 T P env orc o ρ mem).has out) :
  ∃ d bx,o.dst=some d/\(∀ ks,Box.kill ks bx=bx)/\out=⟨.ptr (64*d) 0,[64*d],some (ja mem (64*d) bx)⟩ /\ ∀ (ρ':Operand->DV E) (mem':Mem E),(j4 T P env orc o ρ' mem').has ⟨.ptr (64*d) 0,[64*d],some (ja mem' (64*d) bx)⟩:=by
 have uz:∀ (ρ':Operand->DV E) (mem':Mem E),j4 T P env orc o ρ' mem'=match zeroOf P t with
   | some z=>(match xH T P t (lN z).cells with
    | some (n,⟨k,l⟩)=>we o.dst t n k l mem'
    | none=>oB o.dst t (lN z).cells mem')
   | none => .bad:=by
  intro ρ' mem';unfold j4;rw[o9] <;> rfl
 rw[uz] at h;split at h
 ·rename_i z hz
  split at h
  ·rename_i n k l hm
   have UL:∀ (ρ':Operand->DV E) (mem':Mem E),j4 T P env orc o ρ' mem'=we o.dst t n k l mem':=fun ρ' mem'=>by rw[uz,hz]; simp only[hm]
   simp only[UL];unfold we at h ⊢
   split at h
   ·rename_i d hd
    obtain ⟨_,_,h⟩:=h;exact ⟨d,_,hd,fun _=>rfl,h.symm,fun ρ' mem'=>⟨(),rfl,rfl⟩⟩
   ·exact (ak h).elim
  ·rename_i hm
   have UL:∀ (ρ':Operand->DV E) (mem':Mem E),j4 T P env orc o ρ' mem'=oB o.dst t (lN z).cells mem':=fun ρ' mem'=>by rw[uz,hz]; simp only[hm]
   simp only[UL];unfold oB at h ⊢
   split at h
   ·rename_i d hd
    split at h
    ·rename_i hp
     obtain ⟨_,_,h⟩:=h;refine ⟨d,_,hd,fun ks => ?_,h.symm,fun ρ' mem' => ?_⟩
     ·show Box.cells t ((lN z).cells.map (DV.kill ks)) = _
      congr 1;refine (List.map_congr_left fun c hc => ?_).trans (List.map_id _);exact jL (Ig (List.all_eq_true.1 hp c hc))
     ·rw[if_pos hp]
      exact ⟨(),rfl,rfl⟩
    ·exact (ak h).elim
   ·exact (ak h).elim
 ·exact (ak h).elim
theorem EN {r:Rec E} {st:St E} {ts:List Nat} (ha:act T P env orc st r) (ht:r.tch=some ts) {n:Nat} (hn:n ∉ ts):look (st.app r.o.dst r.out).mem n=(look st.mem n).map (Box.kill r.out.kills):=by
 obtain ⟨h1,_,_,h4⟩:=ha;rw[ht] at h4;unfold GF at h4;rcases h1 with ⟨hf,c,hc,ho⟩ | ⟨hf,hc,ho⟩
 ·rw[hc] at h4; cases h4
 ·rw[hc] at h4
  simp only at h4;unfold JW at h4;split at h4
  ·rename_i f args ats o9
   split at h4
   ·rename_i m' Ac
    cases h4;unfold j4 at ho;rw[o9] at ho;simp only at ho;have qH:(st.app r.o.dst r.out).mem=m':=by rw[re,Ac]; rfl
    rw[qH];split at ho
    ·exfalso
     unfold L9 at ho;split at ho
     ·simp only at ho
      split at ho
      ·obtain ⟨x,_,hx⟩:=ho
       simp only at hx;split at hx
       ·have:=Option.some.inj hx
        rw[<-this] at Ac;cases Ac
       ·cases hx
      ·exact (ak ho).elim
     ·exact (ak ho).elim
    unfold Bh at ho;split at ho
    ·simp only at ho
     split at ho
     ·obtain ⟨x,hx,pw⟩:=ho
      exact Gn pw Ac hn
     ·exact (ak ho).elim
    ·exact (ak ho).elim
   ·cases h4
  ·rename_i args ats o9
   cases h4;unfold j4 at ho;rw[o9] at ho;simp only at ho;obtain ⟨d,bx,hk,hm⟩:∃ d bx,r.out.kills=[d]/\r.out.mem=some (je st.mem d bx):=by
    split at ho
    ·exact HN ho
    ·exact (ak ho).elim
   have qH:(st.app r.o.dst r.out).mem=je st.mem d bx:=by rw[re,hm]; rfl
   rw[hk,List.mem_singleton] at hn;rw[qH,hk];show (if d=n then some bx else look (dI [d] (drop st.mem d)) n) = _;rw[if_neg (fun e=>hn e.symm),oO,jD hn]
  ·rename_i t o9
   cases h4;obtain ⟨d,bx,_,_,pw,_⟩:=D0 o9 ho;have qH:(st.app r.o.dst r.out).mem=ja st.mem (64*d) bx:=by rw[re,pw]; rfl
   have hkl:r.out.kills=[64*d]:=by rw[pw]
   rw[hkl,List.mem_singleton] at hn;rw[qH,hkl,MX hn]
  ·rename_i t len parts o9
   split at h4
   ·rename_i m' Ac
    cases h4;unfold j4 at ho;rw[o9] at ho;simp only at ho;obtain ⟨d,bx,hk,hm⟩:=Pn ho Ac;have qH:(st.app r.o.dst r.out).mem=je st.mem d bx:=by rw[re,hm]; rfl
    rw[hk,List.mem_singleton] at hn;rw[qH,hk];show (if d=n then some bx else look (dI [d] (drop st.mem d)) n) = _;rw[if_neg (fun e=>hn e.symm),oO,jD hn]
   ·cases h4
  ·rename_i t x y o9
   split at h4
   ·rename_i m off Xa
    cases h4;unfold j4 at ho;rw[o9] at ho;simp only at ho;obtain ⟨bx,hk,hm⟩:∃ bx,r.out.kills=[]/\r.out.mem=some (j8 st.mem m bx):=by
     split at ho
     ·rw[Xa] at ho
      split at ho
      ·rename_i hp; cases hp
      ·split at ho
       ·exact JZ ho
       ·exact JF ho
     ·exact (ak ho).elim
    have qH:(st.app r.o.dst r.out).mem=j8 st.mem m bx:=by rw[re,hm]; rfl
    rw[List.mem_singleton] at hn;rw[qH,hk,wX hn];cases look st.mem n with
    | none=>rfl
    | some b=>show some b=some (b.kill []); rw[Hi]
   ·cases h4
  ·cases h4
theorem MH {ks:List Nat} {b:Box E} (h:b.O7 ks=true):b.kill ks=b:=by
 cases b with
 | cells t cs =>
  unfold Box.O7 at h;show Box.cells t (cs.map (DV.kill ks))=Box.cells t cs;congr 1;rw[List.all_eq_true] at h;refine (List.map_congr_left fun d hd => ?_).trans (List.map_id _);have:=h d hd;simp only[adi,Bool.not_eq_true'] at this;exact jL this.1
 | _=>rfl
theorem M0 {ks:List Nat} {b b0:Box E} (h:b.O7 ks=true) (hk:b0.kill ks=b):b0=b:=by
 cases b0 with
 | cells t cs =>
  change Box.cells t (cs.map (DV.kill ks))=b at hk;subst hk;unfold Box.O7 at h;simp only[List.all_eq_true] at h;congr 1;refine ((List.map_congr_left fun d hd => ?_).trans (List.map_id _)).symm;have:=h _ (List.mem_map.2 ⟨d,hd,rfl⟩);simp only[adi,Bool.not_eq_true'] at this;exact DH this.2
 | _=>exact hk
theorem Ht {r:Rec E} {st:St E} {n:Nat} {b:Box E} (ha:act T P env orc st r) (hs:r.src=some (n,b)):r.free=false /\ ∃ t x off,r.o.op = .load t x/\st.ev x = .ptr n off/\look st.mem n=some b:=by
 obtain ⟨h1,_,h3,_⟩:=ha;rw[hs] at h3;unfold Gr at h3;rcases h1 with ⟨hf,c,hc,ho⟩ | ⟨hf,hc,ho⟩
 ·rw[hc] at h3; cases h3
 ·rw[hc] at h3
  simp only at h3;refine ⟨hf,?_⟩;unfold EY at h3;split at h3
  ·rename_i t x o9
   split at h3
   ·rename_i m off Xa
    split at h3
    ·rename_i b' hl
     cases h3;exact ⟨t,x,off,o9,Xa,hl⟩
    ·cases h3
   ·cases h3
  ·cases h3
theorem wT {r:Rec E} {st:St E} (h:sN T P env orc ops st r):act T P env orc st r\/(r.src=none/\r.tch=none):=by
 obtain ⟨_,h⟩:=h;split at h
 ·exact .inl h
 ·obtain ⟨d,_,h⟩:=h
  rcases h with ⟨b,_,h⟩ | ⟨_,_,_,_,h⟩
  ·split at h
   ·exact .inl h
   ·exact .inr h.2.2.2
  ·exact .inr h
theorem BS {st st':St E} {r:Rec E} (he:r.reads=r.o.op.operands.toList.map st.ev -> ∀ x∈r.o.op.operands,st'.ev x=st.ev x)
  (hg:∀ j w d b,r.o.guard=some (j,w)->Cr ops j=some d->(b = .tup [] \/ ∃ c,b = .bool c)->st.tmps[d]? = some b->st'.tmps[d]? = some b) (hm:r.free=true\/st'.mem=st.mem\/Looks st st' r)
  (h:sN T P env orc ops st r):sN T P env orc ops st' r:=by
 have Yf:act T P env orc st r->act T P env orc st' r:=by
  rintro ⟨h1,h2,h3,h4⟩
  have he:=he h2;have e1:ny T P env orc r.o st'.ev=ny T P env orc r.o st.ev:=Cd r.o he;refine ⟨?_,by rw[h2]; exact List.map_congr_left fun x hx=>(he x (by simpa using hx)).symm,?_,?_⟩
  ·rcases h1 with ⟨hf,c,hc,ho⟩ | ⟨hf,hc,ho⟩
   ·exact .inl ⟨hf,c,by rw[e1]; exact hc,ho⟩
   ·refine .inr ⟨hf,by rw[e1]; exact hc,?_⟩
    rcases hm.resolve_left (by rw[hf]; simp) with hm | hm
    ·rw[hm,wv r.o _ he]; exact ho
    ·rw[hm.j4 he]; exact ho
  ·rw[h3]
   unfold Gr;rw[e1];rcases h1 with ⟨hf,c,hc,ho⟩ | ⟨hf,hc,ho⟩
   ·rw[hc]
   ·rw[hc]
    simp only;rcases hm.resolve_left (by rw[hf]; simp) with hm | hm
    ·rw[hm,Kr he]
    ·exact (hm.src he).symm
  ·rw[h4]
   unfold GF;rw[e1];rcases h1 with ⟨hf,c,hc,ho⟩ | ⟨hf,hc,ho⟩
   ·rw[hc]
   ·rw[hc]
    simp only;rcases hm.resolve_left (by rw[hf]; simp) with hm | hm
    ·rw[hm,Km he]
    ·obtain ⟨t,x,n,off,h5,_⟩:=hm
     unfold JW;rw[h5]
 obtain ⟨h0,h⟩:=h;refine ⟨h0,?_⟩;split at h
 ·exact Yf h
 ·rename_i j w hjw
  obtain ⟨d,h1,h⟩:=h;refine ⟨d,h1,?_⟩;rcases h with ⟨b,h2,h3⟩ | ⟨h2,h3⟩
  ·refine .inl ⟨b,hg j w d _ hjw h1 (.inr ⟨b,rfl⟩) h2,?_⟩
   split
   ·rename_i hb; rw[if_pos hb] at h3; exact Yf h3
   ·rename_i hb; rw[if_neg hb] at h3; exact h3
  ·exact .inr ⟨hg j w d _ hjw h1 (.inl rfl) h2,h3⟩
theorem HT {o:Oper} {t:Nat} (h:Operand.tmp t∈o.op.operands):t∈o.looksAt ops :=
 List.mem_append_left _ (List.mem_filterMap.2 ⟨.tmp t,by simpa using h,rfl⟩)
theorem zo {o:Oper} {j d:Nat} {w:Bool} (hg:o.guard=some (j,w)) (hd:Cr ops j=some d):d∈o.looksAt ops:=by
 refine List.mem_append_right _ ?_;rw[hg];simp only;unfold Cr at hd;rw[hd];simp
theorem s9 {st:St E} {r:Rec E} {dst:Option Nat} {o:Out E} (hl:∀ t∈r.o.looksAt ops,dst≠some t) (hr:∀ d∈r.reads,d.eV o.kills=false) (hm:r.free=true\/o.mem=none\/Looks st (st.app dst o) r)
  (h:sN T P env orc ops st r):sN T P env orc ops (st.app dst o) r:=by
 refine BS (fun ZP x hx => ?_) (fun j w d b hg hd ZQ hb => ?_) ?_ h
 ·rw[OP fun t ht=>hl t (HT (ht ▸ hx))]
  exact jL (hr _ (by rw[ZP]; exact List.mem_map.2 ⟨x,by simpa using hx,rfl⟩))
 ·rw[Bq (hl d (zo hg hd)),hb]
  rcases ZQ with rfl | ⟨c,rfl⟩ <;> rfl
 ·exact hm.imp_right fun hm=>hm.imp_left fun hm=>by rw[re,hm]; rfl
theorem qv {st:St E} {r:Rec E} {dst:Option Nat} {o:Out E} (hl:∀ t∈r.o.looksAt ops,dst≠some t) (hr:o.kills=[] \/ ∀ d∈r.reads,E6 d=false) (hm:r.free=true\/o.mem=none\/Looks (st.app dst o) st r)
  (h:sN T P env orc ops (st.app dst o) r):sN T P env orc ops st r:=by
 refine BS (fun ZP x hx => ?_) (fun j w d b hg hd ZQ hb => ?_) ?_ h
 ·have Xa:=OP (st:=st) (o:=o) (x:=x) (dst:=dst) fun t ht=>hl t (HT (ht ▸ hx))
  rw[Xa];rcases hr with hr | hr
  ·rw[hr,uM]
  ·refine (DH ?_).symm
   rw[<-Xa];exact hr _ (by rw[ZP]; exact List.mem_map.2 ⟨x,by simpa using hx,rfl⟩)
 ·rw[Bq (hl d (zo hg hd))] at hb
  obtain ⟨y,hy,hyb⟩:=Option.map_eq_some_iff.1 hb;rw[hy,Nd ZQ hyb]
 ·exact hm.imp_right fun hm=>hm.imp_left fun hm=>by rw[re,hm]; rfl
theorem um (st:St E) (da db:Option Nat) (oa ob:Out E) (hd:∀ d,da=some d->db≠some d) (hk:oa.kills=[]) (hm:oa.mem=none) (hv:oa.v.eV ob.kills=false) :
  (st.app da oa).app db ob=(st.app db ob).app da oa:=by
 simp only[re,hk,hm];have hid:DV.kill ([]:List Nat)=(id:DV E->DV E):=funext uM;simp only[hid,List.map_id,Option.getD_none,St.mk.injEq,and_true];cases da with
 | none=>cases db <;> simp
 | some i =>
  cases db with
  | none=>simp[List.map_set,jL hv]
  | some j =>
   have:i≠j:=fun e=>hd i rfl (by rw[e])
   simp only[List.map_set,jL hv];rw[List.set_comm _ _ this]
theorem pure_spec {r:Rec E} (h:r.pure=true):r.out.kills=[]/\r.out.mem=none:=by
 unfold Rec.pure at h;simpa using h
def Rec.C7 (r r':Rec E):Prop:=∃ m:Option (Mem E),m.isNone=r.out.mem.isNone/\r'={ r with out:={ r.out with mem:=m } }
theorem Rec.qh (r:Rec E):r.C7 r:=⟨r.out.mem,rfl,rfl⟩
theorem Hf {ms:List Nat} {a a' b b':Rec E} (ha:a.C7 a') (hb:b.C7 b'):oK ms ops b' a'=oK ms ops b a:=by
 obtain ⟨m,hm,rfl⟩:=ha;obtain ⟨m',Ac,rfl⟩:=hb;simp only[oK,r9,Rec.pure,Rec.calm,Rec.past,hm,Ac]
theorem Kb {a a' b b':Rec E} (ha:a.C7 a') (hb:b.C7 b'):r9 ops a' b'=r9 ops a b:=by
 obtain ⟨m,hm,rfl⟩:=ha;obtain ⟨m',Ac,rfl⟩:=hb;simp only[r9,Rec.pure,Rec.calm,Rec.past,hm,Ac]
def lV:List (Rec E)->List (Rec E)->Prop
 | [],[]=>True
 | a::l,b::m=>a.C7 b/\lV l m
 | _,_=>False
theorem lV.refl:∀ l:List (Rec E),lV l l
 | []=>trivial
 | a::l=>⟨a.qh,lV.refl l⟩
theorem lV.is:∀ {l m:List (Rec E)},lV l m->m.map (·.i)=l.map (·.i)
 | [],[],_=>rfl
 | a::l,b::m,h=>by
  obtain ⟨⟨x,_,rfl⟩,h2⟩:=h;rw[List.map_cons,List.map_cons,lV.is h2]
 | [],_ :: _,h=>h.elim
 | _ :: _,[],h=>h.elim
theorem lV.of {l m:List (Rec E)} (h:lV l m) {x:Rec E} (hx:x∈m):∃ y∈l,y.C7 x:=by
 induction l generalizing m with
 | nil =>
  cases m with
  | nil=>cases hx
  | cons b m=>exact h.elim
 | cons a l ih =>
  cases m with
  | nil=>exact h.elim
  | cons b m =>
   rcases List.mem_cons.1 hx with rfl | hx
   ·exact ⟨a,adn ..,h.1⟩
   ·obtain ⟨y,hy,hl⟩:=ih h.2 hx
    exact ⟨y,adm _ hy,hl⟩
theorem lV.pairwise {ms:List Nat}:∀ {l m:List (Rec E)},lV l m->(l.Pairwise fun x y=>oK ms ops y x=true)->m.Pairwise fun x y=>oK ms ops y x=true
 | [],[],_,_=>List.Pairwise.nil
 | a::l,b::m,h,hp=>by
  obtain ⟨h1,h2⟩:=List.pairwise_cons.1 hp;refine List.pairwise_cons.2 ⟨fun y hy => ?_,lV.pairwise h.2 h2⟩;obtain ⟨y0,hy0,hl⟩:=h.2.of hy;rw[Hf h.1 hl];exact h1 y0 hy0
 | [],_ :: _,h,_=>h.elim
 | _ :: _,[],h,_=>h.elim
theorem lV.append:∀ {l m:List (Rec E)} (post:List (Rec E)),lV l m->lV (l++post) (m++post)
 | [],[],post,_=>lV.refl post
 | a::l,b::m,post,h=>⟨h.1,lV.append post h.2⟩
 | [],_ :: _,_,h=>h.elim
 | _ :: _,[],_,h=>h.elim
theorem Eo {st:St E} {r:Rec E} (hg:Ao r.o=true) (h:sN T P env orc ops st r):∃ d bx,r.o.dst=some d/\(∀ ks,Box.kill ks bx=bx)/\r.out=⟨.ptr (64*d) 0,[64*d],some (ja st.mem (64*d) bx)⟩ /\
  ∀ st':St E,sN T P env orc ops st' { r with out:=⟨.ptr (64*d) 0,[64*d],some (ja st'.mem (64*d) bx)⟩ }:=by
 unfold Ao at hg;rw[adi] at hg;obtain ⟨hgu,o9⟩:=hg;obtain ⟨h0,h⟩:=h;have Ab:r.o.guard=none:=by simpa using hgu
 rw[Ab] at h;simp only at h;obtain ⟨t,o9⟩:∃ t,r.o.op = .alloc t:=by
  split at o9
  ·rename_i t ht; exact ⟨t,ht⟩
  ·cases o9
 have UM:r.o.op.operands = #[]:=by rw[o9]; rfl
 obtain ⟨h1,h2,h3,h4⟩:=h;have W5:∀ ρ ρ':Operand->DV E,ny T P env orc r.o ρ=ny T P env orc r.o ρ':=fun ρ ρ'=>Cd r.o fun x hx=>by rw[UM] at hx; simp at hx
 rcases h1 with ⟨_,c,hc,ho⟩ | ⟨hf,hc,ho⟩
 ·exfalso
  unfold ny at hc;have e1:vj T P orc r.o st.ev=none:=by unfold vj; rw[o9]
  have e2:isLit orc r.o=false:=by unfold isLit; rw[o9]
  have e3:wV orc r.o=false:=by unfold wV; rw[o9]
  rw[e1,e2,e3] at hc;cases hc
 ·obtain ⟨d,bx,hd,hk,pw,uz⟩:=D0 o9 ho
  refine ⟨d,bx,hd,hk,pw,fun st'=>⟨h0,?_⟩⟩;show match r.o.guard with
   | none => _
   | some (j,w) => _
  rw[Ab];refine ⟨.inr ⟨hf,(W5 _ _).trans hc,uz _ _⟩,?_,?_,?_⟩
  ·show r.reads=r.o.op.operands.toList.map st'.ev
   rw[h2,UM]; rfl
  ·show r.src=Gr T P env orc r.o st'.ev st'.mem
   rw[h3];unfold Gr EY;rw[W5 st'.ev st.ev,hc,o9]
  ·show r.tch=GF T P env orc r.o st'.ev st'.mem _
   rw[h4];unfold GF JW;rw[W5 st'.ev st.ev,hc,o9,pw]
theorem swap {st:St E} {a b:Rec E} (hc:r9 ops a b=true) (ha:sN T P env orc ops st a) (hb:sN T P env orc ops (st.app a.o.dst a.out) b) :
  ∃ a' b',a.C7 a'/\b.C7 b'/\sN T P env orc ops st b'/\sN T P env orc ops (st.app b.o.dst b'.out) a'/\(st.app a.o.dst a.out).app b.o.dst b.out=(st.app b.o.dst b'.out).app a.o.dst a'.out:=by
 unfold r9 at hc;simp only[adi,Bool.or_eq_true] at hc;obtain ⟨hap,hc⟩:=hc;rcases hc with hc | ⟨xa,xb⟩
 case inr =>
  obtain ⟨l1,l2,l3⟩:=Oper.apart_spec hap;obtain ⟨da,ba,ZR,Wy,YX,hfa⟩:=Eo xa ha;obtain ⟨db,bb,hdb,vq,Yg,hfb⟩:=Eo xb hb;have iv:da≠db:=fun e=>l2 da ZR (by rw[hdb,e])
  rw[ZR,YX] at Yg;refine ⟨_,_,⟨some (ja (st.app b.o.dst ⟨.ptr (64*db) 0,[64*db],some (ja st.mem (64*db) bb)⟩).mem (64*da) ba),by rw[YX]; rfl,rfl⟩,⟨some (ja st.mem (64*db) bb),by rw[Yg]; rfl,rfl⟩,?_,?_,?_⟩
  ·have:=hfb st
   rw[Yg];exact this
  ·rw[Yg,YX]
   exact hfa _
  ·rw[YX,Yg,ZR,hdb]
   have m1:(st.app (some da) ⟨.ptr (64*da) 0,[64*da],some (ja st.mem (64*da) ba)⟩).mem=ja st.mem (64*da) ba:=rfl;have m2:(st.app (some db) ⟨.ptr (64*db) 0,[64*db],some (ja st.mem (64*db) bb)⟩).mem=ja st.mem (64*db) bb:=rfl;have qH:ja (ja st.mem (64*da) ba) (64*db) bb=ja (ja st.mem (64*db) bb) (64*da) ba:=by
    rcases Nat.lt_or_gt_of_ne iv with h | h
    ·exact D9 (by omega) (Wy _) (vq _)
    ·exact (D9 (by omega) (vq _) (Wy _)).symm
   have tp:∀ (n k:Nat),n≠k->(DV.ptr n 0:DV E).kill [k] = .ptr n 0:=by
    intro n k hnk;refine jL ?_;simp[DV.eV,DV.ix,hnk]
   have n1:64*da≠64*db:=fun e=>iv (Nat.eq_of_mul_eq_mul_left (by decide) e)
   have t1:((st.tmps.map (DV.kill [64*da])).set da (.ptr (64*da) 0)).map (DV.kill [64*db])=((st.tmps.map (DV.kill [64*da])).map (DV.kill [64*db])).set da (.ptr (64*da) 0):=by rw[List.map_set,tp _ _ n1]
   have t2:((st.tmps.map (DV.kill [64*db])).set db (.ptr (64*db) 0)).map (DV.kill [64*da])=((st.tmps.map (DV.kill [64*db])).map (DV.kill [64*da])).set db (.ptr (64*db) 0):=by rw[List.map_set,tp _ _ (Ne.symm n1)]
   have t3:(st.tmps.map (DV.kill [64*da])).map (DV.kill [64*db])=(st.tmps.map (DV.kill [64*db])).map (DV.kill [64*da]):=by
    rw[List.map_map,List.map_map];exact List.map_congr_left fun d _=>Ev _ _ d
   show (St.mk ((((st.tmps.map (DV.kill [64*da])).set da (.ptr (64*da) 0)).map (DV.kill [64*db])).set db (.ptr (64*db) 0)) (ja (ja st.mem (64*da) ba) (64*db) bb):St E)=St.mk ((((st.tmps.map (DV.kill [64*db])).set db (.ptr (64*db) 0)).map (DV.kill [64*da])).set da (.ptr (64*da) 0)) (ja (ja st.mem (64*db) bb) (64*da) ba);rw[qH,t1,t2,t3,List.set_comm _ _ iv]
 refine ⟨a,b,a.qh,b.qh,?_⟩;obtain ⟨l1,l2,l3⟩:=Oper.apart_spec hap;have Wz:∀ t∈a.o.looksAt ops,b.o.dst≠some t:=fun t ht e=>l3 t e ht
 have Yh:∀ t∈b.o.looksAt ops,a.o.dst≠some t:=fun t ht e=>l1 t e ht
 rcases hc with (((⟨pa,pb⟩ | ⟨fa,ca⟩) | ⟨fb,cb⟩) | hp) | hp
 ·obtain ⟨ka,ma⟩:=pure_spec pa
  obtain ⟨kb,mb⟩:=pure_spec pb;exact ⟨qv Yh (.inl ka) (.inr (.inl ma)) hb,s9 Wz (fun d _=>by rw[kb]; exact oG d) (.inr (.inl mb)) ha,um _ _ _ _ _ l2 ka ma (by rw[kb]; exact oG _)⟩
 ·unfold Rec.calm at ca
  simp only[adi,Bool.not_eq_true',List.all_eq_true] at ca;obtain ⟨⟨pa,va⟩,ra⟩:=ca;obtain ⟨ka,ma⟩:=pure_spec pa;exact ⟨qv Yh (.inl ka) (.inr (.inl ma)) hb,s9 Wz (fun d hd=>(ra d hd).1) (.inl fa) ha,um _ _ _ _ _ l2 ka ma va⟩
 ·unfold Rec.calm at cb
  simp only[adi,Bool.not_eq_true',List.all_eq_true] at cb;obtain ⟨⟨pb,vb⟩,rb⟩:=cb;obtain ⟨kb,mb⟩:=pure_spec pb;refine ⟨qv Yh (.inr fun d hd=>(rb d hd).2) (.inl fb) hb,s9 Wz (fun d _=>by rw[kb]; exact oG d) (.inr (.inl mb)) ha,?_⟩;exact (um _ _ _ _ _ (fun d h1 h2=>l2 d h2 h1) kb mb vb).symm
 ·unfold Rec.past at hp
  split at hp
  ·rename_i n bx ts hs ht
   simp only[adi,Bool.not_eq_true',List.contains_eq_mem,decide_eq_false_iff_not] at hp;obtain ⟨⟨ca,hn⟩,Rz⟩:=hp;unfold Rec.calm at ca;simp only[adi,Bool.not_eq_true',List.all_eq_true] at ca;obtain ⟨⟨pa,va⟩,ra⟩:=ca;obtain ⟨ka,ma⟩:=pure_spec pa;have RT:sN T P env orc ops st b:=qv Yh (.inl ka) (.inr (.inl ma)) hb;have aa:=(wT ha).resolve_right (fun h=>by rw[hs] at h; cases h.1);have ab:=(wT RT).resolve_right (fun h=>by rw[ht] at h; cases h.2);obtain ⟨_,t,x,off,h1,h2,h3⟩:=Ht aa hs;have hl:=EN ab ht hn;rw[h3] at hl;simp only[Option.map_some] at hl;rw[MH Rz] at hl;exact ⟨RT,s9 Wz (fun d hd=>(ra d hd).1) (.inr (.inr ⟨t,x,n,off,h1,h2,by rw[hl,h3]⟩)) ha,um _ _ _ _ _ l2 ka ma va⟩
  ·cases hp
 ·unfold Rec.past at hp
  split at hp
  ·rename_i n bx ts hs ht
   simp only[adi,Bool.not_eq_true',List.contains_eq_mem,decide_eq_false_iff_not] at hp;obtain ⟨⟨cb,hn⟩,Rz⟩:=hp;unfold Rec.calm at cb;simp only[adi,Bool.not_eq_true',List.all_eq_true] at cb;obtain ⟨⟨pb,vb⟩,rb⟩:=cb;obtain ⟨kb,mb⟩:=pure_spec pb;have aa:=(wT ha).resolve_right (fun h=>by rw[ht] at h; cases h.2);have ab:=(wT hb).resolve_right (fun h=>by rw[hs] at h; cases h.1);obtain ⟨_,t,x,off,h1,h2,h3⟩:=Ht ab hs;have hl:=EN aa ht hn;have Xb:look st.mem n=some bx:=by
    rw[h3] at hl;obtain ⟨b0,RT,OD⟩:=Option.map_eq_some_iff.1 hl.symm;rw[RT,M0 Rz OD]
   refine ⟨qv Yh (.inr fun d hd=>(rb d hd).2) (.inr (.inr ⟨t,x,n,off,h1,h2,by rw[h3,Xb]⟩)) hb,s9 Wz (fun d _=>by rw[kb]; exact oG d) (.inr (.inl mb)) ha,?_⟩;exact (um _ _ _ _ _ (fun d h1 h2=>l2 d h2 h1) kb mb vb).symm
  ·cases hp
theorem front {r:Rec E} {post:List (Rec E)} {st':St E}:∀ (pre:List (Rec E)) (st:St E),Tr T P env orc ops (pre++r::post) st st'->(∀ a∈pre,r9 ops a r=true) ->
  ∃ r' pre',r.C7 r'/\lV pre pre'/\sN T P env orc ops st r'/\Tr T P env orc ops (pre'++post) (st.app r.o.dst r'.out) st'
 | [],st,h,_=>⟨r,[],r.qh,trivial,h⟩
 | a::pre,st,h,hc=>by
  obtain ⟨h1,h2⟩:=h;obtain ⟨r1,pre1,k1,k2,h3,h4⟩:=front pre _ h2 fun x hx=>hc x (adm _ hx)
  have dh:r9 ops a r1=true:=by rw[Kb a.qh k1]; exact hc a (adn ..)
  obtain ⟨m1,_,e1⟩:=id k1;have eo:r1.o=r.o:=by rw[e1]
  obtain ⟨a',r2,la,lr,q1,q2,q3⟩:=swap dh h1 h3;rw[eo] at q2 q3;obtain ⟨m2,RN,e2⟩:=id lr;obtain ⟨m3,_,e3⟩:=id la;have ea:a'.o=a.o:=by rw[e3]
  refine ⟨r2,a'::pre1,?_,⟨la,k2⟩,q1,q2,?_⟩
  ·obtain ⟨m1,Ro,rfl⟩:=k1
   exact ⟨m2,RN.trans Ro,e2⟩
  ·rw[ea,<-q3]; exact h4
end Go.Vm
namespace Go.Vm
open Go.Lib
variable {K:Type} {E:K->Type}
variable {T:Tab E} {P:Program} {env:Env E} {orc:Orc} {ops:Array Oper}
inductive Anc (ops:Array Oper):Nat->Nat->Prop
 | edge {i:Nat} {o:Oper} {e:Edge} (ho:ops[i]? = some o) (he:e∈o.after) (hb:Region.binds .any e=true):Anc ops e.on i
 | step {j i:Nat} {o:Oper} {e:Edge} (ho:ops[i]? = some o) (he:e∈o.after) (hb:Region.binds .any e=true) (h:Anc ops j e.on):Anc ops j i
theorem Kl {prev:List Nat} {o:Oper} {j:Nat} (h:(Lu prev o).testBit j=true):∃ e∈o.after,Region.binds .any e=true/\(e.on=j\/(prev.getD e.on 0).testBit j=true):=by
 unfold Lu at h;have key:∀ (l:List Edge) (s:Nat),(l.foldl (fun s e=>if Region.binds .any e then s ||| (1 <<< e.on) ||| prev.getD e.on 0 else s) s).testBit j=true ->
   s.testBit j=true \/ ∃ e∈l,Region.binds .any e=true/\(e.on=j\/(prev.getD e.on 0).testBit j=true):=by
  intro l;induction l with
  | nil=>intro s h; exact .inl h
  | cons e l ih =>
   intro s h;rw[List.foldl_cons] at h;rcases ih _ h with h1 | ⟨e',I7,hh⟩
   ·split at h1
    ·rename_i hb
     rw[Nat.testBit_or,Nat.testBit_or,Bool.or_eq_true,Bool.or_eq_true] at h1;rcases h1 with (h1 | h1) | h1
     ·exact .inl h1
     ·refine .inr ⟨e,adn ..,hb,.inl ?_⟩
      rw[Nat.one_shiftLeft,Nat.testBit_two_pow] at h1;simpa using h1
     ·exact .inr ⟨e,adn ..,hb,.inr h1⟩
    ·exact .inl h1
   ·exact .inr ⟨e',adm _ I7,hh⟩
 rcases key _ 0 h with h0 | ⟨e,he,hh⟩
 ·simp at h0
 ·exact ⟨e,by simpa using he,hh⟩
theorem wI:∀ (l:List Oper) (prev:List Nat),(∀ q,l[q]? = ops[prev.length+q]?)->(∀ b a,(prev.getD b 0).testBit a=true->Anc ops a b) ->
  ∀ b a,((FU prev l).getD b 0).testBit a=true->Anc ops a b
 | [],prev,_,h,b,a,hh=>h b a hh
 | o::l,prev,hl,h,b,a,hh=>by
  have h0:ops[prev.length]? = some o:=by have:=hl 0; simp at this; exact this.symm
  refine wI l (prev++[Lu prev o]) (fun q => ?_) (fun b a hb => ?_) b a hh
  ·have:=hl (q+1)
   rw[adf,List.length_singleton,Nat.add_assoc,Nat.add_comm 1 q];simpa using this
  ·rw[List.getD_eq_getElem?_getD] at hb
   by_cases aH:b<prev.length
   ·rw[List.getElem?_append_left aH,<-List.getD_eq_getElem?_getD] at hb
    exact h b a hb
   ·by_cases he:b=prev.length
    ·subst he
     rw[List.getElem?_append_right (Nat.le_refl _)] at hb;simp only[Nat.sub_self,List.getElem?_cons_zero,Option.getD_some] at hb;obtain ⟨e,he,ZS,hh⟩:=Kl hb;rcases hh with hh | hh
     ·subst hh; exact .edge h0 he ZS
     ·exact .step h0 he ZS (h _ _ hh)
    ·rw[List.getElem?_eq_none (by simp; omega)] at hb
     simp at hb
theorem J4 {a b:Nat} (h:((HM ops).getD b 0).testBit a=true):Anc ops a b :=
 wI ops.toList [] (fun q=>by simp) (fun b a h=>by simp at h) b a h
theorem Bx (h:uO ops=true) {i:Nat} {o:Oper} {e:Edge} (ho:ops[i]? = some o) (he:e∈o.after) (hb:Region.binds .any e=true):e.on<i:=by
 unfold uO at h;rw[List.all_eq_true] at h;have hm:(o,i)∈ops.toList.zipIdx:=by
  rw[List.mem_zipIdx_iff_getElem?];simpa using ho
 have:=h _ hm;simp only[List.all_eq_true] at this;have:=this e (by simpa using he);simpa[hb] using this
section
variable {w0:World} {G:GP} {Q:Exit->Act->World->Prop}
theorem Eb [Ad:zT T w0 G] (o7:∀ f,Ctr T P f (env f)) {st:St E} {a:Act} {w:World} {g:Gh} (h:Inv T w0 G st a w g) {r:Rec E} (hf:sN T P env orc ops st r)
  (next:Act->World->Prop) (sj:∀ v w' g',Inv T w0 G (st.app r.o.dst r.out) (a.put r.o.dst v) w' g'->next (a.put r.o.dst v) w'):wpOp P ops Q r.i next a w:=by
 obtain ⟨ho,hf⟩:=hf;have UL:act T P env orc st r->r.o.wp P a w next Q:=by
  rintro ⟨h1,_⟩
  refine VA env o7 orc h r.o r.out ?_ next Q sj
  rcases h1 with ⟨_,c,hc,hh⟩ | ⟨_,hc,hh⟩
  ·rw[IZ hc]; exact hh
  ·rw[DB hc]; exact hh
 unfold wpOp;simp only[ho];split at hf
 ·rename_i hg
  rw[if_pos (by simp[Region.wanted,hg])];exact .inl (UL hf)
 ·rename_i j wt hg
  obtain ⟨d,hd,hf⟩:=hf;have skip:r.out=yd->next (a.put r.o.dst undef) w:=by
   intro pw;refine sj _ _ g ?_;rw[pw];exact h.put r.o.dst (d := .tup []) ⟨#[],rfl,rfl,fun i hi=>absurd hi (by simp)⟩ (fun _ _ _ _ e=>by cases e)
  rcases hf with ⟨b,hb,hh⟩ | ⟨hb,pw,_,_⟩
  case inr =>
   obtain ⟨aH,UD⟩:=List.getElem?_eq_some_iff.1 hb;have hr:=h.tm d aH;rw[UD] at hr;have yU:d<a.tmps.size:=by rw[h.tl]; exact aH
   have T0:a.tmps.getD d undef=a.tmps[d]:=by simp[yU]
   rw[T0] at hr;obtain ⟨vs,hv,_⟩:=hr;have hy:yielded ops a.tmps j=none:=by
    unfold yielded;unfold Cr at hd;rw[hd];simp[Array.getElem?_eq_getElem yU,hv]
   have hw:Region.wanted r.o (yielded ops a.tmps)=false:=by
    unfold Region.wanted;rw[hg];simp only[hy];rfl
   rw[hw,if_neg (by simp)];exact skip pw
  obtain ⟨aH,UD⟩:=List.getElem?_eq_some_iff.1 hb;have hv:a.tmps[d]? = some (.bool b):=by
   have hr:=h.tm d aH;rw[UD] at hr;have yU:d<a.tmps.size:=by rw[h.tl]; exact aH
   have:a.tmps.getD d undef=a.tmps[d]:=by simp[yU]
   rw[this] at hr;have h2:=lX hr;rw[Array.getElem?_eq_getElem yU,h2]
  have hy:yielded ops a.tmps j=some b:=by
   unfold yielded;unfold Cr at hd;rw[hd];simp[hv]
  have hw:Region.wanted r.o (yielded ops a.tmps)=(b == wt):=by
   unfold Region.wanted;rw[hg];simp only[hy];cases b <;> cases wt <;> rfl
  rw[hw];split at hh
  ·rename_i Wx
   subst Wx;rw[if_pos (by simp)];exact .inl (UL hh)
  ·rename_i Wx
   rw[if_neg (by simpa using Wx)];exact skip hh.1
def pq (J:List Nat) (a a':Act):Prop:=∀ j∈J,a'.tmps.getD j undef=a.tmps.getD j undef
theorem pq.refl (J:List Nat) (a:Act):pq J a a:=fun _ _=>rfl
theorem pq.trans {J:List Nat} {a b c:Act} (h:pq J a b) (h':pq J b c):pq J a c:=fun j hj=>(h' j hj).trans (h j hj)
theorem pq.put {J:List Nat} {a:Act} {dst:Option Nat} (v:Value) (h:∀ d,dst=some d->d ∉ J):pq J a (a.put dst v):=by
 intro j hj;cases dst with
 | none=>rfl
 | some d =>
  have:d≠j:=fun e=>h d rfl (e ▸ hj)
  simp[Act.put,Array.getElem?_setIfInBounds_ne this]
theorem E0 [Ad:zT T w0 G] (o7:∀ f,Ctr T P f (env f)) {J:List Nat} (hJ:∀ (i:Nat) (o:Oper),ops[i]? = some o -> ∀ d,o.dst=some d->d ∉ J):∀ (rs:List (Rec E)) (st st':St E) (a:Act) (w:World) (g:Gh),Inv T w0 G st a w g->Tr T P env orc ops rs st st' ->
  ∀ rest:List Nat,(∀ a' w g,Inv T w0 G st' a' w g->pq J a a'->wpOps P ops Q rest a' w)->wpOps P ops Q (rs.map (·.i)++rest) a w
 | [],st,st',a,w,g,h,ht,rest,hn=>by cases ht; simpa using hn a w g h (pq.refl J a)
 | r::rs,st,st',a,w,g,h,ht,rest,hn=>by
  obtain ⟨h1,h2⟩:=ht;rw[List.map_cons,List.cons_append,wpOps_cons];exact Eb o7 h h1 _ fun v w' g' h'=>E0 o7 hJ rs _ _ _ w' g' h' h2 rest fun a'' w'' g'' hi hk=>hn a'' w'' g'' hi ((pq.put v (hJ r.i r.o h1.1)).trans hk)
theorem yZ {p q:Nat->Bool} {i:Nat}:∀ (l:List Nat),l.Nodup->(∀ j,j≠i->q j=p j)->q i=false->l.filter q=(l.filter p).filter (fun j=>j != i)
 | [],_,_,_=>rfl
 | x::l,hn,h1,h2=>by
  have ih:=yZ l (List.nodup_cons.1 hn).2 h1 h2;by_cases hx:x=i
  ·subst hx
   rw[List.filter_cons_of_neg (by simp[h2]),ih];cases hp:p x
   ·rw[List.filter_cons_of_neg (by simp[hp])]
   ·rw[List.filter_cons_of_pos (by simp[hp]),List.filter_cons_of_neg (by simp)]
  ·cases hp:p x
   ·rw[List.filter_cons_of_neg (by simp[h1 x hx,hp]),List.filter_cons_of_neg (by simp[hp]),ih]
   ·rw[List.filter_cons_of_pos (by simp[h1 x hx,hp]),List.filter_cons_of_pos (by simp[hp]),List.filter_cons_of_pos (by simpa using hx),ih]
theorem VP [Ad:zT T w0 G] (o7:∀ f,Ctr T P f (env f)) (Yi:uO ops=true) {J:List Nat} (hJ:∀ (i:Nat) (o:Oper),ops[i]? = some o -> ∀ d,o.dst=some d->d ∉ J) {st':St E} {a0:Act} (hn:∀ a w g,Inv T w0 G st' a w g->pq J a0 a->Q .normal a w) :
  ∀ (fuel:Nat) (listed:Array Bool) (rs:List (Rec E)) (st:St E) (a:Act) (w:World) (g:Gh),Inv T w0 G st a w g->pq J a0 a->Tr T P env orc ops rs st st' ->
   rs.map (·.i)=(List.range ops.size).filter (fun j => !listed.getD j true)->listed.size=ops.size ->
   (∀ i o e,ops[i]? = some o->e∈o.after->Region.binds .any e=true->listed.getD i false=true->listed.getD e.on false=true) ->
   (rs.Pairwise fun x y=>oK (HM ops) ops y x=true)->rs.length<=fuel->wpAny P .any ops Q fuel listed a w:=by
 intro fuel;have lt_of:∀ (listed:Array Bool) j,listed.getD j true=false->j<listed.size:=by
  intro listed j hj;rcases Nat.lt_or_ge j listed.size with h | h
  ·exact h
  ·simp[Array.getElem?_eq_none h] at hj
 have empty:∀ (listed:Array Bool) (rs:List (Rec E)),rs.map (·.i)=(List.range ops.size).filter (fun j => !listed.getD j true)->listed.size=ops.size->Region.ready .any ops listed=[]->rs=[]:=by
  intro listed rs RA nf hr;cases rs with
  | nil=>rfl
  | cons r rs =>
   exfalso;rw[List.map_cons] at RA;have ZT:∀ j∈(List.range ops.size).filter (fun j => !listed.getD j true),r.i<=j:=by
    intro j hj;have hs:((List.range ops.size).filter (fun j => !listed.getD j true)).Pairwise (· < ·):=List.Pairwise.filter _ List.pairwise_lt_range;rw[<-RA] at hs hj;rcases List.mem_cons.1 hj with rfl | hj
    ·exact Nat.le_refl _
    ·exact Nat.le_of_lt ((List.pairwise_cons.1 hs).1 j hj)
   have RP:r.i∈(List.range ops.size).filter (fun j => !listed.getD j true):=by rw[<-RA]; exact adn ..
   rw[List.mem_filter,List.mem_range] at RP;obtain ⟨aH,Xc⟩:=RP;have:r.i∈Region.ready .any ops listed:=by
    rw[mem_ready];refine ⟨by simpa using Xc,ops[r.i],Array.getElem?_eq_getElem aH,fun e he hb => ?_⟩;have Mm:=Bx Yi (Array.getElem?_eq_getElem aH) he hb;have ZB:e.on<listed.size:=by rw[nf]; omega
    cases hl:listed.getD e.on false with
    | true=>rfl
    | false =>
     have hq:listed.getD e.on true=false:=by simpa[ZB] using hl
     have:=ZT e.on (List.mem_filter.2 ⟨List.mem_range.2 (by omega),by rw[hq]; rfl⟩);omega
   rw[hr] at this;cases this
 induction fuel with
 | zero =>
  intro listed rs st a w g h Wy ht RA nf Xd ZU hlen;have:rs=[]:=List.eq_nil_of_length_eq_zero (by omega);subst this;cases ht;refine ⟨?_,hn a w g h Wy⟩;cases hr:Region.ready .any ops listed with
  | nil=>rfl
  | cons x xs =>
   exfalso;have hx:x∈Region.ready .any ops listed:=by rw[hr]; exact adn ..
   obtain ⟨h1,o,h2,_⟩:=mem_ready.1 hx;have:x∈(List.range ops.size).filter (fun j => !listed.getD j true):=List.mem_filter.2 ⟨List.mem_range.2 (Array.getElem?_eq_some_iff.1 h2).1,by rw[h1]; rfl⟩;rw[<-RA] at this;cases this
 | succ fuel ih =>
  intro listed rs st a w g h Wy ht RA nf Xd ZU hlen;refine ⟨fun hr => ?_,fun i hi => ?_⟩
  ·have:=empty listed rs RA nf hr
   subst this;cases ht;exact hn a w g h Wy
  ·obtain ⟨h1,o,h2,h3⟩:=mem_ready.1 hi
   have ZV:=(Array.getElem?_eq_some_iff.1 h2).1;have qH:i∈rs.map (·.i):=by rw[RA]; exact List.mem_filter.2 ⟨List.mem_range.2 ZV,by rw[h1]; rfl⟩
   obtain ⟨r,hr,rfl⟩:=List.mem_map.1 qH;obtain ⟨pre,post,rfl⟩:=List.append_of_mem hr;have ZW:∀ j,Anc ops j r.i->listed.getD j false=true:=by
    have base:∀ j i,Anc ops j i->listed.getD i false=true->listed.getD j false=true:=by
     intro j i ha;induction ha with
     | edge ho he hb=>intro hl; exact Xd _ _ _ ho he hb hl
     | step ho he hb _ ih=>intro hl; exact ih (Xd _ _ _ ho he hb hl)
    intro j ha;cases ha with
    | edge ho he hb=>rw[h2] at ho; cases ho; exact h3 _ he hb
    | step ho he hb ha=>rw[h2] at ho; cases ho; exact base _ _ ha (h3 _ he hb)
   have Yj:∀ x∈pre,r9 ops x r=true:=by
    intro x hx;have hp:=(List.pairwise_append.1 ZU).2.2 x hx r (adn ..);unfold oK at hp;rw[Bool.or_eq_true] at hp;rcases hp with hp | hp
    ·have hl:=ZW _ (J4 hp)
     have hxm:x.i∈(List.range ops.size).filter (fun j => !listed.getD j true):=by rw[<-RA]; exact List.mem_map.2 ⟨x,List.mem_append_left _ hx,rfl⟩
     rw[List.mem_filter] at hxm;have Xc:listed.getD x.i true=false:=by simpa using hxm.2
     have aH:=lt_of _ _ Xc;simp[aH] at Xc hl;rw[hl] at Xc;cases Xc
    ·exact hp
   obtain ⟨r',pre',lr,lp,hf,RB⟩:=front pre st ht Yj;obtain ⟨m0,hm0,rfl⟩:=lr;have YU:=lp.is;have yg:pre'.length=pre.length:=by have:=congrArg List.length YU; simpa using this
   have aH:r.i<listed.size:=lt_of _ _ h1;have ux:∀ j (d:Bool),j≠r.i->(listed.setIfInBounds r.i true).getD j d=listed.getD j d:=fun j d hj=>getD_set_ne d (Ne.symm hj)
   refine Eb o7 h hf _ fun v w' g' h'=>ih _ (pre'++post) _ _ w' g' h' (Wy.trans (pq.put v (hJ r.i r.o hf.1))) RB ?_ (by simpa using nf) ?_ ?_ (by simp at hlen ⊢; omega)
   ·rw[yZ (p:=fun j => !listed.getD j true) (i:=r.i) _ List.nodup_range (fun j hj=>by simp only[ux j true hj]) (by simp[aH]),<-RA]
    have vO:((pre++r::post).map (·.i)).Nodup:=by rw[RA]; exact List.Nodup.sublist List.filter_sublist List.nodup_range
    rw[List.map_append,List.map_cons] at vO;rw[List.map_append,YU,List.map_append,List.map_cons,List.filter_append,List.filter_cons_of_neg (by simp)];have vO:=List.nodup_append.1 vO;congr 1
    ·symm; rw[List.filter_eq_self]
     intro x hx;have:=vO.2.2 x hx r.i (adn ..);simpa using this
    ·symm; rw[List.filter_eq_self]
     intro x hx;have:=(List.nodup_cons.1 vO.2.1).1;have:x≠r.i:=fun e=>this (e ▸ hx)
     simpa using this
   ·intro i o e ho he hb hl
    by_cases hir:i=r.i
    ·subst hir
     rw[h2] at ho; cases ho;exact getD_set_true (h3 _ he hb)
    ·rw[ux i false hir] at hl
     exact getD_set_true (Xd i o e ho he hb hl)
   ·exact (lp.append post).pairwise (List.Pairwise.sublist ((List.Sublist.refl pre).append (List.sublist_cons_self r post)) ZU)
end
end Go.Vm
namespace Go.Vm
open Go.Lib
variable {K:Type} {E:K->Type}
variable {T:Tab E} {P:Program}
inductive WD (m:Mem E) (ns:List Nat):DV E->DV E->Prop
 | junk (d:DV E):WD m ns d .junk
 | same (d:DV E) (h:∀ n i cs off,d = .rptr n i cs off->n∈ns):WD m ns d d
 | rowp {n:Nat} {e:TypeId} {k:K} {l:List (E k)} (h:(n,Box.row e k l)∈m) (hn:n ∉ ns):WD m ns (.rowp n) (.slc k l)
 | rowv {n b:Nat} {e:TypeId} {k:K} {l:List (E k)} (h:(n,Box.row e k l)∈m) (hn:n ∉ ns):WD m ns (.rowv n b) (.slc k (l.take b))
 | ptr {n:Nat} {t:TypeId} {cs:List (DV E)} (h:(n,Box.cells t cs)∈m) (hn:n ∉ ns) (hp:cs.all DV.plain=true):WD m ns (.ptr n 0) (.shp cs)
inductive WB (m:Mem E) (ns:List Nat):Box E->Box E->Prop
 | same (b:Box E):WB m ns b b
 | cells (t:TypeId) {cs cs':List (DV E)} (hl:cs'.length=cs.length) (h:∀ i (hi:i<cs.length) (bq:i<cs'.length),WD m ns cs[i] cs'[i]):WB m ns (.cells t cs) (.cells t cs')
structure Xz (st st':St E):Prop where
 len:st'.tmps.length=st.tmps.length
 nn:(names st'.mem).Nodup
 tm:∀ i (hi:i<st.tmps.length) (bq:i<st'.tmps.length),WD st.mem (names st'.mem) st.tmps[i] st'.tmps[i]
 mm:∀ n bx,(n,bx)∈st'.mem -> ∃ b0,(n,b0)∈st.mem/\WB st.mem (names st'.mem) b0 bx
theorem SX {w:World} {X X':Nat->Prop} {k:K} {l:List (E k)} {xs:List Value} {gg cap:Nat} (hX:∀ b,X b->X' b) (hg:X' gg/\gg<w.heap.size) (hl:l.length<=cap)
  (hc:∀ j u,xs[j]? = some u->w.cell? ⟨gg,j,none⟩=some u) (h:Els T w X k l xs):Rep T w X' (.slc k l) (.slice (some ⟨gg,0,none⟩) l.length cap):=by
 refine Rep.slc cap (fun j=>xs.getD j undef) hl (fun _=>hg) ?_ ?_ h.pl
 ·intro j hj
  have aH:j<xs.length:=by rw[h.len]; exact hj
  rw[fB _ _ _ aH,Nat.zero_add];exact hc j _ (adl aH)
 ·intro i hi c dh
  obtain ⟨u,h1,h2⟩:=h.rep i hi c dh;have:xs.getD (i*T.sz k+c) undef=u:=by rw[List.getD_eq_getElem?_getD,h1]; rfl
  rw[this];exact h2.mono fun b hb aH=>⟨hX b hb,aH,rfl⟩
theorem LQ {w:World} {X X':Nat->Prop} {e:TypeId} {k:K} {l:List (E k)} {v:Value} (hX:∀ b,X b->X' b) (h:bc T w X e k l v) (hb:∀ b,blk v=some b->X' b) (b:Nat) :
  (∃ a len cap,v = .slice a len cap/\l.length=len) /\ ∀ (a:Option Addr) (len cap:Nat),v = .slice a len cap->b<=len->Rep T w X' (.slc k (l.take b)) (.slice a b cap):=by
 rcases rr h with ⟨rfl,rfl⟩ | ⟨gg,cap,xs,rfl,hc,aH,jT,o8⟩
 ·refine ⟨⟨_,_,_,rfl,rfl⟩,fun a len cap e hb => ?_⟩
  cases e;have:b=0:=by omega
  subst this;exact Rep.slcn k
 ·refine ⟨⟨_,_,_,rfl,rfl⟩,fun a len cap' e ZX => ?_⟩
  cases e;have:=SX (T:=T) (w:=w) (X:=X) (X':=X') (cap:=cap) (gg:=gg) (l:=l.take b) hX ⟨hb gg rfl,aH⟩ (by simp; omega) (xs:=xs.take (b*T.sz k)) (fun j u hj=>jT j u (by
    rw[List.getElem?_take] at hj;split at hj
    ·exact hj
    ·cases hj)) (o8.take b ZX)
  rw[show (l.take b).length=b by simp; omega] at this;exact this
theorem aD.XH {w:World} {X X':Nat->Prop} {g:Gh} {d:DV E} {v:Value} (h:aD T w X g d v) (hX:∀ b,X b->X' b):aD T w X' g d v:=by
 have base:∀ (d1:DV E) (v1:Value),eH T w X g d1 v1->eH T w X' g d1 v1:=fun d1 v1 h1 =>
  h1.mono (fun b hb aH=>⟨hX b hb,aH,rfl⟩) (fun _ _=>rfl) (fun _ _ _ _ _ _ _ _ _=>rfl)
 cases d with
 | tup ds =>
  obtain ⟨vs,h1,h2,h3⟩:=h;exact ⟨vs,h1,h2,fun i hi bq=>⟨base _ _ (h3 i hi bq).1,(h3 i hi bq).2⟩⟩
 | junk=>exact .of1 (base .junk v h)
 | int k n=>exact .of1 (base (.int k n) v h)
 | bool b=>exact .of1 (base (.bool b) v h)
 | str s=>exact .of1 (base (.str s) v h)
 | nilp=>exact .of1 (base .nilp v h)
 | nili=>exact .of1 (base .nili v h)
 | nils=>exact .of1 (base .nils v h)
 | arr n k l=>exact .of1 (base (.arr n k l) v h)
 | shp cs=>exact .of1 (base (.shp cs) v h)
 | opt c cs=>exact .of1 (base (.opt c cs) v h)
 | any k x=>exact .of1 (base (.any k x) v h)
 | slc k l=>exact .of1 (base (.slc k l) v h)
 | agg cs=>exact .of1 (base (.agg cs) v h)
 | ifc t d=>exact .of1 (base (.ifc t d) v h)
 | fn f c=>exact .of1 (base (.fn f c) v h)
 | ptr n o=>exact .of1 (base (.ptr n o) v h)
 | rowp n=>exact .of1 (base (.rowp n) v h)
 | rowv n b=>exact .of1 (base (.rowv n b) v h)
 | eptr cs o=>exact .of1 (base (.eptr cs o) v h)
 | rptr n i cs o=>exact .of1 (base (.rptr n i cs o) v h)
 | row e k l=>exact .of1 (base (.row e k l) v h)
 | pin t cs=>exact .of1 (base (.pin t cs) v h)
 | newb t cs=>exact .of1 (base (.newb t cs) v h)
 | argp j=>exact .of1 (base (.argp j) v h)
theorem WD.rep {w0:World} {G:GP} {st st':St E} {a:Act} {w:World} {g:Gh} (h:Inv T w0 G st a w g) (hw:Xz st st') {d d':DV E} {v:Value} (hd:WD st.mem (names st'.mem) d d')
  (hr:aD T w (free st.mem g) g d v):aD T w (free st'.mem g) g d' v:=by
 have jf:∀ n,n∈names st'.mem->n∈names st.mem:=by
  intro n hn;obtain ⟨x,hx,rfl⟩:=List.mem_map.1 hn;obtain ⟨b0,RT,_⟩:=hw.mm x.1 x.2 hx;exact List.mem_map.2 ⟨_,RT,rfl⟩
 have hX:∀ b,free st.mem g b->free st'.mem g b:=by
  intro b hb;refine ⟨fun qI => ?_,hb.2⟩;obtain ⟨n,h1,h2⟩:=aF.1 qI;exact hb.1 (aF.2 ⟨n,jf n h1,h2⟩)
 have u6:∀ n b,n∈names st.mem->n ∉ names st'.mem->blk (g n)=some b->free st'.mem g b:=by
  intro n b hn UN hb;refine ⟨fun qI => ?_,fun qI => ?_⟩
  case refine_2 =>
   have h0:=h.hz.2 b qI;rcases (h.bo b (aF.2 ⟨n,hn,hb⟩)).2 with h1 | h1
   ·omega
   ·exact h0.2 h1
  obtain ⟨n',h1,h2⟩:=aF.1 qI;have:=mf h.nd h.nn hn (jf n' h1) hb h2;exact UN (this ▸ h1)
 cases hd with
 | junk d=>exact (Rep.junk _).toT
 | same d si =>
  exact aD.XH hr hX
 | @rowp n e k l hm hn =>
  have mZ:bc T w (free st.mem g) e k l (g n):=h.mm n _ hm;have Yk:n∈names st.mem:=List.mem_map.2 ⟨_,hm,rfl⟩;obtain ⟨⟨ad,len,cap,hv,hlen⟩,hq⟩:=LQ hX mZ (fun b hb=>u6 n b Yk hn hb) l.length;have:v=g n:=hr;rw[this,hv];subst hlen;have:=hq ad l.length cap hv (Nat.le_refl _);rw[List.take_length] at this;exact this
 | @rowv n b e k l hm hn =>
  have mZ:bc T w (free st.mem g) e k l (g n):=h.mm n _ hm;have Yk:n∈names st.mem:=List.mem_map.2 ⟨_,hm,rfl⟩;obtain ⟨⟨ad,len,cap,hv,hlen⟩,hq⟩:=LQ hX mZ (fun b hb=>u6 n b Yk hn hb) b;obtain ⟨a',len',cap',h1,h2,h3⟩:=hr;rw[hv] at h1;cases h1;rw[h2];exact hq ad len cap hv h3
 | @ptr n t cs hm hn hp =>
  obtain ⟨b,vs,h1,h2,h3,h4⟩:=h.mm n _ hm;have Yk:n∈names st.mem:=List.mem_map.2 ⟨_,hm,rfl⟩;obtain ⟨b',e1,e2⟩:=hr;rw[h1] at e1;cases e1;have aH:b<w.heap.size:=mr h2;rw[e2];refine (Rep.shp (fun j=>vs.getD j undef) ⟨u6 n b Yk hn (by rw[h1]; rfl),aH⟩ (fun j hj => ?_) (fun j hj => ?_) (fun j hj => ?_)).toT
  ·have sf:j<vs.size:=by omega
   rw[cell_of_row w b (0+j) vs t (0,0) h2,Nat.zero_add];simp[sf]
  ·have sf:j<vs.size:=by omega
   have u7:cs[j].plain=true:=List.all_eq_true.1 hp _ (List.getElem_mem hj);have:=(h4 j hj sf).1.plain (by revert u7; generalize cs[j]=d; cases d <;> simp[DV.share,DV.lay,DV.plain]);have e3:vs.getD j undef=vs[j]:=by simp[sf]
   rw[e3];exact this.mono fun b hb aH=>⟨hX b hb,aH,rfl⟩
  ·exact List.all_eq_true.1 hp _ (List.getElem_mem hj)
theorem WD.t1 {m:Mem E} {ns:List Nat} {d d':DV E} (h:WD m ns d d') (hc:d.fP=true):d'.fP=true:=by
 cases h <;> first | rfl | exact hc
theorem Inv.XP {w0:World} {G:GP} {st st':St E} {a:Act} {w:World} {g:Gh} (h:Inv T w0 G st a w g) (hw:Xz st st'):Inv T w0 G st' a w g:=by
 have jf:∀ n,n∈names st'.mem->n∈names st.mem:=by
  intro n hn;obtain ⟨x,hx,rfl⟩:=List.mem_map.1 hn;obtain ⟨b0,RT,_⟩:=hw.mm x.1 x.2 hx;exact List.mem_map.2 ⟨_,RT,rfl⟩
 have hX:∀ b,free st.mem g b->free st'.mem g b:=by
  intro b hb;refine ⟨fun qI => ?_,hb.2⟩;obtain ⟨n,h1,h2⟩:=aF.1 qI;exact hb.1 (aF.2 ⟨n,jf n h1,h2⟩)
 refine ⟨h.df,by rw[hw.len]; exact h.tl,?_,hw.nn,?_,?_,?_,h.fr,?_,h.hz⟩
 ·intro i hi
  have u5:i<st.tmps.length:=by rw[<-hw.len]; exact hi
  exact (hw.tm i u5 hi).rep h hw (h.tm i u5)
 ·have:∀ (m:Mem E),(names m).Nodup->(∀ n,n∈names m->n∈names st.mem)->(fv m g).Nodup:=by
   intro m;induction m with
   | nil=>intro _ _; simp[fv]
   | cons x m ih =>
    intro hn hs;simp only[names,List.map_cons,List.nodup_cons] at hn;simp only[fv,List.flatMap_cons];rw[List.nodup_append];refine ⟨by cases blk (g x.1) <;> simp,ih hn.2 (fun n hm=>hs n (adm _ hm)),?_⟩
    rintro b hb b' qI rfl
    simp only[Option.mem_toList] at hb;obtain ⟨n,h1,h2⟩:=aF.1 (show b∈fv m g from qI);have:=mf h.nd h.nn (hs x.1 (adn ..)) (hs n (adm _ h1)) hb h2;exact hn.1 (this ▸ h1)
  exact this _ hw.nn jf
 ·intro n bx hm
  obtain ⟨b0,RT,hwb⟩:=hw.mm n bx hm;have hr:=h.mm n b0 RT;cases hwb with
  | same b =>
   cases bx with
   | cells t cs =>
    obtain ⟨b,vs,h1,h2,h3,h4⟩:=hr;refine ⟨b,vs,h1,h2,h3,fun i hi bq => ?_⟩;obtain ⟨p1,p2,p3⟩:=h4 i hi bq;refine ⟨p1.mono (fun b hb aH=>⟨hX b hb,aH,rfl⟩) (fun _ _=>rfl) (fun _ _ _ _ _ _ _ _ _=>rfl),p2,p3⟩
   | row e k l =>
    obtain ⟨xs,p1,p2⟩:=bc.els hr;exact bc.mk' p1 (p2.mono fun b hb aH=>⟨hX b hb,aH,rfl⟩)
   | siter s pos=>exact hr
   | arr t n k l =>
    obtain ⟨b,vs,h1,h2,h3⟩:=hr;exact ⟨b,vs,h1,h2,h3.mono fun b hb aH=>⟨hX b hb,aH,rfl⟩⟩
  | @cells t cs cs' hl hh =>
   obtain ⟨b,vs,h1,h2,h3,h4⟩:=hr;refine ⟨b,vs,h1,h2,by rw[hl]; exact h3,fun i hi bq => ?_⟩;have u5:i<cs.length:=by rw[<-hl]; exact hi
   obtain ⟨p1,p2,p3⟩:=h4 i u5 bq;have hd:=hh i u5 hi;have hk:=hd.t1 p3;have hq:=hd.rep h hw (.of1 p1);refine ⟨?_,p2,hk⟩;generalize cs'[i]=dd at hq hk;cases dd <;> first | exact hq | (simp[DV.fP] at hk; done)
 ·intro b hb
  obtain ⟨n,h1,h2⟩:=aF.1 hb;exact h.bo b (aF.2 ⟨n,jf n h1,h2⟩)
 ·intro i hi n j cs off he
  have u5:i<st.tmps.length:=by rw[<-hw.len]; exact hi
  have:=hw.tm i u5 hi;rw[he] at this;generalize G2:st.tmps[i]=dd at this;cases this with
  | same d hr=>exact hr n j cs off rfl
def fz (m:Mem E) (ns:List Nat) (d:DV E):DV E :=
 match d with
 | .rowp n=>if ns.contains n then
   match look m n with
   | some (.row _ k l) => .slc k l
   | _ => .junk
  else .rowp n
 | .rowv n b=>if ns.contains n then
   match look m n with
   | some (.row _ k l) => .slc k (l.take b)
   | _ => .junk
  else .rowv n b
 | .ptr n 0=>if ns.contains n then
   match look m n with
   | some (.cells _ cs)=>if cs.all DV.plain then .shp cs else .junk
   | _ => .junk
  else .ptr n 0
 | d=>if d.eV ns then .junk else d
def fzB (m:Mem E) (ns:List Nat):Box E->Box E
 | .cells t cs => .cells t (cs.map (fz m ns))
 | b=>b
def forget (ns:List Nat) (st:St E):St E :=
 if ns.isEmpty=true then st else ⟨st.tmps.map (fz st.mem ns),(st.mem.filter fun x => !ns.contains x.1).map fun x=>(x.1,fzB st.mem ns x.2)⟩
theorem Fb (m:Mem E) (ns:List Nat) (f:Nat×Box E->Box E):names ((m.filter fun x => !ns.contains x.1).map fun x=>(x.1,f x))=(names m).filter fun n => !ns.contains n:=by
 induction m with
 | nil=>rfl
 | cons x m ih =>
  simp only[names,List.map_cons,List.filter_cons] at ih ⊢
  split
  ·rw[List.map_cons,List.map_cons]; exact congrArg _ ih
  ·exact ih
theorem Uz {m:Mem E} {ns ns':List Nat} {d:DV E} (hn:∀ n∈ns,n ∉ ns') (hr:∀ n i cs off,d = .rptr n i cs off->n ∉ ns->n∈ns'):WD m ns' d (fz m ns d):=by
 unfold fz;split
 ·rename_i n
  split
  ·rename_i hc
   split
   ·rename_i e k l hl
    exact .rowp (cd hl) (hn n (by simpa using hc))
   ·exact .junk _
  ·exact .same _ (fun _ _ _ _ e=>by cases e)
 ·rename_i n b
  split
  ·rename_i hc
   split
   ·rename_i e k l hl
    exact .rowv (cd hl) (hn n (by simpa using hc))
   ·exact .junk _
  ·exact .same _ (fun _ _ _ _ e=>by cases e)
 ·rename_i n
  split
  ·rename_i hc
   split
   ·rename_i t cs hl
    split
    ·rename_i hp
     exact .ptr (cd hl) (hn n (by simpa using hc)) hp
    ·exact .junk _
   ·exact .junk _
  ·exact .same _ (fun _ _ _ _ e=>by cases e)
 ·split
  ·exact .junk _
  ·rename_i ht
   refine .same _ fun n i cs off e=>hr n i cs off e fun GR=>ht ?_
   rw[e];simp[DV.eV,DV.ix,GR]
theorem pK {w0:World} {G:GP} {st:St E} {a:Act} {w:World} {g:Gh} (h:Inv T w0 G st a w g) (ns:List Nat):Inv T w0 G (forget ns st) a w g:=by
 unfold forget;split
 ·exact h
 ·have zF:=Fb st.mem ns fun x=>fzB st.mem ns x.2
  have hn:∀ n∈ns,n ∉ (names st.mem).filter fun n => !ns.contains n:=by intro n hn hm; simp[hn] at hm
  refine h.XP ⟨by simp,?_,?_,?_⟩
  ·show (names _).Nodup
   rw[zF];exact List.Nodup.sublist List.filter_sublist h.nn
  ·intro i hi bq
   simp only[List.getElem_map];refine Uz (by rw[zF]; exact hn) fun n j cs off e RU => ?_
   rw[zF];exact List.mem_filter.2 ⟨h.rl i hi n j cs off e,by simpa using RU⟩
  ·intro n bx hm
   obtain ⟨⟨n0,b0⟩,hx,he⟩:=List.mem_map.1 hm;cases he;have zZ:=(List.mem_filter.1 hx).1;refine ⟨b0,zZ,?_⟩;cases b0 with
   | cells t cs =>
    refine .cells t (by simp) fun i hi bq => ?_
    simp only[List.getElem_map];refine Uz (by rw[zF]; exact hn) fun n j cs' off e RU => ?_
    obtain ⟨b,vs,h1,h2,h3,h4⟩:=h.mm n0 _ zZ;have:=(h4 i hi (by omega)).2.2;rw[e] at this;simp[DV.fP] at this
   | row e k l=>exact .same _
   | siter s pos=>exact .same _
   | arr t n k l=>exact .same _
end Go.Vm
namespace Go.Vm
open Go.Lib
variable {K:Type} {E:K->Type}
inductive Zt (K:Type) where
 | int (k:IntKind) | bool | str | slc (k:K)
def Zt.z:Zt K->DV E
 | .int k => .int k 0
 | .bool => .bool false
 | .str => .str []
 | .slc k => .slc k []
inductive Co (K:Type) where
 | tmpRow (t m:Nat) (e:TypeId) (k:K)
 | cellRow (n c m:Nat) (e:TypeId) (k:K)
 | cellSelf (n c:Nat)
 | cellSlc (n c:Nat) (k:K)
 | tmpSlc (t:Nat) (k:K)
 | tmpAny (t:Nat) (k:K)
 | aggSlc (t c:Nat) (k:K)
 | tmpOpt (t:Nat) (zs:List (Zt K))
def nO (n c:Nat) (f:DV E->Option (DV E)) (st:St E):St E :=
 match look st.mem n with
 | some (.cells t cs)=>match f (cs.getD c .junk) with
  | some d=>st.app none ⟨.junk,[],some (j8 st.mem n (.cells t (cs.set c d)))⟩
  | none=>st
 | _=>st
def EX (d':DV E):DV E->Option (DV E)
 | .nils=>some d'
 | _=>none
def OX (n:Nat):DV E->Option (DV E)
 | .nilp=>some (.argp n)
 | .ptr m 0=>if m=n then some (.argp n) else none
 | _=>none
def yJ:DV E->Bool
 | .nils=>true
 | _=>false
def cellAt (n c:Nat) (mem:Mem E):DV E:=match look mem n with
 | some (.cells _ cs)=>cs.getD c .junk
 | _ => .junk
def KK (x m:Nat) (b:Box E) (mem:Mem E):Mem E:=(m,b)::dI [x,m] (jO mem [x,m])
def rowAt (d:DV E) (mem:Mem E):Option (Nat×Box E):=match d with
 | .rowp x=>match look mem x with
  | some (.row e k l)=>some (x,.row e k l)
  | _=>none
 | _=>none
def Fi (t m:Nat) (st:St E):St E :=
 match rowAt (st.tmps.getD t .junk) st.mem with
 | some (x,b)=>if x=m then st else st.app (some t) ⟨.rowp m,[x,m],some (KK x m b st.mem)⟩
 | none=>st
def PW (d':DV E):DV E->Option (DV E)
 | .junk=>some d'
 | _=>none
def Ak (n c m:Nat) (st:St E):St E :=
 match rowAt (cellAt n c st.mem) st.mem with
 | some (x,b)=>if x=m\/n=x\/n=m then st else nO n c (PW (.rowp m)) (st.app none ⟨.junk,[x,m],some (KK x m b st.mem)⟩)
 | none=>st
def LD (c:Nat) (k:K):DV E->Option (DV E)
 | .agg cs=>if yJ (cs.getD c .junk)=true then some (.agg (cs.set c (.slc k []))) else none
 | _=>none
def Rf (zs:List (Zt K)):DV E->Option (DV E)
 | .nilp=>some (.opt false (zs.map Zt.z))
 | .shp cs=>some (.opt true cs)
 | _=>none
def C8 (T:Tab E) (c:Co K) (st:St E):St E :=
 match c with
 | .tmpRow t m e k=>if yJ (st.tmps.getD t .junk)=true then st.app (some t) ⟨.rowp m,[m],some (je st.mem m (.row e k []))⟩ else Fi t m st
 | .cellRow n c m e k=>if yJ (cellAt n c st.mem)=true/\n≠m then nO n c (EX (.rowp m)) (st.app none ⟨.junk,[m],some (je st.mem m (.row e k []))⟩) else Ak n c m st
 | .cellSelf n c=>nO n c (OX n) st
 | .cellSlc n c k=>nO n c (EX (.slc k [])) st
 | .tmpSlc t k=>if yJ (st.tmps.getD t .junk)=true then st.set t (.slc k []) else st
 | .tmpAny t k=>match T.und k (st.tmps.getD t .junk) with
  | some x=>st.set t (.any k x)
  | none=>st
 | .aggSlc t c k=>match LD c k (st.tmps.getD t .junk) with
  | some d=>st.set t d
  | none=>st
 | .tmpOpt t zs=>match Rf zs (st.tmps.getD t .junk) with
  | some d=>st.set t d
  | none=>st
def Iw (T:Tab E):List (Co K)->St E->St E
 | [],st=>st
 | c::cs,st=>Iw T cs (C8 T c st)
variable {T:Tab E} {P:Program} {w0:World} {G:GP} {st:St E} {a:Act} {w:World} {g:Gh}
theorem tB {d:DV E} (h:yJ d=true):d = .nils:=by
 unfold yJ at h; split at h
 ·rfl
 ·cases h
theorem LR (w:World) (row:Option Nat):Kept w w row:=⟨rfl,rfl,rfl,Nat.le_refl _,fun _ _ _=>rfl⟩
theorem wy (h:Inv T w0 G st a w g) (n c:Nat) (f:DV E->Option (DV E))
  (hf:∀ b d d' v,g n = .pointer (some ⟨b,0,none⟩)->f d=some d'->eH T w (free st.mem g) g d v->eH T w (free st.mem g) g d' v/\d'.fP=true) :
  Inv T w0 G (nO n c f st) a w g:=by
 unfold nO;split
 ·rename_i t cs hl
  split
  ·rename_i d hd
   obtain ⟨b,vs,h1,h2,h3,h4⟩:=h.mm n _ (cd hl);refine h.write n (.cells t (cs.set c d)) (cu hl) (LR w _) ?_ (wW h h1) none .junk undef (Rep.junk _).toT (fun _ _ _ _ e=>by cases e);refine ⟨b,vs,h1,h2,by simpa using h3,fun i hi bq => ?_⟩;have u5:i<cs.length:=by simpa using hi
   obtain ⟨p1,p2,p3⟩:=h4 i u5 bq;by_cases K8:c=i
   ·subst K8
    simp only[List.getElem_set_self];rw[fB _ _ _ u5] at hd;obtain ⟨q1,q2⟩:=hf b _ _ _ h1 hd p1;exact ⟨q1,p2,q2⟩
   ·simp only[List.getElem_set_ne K8]
    exact ⟨p1,p2,p3⟩
  ·exact h
 ·exact h
theorem qo (a:Act) (t:Nat) (h:t<a.tmps.size):a.put (some t) (a.tmps.getD t undef)=a:=by
 have:a.tmps.setIfInBounds t (a.tmps.getD t undef)=a.tmps:=by
  apply Array.ext
  ·simp
  ·intro i h1 h2
   by_cases e:t=i
   ·subst e; simp[h]
   ·exact Array.getElem_setIfInBounds_ne h2 e
 cases a;exact congrArg (fun q=>Act.mk q _) this
theorem Ph (h:Inv T w0 G st a w g) {x m:Nat} {e:TypeId} {k:K} {l:List (E k)} (hl:look st.mem x=some (.row e k l)) (dst:Option Nat) (d:DV E) (v:Value)
  (hd:∀ g' X,g'.f m=g x->aD T w X g' d v) (Dr:∀ k j cs off,d ≠ .rptr k j cs off) :
  Inv T w0 G (st.app dst ⟨d,[x,m],some (KK x m (.row e k l) st.mem)⟩) (a.put dst v) w (il g [(m,.row e k l,g x)]):=by
 have hr:bc T w (free st.mem g) e k l (g x):=h.mm x _ (cd hl);have hm:IM st w g w [(m,.row e k l,g x)] [x,m] [x,m] (blk (g x)).toList:=by
  refine ⟨by simp[bQ],fun n hn => ?_,?_,fun b hb => ?_,fun b hb=>⟨x,by simp,cu hl,by simpa using hb⟩,fun y hy => .inr ?_,fun n hn => .inl hn,fun n hn => .inl hn,l6.refl _ w⟩
  ·simp[bQ] at hn; simp[hn]
  ·simp only[fJ,List.flatMap_cons,List.flatMap_nil,List.append_nil]
   cases blk (g x) <;> simp
  ·simp only[fJ,List.flatMap_cons,List.flatMap_nil,List.append_nil] at hb
   exact ⟨(h.bo b (aF.2 ⟨x,cu hl,by simpa using hb⟩)).1,.inr hb⟩
  ·simp at hy; simp[hy]
 have hg:il g [(m,.row e k l,g x)] m=g x:=by simp[il,Jo]
 have hX:=hm.X h;have:=Inv.Un hm h (fun y hy=>by
  simp only[List.mem_singleton] at hy;subst hy;exact (show bc T w _ e k l (g x) from hr.mono (fun b hb aH=>⟨(hX b hb aH).1,aH,rfl⟩) fun _ _=>rfl)) dst d v (hd _ _ hg) Dr
 exact this
theorem Ti (c:Co K) (h:Inv T w0 G st a w g):∃ g',Inv T w0 G (C8 T c st) a w g':=by
 have Yl:∀ (n:Nat) (e:TypeId) (k:K) (dst:Option Nat) (d:DV E) (v:Value) (hd:aD T w (free (je st.mem n (.row e k [])) (upd g n (.slice none 0 0))) (upd g n (.slice none 0 0)) d v) (Dr:∀ k j cs off,d ≠ .rptr k j cs off),
   Inv T w0 G (st.app dst ⟨d,[n],some (je st.mem n (.row e k []))⟩) (a.put dst v) w (upd g n (.slice none 0 0)):=by
  intro n e k dst d v hd Dr;exact h.renew n (.row e k []) _ none (Kept.refl w) (fun _ h=>by cases h) (fun b hb=>by cases hb) (bc.mk' (ou w e (T.sz k)) (.nil k)) dst d v hd (fun a b c d e=>absurd e (Dr a b c d))
 cases c with
 | tmpRow t m e k =>
  simp only[C8];split
  ·rename_i hn
   have hd:=tB hn;have aH:t<st.tmps.length:=by
    rcases Nat.lt_or_ge t st.tmps.length with h' | h'
    ·exact h'
    ·rw[List.getD_eq_getElem?_getD,List.getElem?_eq_none h'] at hd; cases hd
   have hr:=h.tm t aH;rw[fB _ _ _ aH] at hd;rw[hd] at hr;have hv:=kF hr;have:=Yl m e k (some t) (.rowp m) (.slice none 0 0) (by show _=upd g m _ m; rw[jg]) (fun _ _ _ _ e=>by cases e);rw[<-hv,qo a t (by rw[h.tl]; exact aH)] at this;exact ⟨_,this⟩
  ·unfold Fi
   split
   ·rename_i x b hb
    split
    ·exact ⟨g,h⟩
    ·unfold rowAt at hb
     split at hb
     ·rename_i x' hd
      split at hb
      ·rename_i e' k' l' hl
       cases hb;have aH:t<st.tmps.length:=by
        rcases Nat.lt_or_ge t st.tmps.length with h' | h'
        ·exact h'
        ·rw[List.getD_eq_getElem?_getD,List.getElem?_eq_none h'] at hd; cases hd
       have hr:=h.tm t aH;rw[fB _ _ _ aH] at hd;rw[hd] at hr;have hv:a.tmps.getD t undef=g x:=hr;have:=Ph (m:=m) h hl (some t) (.rowp m) (a.tmps.getD t undef) (fun g' X e=>by show _=g'.f m; rw[e]; exact hv) (fun _ _ _ _ e=>by cases e);rw[qo a t (by rw[h.tl]; exact aH)] at this;exact ⟨_,this⟩
      ·cases hb
     ·cases hb
   ·exact ⟨g,h⟩
 | cellRow n c m e k =>
  simp only[C8];split
  ·rename_i hc
   have h1:=Yl m e k none .junk undef (Rep.junk _).toT (fun _ _ _ _ e=>by cases e);refine ⟨_,wy (a:=a) h1 n c _ ?_⟩;intro b d d' v hg hf hr;unfold EX at hf;split at hf
   ·cases hf
    have hv:=kF (aD.of1 hr);refine ⟨?_,rfl⟩;show v=upd g m _ m;rw[jg]; exact hv
   ·cases hf
  ·unfold Ak
   split
   ·rename_i x b hb
    split
    ·exact ⟨g,h⟩
    ·rename_i iv
     simp only[not_or] at iv;unfold rowAt at hb;split at hb
     ·rename_i x' hd
      split at hb
      ·rename_i e' k' l' hl
       cases hb;have h1:=Ph (m:=m) h hl none .junk undef (fun g' X e=>(Rep.junk _).toT) (fun _ _ _ _ e=>by cases e)
       -- what the cell holds
       unfold cellAt at hd;split at hd
       ·rename_i t cs hln
        obtain ⟨b,vs,p1,p2,p3,p4⟩:=h.mm n _ (cd hln);have aH:c<cs.length:=by
         rcases Nat.lt_or_ge c cs.length with h' | h'
         ·exact h'
         ·rw[List.getD_eq_getElem?_getD,List.getElem?_eq_none h'] at hd; cases hd
        have hv:vs[c]'(by omega)=g x:=by
         have:=(p4 c aH (by omega)).1;rw[fB _ _ _ aH] at hd;rw[hd] at this;exact this
        have Ab:il g [(m,.row e' k' l',g x)] n=g n:=xY (by simp[bQ,iv.2.2]);unfold nO;split
        ·rename_i t2 cs2 Xb
         split
         ·rename_i d2 Om
          refine ⟨_,Inv.write (a:=a) (dst:=none) (d := .junk) (v:=undef) h1 n _ (cu Xb) (LR w _) ?_ (wW h1 (by rw[Ab]; exact p1)) (Rep.junk _).toT (fun _ _ _ _ e=>by cases e)⟩;obtain ⟨b',vs',q1,q2,q3,q4⟩:=h1.mm n _ (cd Xb);rw[Ab,p1] at q1;cases q1;rw[p2] at q2;cases q2;refine ⟨b,vs,by rw[Ab]; exact p1,p2,by simpa using q3,fun i hi bq => ?_⟩;have u5:i<cs2.length:=by simpa using hi
          obtain ⟨r1,r2,r3⟩:=q4 i u5 bq;by_cases K8:c=i
          ·subst K8
           simp only[List.getElem_set_self];unfold PW at Om;split at Om
           ·cases Om
            refine ⟨?_,r2,rfl⟩;show vs[c]=il g _ m;rw[hv]; simp[il,Jo]
           ·cases Om
          ·simp only[List.getElem_set_ne K8]
           exact ⟨r1,r2,r3⟩
         ·exact ⟨_,h1⟩
        ·exact ⟨_,h1⟩
       ·cases hd
      ·cases hb
     ·cases hb
   ·exact ⟨g,h⟩
 | cellSelf n c =>
  refine ⟨g,wy h n c _ ?_⟩;intro b d d' v hg hf hr;unfold OX at hf;split at hf
  ·cases hf
   exact ⟨⟨b,hg,.inl (oq (aD.of1 hr))⟩,rfl⟩
  ·split at hf
   ·rename_i e
    subst e;cases hf;obtain ⟨b',h1,h2⟩:=hr;exact ⟨⟨b',h1,.inr h2⟩,rfl⟩
   ·cases hf
  ·cases hf
 | cellSlc n c k =>
  refine ⟨g,wy h n c _ ?_⟩;intro b d d' v hg hf hr;unfold EX at hf;split at hf
  ·cases hf
   have hv:=kF (aD.of1 hr);rw[hv];exact ⟨Rep.slcn k,rfl⟩
  ·cases hf
 | tmpSlc t k =>
  simp only[C8];split
  ·rename_i hn
   have hd:=tB hn;have aH:t<st.tmps.length:=by
    rcases Nat.lt_or_ge t st.tmps.length with h' | h'
    ·exact h'
    ·rw[List.getD_eq_getElem?_getD,List.getElem?_eq_none h'] at hd; cases hd
   have hr:=h.tm t aH;rw[fB _ _ _ aH] at hd;rw[hd] at hr;have hv:=kF hr;have:=h.put (some t) (d := .slc k []) (v := .slice none 0 0) (Rep.slcn k) (fun _ _ _ _ e=>by cases e);rw[<-hv,qo a t (by rw[h.tl]; exact aH)] at this;exact ⟨g,this⟩
  ·exact ⟨g,h⟩
 | tmpAny t k =>
  simp only[C8];split
  ·rename_i x hx
   have hd:=T.und_ok k _ x hx;have hp:=T.dyn_pl k x;have aH:t<st.tmps.length:=by
    rcases Nat.lt_or_ge t st.tmps.length with h' | h'
    ·exact h'
    ·rw[List.getD_eq_getElem?_getD,List.getElem?_eq_none h'] at hd
     rw[hd] at hp;cases hp
   have hr:=h.tm t aH;rw[fB _ _ _ aH] at hd;rw[<-hd] at hr;have hq:=hr.plain (by revert hp; generalize T.dyn k x=d; cases d <;> simp[DV.share,DV.lay,DV.plain]);have:=h.put (some t) (d := .any k x) (v:=a.tmps.getD t undef) (Rep.any hq) (fun _ _ _ _ e=>by cases e);rw[qo a t (by rw[h.tl]; exact aH)] at this;exact ⟨g,this⟩
  ·exact ⟨g,h⟩
 | aggSlc t c k =>
  simp only[C8];split
  ·rename_i d hd
   unfold LD at hd;split at hd
   ·rename_i cs uy
    split at hd
    ·rename_i hn
     cases hd;have RU:=tB hn;have aH:t<st.tmps.length:=by
      rcases Nat.lt_or_ge t st.tmps.length with h' | h'
      ·exact h'
      ·rw[List.getD_eq_getElem?_getD,List.getElem?_eq_none h'] at uy
       cases uy
     have hr:=h.tm t aH;rw[fB _ _ _ aH] at uy;rw[uy] at hr;have hr:Rep T w (free st.mem g) (.agg cs) (a.tmps.getD t undef):=hr;have hq:Rep T w (free st.mem g) (.agg (cs.set c (.slc k []))) (a.tmps.getD t undef):=by
      generalize a.tmps.getD t undef=v at hr;cases hr with
      | agg hl hc =>
       refine Rep.agg (by simpa using hl) fun i hi bq => ?_
       have u5:i<cs.length:=by simpa using hi
       by_cases e:c=i
       ·subst e
        rw[fB _ _ _ u5] at RU;have:=hc c u5 bq;rw[RU] at this;simp only[List.getElem_set_self];have hs:∀ u:Value,Rep T w (free st.mem g) (.nils:DV E) u->Rep T w (free st.mem g) (.slc k []) u:=fun u hu=>by cases hu; exact Rep.slcn k
        exact hs _ this
       ·simp only[List.getElem_set_ne e]
        exact hc i u5 bq
     have:=h.put (some t) (d := .agg (cs.set c (.slc k []))) (v:=a.tmps.getD t undef) hq.toT (fun _ _ _ _ e=>by cases e);rw[qo a t (by rw[h.tl]; exact aH)] at this;exact ⟨g,this⟩
    ·cases hd
   ·cases hd
  ·exact ⟨g,h⟩
 | tmpOpt t zs =>
  simp only[C8];split
  ·rename_i d hd
   have aH:t<st.tmps.length:=by
    rcases Nat.lt_or_ge t st.tmps.length with h' | h'
    ·exact h'
    ·rw[List.getD_eq_getElem?_getD,List.getElem?_eq_none h'] at hd; cases hd
   have hr:=h.tm t aH;rw[fB _ _ _ aH] at hd;have hq:aD T w (free st.mem g) g d (a.tmps.getD t undef):=by
    unfold Rf at hd;split at hd
    ·rename_i e
     cases hd;rw[e] at hr;rw[oq hr];exact Rep.optn _
    ·rename_i cs e
     cases hd;rw[e] at hr;exact Rep.opts hr
    ·cases hd
   have:=h.put (some t) (d:=d) (v:=a.tmps.getD t undef) hq (fun _ _ _ _ e=>by
    unfold Rf at hd;split at hd <;> cases hd <;> cases e)
   rw[qo a t (by rw[h.tl]; exact aH)] at this;exact ⟨g,this⟩
  ·exact ⟨g,h⟩
theorem FR:∀ (cs:List (Co K)) {st:St E} {g:Gh},Inv T w0 G st a w g -> ∃ g',Inv T w0 G (Iw T cs st) a w g'
 | [],st,g,h=>⟨g,h⟩
 | c::cs,st,g,h=>by
  obtain ⟨g1,h1⟩:=Ti c h;exact FR cs h1
theorem QZ (c:Co K) (st:St E):(C8 T c st).tmps.length=st.tmps.length:=by
 have hs:∀ n c f (st:St E),(nO n c f st).tmps.length=st.tmps.length:=by
  intro n c f st;unfold nO;split
  ·split
   ·simp[St.app]
   ·rfl
  ·rfl
 have hr:∀ t m (st:St E),(Fi t m st).tmps.length=st.tmps.length:=by
  intro t m st;unfold Fi;split
  ·split
   ·rfl
   ·simp[St.app]
  ·rfl
 have hc:∀ n c m (st:St E),(Ak n c m st).tmps.length=st.tmps.length:=by
  intro n c m st;unfold Ak;split
  ·split
   ·rfl
   ·rw[hs]; simp[St.app]
  ·rfl
 cases c <;> simp only[C8] <;> (try split) <;> simp[hs,hr,hc,St.app,St.set]
theorem Im:∀ (cs:List (Co K)) (st:St E),(Iw T cs st).tmps.length=st.tmps.length
 | [],st=>rfl
 | c::cs,st=>by rw[Iw,Im cs,QZ]
end Go.Vm
