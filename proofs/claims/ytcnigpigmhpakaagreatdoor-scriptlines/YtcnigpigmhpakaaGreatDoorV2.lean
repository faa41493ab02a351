/- Part 2 of an abstract value machine: a framework of this session's own, in which functions of the program are run once and for all inputs. No condition. -/
import Derived.Test.YtcnigpigmhpakaaGreatDoorV1
import Derived.Lib.ConvBytes
/- The abstract value machine: a call. -/
namespace Go.Vm
open Go.Lib
set_option linter.unusedVariables false
variable {K:Type} {E:K→Type}
def qp:Box E→Bool
 | .row .. => true
 | _=>false
def nJ (mem:Mem E) (d:DV E):DV E:=match d with
 | .ptr n 0=>match look mem n with
  | some (.cells _ _) => .ptr n 0
  | _ => .junk
 | _ => .junk
def po (nm:Nat) (args:List (DV E×Md)) (mem:Mem E) (res:Res E):Option (Out E) :=
 let ds:=args.map (·.1)
 let inv:=args.flatMap fun x=>hI mem x.2 x.1
 let ks0:=args.flatMap fun x=>FD mem x.2 x.1
 let cv:=zL nm (ds.map (nJ mem)) res.v
 let cp:=eK mem args res.pins
 if inv.isEmpty && cv.2.isEmpty then some (val cv.1)
 else if nodupB ((cv.2 ++ cp).map (·.1)) then
  let ks:=ks0 ++ (cv.2.map (·.1) ++ (cp.filter fun x=>qp x.2 && !(uM mem args).contains x.1).map (·.1))
  some ⟨cv.1,ks,some ((cv.2 ++ cp) ++ cK ks (gY mem (inv ++ ks)))⟩
 else none
def rj (d:Nat) (args:List (DV E×Md)):Nat :=
 match args.flatMap fun x=>if x.2 = .give then (match x.1 with
  | .rowp n => [n]
  | _ => []) else [] with
 | [n]=>n
 | _=>64 * d
def uF (env:Env E) (d:Nat) (f:DV E) (args:List (DV E×Md)) (mem:Mem E):Cal E :=
 match f with
 | .fn id cap =>
  let con:=env id (args.map (fun x=>bX mem x.2 x.1) ++ cap)
  let inv:=args.flatMap fun x=>hI mem x.2 x.1
  let vw:=args.flatMap fun x=>oC x.2 x.1
  if nodupB inv && vw.all (fun n => !inv.contains n) && (vw.isEmpty || con.fl) && cap.all DV.plain then
   .retO con.R con.m fun r=>po (rj d args) args mem (con.out r)
  else .bad
 | _ => .bad
def C4 (env:Env E) (d:Nat) (f:DV E) (ds:List (DV E)):Cal E :=
 match f with
 | .fn id cap =>
  let con:=env id (ds ++ cap)
  if ds.all DV.share && cap.all DV.plain then
   .retO con.R con.m fun r=>let cv:=zL (64 * d) (ds.map fun _ => .junk) (con.out r).v
    if cv.2.isEmpty then some (val cv.1) else none
  else .bad
 | _ => .bad
theorem B5 {args:List (DV E×Md)} (mem:Mem E) (h:(args.map (·.1)).all DV.share=true) :
  args.map (fun x=>bX mem x.2 x.1)=args.map (·.1)∧(args.flatMap fun x=>hI mem x.2 x.1) = []∧(args.flatMap fun x=>oC x.2 x.1) = []∧(args.map (·.1)).map (nJ mem)=(args.map (·.1)).map (fun _ => .junk) ∧ ∀ d,rj d args=64 * d:=by
 have one : ∀ x∈args,bX mem x.2 x.1=x.1∧hI mem x.2 x.1 = []∧oC x.2 x.1 = []∧nJ mem x.1 = .junk∧(if x.2 = .give then (match x.1 with | .rowp n => [n] | _ => []) else []:List Nat) = []:=by
  intro x hx
  have hs:x.1.share=true:=List.all_eq_true.1 h x.1 (List.mem_map.2 ⟨x,hx,rfl⟩)
  obtain ⟨d,md⟩:=x
  simp only at hs ⊢
  cases d <;> first | (simp [DV.share,DV.lay,DV.plain] at hs; done) | (refine ⟨?_,rfl,rfl,rfl,by split <;> rfl⟩; unfold bX; simp only [hs,if_true])
 refine ⟨List.map_congr_left fun x hx=>(one x hx).1,List.flatMap_eq_nil_iff.2 fun x hx=>(one x hx).2.1,List.flatMap_eq_nil_iff.2 fun x hx=>(one x hx).2.2.1,?_,fun d => ?_⟩
 ·rw [List.map_map,List.map_map]
  exact List.map_congr_left fun x hx=>(one x hx).2.2.2.1
 ·unfold rj
  rw [List.flatMap_eq_nil_iff.2 fun x hx=>(one x hx).2.2.2.2]
theorem Bu {env:Env E} {d:Nat} {f:DV E} {args:List (DV E×Md)} {mem:Mem E} {out:Out E} (h:(C4 env d f (args.map (·.1))).has out):(uF env d f args mem).has out:=by
 unfold C4 at h
 unfold uF
 cases f with
 | fn id cap =>
  simp only at h ⊢
  split at h
  ·rename_i hc
   rw [Bool.and_eq_true] at hc
   obtain ⟨q1,q2,q3,q4,q5⟩:=B5 mem hc.1
   rw [q1,q2,q3,q5,if_pos (by simp [nodupB,hc.2])]
   obtain ⟨r,hr,ho⟩:=h
   refine ⟨r,hr,?_⟩
   unfold po
   simp only [q2,q4] at ho ⊢
   split at ho
   ·rename_i hcv
    rw [if_pos (by rw [hcv]; rfl)]
    exact ho
   ·cases ho
  ·obtain ⟨_,h,_⟩:=h; cases h
 | _=>obtain ⟨_,h,_⟩:=h; cases h
variable {T:Tab E} {P:Program} {w0:World} {G:GP} {st:St E} {a:Act} {w:World} {g:Gh}
theorem iQ : ∀ {l:List Nat},nodupB l=true→l.Nodup
 | [],_=>List.nodup_nil
 | x :: l,h=>by
  simp only [nodupB,Bool.and_eq_true,Bool.not_eq_true',List.contains_eq_mem,decide_eq_false_iff_not] at h
  exact List.nodup_cons.2 ⟨h.1,iQ h.2⟩
def bk (g:Gh) (n:Nat):List Nat:=(blk (g n)).toList
theorem eZ.append {R:DV E→Value→List Nat→Prop} {ds:List (DV E)} {vs:List Value} {bl:List Nat} (h:eZ R ds vs bl) {ds':List (DV E)} {vs':List Value} {bl':List Nat} (h':eZ R ds' vs' bl') :
  eZ R (ds ++ ds') (vs ++ vs') (bl ++ bl'):=by
 induction h with
 | nil=>exact h'
 | cons h t ih=>rw [List.append_assoc]; exact .cons h ih
theorem eZ.uq {R:DV E→Value→List Nat→Prop} : ∀ (ds:List (DV E)) (vs:List Value) (f:DV E→List Nat),ds.length=vs.length →
  (∀ i (h:i<ds.length) (h':i<vs.length),R ds[i] vs[i] (f ds[i]))→eZ R ds vs (ds.flatMap f)
 | [],[],f,_,_ => .nil
 | [],_ :: _,f,h,_=>by simp at h
 | _ :: _,[],f,h,_=>by simp at h
 | d :: ds,v :: vs,f,h,hr=>by
  rw [List.flatMap_cons]
  exact .cons (hr 0 (by simp) (by simp)) (eZ.uq ds vs f (by simpa using h) fun i hi hi'=>hr (i+1) (by simpa using hi) (by simpa using hi'))
theorem eZ.map {R R':DV E→Value→List Nat→Prop} {ds:List (DV E)} {vs:List Value} {bl:List Nat} (h:eZ R ds vs bl) (f:DV E→DV E) (hf : ∀ d v b,R d v b→R' (f d) v b):eZ R' (ds.map f) vs bl:=by
 induction h with
 | nil=>exact .nil
 | cons h t ih=>exact .cons (hf _ _ _ h) ih
theorem qM {Y:Nat→Prop} {e:TypeId} {k:K} {l:List (E k)} {v:Value} (h:aP T w Y e k l v) (hY : ∀ b,blk v=some b→Y b):Rep T w Y (.slc k l) v:=by
 obtain ⟨xs,h1,h2⟩:=h.els
 rcases h1.2 with ⟨rfl,hn⟩ | ⟨gg,cap,cur,rfl,_,hg,hnc,hcm,hcs,htk⟩
 ·have:l = []:=List.eq_nil_of_length_eq_zero hn
  subst this
  exact .slcn k
 ·have hcell:=h1.cells (g:=gg) rfl
  refine Rep.slc (b:=gg) (off:=0) cap (fun j=>xs.getD j undef) hnc (fun _=>⟨hY gg rfl,by obtain ⟨fz,_,hg⟩:=hg; exact kP hg⟩) ?_ ?_ h2.pl
  ·intro j hj
   have:=hcell j (xs.getD j undef) (by rw [← h2.len] at hj; simp [hj])
   rw [Addr.add_lit] at this
   exact this
  ·intro i hi c hcc
   obtain ⟨u,hu,hr⟩:=h2.rep i hi c hcc
   have:xs.getD (i * T.sz k+c) undef=u:=by simp [hu]
   rw [this]
   exact hr
theorem aP.mono {w':World} {X X':Nat→Prop} {e:TypeId} {k:K} {l:List (E k)} {v:Value} (h:aP T w X e k l v)
  (hm : ∀ b,X b→b<w.heap.size→X' b∧b<w'.heap.size∧w'.heap[b]? = w.heap[b]?) (hb : ∀ b,blk v=some b→w'.heap[b]? = w.heap[b]?):aP T w' X' e k l v:=by
 obtain ⟨xs,p1,p2⟩:=h.els
 refine aP.mk' ⟨p1.1,?_⟩ (p2.mono hm)
 rcases p1.2 with hn | ⟨gg,cap,cur,e1,e2,e3,e4⟩
 ·exact .inl hn
 ·exact .inr ⟨gg,cap,cur,e1,e2,by rw [hb gg (by rw [e1]; rfl)]; exact e3,e4⟩
theorem Ei (h:Inv T w0 G st a w g) {Y:Nat→Prop} (hY : ∀ b,free st.mem g b→Y b) {me b0:Nat} (hme:g me = .pointer (some ⟨b0,0,none⟩)) {d:DV E} {v:Value} (p1:dt T w (free st.mem g) g d v) (p2:v.oneCell'=true) :
  pY T w Y b0 (jd me st.mem d) v ((dG st.mem d).flatMap (bk g)):=by
 have hm : ∀ b,free st.mem g b→b<w.heap.size→Y b∧b<w.heap.size∧w.heap[b]? = w.heap[b]? := fun b hf hlt=>⟨hY b hf,hlt,rfl⟩
 cases d with
 | rowp m =>
  have hvm:v=g m:=p1
  subst hvm
  simp only [jd,dG]
  cases hlm:look st.mem m with
  | none=>exact .inl ⟨.junk _,p2,rfl⟩
  | some bx =>
   cases bx with
   | cells t' cs'=>exact .inl ⟨.junk _,p2,rfl⟩
   | siter s p=>exact .inl ⟨.junk _,p2,rfl⟩
   | arr _ _ _ _=>exact .inl ⟨.junk _,p2,rfl⟩
   | row e k l =>
    have hr:=h.mm m _ (bt hlm)
    have:([m]:List Nat).flatMap (bk g)=(blk (g m)).toList:=by simp [bk]
    simp only [this]
    exact .inl ⟨.row (hr.mono hm fun _ _=>rfl),p2,by rfl⟩
 | argp m =>
  obtain ⟨b,h1,h2⟩:=p1
  simp only [jd]
  split
  ·rename_i e
   subst e
   rw [hme] at h1
   cases h1
   exact .inr ⟨rfl,rfl,h2⟩
  ·exact .inl ⟨.junk _,p2,rfl⟩
 | _=>first
  | exact .inl ⟨.sh ((dt.plain p1 rfl).mono hm) rfl,p2,rfl⟩
  | exact .inl ⟨.junk _,p2,rfl⟩
theorem tI (h:Inv T w0 G st a w g) {Y:Nat→Prop} (hY : ∀ b,free st.mem g b→Y b) (md:Md) {d:DV E} {v:Value} (hd:aB T w (free st.mem g) g d v)
  (hv : ∀ n∈oC md d,n∈names st.mem → ∀ b,blk (g n)=some b→Y b):Own T w Y (bX st.mem md d) v ((hI st.mem md d).flatMap (bk g)):=by
 have hm : ∀ b,free st.mem g b→b<w.heap.size→Y b∧b<w.heap.size∧w.heap[b]? = w.heap[b]? := fun b hf hlt=>⟨hY b hf,hlt,rfl⟩
 have shr : ∀ d':DV E,aB T w (free st.mem g) g d' v→hI st.mem md d = []→Own T w Y (if d'.share then d' else .junk) v ((hI st.mem md d).flatMap (bk g)):=by
  intro d' hd' he
  rw [he]
  split
  ·rename_i hs
   exact .c (.sh ((hd'.plain hs).mono hm) hs)
  ·exact .c (.junk v)
 cases d with
 | rowp n =>
  have hvn:v=g n:=hd
  simp only [bX,hI,dG]
  cases hl:look st.mem n with
  | none=>cases md <;> exact .c (.junk v)
  | some bx =>
   cases bx with
   | cells t cs=>cases md <;> exact .c (.junk v)
   | siter s p=>cases md <;> exact .c (.junk v)
   | arr _ _ _ _=>cases md <;> exact .c (.junk v)
   | row e k l =>
    have hr:=h.mm n _ (bt hl)
    have hbk:([n]:List Nat).flatMap (bk g)=(blk (g n)).toList:=by simp [bk]
    cases md
    ·rw [hvn]
     exact .c (.sh (qM (hr.mono hm fun _ _=>rfl) fun b hb=>hv n (by simp [oC]) (bp hl) b hb) rfl)
    ·rw [hvn]
     simp only [hbk]
     exact .c (.row (hr.mono hm fun _ _=>rfl))
    ·rw [hvn]
     simp only [hbk]
     exact .lend (hr.mono hm fun _ _=>rfl)
 | rowv n q =>
  obtain ⟨ad,len,cap,hg,rfl,hq⟩:=hd
  simp only [bX]
  cases hl:look st.mem n with
  | none=>exact .c (.junk _)
  | some bx =>
   cases bx with
   | cells t cs=>exact .c (.junk _)
   | siter s p=>exact .c (.junk _)
   | arr _ _ _ _=>exact .c (.junk _)
   | row e k l =>
    have hr:aP T w (free st.mem g) e k l (g n):=h.mm n _ (bt hl)
    have hr':=qM (hr.mono hm fun _ _=>rfl) fun b hb=>hv n (by simp [oC]) (bp hl) b hb
    rw [hg] at hr'
    refine .c (.sh ?_ rfl)
    rcases im (g:=g) (Rep.toT hr') with ⟨he,rfl⟩ | ⟨a0,c0,he,rfl⟩ | ⟨b,off,cap',f,he,h1,h2,h3,h4,h5⟩
    ·cases he
     have:q=0:=by omega
     subst this
     exact .slcn k
    ·cases he
     have:q=0:=by omega
     subst this
     exact .slcz k _ _
    ·cases he
     have hlen:(l.take q).length=q:=by simp; omega
     have:=Rep.slc (T:=T) (w:=w) (X:=Y) (k:=k) (l:=l.take q) (b:=b) (off:=off) cap f (by rw [hlen]; omega) (fun hh=>h2 (by rw [hlen] at hh; omega))
      (fun j hj=>h3 j (by rw [hlen] at hj; exact Nat.lt_of_lt_of_le hj (Nat.mul_le_mul_right _ hq)))
      (fun i hi c hcc=>by
       simp only [List.getElem_take] at hcc ⊢
       exact h4 i (by rw [hlen] at hi; omega) c hcc)
      (fun i hi c hcc=>by
       simp only [List.getElem_take] at hcc ⊢
       exact h5 i (by rw [hlen] at hi; omega) c hcc)
     rw [hlen] at this
     exact this
 | ptr n off =>
  cases off with
  | succ off=>exact .c (.junk v)
  | zero =>
   obtain ⟨b,hg,rfl⟩:=ep hd
   simp only [bX,hI]
   cases hl:look st.mem n with
   | none=>exact .c (.junk _)
   | some bx =>
    cases bx with
    | row e k l=>exact .c (.junk _)
    | siter s p=>exact .c (.junk _)
    | arr _ _ _ _=>exact .c (.junk _)
    | cells t cs =>
     obtain ⟨b',vs,h1,h2,h3,h4⟩:=h.mm n _ (bt hl)
     rw [hg] at h1
     cases h1
     have hbk:bk g n = [b]:=by simp [bk,hg,blk]
     rw [List.flatMap_cons,hbk]
     refine .pin ⟨b,vs,(cs.flatMap (dG st.mem)).flatMap (bk g),rfl,h2,?_,rfl⟩
     rw [List.flatMap_assoc]
     have hcells:eZ (fun d v bs=>pY T w Y b (jd n st.mem d) v bs) cs vs.toList (cs.flatMap fun d=>(dG st.mem d).flatMap (bk g)):=by
      refine eZ.uq cs vs.toList (fun d=>(dG st.mem d).flatMap (bk g)) (by simpa using h3) fun i hi hi' => ?_
      obtain ⟨p1,p2,p3⟩:=h4 i hi (by simpa using hi')
      simp only [Array.getElem_toList]
      exact Ei h hY hg p1 p2
     exact hcells.map (jd n st.mem) fun d v b hd=>hd
 | _=>exact shr _ hd rfl
end Go.Vm
/- The abstract value machine: what comes back from a call. -/
namespace Go.Vm
open Go.Lib
set_option linter.unusedVariables false
variable {K:Type} {E:K→Type}
variable {T:Tab E} {P:Program} {w0:World} {G:GP} {st:St E} {a:Act} {w:World} {g:Gh}
def sw (T:Tab E) (w:World) (X:Nat→Prop) (g:Gh) (es:jj E):Prop := ∀ x∈es,zg T w X g x.2.2 x.2.1
def gF (g:Gh) (es:jj E):Prop := ∀ x∈es,g x.1=x.2.2
theorem gF.left {es es':jj E} (h:gF g (es ++ es')):gF g es:=fun x hx=>h x (List.mem_append_left _ hx)
theorem gF.right {es es':jj E} (h:gF g (es ++ es')):gF g es':=fun x hx=>h x (List.mem_append_right _ hx)
def mo (T:Tab E) (w:World) (Y X:Nat→Prop):Prop := ∀ b,Y b→b<w.heap.size→X b
theorem aP.wide {Y X:Nat→Prop} (hw:mo T w Y X) {e:TypeId} {k:K} {l:List (E k)} {v:Value} (h:aP T w Y e k l v):aP T w X e k l v :=
 h.mono (fun b hb hlt=>⟨hw b hb hlt,hlt,rfl⟩) fun _ _=>rfl
theorem Rep.wide {Y X:Nat→Prop} (hw:mo T w Y X) {d:DV E} {v:Value} (h:Rep T w Y d v):Rep T w X d v:=h.mono fun b hb hlt=>⟨hw b hb hlt,hlt,rfl⟩
theorem gu {es es':jj E}:dY (es ++ es')=dY es ++ dY es':=by simp [dY]
theorem jL {es es':jj E}:dQ (es ++ es')=dQ es ++ dQ es':=by simp [dQ]
theorem zb (n:Nat) {Y:Nat→Prop} {cs:List (DV E)} {vs:List Value} {bl:List Nat} {b0:Nat} (h:eZ (pY T w Y b0) cs vs bl) : ∀ (c:Nat) (olds:List (DV E)),
  ∃ es:jj E,dQ es=(aY n c olds cs).2∧dY es=bl∧(∀ X g',mo T w Y X→sw T w X g' es)∧(∀ x∈es,qp x.2.1=true) ∧
   (aY n c olds cs).1.length=vs.length ∧
   ∀ X g',mo T w Y X→g' n = .pointer (some ⟨b0,0,none⟩)→gF g' es → ∀ i (hi:i<(aY n c olds cs).1.length) (hi':i<vs.length),dt T w X g' (aY n c olds cs).1[i] vs[i]∧vs[i].oneCell'=true∧(aY n c olds cs).1[i].ej=true:=by
 induction h with
 | nil=>intro c olds; exact ⟨[],rfl,rfl,fun _ _ _ x hx=>(by cases hx),fun x hx=>(by cases hx),rfl,fun _ _ _ _ _ i hi=>absurd hi (by simp [aY])⟩
 | @cons d v b ds vs bs h t ih =>
  intro c olds
  obtain ⟨es,e1,e2,e3,e3',e4,e5⟩:=ih (c+1) olds.tail
  rcases h with ⟨hc,h1,hs⟩ | ⟨rfl,rfl,hv⟩
  case inr =>
   refine ⟨es,by simpa [aY] using e1,by simpa using e2,e3,e3',by simpa [aY] using e4,?_⟩
   intro X g' hw hgn ha i hi hi'
   cases i with
   | zero=>exact ⟨⟨b0,hgn,hv⟩,by rcases hv with rfl | rfl <;> rfl,rfl⟩
   | succ i=>exact e5 X g' hw hgn ha i (by simpa [aY] using hi) (by simpa using hi')
  cases hc with
  | junk v =>
   refine ⟨es,by simpa [aY] using e1,by simpa using e2,e3,e3',by simpa [aY] using e4,?_⟩
   intro X g' hw hgn ha i hi hi'
   cases i with
   | zero=>exact ⟨Rep.junk _,h1,rfl⟩
   | succ i=>exact e5 X g' hw hgn ha i (by simpa [aY] using hi) (by simpa using hi')
  | sh hr hsh =>
   have hp:d.plain=true:=by rw [← hs]; exact hsh
   have hcc:aY n c olds (d :: ds)=(d :: (aY n (c+1) olds.tail ds).1,(aY n (c+1) olds.tail ds).2):=by
    cases d <;> first | rfl | (simp [DV.plain] at hp; done)
   rw [hcc]
   refine ⟨es,e1,by simpa using e2,e3,e3',by simpa using e4,?_⟩
   intro X g' hw hgn ha i hi hi'
   cases i with
   | zero=>exact ⟨(hr.wide hw).Cl,h1,mg hp⟩
   | succ i=>exact e5 X g' hw hgn ha i (by simpa using hi) (by simpa using hi')
  | @row e k l _ hr =>
   refine ⟨(u2 n c (olds.headD .junk), .row e k l,v) :: es,by simp [aY,dQ] at e1 ⊢; exact e1,by simp [dY] at e2 ⊢; rw [e2],?_,?_,by simpa [aY] using e4,?_⟩
   ·intro X g' hw x hx
    rcases List.mem_cons.1 hx with rfl | hx
    ·exact hr.wide hw
    ·exact e3 X g' hw x hx
   ·intro x hx
    rcases List.mem_cons.1 hx with rfl | hx
    ·rfl
    ·exact e3' x hx
   ·intro X g' hw hgn ha i hi hi'
    cases i with
    | zero=>exact ⟨(ha _ (List.mem_cons_self ..)).symm,h1,rfl⟩
    | succ i=>exact e5 X g' hw hgn (fun x hx=>ha x (List.mem_cons_of_mem _ hx)) i (by simpa [aY] using hi) (by simpa using hi')
theorem vg (n:Nat) (olds:List (DV E)) {Y:Nat→Prop} {t:TypeId} {cs:List (DV E)} {v:Value} {bl:List Nat} (h:mh T w Y t cs v bl) :
  ∃ es:jj E,dQ es=(n, .cells t (aY n 0 olds cs).1) :: (aY n 0 olds cs).2∧dY es=bl∧(∀ X g',mo T w Y X→gF g' es→sw T w X g' es) ∧
   (∀ x∈es,qp x.2.1=true∨(x.1=n∧x.2.2=v))∧(∃ b,v = .pointer (some ⟨b,0,none⟩)) ∧ ∃ x∈es,x.1=n∧x.2.2=v:=by
 obtain ⟨b,vs,bs,rfl,h2,h3,rfl⟩:=h
 obtain ⟨es,e1,e2,e3,e3',e4,e5⟩:=zb n h3 0 olds
 refine ⟨(n, .cells t (aY n 0 olds cs).1, .pointer (some ⟨b,0,none⟩)) :: es,by simp [dQ] at e1 ⊢; exact e1,by simp [dY,blk] at e2 ⊢; exact e2,?_,?_,⟨b,rfl⟩,_,List.mem_cons_self ..,rfl,rfl⟩
 ·intro X g' hw ha x hx
  rcases List.mem_cons.1 hx with rfl | hx
  ·refine ⟨b,vs,rfl,h2,by simpa using e4,?_⟩
   intro i hi hi'
   have:=e5 X g' hw (ha _ (List.mem_cons_self ..)) (fun x hx=>ha x (List.mem_cons_of_mem _ hx)) i hi (by simpa using hi')
   simpa using this
  ·exact e3 X g' hw x hx
 ·intro x hx
  rcases List.mem_cons.1 hx with rfl | hx
  ·exact .inr ⟨rfl,rfl⟩
  ·exact .inl (e3' x hx)
theorem sU (nm:Nat) (ds:List (DV E)) {Y:Nat→Prop} {args:List Value} {d:DV E} {v:Value} {bl:List Nat} (h:Ans T w Y args d v bl) :
  ∃ es:jj E,dQ es=(je nm ds d).2∧dY es=bl∧(∀ X g',mo T w Y X→gF g' es→sw T w X g' es) ∧
   ∀ X g',mo T w Y X→gF g' es→(∀ (j n:Nat) (u:Value),ds[j]? = some (.ptr n 0)→args[j]? = some u→dt T w X g' (.ptr n 0) u) →
    dt T w X g' (je nm ds d).1 v∧(je nm ds d).1.noR=true:=by
 cases h with
 | c h =>
  cases h with
  | junk v=>exact ⟨[],rfl,rfl,fun _ _ _ _ x hx=>(by cases hx),fun X g' _ _ _=>⟨Rep.junk _,rfl⟩⟩
  | sh hr hs =>
   have hcc:je nm ds d=(d,[]):=by cases d <;> first | rfl | (simp [DV.share,DV.lay,DV.plain] at hs; done)
   rw [hcc]
   exact ⟨[],rfl,rfl,fun _ _ _ _ x hx=>(by cases hx),fun X g' hw _ _=>⟨(hr.wide hw).Cl,by cases d <;> first | rfl | (simp [DV.share,DV.lay,DV.plain] at hs; done)⟩⟩
  | @row e k l _ hr =>
   refine ⟨[(nm, .row e k l,v)],rfl,by simp [dY],?_,?_⟩
   ·intro X g' hw _ x hx
    simp only [List.mem_singleton] at hx
    subst hx
    exact hr.wide hw
   ·intro X g' hw ha _
    exact ⟨(ha _ (List.mem_singleton.2 rfl)).symm,rfl⟩
 | newb h =>
  obtain ⟨es,e1,e2,e3,e4,⟨b,e5⟩,x,hx,e6,e7⟩:=vg nm [] h
  refine ⟨es,e1,e2,e3,fun X g' hw ha _=>⟨?_,rfl⟩⟩
  refine ⟨b,?_,e5⟩
  rw [← e6,ha x hx,e7,e5]
 | argp hj =>
  rename_i j
  refine ⟨[],?_,rfl,fun _ _ _ _ x hx=>(by cases hx),?_⟩
  ·simp only [je]
   split <;> rfl
  ·intro X g' hw _ hp
   simp only [je]
   split
   ·rename_i n hn
    exact ⟨hp j n v hn hj,rfl⟩
   ·exact ⟨Rep.junk _,rfl⟩
theorem rz (ds:List (DV E)) {Y:Nat→Prop} {args:List Value} {rs:List (DV E)} {vs:List Value} {bl:List Nat} (h:eZ (Ans T w Y args) rs vs bl) : ∀ (nm:Nat),
  ∃ es:jj E,dQ es=(cg nm ds rs).2∧dY es=bl∧(∀ X g',mo T w Y X→gF g' es→sw T w X g' es)∧(cg nm ds rs).1.length=vs.length ∧
   ∀ X g',mo T w Y X→gF g' es→(∀ (j n:Nat) (u:Value),ds[j]? = some (.ptr n 0)→args[j]? = some u→dt T w X g' (.ptr n 0) u) →
    ∀ i (hi:i<(cg nm ds rs).1.length) (hi':i<vs.length),dt T w X g' (cg nm ds rs).1[i] vs[i]∧(cg nm ds rs).1[i].noR=true:=by
 induction h with
 | nil=>intro nm; exact ⟨[],rfl,rfl,fun _ _ _ _ x hx=>(by cases hx),rfl,fun _ _ _ _ _ i hi=>absurd hi (by simp [cg])⟩
 | @cons d v b ds' vs bs h t ih =>
  intro nm
  obtain ⟨es,e1,e2,e3,e4⟩:=sU nm ds h
  obtain ⟨es',f1,f2,f3,f4,f5⟩:=ih (nm+1)
  refine ⟨es ++ es',by rw [jL,e1,f1]; rfl,by rw [gu,e2,f2],?_,by simpa [cg] using f4,?_⟩
  ·intro X g' hw ha x hx
   rcases List.mem_append.1 hx with hx | hx
   ·exact e3 X g' hw ha.left x hx
   ·exact f3 X g' hw ha.right x hx
  ·intro X g' hw ha hp i hi hi'
   cases i with
   | zero=>exact e4 X g' hw ha.left hp
   | succ i=>exact f5 X g' hw ha.right hp i (by simpa [cg] using hi) (by simpa using hi')
theorem Ho (nm:Nat) (ds:List (DV E)) {Y:Nat→Prop} {args:List Value} {d:DV E} {v:Value} {bl:List Nat} (h:tB T w Y args d v bl) :
  ∃ es:jj E,dQ es=(zL nm ds d).2∧dY es=bl∧(∀ X g',mo T w Y X→gF g' es→sw T w X g' es) ∧
   ∀ X g',mo T w Y X→gF g' es→(∀ (j n:Nat) (u:Value),ds[j]? = some (.ptr n 0)→args[j]? = some u→dt T w X g' (.ptr n 0) u) →
    aB T w X g' (zL nm ds d).1 v∧(zL nm ds d).1.noR=true:=by
 cases d with
 | tup rs =>
  obtain ⟨vs,rfl,h⟩:=h
  obtain ⟨es,e1,e2,e3,e4,e5⟩:=rz ds h (nm+1)
  refine ⟨es,e1,e2,e3,fun X g' hw ha hp=>⟨⟨vs,rfl,by simpa using e4.symm,?_⟩,rfl⟩⟩
  intro i hi hi'
  have:=e5 X g' hw ha hp i hi (by simpa using hi')
  simpa using this
 | _ =>
  obtain ⟨es,e1,e2,e3,e4⟩:=sU nm ds h
  exact ⟨es,e1,e2,e3,fun X g' hw ha hp=>⟨aB.of1 (e4 X g' hw ha hp).1,(e4 X g' hw ha hp).2⟩⟩
end Go.Vm
/- The abstract value machine: a call is sound. -/
namespace Go.Vm
open Go.Lib
set_option linter.unusedVariables false
variable {K:Type} {E:K→Type}
variable {T:Tab E} {P:Program} {w0:World} {G:GP} {st:St E} {a:Act} {w:World} {g:Gh}
def iu:DV E→Bool
 | .pin _ _=>true
 | .newb _ _=>true
 | _=>false
def Jj (mem:Mem E) (x:DV E×Md):Prop:=(∃ n t cs,x.1 = .ptr n 0∧look mem n=some (.cells t cs))∨(x.2 = .lend ∧ ∃ n e k l,x.1 = .rowp n∧look mem n=some (.row e k l))
theorem th (mem:Mem E) (x:DV E×Md) (h : ¬ Jj mem x):iu (bX mem x.2 x.1)=false:=by
 obtain ⟨d,md⟩:=x
 change iu (bX mem md d)=false
 unfold bX
 split
 ·rename_i n
  split
  ·rename_i e k l hl
   split
   ·rfl
   ·rfl
   ·exact absurd (Or.inr ⟨rfl,_,e,k,l,rfl,hl⟩) h
  ·rfl
 ·split <;> rfl
 ·rename_i n
  split
  ·rename_i t cs hl; exact absurd (Or.inl ⟨_,t,cs,rfl,hl⟩) h
  ·rfl
 ·split
  ·rename_i d' _ _ _ hs
   cases d <;> first | rfl | (simp [DV.share,DV.lay,DV.plain] at hs; done)
  ·rfl
theorem Bp {Y:Nat→Prop} {ds:List (DV E)} {vs:List Value} {ps:List (List (DV E))} {bl:List Nat} (h:fW T w Y ds vs ps bl) (hd : ∀ d∈ds,iu d=false):ps = []∧bl = []:=by
 induction h with
 | nil=>exact ⟨rfl,rfl⟩
 | skip _ _ ih=>exact ih fun d hm=>hd d (List.mem_cons_of_mem _ hm)
 | pin _ _ _=>have:=hd _ (List.mem_cons_self ..); simp [iu] at this
 | lend _ _ _=>have:=hd _ (List.mem_cons_self ..); simp [iu] at this
def Pinned (mem:Mem E) (args:List (DV E×Md)) (n:Nat):Prop :=
 ∃ x∈args,(x.1 = .ptr n 0 ∧ ∃ t cs,look mem n=some (.cells t cs))∨(x.2 = .lend∧x.1 = .rowp n ∧ ∃ e k l,look mem n=some (.row e k l))
theorem pW (mem:Mem E) (x:DV E×Md) (ds:List (DV E×Md)) (ps:List (List (DV E))) (h : ¬ Jj mem x):eK mem (x :: ds) ps=eK mem ds ps:=by
 obtain ⟨d,md⟩:=x
 cases ps with
 | nil=>cases d <;> cases md <;> (try rfl) <;> rename_i off <;> cases off <;> rfl
 | cons p ps =>
  cases d with
  | ptr n off =>
   cases off with
   | succ off=>rfl
   | zero =>
    simp only [eK]
    split
    ·rename_i t cs hl; exact absurd (.inl ⟨n,t,cs,rfl,hl⟩) h
    ·rfl
  | rowp n =>
   cases md with
   | lend =>
    simp only [eK]
    split
    ·rename_i e k l hl; exact absurd (.inr ⟨rfl,n,e,k,l,rfl,hl⟩) h
    ·rfl
   | _=>rfl
  | _=>rfl
theorem FY {mem:Mem E} {args:List (DV E×Md)} {n:Nat}:n∈uM mem args ↔ ∃ x∈args,x.2 = .lend∧x.1 = .rowp n ∧ ∃ e k l,look mem n=some (.row e k l):=by
 unfold uM
 rw [List.mem_flatMap]
 constructor
 ·rintro ⟨⟨d,md⟩,hx,hn⟩
  cases md <;> simp only [List.not_mem_nil] at hn
  cases d <;> simp only [List.not_mem_nil] at hn
  rename_i m
  simp only [dG] at hn
  cases hl:look mem m with
  | none=>rw [hl] at hn; cases hn
  | some bx =>
   rw [hl] at hn
   cases bx with
   | row e k l =>
    simp only [List.mem_singleton] at hn
    subst hn
    exact ⟨_,hx,rfl,rfl,e,k,l,hl⟩
   | cells t cs=>cases hn
   | siter s p=>cases hn
   | arr _ _ _ _=>cases hn
 ·rintro ⟨⟨d,md⟩,hx,h1,h2,e,k,l,hl⟩
  simp only at h1 h2
  subst h1; subst h2
  exact ⟨_,hx,by simp [dG,hl]⟩
theorem s5 {w':World} {Y:Nat→Prop} {cap:List (DV E)} {vcap:List Value} (hcap : ∀ d∈cap,iu d=false) :
  ∀ (args:List (DV E×Md)) (vs:List Value) (pins:List (List (DV E))) (bl:List Nat),args.length=vs.length →
   (∀ i (hi:i<args.length) (hi':i<vs.length),aB T w (free st.mem g) g args[i].1 vs[i]) →
   fW T w' Y (args.map (fun x=>bX st.mem x.2 x.1) ++ cap) (vs ++ vcap) pins bl →
   ∃ es:jj E,dQ es=eK st.mem args pins∧dY es=bl∧(∀ X g',mo T w' Y X→gF g' es→sw T w' X g' es) ∧
    (∀ x∈es,qp x.2.1=true∨(x.2.2=g x.1∧Pinned st.mem args x.1))∧(∀ n,Pinned st.mem args n → ∃ x∈es,x.1=n∧x.2.2=g n)
 | [],[],pins,bl,_,_,h=>by
  obtain ⟨rfl,rfl⟩:=Bp h hcap
  exact ⟨[],rfl,rfl,fun _ _ _ _ x hx=>(by cases hx),fun x hx=>(by cases hx),fun n ⟨x,hx,_⟩=>(by cases hx)⟩
 | [],_ :: _,_,_,hl,_,_=>by simp at hl
 | _ :: _,[],_,_,hl,_,_=>by simp at hl
 | x :: args,v :: vs,pins,bl,hl,hr,h=>by
  have ih:=s5 (w':=w') (Y:=Y) (vcap:=vcap) hcap args vs
  have hl':args.length=vs.length:=by simpa using hl
  have hr' : ∀ i (hi:i<args.length) (hi':i<vs.length),aB T w (free st.mem g) g args[i].1 vs[i]:=fun i hi hi'=>hr (i+1) (by simpa using hi) (by simpa using hi')
  have hx0:aB T w (free st.mem g) g x.1 v:=hr 0 (by simp) (by simp)
  simp only [List.map_cons,List.cons_append] at h
  by_cases hp:Jj st.mem x
  ·rcases hp with ⟨n,t,olds,hx,hlook⟩ | ⟨hmd,n,e,k,l,hx,hlook⟩
   ·have hpass:bX st.mem x.2 x.1 = .pin t (olds.map (jd n st.mem)):=by rw [hx]; simp [bX,hlook]
    rw [hpass] at h
    cases h with
    | skip hd _=>exact absurd rfl (hd _ _).1
    | @pin _ _ cs' _ b _ _ ps bl' hb h =>
     obtain ⟨es',f1,f2,f3,f4,f5⟩:=ih ps bl' hl' hr' h
     obtain ⟨es,e1,e2,e3,e4,e5,y,hy,e6,e7⟩:=vg n olds hb
     have hgv:v=g n:=by
      rw [hx] at hx0
      obtain ⟨b0,h1,h2⟩:=ep hx0
      rw [h1,h2]
     refine ⟨es ++ es',?_,by rw [gu,e2,f2],?_,?_,?_⟩
     ·rw [jL,e1,f1]
      obtain ⟨d,md⟩:=x
      simp only at hx
      subst hx
      simp only [eK,hlook]
     ·intro X g' hw ha z hz
      rcases List.mem_append.1 hz with hz | hz
      ·exact e3 X g' hw ha.left z hz
      ·exact f3 X g' hw ha.right z hz
     ·intro z hz
      rcases List.mem_append.1 hz with hz | hz
      ·rcases e4 z hz with h1 | ⟨h1,h2⟩
       ·exact .inl h1
       ·exact .inr ⟨by rw [h1,h2,hgv],x,List.mem_cons_self .., .inl ⟨by rw [h1]; exact hx,t,olds,by rw [h1]; exact hlook⟩⟩
      ·rcases f4 z hz with h1 | ⟨h1,y0,h2,h3⟩
       ·exact .inl h1
       ·exact .inr ⟨h1,y0,List.mem_cons_of_mem _ h2,h3⟩
     ·rintro m ⟨z,hz,hz1⟩
      rcases List.mem_cons.1 hz with rfl | hz
      ·rcases hz1 with ⟨hz1,_⟩ | ⟨_,hz1,_⟩
       ·rw [hx] at hz1
        cases hz1
        exact ⟨y,List.mem_append_left _ hy,e6,by rw [e7,hgv]⟩
       ·rw [hx] at hz1; cases hz1
      ·obtain ⟨y',hy',e8⟩:=f5 m ⟨z,hz,hz1⟩
       exact ⟨y',List.mem_append_right _ hy',e8⟩
   ·have hpass:bX st.mem x.2 x.1 = .newb e [.row e k l]:=by rw [hx,hmd]; simp [bX,hlook]
    rw [hpass] at h
    cases h with
    | skip hd _=>exact absurd rfl (hd _ _).2
    | @lend _ e' k' l' _ _ _ _ ps bl' hb h =>
     obtain ⟨es',f1,f2,f3,f4,f5⟩:=ih ps bl' hl' hr' h
     have hgv:v=g n:=by rw [hx] at hx0; exact hx0
     refine ⟨(n, .row e' k' l',v) :: es',?_,?_,?_,?_,?_⟩
     ·obtain ⟨d,md⟩:=x
      simp only at hx hmd
      subst hx; subst hmd
      simp only [eK,hlook, ← f1]
      rfl
     ·simp only [dY,List.flatMap_cons] at f2 ⊢
      rw [f2]
     ·intro X g' hw ha z hz
      rcases List.mem_cons.1 hz with rfl | hz
      ·exact hb.wide hw
      ·exact f3 X g' hw (fun y hy=>ha y (List.mem_cons_of_mem _ hy)) z hz
     ·intro z hz
      rcases List.mem_cons.1 hz with rfl | hz
      ·exact .inl rfl
      ·rcases f4 z hz with h1 | ⟨h1,y0,h2,h3⟩
       ·exact .inl h1
       ·exact .inr ⟨h1,y0,List.mem_cons_of_mem _ h2,h3⟩
     ·rintro m ⟨z,hz,hz1⟩
      rcases List.mem_cons.1 hz with rfl | hz
      ·rcases hz1 with ⟨hz1,_⟩ | ⟨_,hz1,_⟩
       ·rw [hx] at hz1; cases hz1
       ·rw [hx] at hz1
        cases hz1
        exact ⟨_,List.mem_cons_self ..,rfl,hgv⟩
      ·obtain ⟨y',hy',e8⟩:=f5 m ⟨z,hz,hz1⟩
       exact ⟨y',List.mem_cons_of_mem _ hy',e8⟩
  ·have hnot:=th st.mem x hp
   cases hpa:bX st.mem x.2 x.1 <;> rw [hpa] at h hnot
   case pin=>simp [iu] at hnot
   case newb=>simp [iu] at hnot
   all_goals
    cases h with
    | skip hd h =>
     obtain ⟨es',f1,f2,f3,f4,f5⟩:=ih pins bl hl' hr' h
     refine ⟨es',by rw [f1,pW st.mem x _ _ hp],f2,f3,?_,?_⟩
     ·intro z hz
      rcases f4 z hz with h1 | ⟨h1,y0,h2,h3⟩
      ·exact .inl h1
      ·exact .inr ⟨h1,y0,List.mem_cons_of_mem _ h2,h3⟩
     rintro m ⟨z,hz,hz1⟩
     rcases List.mem_cons.1 hz with rfl | hz
     ·refine absurd ?_ hp
      rcases hz1 with ⟨h1,t,cs,h2⟩ | ⟨h1,h2,e,k,l,h3⟩
      ·exact .inl ⟨m,t,cs,h1,h2⟩
      ·exact .inr ⟨h1,m,e,k,l,h2,h3⟩
     ·exact f5 m ⟨z,hz,hz1⟩
end Go.Vm
/- The abstract value machine: a call is sound: the whole. -/
namespace Go.Vm
open Go.Lib
set_option linter.unusedVariables false
variable {K:Type} {E:K→Type}
variable {T:Tab E} {P:Program} {w0:World} {G:GP} {st:St E} {a:Act} {w:World} {g:Gh}
theorem Rep.I4 {fk:K→Bool} {Y Y':Nat→Prop} {w':World} {d:DV E} {v:Value} (h:Rep T w Y d v) (hf:d.flat fk=true) (hn : ∀ n k l,d ≠ .arr n k l):Rep T w' Y' d v:=by
 cases h <;> first | (simp [DV.flat] at hf; done) | skip
 case int h=>exact .int h
 case bool b=>exact .bool b
 case str s=>exact .str s
 case nilp=>exact .nilp
 case nili=>exact .nili
 case nils=>exact .nils
 case arr n k l hl hp h=>exact absurd rfl (hn n k l)
theorem Rep.flat {fk:K→Bool} (hfk : ∀ k (x:E k),fk k=true→(T.enc k x).all (DV.flat fun _=>false)=true) {Y Y':Nat→Prop} {w':World} {d:DV E} {v:Value} (h:Rep T w Y d v) (hf:d.flat fk=true):Rep T w' Y' d v:=by
 by_cases hd : ∃ n k l,d = .arr n k l
 ·obtain ⟨n,k,l,rfl⟩:=hd
  cases h with
  | arr hl hp h =>
   cases h with
   | agg h1 h2 =>
    refine .arr hl hp (.agg h1 fun i hi hi' => ?_)
    obtain ⟨x,_,hx⟩:=List.mem_flatMap.1 (show (ik T k l)[i]∈l.flatMap (T.enc k) from List.getElem_mem hi)
    have hfx:=List.all_eq_true.1 (hfk k x hf) _ hx
    refine (h2 i hi hi').I4 hfx ?_
    intro n' k' l' e
    rw [e] at hfx
    cases hfx
 ·exact h.I4 hf fun n k l e=>hd ⟨n,k,l,e⟩
theorem Rep.IX {Y Y':Nat→Prop} {w':World} {d:DV E} {v:Value} (h:Rep T w Y d v) (hf:d.flat (fun _=>false)=true):Rep T w' Y' d v :=
 h.flat (fk:=fun _=>false) (fun k x h=>by cases h) hf
theorem aP.flat {Y Y':Nat→Prop} {e:TypeId} {k:K} {l:List (E k)} {v:Value} (h:aP T w Y e k l v) (hf:T.fk k=true):aP T w Y' e k l v:=by
 obtain ⟨xs,h1,h2⟩:=h.els
 refine aP.mk' h1 ⟨h2.len,h2.one,fun i hi c hcc => ?_,h2.pl⟩
 obtain ⟨u,hu,hr⟩:=h2.rep i hi c hcc
 exact ⟨u,hu,hr.IX (List.all_eq_true.1 (T.fk_ok k l[i] hf) _ (List.getElem_mem hcc))⟩
theorem yo.move {Y Y':Nat→Prop} {d:DV E} {v:Value} {bl:List Nat} (h:yo T w Y d v bl) (hm:mo T w Y Y'∨d.flat T.fk=true∨(∃ cs,d = .agg cs∧cs.all (DV.flat fun _=>false)=true)):yo T w Y' d v bl:=by
 cases h with
 | junk v=>exact .junk v
 | sh hr hs =>
  rcases hm with hw | hf | ⟨cs,rfl,hf⟩
  ·exact .sh (hr.wide hw) hs
  ·exact .sh (hr.flat T.fk_ok hf) hs
  ·cases hr with
   | agg hl hr=>exact .sh (.agg hl fun i hi hi'=>(hr i hi hi').IX (List.all_eq_true.1 hf _ (List.getElem_mem hi))) hs
 | row hr =>
  rcases hm with hw | hf | ⟨cs,he,hf⟩
  ·exact .row (hr.wide hw)
  ·exact .row (hr.flat hf)
  ·cases he
theorem eZ.move {R R':DV E→Value→List Nat→Prop} {ds:List (DV E)} {vs:List Value} {bl:List Nat} (h:eZ R ds vs bl) (hf : ∀ d∈ds, ∀ v b,R d v b→R' d v b):eZ R' ds vs bl:=by
 induction h with
 | nil=>exact .nil
 | cons h t ih=>exact .cons (hf _ (List.mem_cons_self ..) _ _ h) (ih fun d hd=>hf d (List.mem_cons_of_mem _ hd))
theorem mh.move {Y Y':Nat→Prop} {t:TypeId} {cs:List (DV E)} {v:Value} {bl:List Nat} (h:mh T w Y t cs v bl) (hm:mo T w Y Y'∨cs.all (DV.flat T.fk)=true):mh T w Y' t cs v bl:=by
 obtain ⟨b,vs,bs,h1,h2,h3,h4⟩:=h
 refine ⟨b,vs,bs,h1,h2,h3.move fun d hd v b hh => ?_,h4⟩
 rcases hh with hh | hh
 ·refine .inl ⟨hh.1.move ?_,hh.2⟩
  rcases hm with hw | hf
  ·exact .inl hw
  ·exact .inr (.inl (List.all_eq_true.1 hf d hd))
 ·exact .inr hh
theorem Ans.move {Y Y':Nat→Prop} {args:List Value} {d:DV E} {v:Value} {bl:List Nat} (h:Ans T w Y args d v bl) (hm:mo T w Y Y'∨d.flat T.fk=true∨(∃ cs,d = .agg cs∧cs.all (DV.flat fun _=>false)=true)):Ans T w Y' args d v bl:=by
 cases h with
 | c h=>exact .c (h.move hm)
 | newb h =>
  rcases hm with hw | hf | ⟨cs,he,hf⟩
  ·exact .newb (h.move (.inl hw))
  ·simp [DV.flat] at hf
  ·cases he
 | argp h=>exact .argp h
theorem tB.move {Y Y':Nat→Prop} {args:List Value} {d:DV E} {v:Value} {bl:List Nat} (h:tB T w Y args d v bl) (hm:mo T w Y Y'∨tj T.fk d=true):tB T w Y' args d v bl:=by
 cases d with
 | tup ds =>
  obtain ⟨vs,h1,h2⟩:=h
  refine ⟨vs,h1,h2.move fun d hd v b hh=>hh.move ?_⟩
  rcases hm with hw | hf
  ·exact .inl hw
  ·exact .inr (.inl (List.all_eq_true.1 hf d hd))
 | agg cs =>
  refine Ans.move h ?_
  rcases hm with hw | hf
  ·exact .inl hw
  ·exact .inr (.inr ⟨cs,rfl,hf⟩)
 | _ =>
  refine Ans.move h ?_
  rcases hm with hw | hf
  ·exact .inl hw
  ·exact .inr (.inl hf)
theorem fW.move {Y Y':Nat→Prop} {ds:List (DV E)} {vs:List Value} {ps:List (List (DV E))} {bl:List Nat} (h:fW T w Y ds vs ps bl) (hm:mo T w Y Y' ∨ ∀ p∈ps,p.all (DV.flat T.fk)=true):fW T w Y' ds vs ps bl:=by
 induction h with
 | nil=>exact .nil
 | skip hd h ih=>exact .skip hd (ih hm)
 | pin hb h ih =>
  refine .pin (hb.move ?_) (ih ?_)
  ·rcases hm with hw | hf
   ·exact .inl hw
   ·exact .inr (hf _ (List.mem_cons_self ..))
  ·rcases hm with hw | hf
   ·exact .inl hw
   ·exact .inr fun p hp=>hf p (List.mem_cons_of_mem _ hp)
 | lend hb h ih =>
  refine .lend ?_ (ih ?_)
  ·rcases hm with hw | hf
   ·exact hb.wide hw
   ·have:=hf _ (List.mem_cons_self ..)
    exact hb.flat (by simpa [DV.flat] using this)
  ·rcases hm with hw | hf
   ·exact .inl hw
   ·exact .inr fun p hp=>hf p (List.mem_cons_of_mem _ hp)
theorem pk {mem:Mem E} {b:Md} {d:DV E} {n:Nat} (h:n∈hI mem b d):n∈names mem:=by
 have hc : ∀ (d:DV E),n∈dG mem d→n∈names mem:=by
  intro d h
  unfold dG at h
  split at h
  ·split at h
   ·rename_i hl; simp only [List.mem_singleton] at h; subst h; exact bp hl
   ·cases h
  ·cases h
 unfold hI at h
 split at h
 ·split at h
  ·cases h
  ·exact hc _ h
 ·split at h
  ·rename_i hl
   rcases List.mem_cons.1 h with rfl | h
   ·exact bp hl
   ·obtain ⟨c,_,hcc⟩:=List.mem_flatMap.1 h
    exact hc _ hcc
  ·cases h
 ·cases h
theorem Ea {mem:Mem E} {b:Md} {d:DV E} {n:Nat} (h:n∈hI mem b d) :
  n∈FD mem b d∨(d = .ptr n 0 ∧ ∃ t cs,look mem n=some (.cells t cs))∨(n+RK∈FD mem b d∧b = .lend∧d = .rowp n ∧ ∃ e k l,look mem n=some (.row e k l)):=by
 unfold hI at h
 unfold FD
 split at h
 ·rename_i m
  cases b with
  | look=>cases h
  | give=>exact .inl h
  | lend =>
   have h0:n∈dG mem (.rowp m:DV E):=h
   right; right
   unfold dG at h
   simp only at h
   cases hl:look mem m with
   | none=>rw [hl] at h; cases h
   | some bx =>
    rw [hl] at h
    cases bx with
    | row e k l =>
     simp only [List.mem_singleton] at h
     subst h
     exact ⟨List.mem_map.2 ⟨n,h0,rfl⟩,rfl,rfl,e,k,l,hl⟩
    | cells t cs=>cases h
    | siter s p=>cases h
    | arr _ _ _ _=>cases h
 ·rename_i m
  cases hl:look mem m with
  | none=>simp [hl] at h
  | some bx =>
   cases bx with
   | cells t cs =>
    simp only [hl] at h ⊢
    rcases List.mem_cons.1 h with rfl | h
    ·exact .inr (.inl ⟨rfl,t,cs,hl⟩)
    ·exact .inl h
   | row e k l=>simp [hl] at h
   | siter s p=>simp [hl] at h
   | arr _ _ _ _=>simp [hl] at h
 ·cases h
theorem uB (hd:(dP st.mem g).Nodup) (hn:(names st.mem).Nodup) : ∀ {l:List Nat},l.Nodup→(∀ n∈l,n∈names st.mem)→(l.flatMap (bk g)).Nodup
 | [],_,_=>List.nodup_nil
 | n :: l,h,hm=>by
  obtain ⟨h1,h2⟩:=List.nodup_cons.1 h
  rw [List.flatMap_cons,List.nodup_append]
  refine ⟨by unfold bk; cases blk (g n) <;> simp,uB hd hn h2 fun k hk=>hm k (List.mem_cons_of_mem _ hk),?_⟩
  rintro b hb b' hb' rfl
  obtain ⟨k,hk,hkb⟩:=List.mem_flatMap.1 hb'
  have e1:blk (g n)=some b:=by simpa [bk] using hb
  have e2:blk (g k)=some b:=by simpa [bk] using hkb
  exact h1 (jJ hd hn (hm n (List.mem_cons_self ..)) (hm k (List.mem_cons_of_mem _ hk)) e1 e2 ▸ hk)
theorem wX (h:Inv T w0 G st a w g) {Y:Nat→Prop} (hY : ∀ b,free st.mem g b→Y b) : ∀ (args:List (DV E×Md)) (vs:List Value),args.length=vs.length →
  (∀ i (hi:i<args.length) (hi':i<vs.length),aB T w (free st.mem g) g args[i].1 vs[i]) →
  (∀ x∈args, ∀ n∈oC x.2 x.1,n∈names st.mem → ∀ b,blk (g n)=some b→Y b) →
  eZ (Own T w Y) (args.map fun x=>bX st.mem x.2 x.1) vs ((args.flatMap fun x=>hI st.mem x.2 x.1).flatMap (bk g))
 | [],[],_,_,_ => .nil
 | [],_ :: _,hl,_,_=>by simp at hl
 | _ :: _,[],hl,_,_=>by simp at hl
 | x :: args,v :: vs,hl,hr,hv=>by
  simp only [List.map_cons,List.flatMap_cons,List.flatMap_append]
  exact .cons (tI h hY x.2 (hr 0 (by simp) (by simp)) (hv x (List.mem_cons_self ..)))
   (wX h hY args vs (by simpa using hl) (fun i hi hi'=>hr (i+1) (by simpa using hi) (by simpa using hi')) fun y hy=>hv y (List.mem_cons_of_mem _ hy))
end Go.Vm
/- The abstract value machine: a call is sound: the theorem. -/
namespace Go.Vm
open Go.Lib
set_option linter.unusedVariables false
variable {K:Type} {E:K→Type}
variable {T:Tab E} {P:Program} {w0:World} {G:GP} {st:St E} {a:Act} {w:World} {g:Gh}
theorem zi {d:DV E} (h:d.plain=true):iu d=false:=by
 cases d <;> first | rfl | (simp [DV.plain] at h; done)
theorem AA {d:DV E} (h:d.plain=true):d.share=true:=by
 cases d <;> first | rfl | (simp [DV.plain] at h; done)
theorem mX (es:jj E):bB es=(dQ es).map (·.1):=by simp [bB,dQ]
theorem A6 {es:jj E} (h:dQ es = []):es = []:=by
 cases es with
 | nil=>rfl
 | cons x es=>simp [dQ] at h
theorem qf (mem:Mem E) : ∀ (args:List (DV E×Md)) (ps:List (List (DV E))),(args.flatMap fun x=>hI mem x.2 x.1) = []→eK mem args ps = []
 | [],ps,_=>by cases ps <;> rfl
 | x :: args,ps,h=>by
  simp only [List.flatMap_cons,List.append_eq_nil_iff] at h
  rw [pW]
  ·exact qf mem args ps h.2
  ·rintro (⟨n,t,cs,hx,hl⟩ | ⟨hm,n,e,k,l,hx,hl⟩)
   ·have:=h.1
    rw [hx] at this
    simp [hI,hl] at this
   ·have:=h.1
    rw [hx,hm] at this
    simp [hI,dG,hl] at this
theorem GU {es:jj E} (h:(bB es).Nodup) {x y:Nat×Box E×Value} (hx:x∈es) (hy:y∈es) (he:x.1=y.1):x=y:=by
 induction es with
 | nil=>cases hx
 | cons q es ih =>
  simp only [bB,List.map_cons,List.nodup_cons] at h
  rcases List.mem_cons.1 hx with hx1 | hx1 <;> rcases List.mem_cons.1 hy with hy1 | hy1
  ·rw [hx1,hy1]
  ·exact absurd (show q.1∈es.map (·.1) from List.mem_map.2 ⟨y,hy1,by rw [← he,hx1]⟩) h.1
  ·exact absurd (show q.1∈es.map (·.1) from List.mem_map.2 ⟨x,hx1,by rw [he,hy1]⟩) h.1
  ·exact ih h.2 hx1 hy1
theorem yw (f:DV E) (id:FuncId) (cap:List (DV E)) (as:Array Operand) (o:Oper) (ats:Array TypeId) (fo:Operand) (ho:o.op = .call { callee := .value fo,args:=as,argTypes:=ats })
  (vcap:Array Value) (hf:a.eval fo = .func (.func id) #[] vcap):(execOp a.eval o).run P w=(callFunc id (as.map a.eval ++ vcap)).run P w:=by
 simp only [execOp,ho,resolve,hf,Deferred.ofValue,Sem.run_bind,Sem.run_pure,Result.andThen_ok,invoke]
 simp
set_option maxHeartbeats 800000 in
theorem G2 [hgl:tC T w0 G] (env:Env E) (henv : ∀ f,Ctr T P f (env f)) (orc:Orc) (h:Inv T w0 G st a w g) (o:Oper) (fo:Operand) (as:Array Operand) (ats:Array TypeId) (d:Nat)
  (ho:o.op = .call { callee := .value fo,args:=as,argTypes:=ats }) (out:Out E)
  (hh:(uF env d (st.ev fo) (as.toList.map fun x=>(st.ev x,p9 orc x)) st.mem).has out) (next:Act→World→Prop) (Q:Exit→Act→World→Prop)
  (hnext : ∀ v w' g',Inv T w0 G (st.app o.dst out) (a.put o.dst v) w' g'→next (a.put o.dst v) w'):o.wp P a w next Q:=by
 obtain ⟨args,hargs⟩ : ∃ args,args=as.toList.map fun x=>(st.ev x,p9 orc x):=⟨_,rfl⟩
 rw [← hargs] at hh
 have hlen:args.length=(as.map a.eval).toList.length:=by rw [hargs]; simp
 have hrep : ∀ i (hi:i<args.length) (hi':i<(as.map a.eval).toList.length),aB T w (free st.mem g) g args[i].1 (as.map a.eval).toList[i]:=by
  intro i hi hi'
  subst hargs
  simp only [List.getElem_map,Array.getElem_toList,Array.getElem_map]
  exact h.ev _
 obtain ⟨vargs,hvargs⟩ : ∃ vargs,vargs=as.map a.eval:=⟨_,rfl⟩
 rw [← hvargs] at hlen hrep
 unfold uF at hh
 split at hh
 case h_2=>exact (ah hh).elim
 rename_i fd id cap hfd
 have hfr:=h.ev fo
 rw [hfd] at hfr
 have hfv : ∃ vcap:Array Value,a.eval fo = .func (.func id) #[] vcap∧cap.length=vcap.size ∧ ∀ i (hi:i<cap.length) (hi':i<vcap.size),Rep T w (free st.mem g) cap[i] vcap[i]:=by
  generalize a.eval fo=vf at hfr
  cases hfr with
  | fn _ hl hr=>exact ⟨_,rfl,hl,hr⟩
 obtain ⟨vcap,hfv,hcl,hcr⟩:=hfv
 dsimp only at hh
 split at hh
 case isFalse=>exact (ah hh).elim
 rename_i hcond
 simp only [Bool.and_eq_true,Bool.or_eq_true] at hcond
 obtain ⟨⟨⟨c1,c2⟩,c3⟩,c4⟩:=hcond
 obtain ⟨r,hm,hout⟩:=hh
 -- the blocks that views look at
 obtain ⟨vw,hvw⟩ : ∃ vw,vw=args.flatMap fun x=>oC x.2 x.1:=⟨_,rfl⟩
 obtain ⟨inv,hinv⟩ : ∃ inv,inv=args.flatMap fun x=>hI st.mem x.2 x.1:=⟨_,rfl⟩
 rw [← hvw] at c2 c3
 rw [← hinv] at c1 c2
 have hYfree : ∀ b,free st.mem g b→(free st.mem g b ∨ ∃ n∈vw,n∈names st.mem∧blk (g n)=some b):=fun b hb => .inl hb
 have hown:=(wX h hYfree args vargs.toList hlen hrep (fun x hx n hn hnm b hb => .inr ⟨n,by rw [hvw]; exact List.mem_flatMap.2 ⟨x,hx,hn⟩,hnm,hb⟩)).append
  (eZ.uq (R:=Own T w fun b=>free st.mem g b ∨ ∃ n∈vw,n∈names st.mem∧blk (g n)=some b) cap vcap.toList (fun _ => []) (by simpa using hcl) fun i hi hi'=>by
   have hp:cap[i].plain=true:=List.all_eq_true.1 c4 _ (List.getElem_mem hi)
   have hr:=hcr i hi (by simpa using hi')
   simp only [Array.getElem_toList]
   exact .c (.sh (hr.mono fun b hb hlt=>⟨.inl hb,hlt,rfl⟩) (AA hp)))
 rw [← hinv] at hown
 have hcapnil:cap.flatMap (fun _=>([]:List Nat)) = []:=by simp
 rw [hcapnil,List.append_nil] at hown
 have hinm : ∀ n∈inv,n∈names st.mem:=by
  intro n hn
  rw [hinv] at hn
  obtain ⟨x,_,hx⟩:=List.mem_flatMap.1 hn
  exact pk hx
 have hblnd:=uB (g:=g) h.nd h.nn (iQ c1) hinm
 have hblY : ∀ b∈inv.flatMap (bk g), ¬ (free st.mem g b ∨ ∃ n∈vw,n∈names st.mem∧blk (g n)=some b)∧b<w.heap.size:=by
  intro b hb
  obtain ⟨n,hn,hnb⟩:=List.mem_flatMap.1 hb
  have e1:blk (g n)=some b:=by simpa [bk] using hnb
  refine ⟨?_,(h.bo b (aD.2 ⟨n,hinm n hn,e1⟩)).1⟩
  rintro (hf | ⟨m,hm1,hm2,hm3⟩)
  ·exact hf.1 (aD.2 ⟨n,hinm n hn,e1⟩)
  ·have:=jJ h.nd h.nn (hinm n hn) hm2 e1 hm3
   subst this
   have:=List.all_eq_true.1 c2 _ hm1
   simp only [Bool.not_eq_true',List.contains_eq_mem,decide_eq_false_iff_not] at this
   exact this hn
 have hS:=henv id _ r hm w (vargs ++ vcap) _ (inv.flatMap (bk g)) (by rw [Array.toList_append]; exact hown) hblnd hblY (tC.now h.fr) (fun b hb=>by
  obtain ⟨n,hn,hnb⟩:=List.mem_flatMap.1 hb
  have e1:blk (g n)=some b:=by simpa [bk] using hnb
  rcases (h.bo b (aD.2 ⟨n,hinm n hn,e1⟩)).2 with h1 | h1
  ·exact Nat.le_trans (T.gl_sz w0 hgl.gl) h1
  ·exact hgl.gv b h1)
 have hrun:=yw (P:=P) (w:=w) (st.ev fo) id cap as o ats fo ho vcap hfv
 rw [← hvargs] at hrun
 obtain ⟨res,hres⟩ : ∃ res,(env id (args.map (fun x=>bX st.mem x.2 x.1) ++ cap)).out r=res:=⟨_,rfl⟩
 obtain ⟨fl,hfle⟩ : ∃ fl,(env id (args.map (fun x=>bX st.mem x.2 x.1) ++ cap)).fl=fl:=⟨_,rfl⟩
 have hout:po (rj d args) args st.mem res=some out:=by rw [← hres]; exact hout
 have c3:vw.isEmpty=true∨fl=true:=by rw [← hfle]; exact c3
 rw [hres,hfle] at hS
 clear hres hfle hm
 -- what is there behind it
 have key : ∀ (v:Value) (w':World) (bl1 bl2:List Nat),(bl1 ++ bl2).Nodup→(∀ b∈bl1 ++ bl2,b<w'.heap.size∧(w.heap.size≤b∨b∈inv.flatMap (bk g))) →
   tB T w' (fun b=>((free st.mem g b ∨ ∃ n∈vw,n∈names st.mem∧blk (g n)=some b)∨w.heap.size≤b∨b∈inv.flatMap (bk g))∧b ∉ bl1 ++ bl2) (vargs ++ vcap).toList
    res.v v bl1 →
   fW T w' (fun b=>((free st.mem g b ∨ ∃ n∈vw,n∈names st.mem∧blk (g n)=some b)∨w.heap.size≤b∨b∈inv.flatMap (bk g))∧b ∉ bl1 ++ bl2) (args.map (fun x=>bX st.mem x.2 x.1) ++ cap) (vargs ++ vcap).toList
    res.pins bl2 →
   jD (· ∈ inv.flatMap (bk g)) w w' →
   (fl=true→tj T.fk res.v=true ∧ ∀ p∈res.pins,p.all (DV.flat T.fk)=true)→next (a.put o.dst v) w':=by
  intro v w' bl1 bl2 hnd hbo hans hpins hfr0 hfl
  have hmove : ∀ {f:Prop},(mo T w' (fun b=>((free st.mem g b ∨ ∃ n∈vw,n∈names st.mem∧blk (g n)=some b)∨w.heap.size≤b∨b∈inv.flatMap (bk g))∧b ∉ bl1 ++ bl2) (fun b=>(free st.mem g b∨w.heap.size≤b∨b∈inv.flatMap (bk g))∧b ∉ bl1 ++ bl2)) ∨
    fl=true:=by
   intro f
   rcases c3 with c3 | c3
   ·left
    intro b hb _
    refine ⟨?_,hb.2⟩
    rcases hb.1 with (h1 | ⟨n,hn,_⟩) | h1
    ·exact .inl h1
    ·have:vw = []:=by simpa using c3
     rw [this] at hn; cases hn
    ·exact .inr h1
   ·exact .inr c3
  have hans:=hans.move (Y':=fun b=>(free st.mem g b∨w.heap.size≤b∨b∈inv.flatMap (bk g))∧b ∉ bl1 ++ bl2) ((hmove (f:=True)).imp (fun x=>x) fun hf=>(hfl hf).1)
  have hpins:=hpins.move (Y':=fun b=>(free st.mem g b∨w.heap.size≤b∨b∈inv.flatMap (bk g))∧b ∉ bl1 ++ bl2) ((hmove (f:=True)).imp (fun x=>x) fun hf=>(hfl hf).2)
  rw [Array.toList_append] at hans hpins
  have hcapp : ∀ d∈cap,iu d=false:=by
   intro d hd
   exact zi (List.all_eq_true.1 c4 d hd)
  obtain ⟨es1,e1,e2,e3,e4⟩:=Ho (rj d args) ((args.map (·.1)).map (nJ st.mem)) hans
  obtain ⟨es2,f1,f2,f3,f4,f5⟩:=s5 hcapp args vargs.toList res.pins bl2 hlen hrep hpins
  unfold po at hout
  simp only [← hinv] at hout
  rw [← e1, ← f1] at hout
  split at hout
  ·rename_i hemp
   simp only [Bool.and_eq_true,List.isEmpty_iff] at hemp
   obtain ⟨hi0,hs0⟩:=hemp
   have hes1:=A6 hs0
   cases hout
   have hK:Kept w w' none:=⟨hfr0.os,hfr0.tape,hfr0.output,hfr0.size,fun k hk _=>hfr0.block k hk (by rw [hi0]; simp)⟩
   have hb1:bl1 = []:=by rw [← e2,hes1]; rfl
   have hb2:bl2 = []:=by
    have:es2 = []:=A6 (by rw [f1,qf st.mem args res.pins (by rw [← hinv]; exact hi0)])
    rw [← f2,this]; rfl
   have hw:mo T w' (fun b=>(free st.mem g b∨w.heap.size≤b∨b∈inv.flatMap (bk g))∧b ∉ bl1 ++ bl2) (free st.mem g):=by
    intro b hb _
    rcases hb.1 with h1 | h1 | h1
    ·exact h1
    ·refine ⟨fun hx => ?_,fun hx => ?_⟩
     ·have:=(h.bo b hx).1
      omega
     ·have:=(h.hz.2 b hx).1
      have:=h.fr.size
      omega
    ·rw [hi0] at h1; cases h1
   have hv:=e4 (free st.mem g) g hw (by rw [hes1]; intro x hx; cases hx) (by
    intro j n u hj hu
    simp only [List.getElem?_map,Option.map_eq_some_iff] at hj
    obtain ⟨q,⟨x,hx,rfl⟩,hq⟩:=hj
    obtain ⟨hlt,hxe⟩:=List.getElem?_eq_some_iff.1 hx
    have hpin:Pinned st.mem args n:=by
     unfold nJ at hq
     split at hq
     ·rename_i m hm'
      split at hq
      ·rename_i t cs hl
       cases hq
       exact ⟨x,List.mem_of_getElem? hx, .inl ⟨hm',t,cs,hl⟩⟩
      ·cases hq
     ·cases hq
    obtain ⟨x',hx',h12⟩:=hpin
    have:n∈inv:=by
     rw [hinv]
     refine List.mem_flatMap.2 ⟨x',hx',?_⟩
     rcases h12 with ⟨h1,t,cs,h2⟩ | ⟨hm1,h1,e,k,l,h2⟩
     ·rw [h1]; simp [hI,h2]
     ·rw [h1,hm1]; simp [hI,dG,h2]
    rw [hi0] at this
    cases this)
   exact hnext _ _ g (h.grow hK o.dst _ v hv.1 (fun k j cs off he=>by have:=hv.2; rw [he] at this; simp [DV.noR] at this))
  ·split at hout
   case isFalse=>cases hout
   rename_i hnodup
   cases hout
   have hnd':=iQ hnodup
   rw [← jL, ← mX] at hnd'
   -- names
   obtain ⟨ks,hks⟩ : ∃ ks,ks=(args.flatMap fun x=>FD st.mem x.2 x.1) ++ ((dQ es1).map (·.1) ++ ((dQ es2).filter fun x=>qp x.2 && !(uM st.mem args).contains x.1).map (·.1)):=⟨_,rfl⟩
   have hkin : ∀ x∈es1,x.1∈ks:=by
    intro x hx
    rw [hks]
    refine List.mem_append_right _ (List.mem_append_left _ ?_)
    exact List.mem_map.2 ⟨(x.1,x.2.1),List.mem_map.2 ⟨x,hx,rfl⟩,rfl⟩
   have f4 : ∀ x∈es2,(qp x.2.1=true∧x.1 ∉ uM st.mem args)∨(x.2.2=g x.1∧Pinned st.mem args x.1):=by
    intro x hx
    by_cases hl:x.1∈uM st.mem args
    ·right
     obtain ⟨y,hy,h1,h2⟩:=FY.1 hl
     have hp:Pinned st.mem args x.1:=⟨y,hy, .inr ⟨h1,h2⟩⟩
     refine ⟨?_,hp⟩
     obtain ⟨z,hz,hz1,hz2⟩:=f5 _ hp
     have e:z=x:=by
      have hnd2:(bB es2).Nodup:=by
       rw [bB,List.map_append] at hnd'
       exact (List.nodup_append.1 hnd').2.1
      exact GU hnd2 hz hx hz1
     rw [← e,hz2,hz1]
    ·rcases f4 x hx with h1 | h1
     ·exact .inl ⟨h1,hl⟩
     ·exact .inr h1
   have hkin2 : ∀ x∈es2,qp x.2.1=true→x.1 ∉ uM st.mem args→x.1∈ks:=by
    intro x hx hr hl
    rw [hks]
    refine List.mem_append_right _ (List.mem_append_right _ ?_)
    exact List.mem_map.2 ⟨(x.1,x.2.1),List.mem_filter.2 ⟨List.mem_map.2 ⟨x,hx,rfl⟩,by simp [hr,hl]⟩,rfl⟩
   have hpinned : ∀ n,Pinned st.mem args n→n∈inv:=by
    rintro n ⟨x',hx',h12⟩
    rw [hinv]
    refine List.mem_flatMap.2 ⟨x',hx',?_⟩
    rcases h12 with ⟨h1,t,cs,h2⟩ | ⟨hm1,h1,e,k,l,h2⟩
    ·rw [h1]; simp [hI,h2]
    ·rw [h1,hm1]; simp [hI,dG,h2]
   have hinvk : ∀ n∈inv,n∈ks∨Pinned st.mem args n∧(n+RK∈ks ∨ ∃ t cs,look st.mem n=some (.cells t cs)):=by
    intro n hn
    rw [hinv] at hn
    obtain ⟨x,hx,hxn⟩:=List.mem_flatMap.1 hn
    rcases Ea hxn with hk | ⟨hk,t,cs,hl⟩ | ⟨hk,hm1,hk1,e,k,l,hl⟩
    ·left; rw [hks]; exact List.mem_append_left _ (List.mem_flatMap.2 ⟨x,hx,hk⟩)
    ·exact .inr ⟨⟨x,hx, .inl ⟨hk,t,cs,hl⟩⟩, .inr ⟨t,cs,hl⟩⟩
    ·exact .inr ⟨⟨x,hx, .inr ⟨hm1,hk1,e,k,l,hl⟩⟩, .inl (by rw [hks]; exact List.mem_append_left _ (List.mem_flatMap.2 ⟨x,hx,hk⟩))⟩
   have hentNs : ∀ n∈bB (es1 ++ es2),n∈inv ++ ks:=by
    intro n hn
    obtain ⟨x,hx,rfl⟩:=List.mem_map.1 hn
    rcases List.mem_append.1 hx with hx | hx
    ·exact List.mem_append_right _ (hkin x hx)
    ·rcases f4 x hx with ⟨hr,hl⟩ | ⟨_,hr⟩
     ·exact List.mem_append_right _ (hkin2 x hx hr hl)
     ·exact List.mem_append_left _ (hpinned _ hr)
   have M:Ba st w g w' (es1 ++ es2) ks (inv ++ ks) (inv.flatMap (bk g)):=by
    refine ⟨hnd',hentNs,by rw [gu,e2,f2]; exact hnd,by rw [gu,e2,f2]; exact hbo,?_,?_,?_,?_,hfr0⟩
    ·intro b hb
     obtain ⟨n,hn,hnb⟩:=List.mem_flatMap.1 hb
     exact ⟨n,List.mem_append_left _ hn,hinm n hn,by simpa [bk] using hnb⟩
    ·intro x hx
     rcases List.mem_append.1 hx with hx | hx
     ·exact .inr (hkin x hx)
     ·rcases f4 x hx with ⟨hr,hl⟩ | hr
      ·exact .inr (hkin2 x hx hr hl)
      ·exact .inl hr.1
    ·intro n hn
     rcases List.mem_append.1 hn with hn | hn
     ·rcases hinvk n hn with hk | ⟨_,hk | ⟨t,cs,hl⟩⟩
      ·exact .inl hk
      ·exact .inr (.inl hk)
      ·right; right
       obtain ⟨b,vs,hb,_⟩:=h.mm n _ (bt hl)
       exact ⟨b,hb⟩
     ·exact .inl hn
    ·intro n hn
     rcases List.mem_append.1 hn with hn | hn
     ·rcases hinvk n hn with hk | ⟨hp,_⟩
      ·exact .inl hk
      ·right
       obtain ⟨x,hx,h1,_⟩:=f5 n hp
       exact List.mem_map.2 ⟨x,List.mem_append_right _ hx,h1⟩
     ·exact .inl hn
   have hwide:mo T w' (fun b=>(free st.mem g b∨w.heap.size≤b∨b∈inv.flatMap (bk g))∧b ∉ bl1 ++ bl2) (free (eJ st.mem (es1 ++ es2) ks (inv ++ ks)) (fH g (es1 ++ es2))):=by
    intro b hb _
    refine ⟨?_,fun hh => ?_⟩
    ·rw [jY M.en M.es_ns,gu,e2,f2,List.mem_append]
     rintro (hx | hx)
     ·exact hb.2 hx
     ·have hx':=jg.subset hx
      rcases hb.1 with h1 | h1 | h1
      ·exact h1.1 hx'
      ·have:=(h.bo b hx').1
       omega
      ·obtain ⟨n,hn,hnb⟩:=List.mem_flatMap.1 h1
       obtain ⟨n',h2,h3⟩:=aD.1 hx
       obtain ⟨h4,h5⟩:=jV.1 h2
       have:=jJ h.nd h.nn (hinm n hn) h4 (by simpa [bk] using hnb) h3
       exact h5 (this ▸ List.mem_append_left _ hn)
    ·have hh:g.hid b:=hh
     have h0:=h.hz.2 b hh
     rcases hb.1 with h1 | h1 | h1
     ·exact h1.2 hh
     ·have:=h.fr.size
      omega
     ·obtain ⟨n,hn,hnb⟩:=List.mem_flatMap.1 h1
      rcases (h.bo b (aD.2 ⟨n,hinm n hn,by simpa [bk] using hnb⟩)).2 with h2 | h2
      ·omega
      ·exact h0.2 h2
   have hagree:gF (fH g (es1 ++ es2)) (es1 ++ es2):=fun x hx=>mI M.en hx
   have hptr : ∀ (j n:Nat) (u:Value),((args.map (·.1)).map (nJ st.mem))[j]? = some (.ptr n 0)→(vargs.toList ++ vcap.toList)[j]? = some u →
     dt T w' (free (eJ st.mem (es1 ++ es2) ks (inv ++ ks)) (fH g (es1 ++ es2))) (fH g (es1 ++ es2)) (.ptr n 0) u:=by
    intro j n u hj hu
    simp only [List.getElem?_map,Option.map_eq_some_iff] at hj
    obtain ⟨q,⟨x,hx,rfl⟩,hq⟩:=hj
    obtain ⟨hlt,hxe⟩:=List.getElem?_eq_some_iff.1 hx
    have hpin:x.1 = .ptr n 0∧Pinned st.mem args n:=by
     unfold nJ at hq
     split at hq
     ·rename_i m hm'
      split at hq
      ·rename_i t cs hl
       cases hq
       exact ⟨hm',x,List.mem_of_getElem? hx, .inl ⟨hm',t,cs,hl⟩⟩
      ·cases hq
     ·cases hq
    have hju:j<vargs.toList.length:=by omega
    rw [List.getElem?_append_left hju] at hu
    obtain ⟨_,hue⟩:=List.getElem?_eq_some_iff.1 hu
    have hr:=hrep j hlt hju
    rw [hxe,hpin.1,hue] at hr
    obtain ⟨b,hb1,hb2⟩:=ep hr
    obtain ⟨y,hy,hy1,hy2⟩:=f5 n hpin.2
    refine ⟨b,?_,hb2⟩
    have:=mI (g:=g) M.en (List.mem_append_right es1 hy)
    rw [hy1,hy2] at this
    rw [this,hb1]
   have hv:=e4 _ _ hwide hagree.left hptr
   have hfin:=h.I7 M (fun x hx=>by
    rcases List.mem_append.1 hx with hx | hx
    ·exact e3 _ _ hwide hagree.left x hx
    ·exact f3 _ _ hwide hagree.right x hx) o.dst _ v hv.1 (fun k j cs off he=>by have:=hv.2; rw [he] at this; simp [DV.noR] at this)
   refine hnext _ _ (fH g (es1 ++ es2)) ?_
   unfold after eJ at hfin
   rw [jL] at hfin
   rw [← hks]
   exact hfin
 unfold Oper.wp
 rw [hrun]
 rcases hS with ⟨hent,hC⟩ | ⟨v,w',hval,hC⟩
 ·rw [hent]
  refine hC.mono fun e w' hpost => ?_
  obtain ⟨v,bl1,bl2,rfl,q1,q2,q3,q4,q5,q6⟩:=hpost
  exact key v w' bl1 bl2 q1 q2 q3 q4 q5 q6
 ·rw [hval]
  obtain ⟨v',bl1,bl2,he,q1,q2,q3,q4,q5,q6⟩:=hC
  cases he
  exact key v w' bl1 bl2 q1 q2 q3 q4 q5 q6
end Go.Vm
/- The abstract value machine: rows read; literals; texts gone over. -/
namespace Go.Vm
open Go.Lib
set_option linter.unusedVariables false
variable {K:Type} {E:K→Type}
def DC (mem:Mem E) (d:DV E):Option (Nat×(k:K)×List (E k)) :=
 match d with
 | .rowp n=>match look mem n with
  | some (.row _ k l)=>some (n,⟨k,l⟩)
  | _=>none
 | _=>none
def HL (mem:Mem E) (x:DV E):Option (Nat×Nat×Nat×(k:K)×List (E k)):=match x with
 | .rws n lo sz=>match look mem n with
  | some (.row _ k l)=>some (n,lo,sz,⟨k,l⟩)
  | _=>none
 | _=>none
def Jy (x:DV E) (mem:Mem E):Cal E :=
 match DC mem x with
 | some (_,⟨_,l⟩) => .v (.int .i64 l.length)
 | none=>match HL mem x with
  | some (_,lo,_,⟨_,l⟩) => .v (.int .i64 ((l.length:Int) - lo))
  | none => .bad
def indexB (T:Tab E) (P:Program) (t:TypeId) (x i:DV E) (mem:Mem E):Cal E :=
 match DC mem x,jz P t,qX i with
 | some (n,⟨k,l⟩),some e,some i=>if T.isK P e k=true then .ret (E k) (idx l i) (fun a=>val (.rptr n i.toNat (T.enc k a) 0)) else .bad
 | none,some e,some i=>match HL mem x with
  | some (n,lo,sz,⟨k,l⟩)=>if T.isK P e k=true∧sz=T.sz k then .chk (decide (0≤i)) (.ret (E k) (idx l ((lo:Int)+i)) (fun a=>val (.rptr n (lo+i.toNat) (T.enc k a) 0))) else .bad
  | none => .bad
 | _,_,_ => .bad
theorem Dt {w:World} {e:TypeId} {sz n:Nat} {v:Value} {xs:List Value} (h:iz w e sz v n xs) : ∀ b,blk v=some b→b<w.heap.size:=vD h
def sliceB (T:Tab E) (P:Program) (t:TypeId) (x:DV E) (lo hi:Option (DV E)) (mem:Mem E):Cal E :=
 match DC mem x,jz P t,lo with
 | some (n,⟨k,l⟩),some e,none=>match hi with
  | some h=>match asInt h with
   | some b=>if P.cellsOf e=0 then .bad else .chk (decide (0≤b) && decide (b≤(l.length:Int))) (.v (.rowv n b.toNat))
   | none => .bad
  | none => .bad
 | some (n,⟨k,l⟩),some e,some o=>match hi,asInt o with
  | none,some b=>if T.isK P e k=true then .chk (decide (0≤b) && decide (b<(l.length:Int))) (.v (.rws n b.toNat (T.sz k))) else .bad
  | _,_ => .bad
 | _,_,_ => .bad
variable {T:Tab E} {P:Program} {w0:World} {G:GP} {st:St E} {a:Act} {w:World} {g:Gh}
theorem mz (h:Inv T w0 G st a w g) {d:DV E} {n:Nat} {k:K} {l:List (E k)} {v:Value} (hl:DC st.mem d=some (n,⟨k,l⟩)) (hd:aB T w (free st.mem g) g d v) :
  d = .rowp n∧v=g n∧n∈names st.mem ∧ ∃ e,aP T w (free st.mem g) e k l (g n):=by
 unfold DC at hl
 split at hl
 ·split at hl
  ·rename_i e k' l' hlook
   cases hl
   exact ⟨rfl,hd,bp hlook,e,h.mm _ _ (bt hlook)⟩
  ·cases hl
 ·cases hl
theorem iK {X:Nat→Prop} {e:TypeId} {k:K} {l:List (E k)} {v:Value} (h:aP T w X e k l v):(v = .slice none 0 0∧l = []) ∨ ∃ gg cap xs,v = .slice (some ⟨gg,0,none⟩) l.length cap∧l.length≤cap∧gg<w.heap.size ∧
  (∀ j u,xs[j]? = some u→w.cell? ⟨gg,j,none⟩=some u)∧Els T w X k l xs:=by
 obtain ⟨xs,h1,h2⟩:=h.els
 rcases h1.2 with ⟨rfl,hn⟩ | ⟨gg,cap,cur,rfl,_,hg,hnc,hcm,hcs,htk⟩
 ·exact .inl ⟨rfl,List.eq_nil_of_length_eq_zero hn⟩
 ·refine .inr ⟨gg,cap,xs,rfl,hnc,(by obtain ⟨_,_,hg⟩:=hg; exact kP hg),?_,h2⟩
  intro j u hj
  have:=h1.cells (g:=gg) rfl j u hj
  rwa [Addr.add_lit,Nat.zero_add] at this
theorem wJ (h:Inv T w0 G st a w g) {d:DV E} {n lo sz:Nat} {k:K} {l:List (E k)} {v:Value} (hl:HL st.mem d=some (n,lo,sz,⟨k,l⟩)) (hd:aB T w (free st.mem g) g d v) :
  d = .rws n lo sz∧n∈names st.mem ∧ ∃ b cap,g n = .slice (some ⟨b,0,none⟩) l.length cap∧v = .slice (some ⟨b,lo * sz,none⟩) (l.length - lo) (cap - lo)∧lo<l.length ∧ ∃ e,look st.mem n=some (.row e k l)∧aP T w (free st.mem g) e k l (g n):=by
 unfold HL at hl
 split at hl
 ·rename_i n' lo' sz'
  split at hl
  ·rename_i e k' l' hlook
   cases hl
   obtain ⟨b,len,cap,h1,h2,h3⟩:=hd
   have hr:aP T w (free st.mem g) e k l (g n):=h.mm _ _ (bt hlook)
   have hlen:len=l.length∧lo<l.length:=by
    rcases iK hr with ⟨hv,rfl⟩ | ⟨gg,cap',xs,hv,_⟩
    ·rw [hv] at h1; cases h1
    ·rw [hv] at h1; cases h1; exact ⟨rfl,h3⟩
   obtain ⟨rfl,h4⟩:=hlen
   exact ⟨rfl,bp hlook,b,cap,h1,h2,h4,e,hlook,hr⟩
  ·cases hl
 ·cases hl
theorem Iz (dst:Option Nat) {t ty:TypeId} {e:TypeId} (ht:P.underlying t=some (.slice e)) {x:DV E} {v:Value} (h:Inv T w0 G st a w g) (hx:aB T w (free st.mem g) g x v) (out:Out E) (hh:(Jy x st.mem).has out) :
  fU T P w0 G st a w g dst out (do pure (.value (← Builtin.len_ #[t] ty #[v]))):=by
 unfold Jy at hh
 split at hh
 ·rename_i n k l hl
  obtain ⟨_,rfl,_,e',hr⟩:=mz h hl hx
  rw [cZ hh]
  refine .inl ⟨.int .i64 l.length,w,g,?_,h.put dst (ku rfl) (fun _ _ _ _ e=>by cases e)⟩
  rcases iK hr with ⟨hv,rfl⟩ | ⟨gg,cap,xs,hv,_⟩
  ·rw [hv]; simp [Builtin.len_,run_underlying ht]; rfl
  ·rw [hv]; simp [Builtin.len_,run_underlying ht]; rfl
 ·split at hh
  ·rename_i n lo sz k l hl
   obtain ⟨rfl,hn,b,cap,hg,rfl,hlo,_⟩:=wJ h hl hx
   rw [cZ hh]
   refine .inl ⟨.int .i64 ((l.length:Int) - lo),w,g,?_,h.put dst (ku rfl) (fun _ _ _ _ e=>by cases e)⟩
   have:((l.length - lo:Nat):Int)=(l.length:Int) - lo:=by omega
   simp [Builtin.len_,run_underlying ht, ← this]; rfl
  ·exact (ah hh).elim
theorem DR (dst:Option Nat) {t:TypeId} {x i:DV E} {v vi:Value} (h:Inv T w0 G st a w g) (hx:aB T w (free st.mem g) g x v) (hi:aB T w (free st.mem g) g i vi) (out:Out E) (hh:(indexB T P t x i st.mem).has out) :
  fU T P w0 G st a w g dst out (do pure (.value (← Instr.indexAt t v vi))):=by
 unfold indexB at hh
 split at hh
 ·rename_i n k l e q hl he hq
  split at hh
  ·rename_i hk
   obtain ⟨hk1,hk2,hk3⟩:=gD hk
   obtain ⟨y,hy,rfl⟩:=hh
   obtain ⟨h0,hlt,rfl⟩:=k7 hy
   obtain ⟨_,rfl,hn,e',hr⟩:=mz h hl hx
   obtain ⟨kd,hvi⟩:=fA hq hi
   subst hvi
   have hu:=dR he
   rcases iK hr with ⟨hv,rfl⟩ | ⟨gg,cap,xs,hv,hc,hgg,hcell,hels⟩
   ·simp at hlt
   ·have hs:P.cellsOf e≠0:=by omega
    refine .inl ⟨.pointer (some ⟨gg,q.toNat * T.sz k,none⟩),w,g,?_,h.put dst ?_ (fun k' j cs off e=>by cases e; exact hn)⟩
    ·rw [hv]
     have h1:0≤q∧q<(l.length:Int):=⟨h0,by omega⟩
     simp only [Instr.indexAt,asIntOf,Sem.run_bind,Sem.run_pure,Result.andThen_ok,run_underlying hu]
     simp [h1,bu hs,hk2,Addr.add_lit]
    ·refine ⟨gg,q.toNat * T.sz k,fun j=>xs.getD (q.toNat * T.sz k+j) undef,rfl,⟨l.length,cap,hv,hlt⟩,by rw [T.enc_len],?_,?_⟩
     ·intro j hj
      obtain ⟨u,hu',_⟩:=hels.rep q.toNat hlt j hj
      rw [hcell _ u hu']
      simp [hu']
     ·intro j hj
      obtain ⟨u,hu',hr'⟩:=hels.rep q.toNat hlt j hj
      refine ⟨?_,hels.pl q.toNat hlt j hj⟩
      have:xs.getD (q.toNat * T.sz k+j) undef=u:=by simp [hu']
      show Rep T w (free st.mem g) _ (xs.getD (q.toNat * T.sz k+j) undef)
      rw [this]
      exact hr'
  ·exact (ah hh).elim
 ·rename_i e q hl0 he hq
  split at hh
  ·rename_i n lo sz k l hl
   split at hh
   ·rename_i hk
    obtain ⟨hk,rfl⟩:=hk
    obtain ⟨hk1,hk2,hk3⟩:=gD hk
    obtain ⟨hc,hh⟩:=eB hh
    have hc:0≤q:=of_decide_eq_true hc
    obtain ⟨y,hy,rfl⟩:=hh
    obtain ⟨h0,hlt,rfl⟩:=k7 hy
    obtain ⟨rfl,hn,b,cap,hg,rfl,hlo,e',_,hr⟩:=wJ h hl hx
    obtain ⟨kd,hvi⟩:=fA hq hi
    subst hvi
    have hu:=dR he
    have hnat:((lo:Int)+q).toNat=lo+q.toNat:=by omega
    rcases iK hr with ⟨hv,rfl⟩ | ⟨gg,cap',xs,hv,hc',hgg,hcell,hels⟩
    ·simp at hlt
    ·rw [hg] at hv
     cases hv
     have hs:P.cellsOf e≠0:=by omega
     refine .inl ⟨.pointer (some ⟨b,(lo+q.toNat) * T.sz k,none⟩),w,g,?_,h.put dst ?_ (fun k' j cs off e=>by cases e; exact hn)⟩
     ·have h1:0≤q∧q<((l.length - lo:Nat):Int):=⟨hc,by omega⟩
      simp only [Instr.indexAt,asIntOf,Sem.run_bind,Sem.run_pure,Result.andThen_ok,run_underlying hu]
      rw [if_pos h1]
      simp only [Sem.run_bind,Sem.run_pure,Result.andThen_ok,bu hs]
      rw [Nat.add_mul, ← hk2]
      congr 2
      unfold Addr.add
      split <;> simp_all <;> omega
     ·refine ⟨b,(lo+q.toNat) * T.sz k,fun j=>xs.getD ((lo+q.toNat) * T.sz k+j) undef,rfl,⟨l.length,cap,hg,by omega⟩,by rw [T.enc_len],?_,?_⟩
      ·intro j hj
       obtain ⟨u,hu',_⟩:=hels.rep _ hlt j hj
       rw [hnat] at hu'
       rw [hcell _ u hu']
       simp [hu']
      ·intro j hj
       obtain ⟨u,hu',hr'⟩:=hels.rep _ hlt j hj
       rw [hnat] at hu'
       refine ⟨?_,hels.pl _ hlt j hj⟩
       have:xs.getD ((lo+q.toNat) * T.sz k+j) undef=u:=by simp [hu']
       show Rep T w (free st.mem g) _ (xs.getD ((lo+q.toNat) * T.sz k+j) undef)
       rw [this]
       exact hr'
   ·exact (ah hh).elim
  ·exact (ah hh).elim
 ·exact (ah hh).elim
theorem ED (dst:Option Nat) {t:TypeId} {x:DV E} {v:Value} (ρd:Operand→DV E) (ρ:Operand→Value) (hρ : ∀ x,aB T w (free st.mem g) g (ρd x) (ρ x)) (lo hi:Option Operand) (h:Inv T w0 G st a w g) (hx:aB T w (free st.mem g) g x v) (out:Out E)
  (hh:(sliceB T P t x (lo.map ρd) (hi.map ρd) st.mem).has out):fU T P w0 G st a w g dst out (do pure (.value (← Instr.sliceAt t v (lo.map ρ) (hi.map ρ) none))):=by
 unfold sliceB at hh
 split at hh
 case h_3=>exact (ah hh).elim
 case h_2 =>
  rename_i n k l e od hl he hlo
  obtain ⟨o,rfl,rfl⟩:=Option.map_eq_some_iff.1 hlo
  split at hh
  case h_2=>exact (ah hh).elim
  rename_i b hhi hb
  have hhi':hi=none:=by cases hi with
   | none=>rfl
   | some x=>cases hhi
  subst hhi'
  split at hh
  case isFalse=>exact (ah hh).elim
  rename_i hk
  obtain ⟨hk1,hk2,hk3⟩:=gD hk
  obtain ⟨hc,hh⟩:=eB hh
  rw [cZ hh]
  simp only [Bool.and_eq_true,decide_eq_true_eq] at hc
  obtain ⟨_,rfl,hn,e',hr⟩:=mz h hl hx
  have hvi:=qy hb (hρ o)
  have hu:=dR he
  have hs:P.cellsOf e≠0:=by omega
  rcases iK hr with ⟨hv,rfl⟩ | ⟨gg,cap,xs,hv,hcap,_⟩
  ·simp at hc; omega
  ·have hsb:=dJ (P:=P) (w:=w) true l.length cap (some (.int .i64 b)) none b (l.length:Int) (.inr ⟨_,rfl⟩) (.inl ⟨rfl,rfl⟩) hc.1 (by omega) (by omega) hcap
   refine .inl ⟨.slice (some ⟨gg,b.toNat * T.sz k,none⟩) (l.length - b.toNat) (cap - b.toNat),w,g,?_,h.put dst ⟨gg,l.length,cap,hv,rfl,by omega⟩ (fun _ _ _ _ e=>by cases e)⟩
   rw [hv,Option.map_some,Option.map_none,hvi]
   simp only [Instr.sliceAt,Instr.slice,Sem.run_bind,run_underlying hu,Result.andThen_ok,hsb,bu hs,Sem.run_pure]
   rw [if_neg (by omega)]
   simp [Addr.add_lit,hk2]
 rename_i n k l e hl he hlo
 have hlo':lo.map ρ=none:=by cases lo <;> simp_all
 rw [hlo']
 split at hh
 case h_2=>exact (ah hh).elim
 rename_i hd hhi
 obtain ⟨ho,rfl,rfl⟩:=Option.map_eq_some_iff.1 hhi
 split at hh
 case h_2=>exact (ah hh).elim
 rename_i b hb
 split at hh
 case isTrue=>exact (ah hh).elim
 rename_i hs
 obtain ⟨hc,hh⟩:=eB hh
 rw [cZ hh]
 simp only [Bool.and_eq_true,decide_eq_true_eq] at hc
 obtain ⟨_,rfl,hn,e',hr⟩:=mz h hl hx
 have hvi:=qy hb (hρ ho)
 have hu:=dR he
 have hshape : ∃ ad cap,g n = .slice ad l.length cap∧l.length≤cap∧(cap=0 ∨ ∃ bb,ad=some ⟨bb,0,none⟩):=by
  rcases iK hr with ⟨hv,rfl⟩ | ⟨gg,cap,xs,hv,hc,_⟩
  ·exact ⟨none,0,hv,Nat.le_refl _, .inl rfl⟩
  ·exact ⟨some ⟨gg,0,none⟩,cap,hv,hc, .inr ⟨gg,rfl⟩⟩
 obtain ⟨ad,cap,hv,hcap,had⟩:=hshape
 have hsb:=dJ (P:=P) (w:=w) true l.length cap none (some (.int .i64 b)) 0 b (.inl ⟨rfl,rfl⟩) (.inr ⟨_,rfl⟩) (by omega) (by omega) hc.2 hcap
 refine .inl ⟨.slice ad b.toNat cap,w,g,?_,h.put dst ⟨ad,l.length,cap,hv,rfl,by omega⟩ (fun _ _ _ _ e=>by cases e)⟩
 rw [hv,Option.map_some,hvi]
 simp only [Instr.sliceAt,Instr.slice,Sem.run_bind,run_underlying hu,Result.andThen_ok,hsb,bu hs,Sem.run_pure]
 rcases had with rfl | ⟨bb,rfl⟩
 ·simp
 ·by_cases h0:cap=0
  ·simp [h0]
  ·simp [h0,Addr.add]
def HA (P:Program) (t:TypeId) (x:DV E) (hi:Option (DV E)) (mem:Mem E):Cal E :=
 match x with
 | .rowp n=>match look mem n,jz P t,hi.bind asInt with
  | some (.row e' k l),some e,some b=>if P.cellsOf e=0 then .bad else .chk (decide (0≤b) && decide (b≤(l.length:Int))) (.one ⟨.rowp n,[n],some (gk mem n (.row e' k (l.take b.toNat)))⟩)
  | _,_,_ => .bad
 | _ => .bad
theorem iz.cut {w:World} {e:TypeId} {size:Nat} {v:Value} {n:Nat} {xs:List Value} (h:iz w e size v n xs) (m:Nat) (hm:m≤n) : ∃ ad cap,v = .slice ad n cap∧n≤cap∧(cap=0 ∨ ∃ bb,ad=some ⟨bb,0,none⟩)∧iz w e size (.slice ad m cap) m (xs.take (m * size)):=by
 have hle:m * size≤n * size:=Nat.mul_le_mul_right _ hm
 rcases h.2 with ⟨rfl,hn⟩ | ⟨gg,cap,cur,rfl,h0,hg,hnc,hcm,hcs,htk⟩
 ·have:m=0:=by omega
  subst this; subst hn
  exact ⟨none,0,rfl,Nat.le_refl _, .inl rfl,by simp, .inl ⟨rfl,rfl⟩⟩
 ·refine ⟨some ⟨gg,0,none⟩,cap,rfl,hnc, .inr ⟨gg,rfl⟩,by rw [List.length_take,h.1]; omega, .inr ⟨gg,cap,cur,rfl,h0,hg,by omega,hcm,hcs,?_⟩⟩
  rw [← htk,List.take_take]
  congr 1
  omega
theorem Is (dst:Option Nat) {t:TypeId} {x:DV E} {v:Value} (ρd:Operand→DV E) (ρ:Operand→Value) (hρ : ∀ x,aB T w (free st.mem g) g (ρd x) (ρ x)) (hi:Option Operand) (h:Inv T w0 G st a w g) (hx:aB T w (free st.mem g) g x v) (out:Out E)
  (hh:(HA P t x (hi.map ρd) st.mem).has out):fU T P w0 G st a w g dst out (do pure (.value (← Instr.sliceAt t v none (hi.map ρ) none))):=by
 unfold HA at hh
 split at hh
 case h_2=>exact (ah hh).elim
 rename_i n
 split at hh
 case h_2=>exact (ah hh).elim
 rename_i e' k l e b hlook he hb
 split at hh
 case isTrue=>exact (ah hh).elim
 rename_i hs
 obtain ⟨hc,hh⟩:=eB hh
 simp only [Bool.and_eq_true,decide_eq_true_eq] at hc
 obtain ⟨_,_,rfl⟩:=hh
 obtain ⟨ho,rfl⟩ : ∃ o,hi=some o:=by cases hi with
  | none=>simp at hb
  | some o=>exact ⟨o,rfl⟩
 have hvi:=qy (show asInt (ρd ho)=some b by simpa using hb) (hρ ho)
 have hu:=dR he
 have hv:v=g n:=hx
 subst hv
 have hn:=bp hlook
 obtain ⟨xs,h1,h2⟩:=aP.els (h.mm n _ (bt hlook))
 have hbl0:b.toNat≤l.length:=by omega
 obtain ⟨ad,cap,hv,hcap,had,hown⟩:=h1.cut b.toNat hbl0
 have hsb:=dJ (P:=P) (w:=w) true l.length cap none (some (.int .i64 b)) 0 b (.inl ⟨rfl,rfl⟩) (.inr ⟨_,rfl⟩) (by omega) (by omega) hc.2 hcap
 have hrow : ∀ q,(none:Option Nat)=some q→n∈names st.mem∧blk (g n)=some q:=fun q hq=>by cases hq
 have hbl : ∀ q,blk (.slice ad b.toNat cap)=some q→q<w.heap.size∧(w.heap.size≤q∨(n∈names st.mem∧blk (g n)=some q)):=fun q hq =>
  ⟨Dt hown q hq, .inr ⟨hn,by rw [hv]; cases ad with
   | none=>simp [blk] at hq
   | some ad=>exact hq⟩⟩
 have hX:=pn h (w':=w) n (.row e' k (l.take b.toNat)) (.slice ad b.toNat cap) _ (Kept.refl w) hrow hbl
 refine .inl ⟨.slice ad b.toNat cap,w,upd g n (.slice ad b.toNat cap),?_,?_⟩
 ·rw [hv,Option.map_some,hvi]
  simp only [Instr.sliceAt,Instr.slice,Sem.run_bind,run_underlying hu,Result.andThen_ok,hsb,bu hs,Sem.run_pure]
  rcases had with rfl | ⟨bb,rfl⟩
  ·cases ad <;> simp
  ·by_cases h0:cap=0
   ·simp [h0]
   ·simp [h0,Addr.add]
 ·have hlen:(l.take b.toNat).length=b.toNat:=by rw [List.length_take]; omega
  exact h.renew n (.row e' k (l.take b.toNat)) (.slice ad b.toNat cap) _ (Kept.refl w) hrow hbl (aP.mk' (by rw [hlen]; exact hown) ((h2.mono hX).take b.toNat hbl0)) _ (.rowp n) (.slice ad b.toNat cap) (by show _=upd g n _ n; rw [fR]) (fun _ _ _ _ h=>by cases h)
/-! ### literals of slices -/
def iW (P:Program) (sz:Nat) (ρ:Operand→DV E):Nat→List (Nat×Operand)→Option (List (DV E))
 | _,[]=>some []
 | j,(i,x) :: r=>if i=j∧(ρ x).cells.length=sz∧(ρ x).lay=true then (iW P sz ρ (j+1) r).map ((ρ x).cells ++ ·) else none
def Bn (nm:Nat):DV E→Bool
 | .ptr n _ => !(n == nm)
 | _=>false
def ql (nm:Nat) (ρ:Operand→DV E):Nat→List (Nat×Operand)→Option (List (DV E))
 | _,[]=>some []
 | j,(i,x) :: r=>if i=j∧Bn nm (ρ x)=true then (ql nm ρ (j+1) r).map (ρ x :: ·) else none
def Em (P:Program) (orc:Orc) (e:TypeId) (len:Nat) (parts:List (Nat×Operand)) (d:Nat) (ρ:Operand→DV E) (mem:Mem E):Cal E :=
 if orc.rv.contains d=true∧parts.length=len∧0<len∧len≤16777216∧P.cellsOf e=1∧qw P e=true then
  match ql (64 * d) ρ 0 parts with
  | some cs => .one ⟨.cslc (64 * d) len,[64 * d],some (gk mem (64 * d) (.cells e cs))⟩
  | none => .bad
 else .bad
def Cs (T:Tab E) (P:Program) (orc:Orc) (t:TypeId) (len:Nat) (parts:List (Nat×Operand)) (dst:Option Nat) (ρ:Operand→DV E) (mem:Mem E):Cal E :=
 match jz P t,dst with
 | some e,some d =>
  match kindOf T P e with
  | some k =>
   if parts.length=len∧len * T.sz k≤16777216∧qw P e=true then
    match iW P (T.sz k) ρ 0 parts with
    | some cs=>match jF T k len cs with
     | some l=>if orc.rv.contains d then .one ⟨.rowp (64 * d),[64 * d],some (gk mem (64 * d) (.row e k l))⟩ else .v (.slc k l)
     | none => .bad
    | none => .bad
   else .bad
  | none=>Em P orc e len parts d ρ mem
 | _,_ => .bad
theorem sV (k:K) : ∀ (n:Nat) (cs:List (DV E)) (l:List (E k)),(∀ c∈cs,c.inr)→cs.length=n * T.sz k→jF T k n cs=some l →
  l.length=n ∧ ∀ i (hi:i<l.length) (c:Nat),c<T.sz k→(T.enc k l[i])[c]? = cs[i * T.sz k+c]?
 | 0,cs,l,_,_,h=>by simp [jF] at h; subst h; exact ⟨rfl,fun i hi=>by simp at hi⟩
 | n+1,cs,l,hin,hlen,h=>by
  simp only [jF] at h
  obtain ⟨x,hx,h⟩:=Option.bind_eq_some_iff.1 h
  obtain ⟨l',hl',rfl⟩:=Option.map_eq_some_iff.1 h
  have hx':=T.dec_ok k _ _ (fun c hc=>hin c (List.mem_of_mem_take hc)) hx
  have hlen':(cs.drop (T.sz k)).length=n * T.sz k:=by rw [List.length_drop,hlen,Nat.add_mul]; omega
  obtain ⟨h1,h2⟩:=sV k n _ l' (fun c hc=>hin c (List.mem_of_mem_drop hc)) hlen' hl'
  refine ⟨by simp [h1],fun i hi c hc => ?_⟩
  cases i with
  | zero=>simp only [List.getElem_cons_zero,hx',Nat.zero_mul,Nat.zero_add,List.getElem?_take,if_pos hc]
  | succ i =>
   simp only [List.getElem_cons_succ]
   rw [h2 i (by simpa using hi) c hc,List.getElem?_drop]
   congr 1
   rw [Nat.add_mul]; omega
theorem rC {X:Nat→Prop} {k:K} {n:Nat} {cs:List (DV E)} {vs:List Value} {l:List (E k)} (hc:Cells T w X cs vs) (hp : ∀ c∈cs,c.plain=true) (hlen:cs.length=n * T.sz k) (h:jF T k n cs=some l) :
  l.length=n∧Els T w X k l vs:=by
 obtain ⟨h1,h2⟩:=sV k n cs l hc.inr hlen h
 have hget : ∀ i (hi:i<l.length) (c:Nat) (hcc:c<(T.enc k l[i]).length), ∃ hq:i * T.sz k+c<cs.length,(T.enc k l[i])[c]=cs[i * T.sz k+c]:=by
  intro i hi c hcc
  have hcs:c<T.sz k:=by rw [T.enc_len] at hcc; exact hcc
  have hlt:i * T.sz k+c<cs.length:=by
   rw [hlen]
   have:(i+1) * T.sz k≤n * T.sz k:=Nat.mul_le_mul_right _ (by omega)
   rw [Nat.add_mul] at this
   omega
  have:=h2 i hi c hcs
  rw [List.getElem?_eq_getElem hcc,List.getElem?_eq_getElem hlt] at this
  exact ⟨hlt,by simpa using this⟩
 refine ⟨h1,by rw [← hc.1,hlen,h1],?_,?_,?_⟩
 ·intro u hu
  obtain ⟨i,hi,rfl⟩:=List.getElem_of_mem hu
  have hi':i<cs.length:=by rw [hc.1]; exact hi
  exact (cV (hc.2 i hi' hi) (hp _ (List.getElem_mem hi'))).2.2
 ·intro i hi c hcc
  obtain ⟨hq,he⟩:=hget i hi c hcc
  rw [he]
  exact ⟨vs[i * T.sz k+c]'(by rw [← hc.1]; exact hq),by simp [List.getElem?_eq_getElem (show i * T.sz k+c<vs.length by rw [← hc.1]; exact hq)],hc.2 _ hq _⟩
 ·intro i hi c hcc
  obtain ⟨hq,he⟩:=hget i hi c hcc
  rw [he]
  exact hp _ (List.getElem_mem hq)
theorem JF {α:Type} (A B C:List α) {n m:Nat} (hA:A.length=n) (hB:B.length=m):((A ++ B ++ C).drop n).take m=B:=by
 subst hA; subst hB
 rw [List.append_assoc,List.drop_left,List.take_left]
theorem qn {X:Nat→Prop} {sz:Nat} {ρd:Operand→DV E} {ρ:Operand→Value} (hρ : ∀ x,aB T w X g (ρd x) (ρ x)) : ∀ (parts:List (Nat×Operand)) (j:Nat) (cs:List (DV E)) (arr:Array Value),
  iW P sz ρd j parts=some cs→arr.size=(j+parts.length) * sz →
  ∃ arr':Array Value,Instr.fill (fun i=>some (i * sz,sz)) arr (parts.map fun p=>(p.1,ρ p.2))=some arr'∧arr'.toList.take (j * sz)=arr.toList.take (j * sz)∧arr'.size=arr.size ∧
   Cells T w X cs (arr'.toList.drop (j * sz))∧(∀ c∈cs,c.plain=true)∧cs.length=parts.length * sz
 | [],j,cs,arr,h,hs=>by
  simp [iW] at h
  subst h
  refine ⟨arr,by simp [Instr.fill],rfl,rfl,⟨?_,fun i hi=>by simp at hi⟩,by simp,by simp⟩
  simp at hs ⊢
  omega
 | (i,x) :: parts,j,cs,arr,h,hs=>by
  simp only [iW] at h
  split at h
  ·rename_i hc
   obtain ⟨rfl,h1,h2⟩:=hc
   obtain ⟨cs',hcs',rfl⟩:=Option.map_eq_some_iff.1 h
   have hx:=oT (hρ x) h2
   have hxs:(ρ x).cells.size=sz:=by rw [← h1,hx.1]; simp
   simp only [List.length_cons] at hs
   have hfit:i * sz+(ρ x).cells.size≤arr.size:=by
    rw [hs,hxs]
    have:(i+1) * sz≤(i+(parts.length+1)) * sz:=Nat.mul_le_mul_right _ (by omega)
    rw [Nat.add_mul] at this
    omega
   have hf:=rQ arr (ρ x).cells (i * sz) hfit
   generalize harr:(ρ x).cells.zipIdx.foldl (fun cs (c,j)=>cs.setIfInBounds (i * sz+j) c) arr=arr1 at hf
   have hs1:arr1.size=arr.size:=by
    have:=congrArg List.length hf
    simp at this
    omega
   obtain ⟨arr',q1,q2,q3,q4,q5,q6⟩:=qn hρ parts (i+1) cs' arr1 hcs' (by rw [hs1,hs]; congr 1; omega)
   have hi1:(i+1) * sz=i * sz+sz:=by rw [Nat.add_mul]; omega
   refine ⟨arr',?_,?_,by rw [q3,hs1],?_,?_,?_⟩
   ·simp only [List.map_cons,Instr.fill]
    rw [if_neg (by simp; omega),harr]
    exact q1
   ·have:arr'.toList.take (i * sz)=(arr'.toList.take ((i+1) * sz)).take (i * sz):=by rw [List.take_take,Nat.min_eq_left (by omega)]
    rw [this,q2,List.take_take,Nat.min_eq_left (by omega),hf,List.append_assoc,List.take_append_of_le_length (by simp; omega),List.take_take,Nat.min_self]
   ·have e1:arr'.toList.drop (i * sz)=(arr'.toList.drop (i * sz)).take sz ++ arr'.toList.drop ((i+1) * sz):=by
     rw [hi1, ← List.drop_drop,List.take_append_drop]
    have e2:(arr'.toList.drop (i * sz)).take sz=(ρ x).cells.toList:=by
     have hmv : ∀ l:List Value,(l.drop (i * sz)).take sz=(l.take ((i+1) * sz)).drop (i * sz):=by
      intro l; rw [hi1,List.drop_take]; congr 1; omega
     rw [hmv,q2, ← hmv,hf]
     exact JF _ _ _ (by simp; omega) (by simpa using hxs)
    rw [e1,e2]
    exact hx.append q4
   ·intro c hc
    rcases List.mem_append.1 hc with hc | hc
    ·revert hc h2
     cases hq:ρd x <;> simp [DV.cells,DV.lay]
     all_goals first | (intro h hc; subst hc; exact h) | (intro h hc; exact h c hc)
    ·exact q5 c hc
   ·simp [h1,q6,Nat.add_mul]; omega
  ·cases h
theorem iD (w:World) (o:Obj):Kept w (w.alloc o) none:=⟨rfl,rfl,rfl,by simp,fun k hk _=>heap_alloc_old w o k hk⟩
theorem zY {nm:Nat} {d:DV E} (h:Bn nm d=true) : ∃ n off,d = .ptr n off∧n≠nm:=by
 unfold Bn at h
 split at h
 ·exact ⟨_,_,rfl,by simpa using h⟩
 ·cases h
theorem vC {X:Nat→Prop} {nm:Nat} {ρd:Operand→DV E} {ρ:Operand→Value} (hρ : ∀ x,aB T w X g (ρd x) (ρ x)) : ∀ (parts:List (Nat×Operand)) (j:Nat) (cs:List (DV E)) (arr:Array Value),
  ql nm ρd j parts=some cs→arr.size=j+parts.length →
  ∃ arr':Array Value,Instr.fill (fun i=>some (i * 1,1)) arr (parts.map fun p=>(p.1,ρ p.2))=some arr'∧arr'.toList.take j=arr.toList.take j∧arr'.size=arr.size∧cs.length=parts.length ∧
   ∀ i (hi:i<cs.length), ∃ n off b,cs[i] = .ptr n off∧n≠nm∧g n = .pointer (some ⟨b,0,none⟩)∧arr'[j+i]? = some (.pointer (some ⟨b,off,none⟩))
 | [],j,cs,arr,h,hs=>by
  simp [ql] at h
  subst h
  exact ⟨arr,by simp [Instr.fill],rfl,rfl,rfl,fun i hi=>by simp at hi⟩
 | (i,x) :: parts,j,cs,arr,h,hs=>by
  simp only [ql] at h
  split at h
  ·rename_i hc
   obtain ⟨rfl,h1⟩:=hc
   obtain ⟨cs',hcs',rfl⟩:=Option.map_eq_some_iff.1 h
   obtain ⟨n,off,hd,hn⟩:=zY h1
   have hx:=hρ x
   rw [hd] at hx
   obtain ⟨b,hg,hv⟩:=ep hx
   have hcl:(ρ x).cells = #[.pointer (some ⟨b,off,none⟩)]:=by rw [hv]; rfl
   simp only [List.length_cons] at hs
   have hfit:i * 1+(ρ x).cells.size≤arr.size:=by rw [hcl]; simp; omega
   have hf:=rQ arr (ρ x).cells (i * 1) hfit
   generalize harr:(ρ x).cells.zipIdx.foldl (fun cs (c,j)=>cs.setIfInBounds (i * 1+j) c) arr=arr1 at hf
   have hs1:arr1.size=arr.size:=by
    have:=congrArg List.length hf
    simp at this
    simp at hfit
    omega
   obtain ⟨arr',q1,q2,q3,q4,q5⟩:=vC hρ parts (i+1) cs' arr1 hcs' (by rw [hs1,hs]; omega)
   have hlen1:(arr.toList.take i).length=i:=by simp; omega
   have h1i:arr1[i]? = some (.pointer (some ⟨b,off,none⟩)):=by
    have:arr1.toList[i]? = some (.pointer (some ⟨b,off,none⟩)):=by
     rw [hf,hcl,Nat.mul_one,List.append_assoc,List.getElem?_append_right (by omega),hlen1,Nat.sub_self]
     rfl
    simpa using this
   refine ⟨arr',?_,?_,by rw [q3,hs1],by simp [q4],?_⟩
   ·simp only [List.map_cons,Instr.fill]
    rw [if_neg (by have hcs:(ρ x).cells.size=1:=(by rw [hcl]; rfl); simp; omega),harr]
    exact q1
   ·have:arr'.toList.take i=(arr'.toList.take (i+1)).take i:=by rw [List.take_take,Nat.min_eq_left (by omega)]
    rw [this,q2,List.take_take,Nat.min_eq_left (by omega),hf,List.append_assoc,Nat.mul_one,List.take_append_of_le_length (by omega),List.take_take,Nat.min_self]
   ·intro k hk
    cases k with
    | zero =>
     refine ⟨n,off,b,hd,hn,hg,?_⟩
     have e1:arr'.toList[i]? = (arr'.toList.take (i+1))[i]? := by rw [List.getElem?_take]; simp
     have e2:arr1.toList[i]? = (arr1.toList.take (i+1))[i]? := by rw [List.getElem?_take]; simp
     have:arr'.toList[i]? = arr1.toList[i]? := by rw [e1,q2, ← e2]
     rw [Nat.add_zero]
     simpa [h1i] using this
    | succ k =>
     have hk':k<cs'.length:=by simpa using hk
     obtain ⟨n2,off2,b2,r1,r2,r3,r4⟩:=q5 k hk'
     exact ⟨n2,off2,b2,by simpa using r1,r2,r3,by rw [← r4]; congr 1; omega⟩
  ·cases h
theorem HM (orc:Orc) (dst:Option Nat) {t e:TypeId} (he:P.underlying t=some (.slice e)) (len:Nat) (parts:Array (Nat×Operand)) (d:Nat) (ρd:Operand→DV E) (ρ:Operand→Value) (hρ : ∀ x,aB T w (free st.mem g) g (ρd x) (ρ x)) (h:Inv T w0 G st a w g) (out:Out E)
  (hh:(Em P orc e len parts.toList d ρd st.mem).has out):fU T P w0 G st a w g dst out (do pure (.value (← Instr.buildSlice t len (parts.map fun (i,x)=>(i,ρ x))))):=by
 unfold Em at hh
 split at hh
 case isFalse=>exact (ah hh).elim
 rename_i hc
 obtain ⟨_,hlen,hpos,h24,hone,hz⟩:=hc
 split at hh
 case h_2=>exact (ah hh).elim
 rename_i cs hcs
 obtain ⟨_,_,rfl⟩:=hh
 obtain ⟨i,z,hi,hiz,hzs,hsz,hibz⟩:=oB hz
 have hs:P.cellsOf e≠0:=by omega
 obtain ⟨arr,harr⟩ : ∃ arr:Array Value,arr=(Array.range (len * 1)).map (z.cells[· % z.cells.size]!):=⟨_,rfl⟩
 have harrs:arr.size=0+parts.toList.length:=by rw [harr,Nat.zero_add,hlen]; simp
 obtain ⟨arr',q1,q2,q3,q4,q5⟩:=vC hρ parts.toList 0 cs arr hcs harrs
 have hrun:(Instr.buildSlice t len (parts.map fun (i,x)=>(i,ρ x))).run P w = .ok (.slice (some ⟨w.heap.size,0,none⟩) len len) (w.alloc (.cells arr' e)):=by
  have hpl:(parts.map fun (p:Nat×Operand)=>(p.1,ρ p.2)).toList=parts.toList.map fun p=>(p.1,ρ p.2):=by simp
  simp only [Instr.buildSlice,Sem.run_bind,run_underlying he,Result.andThen_ok,bu hs]
  rw [if_neg (by rw [hone]; omega),if_neg (by rw [hone]; omega)]
  simp only [Sem.run_bind,zeroValue,typeInfo,run_program,hi,Sem.run_pure,hiz,Result.andThen_ok,hone]
  rw [hpl, ← harr,q1]
  simp [newRow]
 have hbl : ∀ b,blk (.pointer (some ⟨w.heap.size,0,none⟩))=some b→b<(w.alloc (.cells arr' e)).heap.size∧(w.heap.size≤b∨(64 * d∈names st.mem∧blk (g (64 * d))=some b)):=by
  intro b hb
  simp only [blk,Option.some.injEq] at hb
  subst hb
  exact ⟨by simp, .inl (Nat.le_refl _)⟩
 refine .inl ⟨_,_,upd g (64 * d) (.pointer (some ⟨w.heap.size,0,none⟩)),by simp only [Sem.run_bind,hrun,Result.andThen_ok,Sem.run_pure]; rfl,?_⟩
 refine h.renew (64 * d) (.cells e cs) _ none (iD w _) (fun _ h=>by cases h) hbl ?_ _ (.cslc (64 * d) len) _ ⟨w.heap.size,by rw [fR],rfl⟩ (fun _ _ _ _ h=>by cases h)
 refine ⟨w.heap.size,arr',rfl,heap_alloc_new w _,by rw [q4,q3,harrs,Nat.zero_add],fun k hk hk' => ?_⟩
 obtain ⟨n,off,b,r1,r2,r3,r4⟩:=q5 k hk
 rw [Nat.zero_add] at r4
 have hv:arr'[k] = .pointer (some ⟨b,off,none⟩):=by
  rw [Array.getElem?_eq_getElem hk'] at r4
  exact Option.some.inj r4
 rw [r1,hv]
 exact ⟨⟨b,by rw [ya r2]; exact r3,rfl⟩,rfl,rfl⟩
theorem H4 (orc:Orc) (dst:Option Nat) {t:TypeId} (len:Nat) (parts:Array (Nat×Operand)) (ρd:Operand→DV E) (ρ:Operand→Value) (hρ : ∀ x,aB T w (free st.mem g) g (ρd x) (ρ x)) (h:Inv T w0 G st a w g) (out:Out E)
  (hh:(Cs T P orc t len parts.toList dst ρd st.mem).has out):fU T P w0 G st a w g dst out (do pure (.value (← Instr.buildSlice t len (parts.map fun (i,x)=>(i,ρ x))))):=by
 unfold Cs at hh
 split at hh
 case h_2=>exact (ah hh).elim
 rename_i e d he
 split at hh
 case h_2=>exact HM orc _ (dR he) len parts d ρd ρ hρ h out hh
 rename_i k hk
 split at hh
 case isFalse=>exact (ah hh).elim
 rename_i hc
 obtain ⟨hlen,h24,hz⟩:=hc
 split at hh
 case h_2=>exact (ah hh).elim
 rename_i cs hcs
 split at hh
 case h_2=>exact (ah hh).elim
 rename_i l hl
 have hu:=dR he
 obtain ⟨hk1,hk2,hk3⟩:=gD (tw hk)
 obtain ⟨i,z,hi,hiz,hzs,hsz,hibz⟩:=oB hz
 have hcell:i.size=T.sz k:=by rw [hk2]; simp [Program.cellsOf,hi]
 have hs:P.cellsOf e≠0:=by omega
 -- the cells before the parts are laid
 obtain ⟨arr,harr⟩ : ∃ arr:Array Value,arr=(Array.range (len * T.sz k)).map ((if len * T.sz k=0 then #[] else z.cells)[· % (if len * T.sz k=0 then #[] else z.cells).size]!):=⟨_,rfl⟩
 have harrs:arr.size=(0+parts.toList.length) * T.sz k:=by rw [harr,Nat.zero_add,hlen]; simp
 obtain ⟨arr',q1,q2,q3,q4,q5,q6⟩:=qn hρ parts.toList 0 cs arr hcs harrs
 simp only [Nat.zero_mul,List.drop_zero] at q4
 rw [hlen] at q6
 obtain ⟨hll,hels⟩:=rC q4 q5 q6 hl
 have hrun:(Instr.buildSlice t len (parts.map fun (i,x)=>(i,ρ x))).run P w = .ok (.slice (some ⟨w.heap.size,0,none⟩) len len) (w.alloc (.cells arr' e)):=by
  have hpl:(parts.map fun (p:Nat×Operand)=>(p.1,ρ p.2)).toList=parts.toList.map fun p=>(p.1,ρ p.2):=by simp
  simp only [Instr.buildSlice,Sem.run_bind,run_underlying hu,Result.andThen_ok,bu hs]
  rw [if_neg (by rw [← hk2]; omega)]
  rw [hk2] at harr q1
  by_cases h0:len * P.cellsOf e=0
  ·rw [if_pos h0]
   simp only [if_pos h0] at harr
   simp only [Sem.run_bind,Sem.run_pure,Result.andThen_ok]
   rw [hpl, ← harr,q1]
   simp [newRow]
  ·rw [if_neg h0]
   simp only [if_neg h0] at harr
   simp only [Sem.run_bind,zeroValue,typeInfo,run_program,hi,Sem.run_pure,hiz,Result.andThen_ok]
   rw [hpl, ← harr,q1]
   simp [newRow]
 split at hh
 ·obtain ⟨_,_,rfl⟩:=hh
  have hbl : ∀ b,blk (.slice (some ⟨w.heap.size,0,none⟩) len len)=some b→b<(w.alloc (.cells arr' e)).heap.size∧(w.heap.size≤b∨(64 * d∈names st.mem∧blk (g (64 * d))=some b)):=by
   intro b hb
   simp only [blk,Option.some.injEq] at hb
   subst hb
   exact ⟨by simp, .inl (Nat.le_refl _)⟩
  have hX:=pn h (w':=w.alloc (.cells arr' e)) (64 * d) (.row e k l) _ none (iD w _) (fun _ h=>by cases h) hbl
  refine .inl ⟨_,_,upd g (64 * d) (.slice (some ⟨w.heap.size,0,none⟩) len len),by simp only [Sem.run_bind,hrun,Result.andThen_ok,Sem.run_pure]; rfl,?_⟩
  refine h.renew (64 * d) (.row e k l) _ none (iD w _) (fun _ h=>by cases h) hbl ?_ _ (.rowp (64 * d)) _ (by show _=upd g (64 * d) _ (64 * d); rw [fR]) (fun _ _ _ _ h=>by cases h)
  refine aP.mk' (xs:=arr'.toList) ⟨by rw [hels.len], .inr ⟨w.heap.size,len,arr',by rw [hll],Nat.zero_le _,⟨(0,0), .inl rfl,heap_alloc_new w _⟩,by omega,?_,?_,?_⟩⟩ (hels.mono hX)
  ·have:len * 1≤len * T.sz k:=Nat.mul_le_mul_left _ hk3
   simp only [maxLen]; omega
  ·rw [q3,harrs,Nat.zero_add,hlen]
  ·rw [List.take_of_length_le]
   rw [Array.length_toList,q3,harrs,Nat.zero_add,hlen,hll]
   exact Nat.le_refl _
 ·rw [cZ hh]
  refine .inl ⟨_,_,g,by simp only [Sem.run_bind,hrun,Result.andThen_ok,Sem.run_pure]; rfl,?_⟩
  refine h.grow (iD w _) _ (.slc k l) _ ?_ (fun _ _ _ _ h=>by cases h)
  have hX : ∀ b,free st.mem g b→b<w.heap.size→free st.mem g b∧b<(w.alloc (.cells arr' e)).heap.size∧(w.alloc (.cells arr' e)).heap[b]? = w.heap[b]? :=
   fun b hf hlt=>⟨hf,by simp; omega,heap_alloc_old w _ b hlt⟩
  have hels':=hels.mono hX
  have hcell' : ∀ j u,arr'.toList[j]? = some u→(w.alloc (.cells arr' e)).cell? ⟨w.heap.size,j,none⟩=some u:=by
   intro j u hj
   rw [cell_of_row _ w.heap.size j arr' e (0,0) (heap_alloc_new w _)]
   simpa using hj
  rw [← hll]
  refine Rep.slc (b:=w.heap.size) (off:=0) l.length (fun j=>arr'.toList.getD j undef) (Nat.le_refl _) (fun _=>⟨?_,by simp⟩) ?_ ?_ hels'.pl
  ·refine ⟨fun hx => ?_,fun hx => ?_⟩
   ·have:=(h.bo _ hx).1
    omega
   ·have:=(h.hz.2 _ hx).1
    have:=h.fr.size
    omega
  ·intro j hj
   rw [Nat.zero_add]
   have hjl:j<arr'.toList.length:=by rw [hels.len]; exact hj
   exact hcell' j _ (by simp at hjl; simp [hjl])
  ·intro i' hi' c hcc
   obtain ⟨u,hu',hr⟩:=hels'.rep i' hi' c hcc
   have:arr'.toList.getD (i' * T.sz k+c) undef=u:=by simp [List.getD_eq_getElem?_getD,hu']
   show Rep T _ _ _ (arr'.toList.getD (i' * T.sz k+c) undef)
   rw [this]
   exact hr
end Go.Vm
/- The abstract value machine: an element of a row of one's own is written in place. -/
namespace Go.Vm
open Go.Lib
set_option linter.unusedVariables false
variable {K:Type} {E:K→Type}
def KK (T:Tab E) (k:K) (l:List (E k)) (i off:Nat) (cs:List (DV E)):Option (E k):=(idx l (i:Int)).bind fun x=>T.dec k (cq (T.enc k x) off cs)
def Kj {α:Type} (l:List α) (i:Nat) (y:α):List α:=l.set i y
def Cw (T:Tab E) (P:Program) (t:TypeId) (x v:DV E) (mem:Mem E):Cal E :=
 match x with
 | .rptr n i cs off=>match look mem n with
  | some (.row e k l)=>if cs.length=T.sz k∧v.lay=true∧v.cells.all DV.plain=true∧v.cells.length=P.cellsOf t∧off+v.cells.length≤T.sz k∧0<P.cellsOf t then
    .ret (E k) (KK T k l i off v.cells) fun y=>⟨.junk,[n+RK],some (ie mem n (.row e k (Kj l i y)))⟩ else .bad
  | _ => .bad
 | _ => .bad
variable {T:Tab E} {P:Program} {w0:World} {G:GP} {st:St E} {a:Act} {w:World} {g:Gh}
theorem Inv.zH (h:Inv T w0 G st a w g) (ns:List Nat):Inv T w0 G ⟨st.tmps.map (DV.kill ns),st.mem⟩ a w g:=by
 have hk : ∀ d:DV E,d.kill ns = .junk∨d.kill ns=d:=by
  intro d; unfold DV.kill; split
  ·exact .inl rfl
  ·exact .inr rfl
 refine ⟨h.df,by simpa using h.tl,fun i hi => ?_,h.nn,h.nd,h.mm,h.bo,h.fr,fun i hi n j cs off he => ?_,h.hz⟩
 ·have hi':i<st.tmps.length:=by simpa using hi
  simp only [List.getElem_map]
  rcases hk st.tmps[i] with e | e
  ·rw [e]; exact (Rep.junk _).toT
  ·rw [e]; exact h.tm i hi'
 ·have hi':i<st.tmps.length:=by simpa using hi
  simp only [List.getElem_map] at he
  rcases hk st.tmps[i] with e | e
  ·rw [e] at he; cases he
  ·rw [e] at he; exact h.rl i hi' n j cs off he
theorem DG {t:TypeId} {x y:DV E} {v u:Value} (h:Inv T w0 G st a w g) (hx:aB T w (free st.mem g) g x v) (hy:aB T w (free st.mem g) g y u) (out:Out E)
  (hh:(Cw T P t x y st.mem).has out):fU T P w0 G st a w g none out (do Instr.storeAt t v u; pure .skip):=by
 unfold Cw Kj at hh
 split at hh
 case h_2=>exact (ah hh).elim
 rename_i n i cs off
 split at hh
 case h_2=>exact (ah hh).elim
 rename_i e k l hlook
 split at hh
 case isFalse=>exact (ah hh).elim
 rename_i hc
 obtain ⟨hcl,hsh,hpl,hsz,hoff,hpos⟩:=hc
 obtain ⟨z,hz,rfl⟩:=hh
 obtain ⟨xi,hxi,hdec⟩:=Option.bind_eq_some_iff.1 hz
 obtain ⟨_,hil,hxe⟩:=k7 hxi
 have hil:i<l.length:=by simpa using hil
 have hxe:l[i]=xi:=by simpa using hxe
 obtain ⟨b,o,f,rfl,⟨len,cap,hg,hlen⟩,ho,hcell,hrep⟩:=hx
 have hrow:aP T w (free st.mem g) e k l (g n):=h.mm n _ (bt hlook)
 obtain ⟨xs,hown,hels⟩:=hrow.els
 obtain ⟨cp,cur,hgv,hheap,hnc,hcm,hcs,htake⟩ : ∃ cp cur,g n = .slice (some ⟨b,0,none⟩) l.length cp∧(∃ fz:Nat×Nat,(fz.2=0∨cur.size≤fz.1)∧w.heap[b]? = some (.cells cur e fz))∧l.length≤cp∧cp≤maxLen∧cur.size=cp * T.sz k∧cur.toList.take (l.length * T.sz k)=xs:=by
  rcases hown.2 with ⟨h1,_⟩ | ⟨b',cp,cur,h1,_,h2⟩
  ·rw [h1] at hg; cases hg
  ·rw [h1] at hg
   cases hg
   exact ⟨_,cur,h1,h2⟩
 have hcy:=oT hy hsh
 have hone : ∀ q∈u.cells.toList,q.oneCell'=true:=by
  intro q hq
  obtain ⟨j,hj,rfl⟩:=List.getElem_of_mem hq
  have hj':j<y.cells.length:=by rw [hcy.1]; exact hj
  exact (cV (hcy.2 j hj' hj) (List.all_eq_true.1 hpl _ (List.getElem_mem hj'))).2.2
 have hnl:y.cells.length=u.cells.toList.length:=hcy.1
 obtain ⟨S,hS⟩ : ∃ S,S=T.sz k:=⟨_,rfl⟩
 obtain ⟨m,hm⟩ : ∃ m,m=u.cells.toList.length:=⟨_,rfl⟩
 rw [← hS] at hcl hoff hcs htake
 have hmul:i * S+S≤l.length * S:=by
  have:=Nat.mul_le_mul_right S (show i+1≤l.length from hil)
  rw [Nat.add_mul,Nat.one_mul] at this
  exact this
 have hmul2:l.length * S≤cp * S:=Nat.mul_le_mul_right S hnc
 rw [hcl] at ho
 have hfit:o+off+m≤cur.size:=by rw [hcs,hm]; omega
 obtain ⟨fz,hfz,hheap⟩:=hheap
 have hst:=ij P b (o+off) e fz u.cells.toList 0 cur w hheap hfz (by rw [← hm]; omega) hone
 simp only [Nat.add_zero] at hst
 rw [← hm] at hst
 obtain ⟨arr,harr⟩ : ∃ arr,arr=cur.toList.take (o+off) ++ u.cells.toList ++ cur.toList.drop (o+off+m):=⟨_,rfl⟩
 rw [← harr] at hst
 have hcellsOf:P.cellsOf t≠0:=by omega
 have hrun:(Instr.storeAt t (.pointer (some ⟨b,o+off,none⟩)) u).run P w = .ok () (w.setRow b arr.toArray):=by
  simp only [Instr.storeAt,Instr.sureAddr,storeVar,Sem.run_bind,Sem.run_pure,Result.andThen_ok,bu hcellsOf]
  rw [if_neg (by rw [← hsz,hnl]; simp)]
  exact hst
 refine .inr ⟨w.setRow b arr.toArray,g,by simp only [Sem.run_bind,hrun,Result.andThen_ok]; rfl,?_⟩
 have hblk:blk (g n)=some b:=by rw [hgv]; rfl
 have hk:=h.zH [n+RK]
 have hX : ∀ c,free st.mem g c→c<w.heap.size→free st.mem g c∧c<(w.setRow b arr.toArray).heap.size∧(w.setRow b arr.toArray).heap[c]? = w.heap[c]? := by
  intro c hf hlt
  refine ⟨hf,by simpa using hlt,setRow_other _ _ _ _ fun e'=>hf.1 ?_⟩
  subst e'
  exact aD.2 ⟨n,bp hlook,hblk⟩
 -- the element's cells
 have hxs : ∀ j,xs[j]? = if j<l.length * S then cur.toList[j]? else none:=by
  intro j; rw [← htake,List.getElem?_take]
 have hel:Cells T w (free st.mem g) (T.enc k xi) ((xs.drop (i * S)).take S):=by
  have hlx:xs.length=l.length * S:=by rw [hels.len, ← hS]
  refine ⟨by rw [T.enc_len, ← hS]; simp only [List.length_take,List.length_drop]; omega,fun c hc1 hc2 => ?_⟩
  have hcc:c<(T.enc k l[i]).length:=by rw [hxe]; exact hc1
  obtain ⟨q,hq1,hq2⟩:=hels.rep i hil c hcc
  rw [← hS] at hq1
  have e1:(T.enc k l[i])[c]=(T.enc k xi)[c]:=by simp only [hxe]
  rw [e1] at hq2
  have e2:((xs.drop (i * S)).take S)[c]=q:=by
   simp only [List.getElem_take,List.getElem_drop]
   obtain ⟨hh1,hh2⟩:=List.getElem?_eq_some_iff.1 hq1
   exact hh2
  rw [e2]
  exact hq2
 have hnew:=qW (off:=off) hel (show Cells T w (free st.mem g) y.cells u.cells.toList from hcy)
 have henc:T.enc k z=cq (T.enc k xi) off y.cells:=by
  refine T.dec_ok k _ z (fun c hc => ?_) hdec
  obtain ⟨j,hj,rfl⟩:=List.getElem_of_mem hc
  exact (hnew.2 j hj (by rw [← hnew.1]; exact hj)).inr
 have hxlen:xs.length=l.length * S:=by rw [hels.len, ← hS]
 have hpre:(xs.drop (i * S)).take S=(cur.toList.drop (i * S)).take S:=by
  rw [← htake,List.drop_take,List.take_take]
  congr 1
  omega
 have hatk:arr.take (l.length * S)=xs.take (o+off) ++ u.cells.toList ++ xs.drop (o+off+m):=by
  have l1:(cur.toList.take (o+off) ++ u.cells.toList).length=o+off+m:=by
   simp only [List.length_append,List.length_take,Array.length_toList, ← hm]
   omega
  rw [harr,List.take_append,l1,List.take_of_length_le (by rw [l1]; omega)]
  rw [← htake,List.take_take,List.drop_take]
  congr 3
  omega
 have hals:arr.length=cur.size:=by
  rw [harr]
  simp only [List.length_append,List.length_take,List.length_drop,Array.length_toList, ← hm]
  omega
 have hget : ∀ j,(xs.take (o+off) ++ u.cells.toList ++ xs.drop (o+off+m))[j]? = if j<o+off then xs[j]? else if j<o+off+m then u.cells.toList[j - (o+off)]? else xs[j]? := by
  intro j
  have l0:(xs.take (o+off)).length=o+off:=by simp only [List.length_take]; omega
  have l1:(xs.take (o+off) ++ u.cells.toList).length=o+off+m:=by rw [List.length_append,l0, ← hm]
  by_cases h1:j<o+off
  ·rw [if_pos h1,List.getElem?_append_left (by omega),List.getElem?_append_left (by omega),List.getElem?_take,if_pos h1]
  ·rw [if_neg h1]
   by_cases h2:j<o+off+m
   ·rw [if_pos h2,List.getElem?_append_left (by omega),List.getElem?_append_right (by omega),l0]
   ·rw [if_neg h2,List.getElem?_append_right (by omega),l1,List.getElem?_drop]
    congr 1
    omega
 have hEls:Els T (w.setRow b arr.toArray) (free st.mem g) k (l.set i z) (xs.take (o+off) ++ u.cells.toList ++ xs.drop (o+off+m)):=by
  refine ⟨?_,?_,?_,?_⟩
  ·rw [← hS]
   simp only [List.length_append,List.length_take,List.length_drop,List.length_set, ← hm]
   omega
  ·intro q hq
   rcases List.mem_append.1 hq with hq | hq
   ·rcases List.mem_append.1 hq with hq | hq
    ·exact hels.one q (List.mem_of_mem_take hq)
    ·exact hone q hq
   ·exact hels.one q (List.mem_of_mem_drop hq)
  ·intro i' hi' c hcc
   have hi0:i'<l.length:=by simpa using hi'
   rw [← hS]
   by_cases hii:i'=i
   ·subst hii
    have e1:(l.set i' z)[i']=z:=by simp
    have hc1:c<(T.enc k z).length:=by rw [e1] at hcc; exact hcc
    have hcS:c<S:=by rw [T.enc_len, ← hS] at hc1; exact hc1
    have hc2:c<(cq (T.enc k xi) off y.cells).length:=by rw [← henc]; exact hc1
    have hc3:=hnew.2 c hc2 (by rw [← hnew.1]; exact hc2)
    have e2:(T.enc k (l.set i' z)[i'])[c]=(cq (T.enc k xi) off y.cells)[c]:=by simp only [e1,henc]
    rw [e2]
    refine ⟨_,?_,hc3.mono hX⟩
    rw [hget, ← List.getElem?_eq_getElem]
    have l0:(((xs.drop (i' * S)).take S).take off).length=off:=by simp only [List.length_take,List.length_drop]; omega
    have l1:(((xs.drop (i' * S)).take S).take off ++ u.cells.toList).length=off+m:=by rw [List.length_append,l0, ← hm]
    rw [← hm]
    by_cases h1:c<off
    ·rw [if_pos (by omega),List.getElem?_append_left (by omega),List.getElem?_append_left (by omega),List.getElem?_take,if_pos h1,List.getElem?_take,if_pos hcS,List.getElem?_drop]
    ·rw [if_neg (by omega)]
     by_cases h2:c<off+m
     ·rw [if_pos (by omega),List.getElem?_append_left (by omega),List.getElem?_append_right (by omega),l0]
      congr 1
      omega
     ·rw [if_neg (by omega),List.getElem?_append_right (by omega),l1,List.getElem?_drop,List.getElem?_take,if_pos (by omega),List.getElem?_drop]
      congr 1
      omega
   ·have e1:(l.set i z)[i']=l[i']:=by simp [List.getElem_set_ne (Ne.symm hii)]
    have hcc':c<(T.enc k l[i']).length:=by rw [e1] at hcc; exact hcc
    have hcS:c<S:=by rw [T.enc_len, ← hS] at hcc'; exact hcc'
    obtain ⟨q,hq1,hq2⟩:=hels.rep i' hi0 c hcc'
    rw [← hS] at hq1
    have e2:(T.enc k (l.set i z)[i'])[c]=(T.enc k l[i'])[c]:=by simp only [e1]
    rw [e2]
    refine ⟨q,?_,hq2.mono hX⟩
    rw [hget]
    rcases Nat.lt_or_gt_of_ne hii with hlt | hlt
    ·have:i' * S+S≤i * S:=by
      have:=Nat.mul_le_mul_right S (show i'+1≤i from hlt)
      rw [Nat.add_mul,Nat.one_mul] at this
      exact this
     rw [if_pos (by omega)]
     exact hq1
    ·have:i * S+S≤i' * S:=by
      have:=Nat.mul_le_mul_right S (show i+1≤i' from hlt)
      rw [Nat.add_mul,Nat.one_mul] at this
      exact this
     rw [if_neg (by omega),if_neg (by omega)]
     exact hq1
  ·intro i' hi' c hcc
   have hi0:i'<l.length:=by simpa using hi'
   by_cases hii:i'=i
   ·subst hii
    have e1:(l.set i' z)[i']=z:=by simp
    have e2:(T.enc k (l.set i' z)[i'])[c]=(cq (T.enc k xi) off y.cells)[c]'(by rw [← henc, ← e1]; exact hcc):=by simp only [e1,henc]
    rw [e2]
    have hall:(cq (T.enc k xi) off y.cells).all DV.plain=true:=by
     unfold cq
     rw [List.all_append,List.all_append]
     have hp:(T.enc k xi).all DV.plain=true:=by
      rw [List.all_eq_true]
      intro d hd
      obtain ⟨j,hj,rfl⟩:=List.getElem_of_mem hd
      have:=hels.pl i' hil j (by rw [hxe]; exact hj)
      simpa only [hxe] using this
     rw [hpl]
     simp only [Bool.and_true,Bool.and_eq_true,List.all_eq_true] at hp ⊢
     exact ⟨fun d hd=>hp d (List.mem_of_mem_take hd),fun d hd=>hp d (List.mem_of_mem_drop hd)⟩
    exact List.all_eq_true.1 hall _ (List.getElem_mem _)
   ·have e1:(l.set i z)[i']=l[i']:=by simp [List.getElem_set_ne (Ne.symm hii)]
    have e2:(T.enc k (l.set i z)[i'])[c]=(T.enc k l[i'])[c]'(by rw [← e1]; exact hcc):=by simp only [e1]
    rw [e2]
    exact hels.pl i' hi0 c _
 have hfin:=hk.write n (.row e k (l.set i z)) (bp hlook) (by rw [hblk]; exact l9 _ _ _) (aP.mk' (xs:=xs.take (o+off) ++ u.cells.toList ++ xs.drop (o+off+m)) ⟨by rw [hEls.len], .inr ⟨b,cp,arr.toArray,by rw [List.length_set]; exact hgv,Nat.zero_le _,⟨fz,by simpa [hals] using hfz,setRow_heap w b cur _ e fz hheap⟩,by rw [List.length_set]; exact hnc,hcm,by rw [← hS]; simpa using hals.trans hcs,by rw [List.length_set, ← hS]; exact hatk⟩⟩ hEls)
  (by
   intro j hj q c' off' he
   have hj':j<st.tmps.length:=by simpa using hj
   simp only [List.getElem_map] at he
   unfold DV.kill at he
   split at he
   ·cases he
   ·rename_i ht
    rw [he] at ht
    simp [DV.du,DV.fv] at ht) none .junk undef (Rep.junk _).toT (fun _ _ _ _ e=>by cases e)
 exact hfin
/-! ### a row's end is cleared -/
def Cb (T:Tab E) (P:Program) (t:TypeId) (x:DV E) (mem:Mem E):Cal E :=
 match x,jz P t with
 | .rws n lo sz,some e=>match look mem n with
  | some (.row e' k l)=>if T.isK P e k=true∧sz=T.sz k∧qw P e=true then match (P.info? e).bind (·.zero) with
    | some z=>if (gq z:DV E).cells.all DV.plain=true∧(gq z:DV E).cells.length=T.sz k then match T.dec k (gq z).cells with
      | some y => .one ⟨.junk,[n+RK],some (ie mem n (.row e' k (l.take lo ++ List.replicate (l.length - lo) y)))⟩
      | none => .bad
     else .bad
    | none => .bad
   else .bad
  | _ => .bad
 | _,_ => .bad
theorem uC (z:Array Value):(Builtin.zeroCells z 0).toList = []:=by simp [Builtin.zeroCells]
theorem vQ (z:Array Value) (hz:0<z.size) (n:Nat):(Builtin.zeroCells z (n+1)).toList=z.toList ++ (Builtin.zeroCells z n).toList:=by
 apply List.ext_getElem?
 intro i
 have hs : ∀ m,(Builtin.zeroCells z m).toList.length=m * z.size:=fun m=>by simp [Builtin.zeroCells]
 have hg : ∀ m j,j<m * z.size→(Builtin.zeroCells z m).toList[j]? = some (z[j % z.size]!):=fun m j hj=>by simp [Builtin.zeroCells,hj]
 by_cases h1:i<z.size
 ·rw [hg _ _ (by rw [Nat.add_mul]; omega),List.getElem?_append_left (by simpa using h1),Nat.mod_eq_of_lt h1]
  simp [h1]
 ·rw [List.getElem?_append_right (by simpa using Nat.le_of_not_lt h1)]
  by_cases h2:i<(n+1) * z.size
  ·rw [hg _ _ h2,hg _ _ (by rw [Nat.add_mul] at h2; simp; omega)]
   congr 2
   rw [show z.toList.length=z.size by simp, ← Nat.mod_eq_sub_mod (Nat.le_of_not_lt h1)]
  ·rw [List.getElem?_eq_none (by rw [hs]; omega),List.getElem?_eq_none (by rw [hs]; rw [Nat.add_mul] at h2; simp; omega)]
theorem AE {X:Nat→Prop} {k:K} {y:E k} {z:Array Value} (hz:0<z.size) (h1:Els T w X k [y] z.toList) : ∀ n,Els T w X k (List.replicate n y) (Builtin.zeroCells z n).toList
 | 0=>by rw [uC]; exact Els.nil k
 | n+1=>by
  rw [vQ z hz,List.replicate_succ]
  exact h1.append (AE hz h1 n)
theorem EA (dst:Option Nat) {t ty:TypeId} {x:DV E} {v:Value} (h:Inv T w0 G st a w g) (hx:aB T w (free st.mem g) g x v) (out:Out E)
  (hh:(Cb T P t x st.mem).has out):fU T P w0 G st a w g dst out (do pure (.value (← Builtin.clear_ #[t] ty #[v]))):=by
 unfold Cb at hh
 split at hh
 case h_2=>exact (ah hh).elim
 rename_i n lo sz e he
 split at hh
 case h_2=>exact (ah hh).elim
 rename_i e' k l hlook
 split at hh
 case isFalse=>exact (ah hh).elim
 rename_i hc
 obtain ⟨hk,rfl,hzo⟩:=hc
 obtain ⟨hk1,hk2,hk3⟩:=gD hk
 split at hh
 case h_2=>exact (ah hh).elim
 rename_i z hz
 split at hh
 case isFalse=>exact (ah hh).elim
 rename_i hp
 obtain ⟨hpl,hzl⟩:=hp
 split at hh
 case h_2=>exact (ah hh).elim
 rename_i y hy
 obtain ⟨_,_,rfl⟩:=hh
 obtain ⟨b,len,cap0,hg,rfl,hlo⟩:=hx
 have hrow:aP T w (free st.mem g) e' k l (g n):=h.mm n _ (bt hlook)
 obtain ⟨xs,hown,hels⟩:=hrow.els
 obtain ⟨cp,cur,hgv,⟨fz,hfz,hheap⟩,hnc,hcm,hcs,htake⟩ : ∃ cp cur,g n = .slice (some ⟨b,0,none⟩) l.length cp∧(∃ fz:Nat×Nat,(fz.2=0∨cur.size≤fz.1)∧w.heap[b]? = some (.cells cur e' fz))∧l.length≤cp∧cp≤maxLen∧cur.size=cp * T.sz k∧cur.toList.take (l.length * T.sz k)=xs:=by
  rcases hown.2 with ⟨h1,_⟩ | ⟨b',cp,cur,h1,_,h2⟩
  ·rw [h1] at hg; cases hg
  ·rw [h1] at hg
   cases hg
   exact ⟨_,cur,h1,h2⟩
 rw [hgv] at hg
 cases hg
 obtain ⟨S,hS⟩ : ∃ S,S=T.sz k:=⟨_,rfl⟩
 obtain ⟨m,hm⟩ : ∃ m,l.length - lo=m+1:=⟨l.length - lo - 1,by omega⟩
 obtain ⟨i,hi,hiz⟩:=Option.bind_eq_some_iff.1 hz
 have hcells:Cells T w (free st.mem g) (gq z:DV E).cells z.cells.toList:=lC z
 have hzs:z.cells.size=S:=by rw [hS, ← hzl,hcells.1]; simp
 have h1:Els T w (free st.mem g) k [y] z.cells.toList:=by
  have hd:jF T k 1 (gq z:DV E).cells=some [y]:=by
   simp only [jF]
   rw [List.take_of_length_le (by omega),hy]
   rfl
  exact (rC hcells (fun c hc=>List.all_eq_true.1 hpl c hc) (by omega) hd).2
 have h2:=AE (T:=T) (w:=w) (X:=free st.mem g) (k:=k) (y:=y) (z:=z.cells) (by omega) h1 (m+1)
 obtain ⟨vs,hvs⟩ : ∃ vs,vs=(Builtin.zeroCells z.cells (m+1)).toList:=⟨_,rfl⟩
 rw [← hvs] at h2
 have hvl:vs.length=(m+1) * S:=by rw [h2.len, ← hS]; simp
 rw [← hS] at hcs htake
 have e1:lo * S+(m+1) * S=l.length * S:=by rw [← Nat.add_mul]; congr 1; omega
 have hmul2:l.length * S≤cap0 * S:=Nat.mul_le_mul_right S hnc
 have hst:=ij P b (lo * S) e' fz vs 0 cur w hheap hfz (by rw [hvl]; omega) h2.one
 simp only [Nat.add_zero] at hst
 obtain ⟨arr,harr⟩ : ∃ arr,arr=cur.toList.take (lo * S) ++ vs ++ cur.toList.drop (lo * S+vs.length):=⟨_,rfl⟩
 rw [← harr] at hst
 have hu:=dR he
 have hrun:(Builtin.clear_ #[t] ty #[.slice (some ⟨b,lo * T.sz k,none⟩) (l.length - lo) (cap0 - lo)]).run P w = .ok (.tuple #[]) (w.setRow b arr.toArray):=by
  rw [hm, ← hS]
  simp only [Builtin.clear_,List.getElem?_toArray,List.getElem?_cons_zero,Sem.run_bind,run_underlying hu,Result.andThen_ok,zeroValue,typeInfo,run_program,hi,Sem.run_pure,hiz]
  rw [← hvs,hst]
  rfl
 refine .inl ⟨.tuple #[],w.setRow b arr.toArray,g,by simp only [Sem.run_bind,hrun,Result.andThen_ok,Sem.run_pure],?_⟩
 have hblk:blk (g n)=some b:=by rw [hgv]; rfl
 have hk':=h.zH [n+RK]
 have hX : ∀ c,free st.mem g c→c<w.heap.size→free st.mem g c∧c<(w.setRow b arr.toArray).heap.size∧(w.setRow b arr.toArray).heap[c]? = w.heap[c]? := by
  intro c hf hlt
  refine ⟨hf,by simpa using hlt,setRow_other _ _ _ _ fun e'=>hf.1 ?_⟩
  subst e'
  exact aD.2 ⟨n,bp hlook,hblk⟩
 have hl1:(cur.toList.take (lo * S)).length=lo * S:=by
  rw [List.length_take,Array.length_toList]
  have:lo * S≤l.length * S:=Nat.mul_le_mul_right S (by omega)
  omega
 have hals:arr.length=cur.size:=by
  rw [harr,List.length_append,List.length_append,hl1,hvl,List.length_drop,Array.length_toList]; omega
 have hxt:xs.take (lo * S)=cur.toList.take (lo * S):=by
  rw [← htake,List.take_take,Nat.min_eq_left (Nat.mul_le_mul_right S (by omega))]
 have hatk:arr.take (l.length * S)=xs.take (lo * S) ++ vs:=by
  rw [harr,hxt,List.take_append_of_le_length (by rw [List.length_append,hl1,hvl]; omega),List.take_of_length_le (by rw [List.length_append,hl1,hvl]; omega)]
 have hEls:Els T (w.setRow b arr.toArray) (free st.mem g) k (l.take lo ++ List.replicate (l.length - lo) y) (xs.take (lo * S) ++ vs):=by
  rw [hm,hS]
  exact ((hels.take lo (by omega)).append h2).mono hX
 have hnl:(l.take lo ++ List.replicate (l.length - lo) y).length=l.length:=by
  rw [List.length_append,List.length_take,List.length_replicate]; omega
 exact hk'.write n (.row e' k (l.take lo ++ List.replicate (l.length - lo) y)) (bp hlook) (by rw [hblk]; exact l9 _ _ _) (aP.mk' (xs:=xs.take (lo * S) ++ vs) ⟨by rw [hEls.len], .inr ⟨b,cap0,arr.toArray,by rw [hnl]; exact hgv,Nat.zero_le _,⟨fz,by simpa [hals] using hfz,setRow_heap w b cur _ e' fz hheap⟩,by rw [hnl]; exact hnc,hcm,by rw [← hS]; simpa using hals.trans hcs,by rw [hnl, ← hS]; exact hatk⟩⟩ hEls)
  (by
   intro j hj q c' off' he
   have hj':j<st.tmps.length:=by simpa using hj
   simp only [List.getElem_map] at he
   unfold DV.kill at he
   split at he
   ·cases he
   ·rename_i ht
    rw [he] at ht
    simp [DV.du,DV.fv] at ht) dst .junk (.tuple #[]) (Rep.junk _).toT (fun _ _ _ _ e=>by cases e)
end Go.Vm
/- The abstract value machine: all operations are sound. -/
namespace Go.Vm
open Go.Lib
set_option linter.unusedVariables false
variable {K:Type} {E:K→Type}
def Ih:DV E→Bool
 | .rptr .. => true
 | _=>false
def BT (P:Program) (t:TypeId) (x:DV E) (dst:Option Nat) (mem:Mem E):Cal E :=
 match x,dst with
 | .str s,some d=>if u4 P t then .one ⟨.ptr (64 * d) 0,[64 * d],some (gk mem (64 * d) (.siter s 0))⟩ else .bad
 | _,_ => .bad
def eY (s:List UInt8) (pos:Nat):Int:=Int.ofNat (Utf8.decode ⟨s.toArray⟩ pos).1
def runeLen (s:List UInt8) (pos:Nat):Nat:=(Utf8.decode ⟨s.toArray⟩ pos).2
def FV (x:DV E) (isString:Bool) (mem:Mem E):Cal E :=
 match x,isString with
 | .ptr n 0,true=>match look mem n with
  | some (.siter s pos) => .br (decide (pos<s.length))
    (.one ⟨.tup [.bool true, .int .i64 pos, .int .i32 (eY s pos)],[],some (ie mem n (.siter s (pos+runeLen s pos)))⟩) (.v (.tup [.bool false]))
  | _ => .bad
 | _,_ => .bad
def Gv (T:Tab E) (P:Program) (src dst:TypeId) (x:DV E) (mem:Mem E):Cal E :=
 match DC mem x,jz P src with
 | some (_,⟨k,l⟩),some e=>if u4 P dst then match CQ T P e k l with
   | some s => .v (.str s)
   | none => .bad
  else .bad
 | _,_ => .bad
def BV (T:Tab E) (P:Program) (orc:Orc) (t:TypeId) (x:DV E) (dst:Option Nat) (mem:Mem E):Cal E :=
 match x,jz P t,dst with
 | .nils,some e,some d=>match kindOf T P e with
  | some k => .one ⟨.rowp (64 * d),[64 * d],some (gk mem (64 * d) (.row e k []))⟩
  | none => .bad
 | _,_,_ => .bad
def zeroOf (P:Program) (t:TypeId):Option Value:=(P.info? t).bind (·.zero)
def BJ (P:Program) (t:TypeId) (x i:DV E):Option (Cal E) :=
 match P.underlying t,x,qX i with
 | some (.array m e), .ptr n off,some j=>if P.cellsOf e == 1 && !(m == 1) then some (.chk (decide (0≤j) && decide (j<(m:Int))) (.v (.ptr n (GY off j)))) else none
 | some (.slice e), .cslc n len,some j=>if P.cellsOf e == 1 then some (.chk (decide (0≤j) && decide (j<(len:Int))) (.v (.ptr n j.toNat))) else none
 | _,_,_=>none
def B4 (T:Tab E) (P:Program) (src dst:TypeId) (d:Option Nat) (x:DV E) (mem:Mem E):Option (Cal E) :=
 match x,jz P dst,d with
 | .str s,some e,some d=>match kindOf T P e with
  | some k=>if JK P e && T.sz k == 1 && (P.underlying src).isSome then match T.ofStr k s with
    | some l=>some (.chk (decide (s.length≤9223372036854775807)) (.one ⟨.rowp (64 * d),[64 * d],some (gk mem (64 * d) (.row e k l))⟩))
    | none=>none
   else none
  | none=>none
 | _,_,_=>none
def ig (T:Tab E) (P:Program) (env:Env E) (orc:Orc) (o:Oper) (ρ:Operand→DV E) (mem:Mem E):Cal E :=
 match o.op with
 | .move x | .assign x=>BV T P orc o.type (ρ x) o.dst mem
 | .alloc t=>match zeroOf P t with
  | some z=>match rG T P t (gq z).cells with
   | some (n,⟨k,l⟩)=>qv o.dst t n k l mem
   | none=>ly o.dst t (gq z).cells mem
  | none => .bad
 | .box t x=>match ρ x with
  | .arr n k l=>qv o.dst t n k l mem
  | d=>if d.lay then ly o.dst t d.cells mem else .bad
 | .load t x=>xq T P t (ρ x) mem
 | .store t x y=>if o.dst.isNone && rX mem (qE T P t (ρ y)) then
   (if Ih (ρ x)=true then Cw T P t (ρ x) (ρ y) mem else if Jd mem (ρ x)=true then uh T P t (ρ x) (ρ y) mem else uQ P t (ρ x) (qE T P t (ρ y)) mem) else .bad
 | .buildSlice t len parts=>Cs T P orc t len parts.toList o.dst ρ mem
 | .indexAddr t x i=>match BJ P t (ρ x) (ρ i) with
  | some c=>c
  | none=>indexB T P t (ρ x) (ρ i) mem
 | .slice t x lo hi none=>if lo.isNone && (o.dst.map orc.rv.contains).getD false then HA P t (ρ x) (hi.map ρ) mem else sliceB T P t (ρ x) (lo.map ρ) (hi.map ρ) mem
 | .convert src dst x=>match B4 T P src dst o.dst (ρ x) mem with
  | some c=>c
  | none=>Gv T P src dst (ρ x) mem
 | .range t x=>BT P t (ρ x) o.dst mem
 | .next x s=>FV (ρ x) s mem
 | .call { callee := .builtin .append,args,argTypes } =>
  match args.toList,argTypes.toList with
  | [s,x],[st,xt]=>rM T P st xt o.dst (ρ s) (ρ x) mem
  | _,_ => .bad
 | .call { callee := .builtin .len,args,argTypes } =>
  match args.toList,argTypes.toList with
  | [x],[t]=>if (jz P t).isSome then Jy (ρ x) mem else .bad
  | _,_ => .bad
 | .call { callee := .builtin .clear,args,argTypes } =>
  match args.toList,argTypes.toList with
  | [x],[t]=>Cb T P t (ρ x) mem
  | _,_ => .bad
 | .call { callee := .value f,args, .. }=>if (o.dst.map orc.pr.contains).getD false=true then C4 env (o.dst.getD 999) (ρ f) (args.toList.map ρ) else uF env (match o.dst with
   | some d=>d
   | none=>999) (ρ f) (args.toList.map fun x=>(ρ x,p9 orc x)) mem
 | _ => .bad
def eff (T:Tab E) (P:Program) (env:Env E) (orc:Orc) (o:Oper) (ρ:Operand→DV E) (mem:Mem E):Cal E :=
 match pS T P orc o ρ with
 | some c=>c
 | none=>ig T P env orc o ρ mem
variable {T:Tab E} {P:Program} {w0:World} {G:GP} {st:St E} {a:Act} {w:World} {g:Gh}
theorem fU.wp {dst:Option Nat} {out:Out E} {o:Oper} (h:fU T P w0 G st a w g o.dst out (execOp a.eval o)) (next:Act→World→Prop) (Q:Exit→Act→World→Prop)
  (hnext : ∀ v w' g',Inv T w0 G (st.app o.dst out) (a.put o.dst v) w' g'→next (a.put o.dst v) w'):o.wp P a w next Q:=by
 unfold Oper.wp
 rcases h with ⟨v,w',g',hr,hi⟩ | ⟨w',g',hr,hi⟩
 ·rw [hr]; exact hnext _ _ _ hi
 ·rw [hr]; exact hnext _ _ _ hi
def ct:DV E→Option Nat
 | .rptr n _ _ _=>some n
 | _=>none
theorem Bs {op:BinOp} {xt:TypeId} {cy:Bool} {x y:DV E} {c:Cal E} {out:Out E} (h:uu T P op xt cy x y=some c) (hh:c.has out):ct out.v=none:=by
 unfold uu at h
 split at h
 ·by_cases hc:(fh P xt && cy)=true
  ·rw [if_pos hc] at h
   cases op <;> simp only at h <;> first | (cases h; done) | (cases h; rw [cZ hh]; rfl)
  ·rw [if_neg hc] at h
   cases h
 ·cases h
theorem Ji {X:Nat→Prop} {t:TypeId} {ok:Bool} {x:DV E} {v:Value} {c:Cal E} {out:Out E} (hx:aB T w X g x v) (h:taD T P t ok x=some c) (hh:c.has out):ct out.v=none:=by
 unfold taD at h
 split at h
 ·cases h
 have hno:(if ok then Cal.v (.tup [vZ P t, .bool false]) else (Cal.bad:Cal E)).has out→ct out.v=none:=by
  intro ho
  cases ok
  ·obtain ⟨r,hr,_⟩:=ho
   cases hr
  ·rw [cZ ho]; rfl
 have hyes : ∀ d:DV E,ct d=none→out=val (if ok then .tup [d, .bool true] else d)→ct out.v=none:=by
  intro d hd ho
  subst ho
  cases ok
  ·exact hd
  ·rfl
 have key : ∀ (R:Type) (m:Option R) (f:R→DV E),(∀ r,ct (f r)=none)→(Cal.br (tz m) (.ret R m fun b=>val (if ok then .tup [f b, .bool true] else f b)) (if ok then Cal.v (.tup [vZ P t, .bool false]) else .bad)).has out→ct out.v=none:=by
  intro R m f hf hh
  cases m with
  | none=>exact hno (by simpa [Cal.has,tz] using hh)
  | some b =>
   obtain ⟨r,h1,h2⟩ : ∃ r,some b=some r∧val (if ok then .tup [f r, .bool true] else f r)=out:=by simpa [Cal.has,tz] using hh
   exact hyes _ (hf r) h2.symm
 cases x <;> simp only at h <;> first | (cases h; done) | skip
 case nili =>
  obtain rfl:=Option.some.inj h
  exact hno hh
 case ifc t' d =>
  have hx:Rep T w X (.ifc t' d) v:=hx
  cases hx with
  | ifc _ hr =>
  by_cases he:t'=t
  ·subst he
   rw [if_pos rfl] at h
   obtain rfl:=Option.some.inj h
   obtain ⟨r,_,hr'⟩:=hh
   exact hyes d (by cases hr <;> rfl) hr'.symm
  ·rw [if_neg he] at h
   obtain rfl:=Option.some.inj h
   exact hno hh
 case any k x =>
  split at h
  ·obtain rfl:=Option.some.inj h
   simp only [Cal.has] at hh
   cases hg:T.gU k x
   ·rw [hg] at hh
    exact hno (by simpa using hh)
   ·rw [hg] at hh
    obtain ⟨r,h1,h2⟩:(Cal.v (if ok then .tup [.agg [], .bool true] else .agg []):Cal E).has out:=by simpa using hh
    exact hyes (.agg []) rfl h2.symm
  ·obtain rfl:=Option.some.inj h
   exact key _ _ _ (fun _=>rfl) hh
  ·obtain rfl:=Option.some.inj h
   exact key _ _ _ (fun _=>rfl) hh
  ·obtain rfl:=Option.some.inj h
   exact key _ _ _ (fun _=>rfl) hh
  ·obtain rfl:=Option.some.inj h
   exact key _ _ _ (fun _=>rfl) hh
  ·cases h
theorem rN {X:Nat→Prop} {t:TypeId} {cs:List (DV E)} {vs:Nat→Value} (off:Nat) (h : ∀ i (hi:i<cs.length),Rep T w X cs[i] (vs i)):ct (qm P t cs off)=none:=by
 unfold qm
 split
 ·rfl
 ·by_cases ho:off<cs.length
  ·rw [dV _ _ _ ho]
   have:=h off ho
   generalize cs[off]=d at this
   generalize vs off=u at this
   cases this <;> rfl
  ·rw [List.getD_eq_getElem?_getD,List.getElem?_eq_none (Nat.le_of_not_lt ho)]; rfl
theorem GW {op:BinOp} {xt:TypeId} {cx cy:Bool} {x y:DV E} {out:Out E} (h:(BO P op xt cx cy x y).has out):ct out.v=none:=by
 have hv : ∀ d:DV E,ct d=none→(Cal.v d).has out→ct out.v=none:=fun d hd h=>by rw [cZ h]; exact hd
 have hb:(Cal.bad:Cal E).has out→ct out.v=none:=fun h=>(ah h).elim
 have hc : ∀ b (c:Cal E),(c.has out→ct out.v=none)→(Cal.chk b c).has out→ct out.v=none:=fun b c hh h=>hh (eB h).2
 unfold BO at h
 split at h
 ·split at h
  ·exact hc _ _ (hv _ rfl) h
  ·exact hc _ _ (hv _ rfl) h
  ·split at h
   ·unfold yS at h
    split at h <;> first | exact hv _ rfl h | exact hc _ _ (hv _ rfl) h | exact hb h
   ·exact hb h
 ·unfold yD at h
  split at h <;> first | exact hv _ rfl h | exact hc _ _ (hv _ rfl) h | exact hb h
 all_goals first
  | exact hb h
  | (split at h
     ·split at h <;> first | exact hv _ rfl h | exact hb h
     ·exact hb h)
theorem FB {orc:Orc} {o:Oper} {c:Cal E} (h:Inv T w0 G st a w g) (he:pS T P orc o st.ev=some c) {out:Out E} (hh:c.has out) : ∀ k j cs off,out.v = .rptr k j cs off→k∈names st.mem:=by
 have hop : ∀ x:Operand, ∀ k,ct (st.ev x)=some k→k∈names st.mem:=by
  intro x k hx
  cases x with
  | tmp t =>
   simp only [St.ev] at hx
   by_cases ht:t<st.tmps.length
   ·rw [dV _ _ _ ht] at hx
    cases hd:st.tmps[t] <;> rw [hd] at hx <;> simp [ct] at hx
    subst hx
    exact h.rl t ht _ _ _ _ hd
   ·rw [List.getD_eq_getElem?_getD,List.getElem?_eq_none (Nat.le_of_not_lt ht)] at hx; cases hx
  | const v=>simp only [St.ev,ofConst] at hx; (repeat' split at hx) <;> cases hx
  | global i=>cases hx
  | func f=>cases hx
 suffices hs:ct out.v=none ∨ ∃ x k,ct (st.ev x)=some k∧ct out.v=some k by
  intro k j cs off hv
  rcases hs with hs | ⟨x,k',h1,h2⟩
  ·rw [hv] at hs; cases hs
  ·rw [hv] at h2
   cases h2
   exact hop x k h1
 have hv0 : ∀ d:DV E,ct d=none→(Cal.v d).has out→ct out.v=none ∨ ∃ x k,ct (st.ev x)=some k∧ct out.v=some k:=fun d hd h=>by rw [cZ h]; exact .inl hd
 have hmv : ∀ x:Operand,(Cal.v (st.ev x)).has out→ct out.v=none ∨ ∃ x k,ct (st.ev x)=some k∧ct out.v=some k:=fun x h=>by
  rw [cZ h]
  show ct (st.ev x)=none ∨ ∃ y k,ct (st.ev y)=some k∧ct (st.ev x)=some k
  cases hq:ct (st.ev x) with
  | none=>exact .inl rfl
  | some k=>exact .inr ⟨x,k,hq,rfl⟩
 obtain ⟨dst,op,ty,pos,after,guard⟩:=o
 have mv : ∀ x,(match st.ev x with
  | .nils=>match (jz P ty).bind fun e=>(T.kind e).map fun k=>(e,k) with
   | some (_,k)=>if (dst.map orc.rv.contains).getD false then none else some (.v (.slc k []))
   | none=>some (.v .nils)
  | d=>(some (.v d):Option (Cal E)))=some c→ct out.v=none ∨ ∃ x k,ct (st.ev x)=some k∧ct out.v=some k:=by
  intro x h
  have hx:=hmv x
  split at h
  ·split at h
   ·split at h
    ·cases h
    ·cases h; exact hv0 _ rfl hh
   ·cases h; exact hv0 _ rfl hh
  ·cases h; exact hx hh
 cases op <;> simp only [pS] at he
 case move x=>exact mv x he
 case assign x=>exact mv x he
 case pick c' x y =>
  split at he
  ·cases he; exact hmv _ hh
  ·cases he; exact hmv _ hh
  ·cases he
 case binOp op xt x y yt =>
  split at he
  ·rename_i c' hc
   cases he
   exact .inl (Bs hc hh)
  ·cases he; exact .inl (GW hh)
 case unOp op xt x =>
  cases he
  unfold unD at hh
  split at hh <;> first | exact hv0 _ rfl hh | exact (ah hh).elim
 case convert src dst x =>
  unfold C7 at he
  split at he
  ·cases he; exact hv0 _ rfl hh
  ·cases he; exact hv0 _ rfl hh
  ·cases he; exact hv0 _ rfl hh
  ·split at he
   ·cases he; exact hv0 _ rfl hh
   ·cases he
  ·cases he
 case nilCheck x =>
  split at he
  ·cases he; exact hv0 _ rfl hh
  ·cases he; exact hv0 _ rfl hh
  ·cases he; exact hv0 _ rfl hh
  ·cases he; exact hv0 _ rfl (eB hh).2
  ·cases he
 case fieldAddr s x f =>
  split at he
  ·split at he <;> cases he; exact hv0 _ rfl hh
  ·split at he <;> cases he; exact hv0 _ rfl hh
  ·rename_i off ft n i cs o _ hd
   split at he <;> cases he
   rw [cZ hh]
   exact .inr ⟨x,n,by rw [hd]; rfl,rfl⟩
  ·split at he <;> cases he; exact hv0 _ rfl hh
  ·split at he <;> cases he
   exact hv0 _ rfl (eB hh).2
  ·cases he
 case field xt x f =>
  have hx:=h.ev x
  split at he
  ·rename_i off ft cs _ hd
   rw [hd] at hx
   obtain ⟨vs,_,hl,hr⟩:=oo hx
   split at he <;> cases he
   exact hv0 _ (rN off (vs:=fun i=>vs.getD i undef) fun i hi=>by
    have:=hr i hi (by omega)
    simpa [Array.getElem?_eq_getElem (show i<vs.size by omega)] using this) hh
  ·cases he
 case indexAddr t x i =>
  split at he
  ·split at he <;> cases he
   obtain ⟨_,_,rfl⟩:=hh
   exact .inl rfl
  ·cases he
 case index t x i =>
  have hx:=h.ev x
  split at he
  ·cases he
   obtain ⟨_,_,rfl⟩:=hh
   exact .inl rfl
  ·rename_i m e m' k l n ht hd hi
   split at he
   ·rename_i hc
    cases he
    simp only [Bool.and_eq_true,beq_iff_eq,Bool.not_eq_true'] at hc
    rw [hd] at hx
    obtain ⟨hl,hp,_⟩:=lN hx
    obtain ⟨y,hy,rfl⟩:=hh
    obtain ⟨_,hlt,rfl⟩:=k7 hy
    have hg:=rZ hc.1.1.1.2 l n.toNat hlt
    obtain ⟨hlt',he'⟩:=List.getElem?_eq_some_iff.1 hg
    have hpl:=List.all_eq_true.1 hp _ (List.getElem_mem hlt')
    rw [he'] at hpl
    left
    show ct ((T.enc k l[n.toNat]).getD 0 .junk)=none
    cases hq:(T.enc k l[n.toNat]).getD 0 DV.junk <;> rw [hq] at hpl <;> first | rfl | (simp [DV.plain] at hpl; done)
   ·cases he
  ·cases he
 case slice t x lo hi mx =>
  cases mx with
  | some m =>
   cases hi with
   | none=>simp only at he; cases he
   | some hi =>
    simp only at he
    split at he
    ·split at he
     ·split at he <;> cases he
      obtain ⟨_,_,rfl⟩:=hh
      exact .inl rfl
     ·cases he
    ·cases he
  | none =>
   simp only at he
   split at he
   ·split at he <;> cases he
    obtain ⟨_,_,rfl⟩:=hh
    exact .inl rfl
   ·split at he
    ·split at he <;> cases he
     obtain ⟨_,_,rfl⟩:=hh
     exact .inl rfl
    ·cases he
   ·cases he
 case build t parts =>
  split at he
  ·split at he
   ·split at he <;> cases he
    exact hv0 _ rfl hh
   ·cases he
  ·split at he
   ·split at he <;> cases he
    exact hv0 _ rfl hh
   ·cases he
  ·cases he
 case extract x i =>
  have hx:=h.ev x
  split at he
  ·rename_i vs hd
   rw [hd] at hx
   obtain ⟨us,_,hl,hr⟩:=hx
   split at he
   ·rename_i hi
    cases he
    rw [dV _ _ _ hi] at hh
    refine hv0 _ ?_ hh
    have:=(hr i hi (by omega)).2
    cases hq:vs[i] <;> rw [hq] at this <;> first | rfl | (simp [DV.noR] at this; done)
   ·cases he
  ·cases he
 case load t x =>
  have hx:=h.ev x
  split at he
  ·rename_i cs off hd
   rw [hd] at hx
   obtain ⟨b,o,f,_,_,_,_,h4⟩:=hx
   split at he <;> cases he
   exact hv0 _ (rN off fun i hi=>(h4 i hi).1) hh
  ·rename_i n i cs off hd
   rw [hd] at hx
   obtain ⟨b,o,f,_,_,_,_,h4⟩:=hx
   split at he <;> cases he
   exact hv0 _ (rN off fun i hi=>(h4 i hi).1) hh
  ·rename_i cs hd
   rw [hd] at hx
   obtain ⟨b,o,f,_,_,_,h4⟩:=rS hx
   split at he <;> cases he
   exact hv0 _ (rN 0 fun i hi=>(h4 i hi).1) hh
  ·cases he
 case makeFunc fn first caps =>
  cases fn <;> simp only at he <;> first | (cases he; done) | skip
  split at he <;> cases he
  exact hv0 _ rfl hh
 case typeAssert x xt t ok=>exact .inl (Ji (h.ev x) he hh)
 case makeInterface t x =>
  split at he <;> cases he
  exact hv0 _ rfl hh
 case call cl =>
  obtain ⟨callee,args,argTypes⟩:=cl
  cases callee <;> simp only at he <;> first | (cases he; done) | skip
  unfold qP at he
  split at he
  ·cases he; exact hv0 _ rfl hh
  ·cases he; exact hv0 _ rfl hh
  ·cases he; exact hv0 _ rfl hh
  ·cases he; exact hv0 _ rfl hh
  ·split at he <;> cases he; exact hv0 _ rfl hh
  ·split at he <;> cases he; exact hv0 _ rfl hh
  ·cases he
 all_goals (first | (cases he; done) | skip)
end Go.Vm
/- The abstract value machine: eff is sound. -/
namespace Go.Vm
open Go.Lib
set_option linter.unusedVariables false
variable {K:Type} {E:K→Type}
variable {T:Tab E} {P:Program} {w0:World} {G:GP} {st:St E} {a:Act} {w:World} {g:Gh}
theorem DL (dst:Option Nat) {t:TypeId} {x:DV E} {v:Value} (h:Inv T w0 G st a w g) (hx:aB T w (free st.mem g) g x v) (out:Out E) (hh:(BT P t x dst st.mem).has out) :
  fU T P w0 G st a w g dst out (do pure (.value (← Instr.range t v))):=by
 unfold BT at hh
 split at hh
 case h_2=>exact (ah hh).elim
 rename_i s d
 split at hh
 case isFalse=>exact (ah hh).elim
 rename_i ht
 obtain ⟨_,_,rfl⟩:=hh
 obtain rfl:=jo hx
 have hu:=oy ht
 refine .inl ⟨_,_,upd g (64 * d) (.pointer (some ⟨w.heap.size,0,none⟩)),?_,h.alloc (64 * d) (.siter s 0) (.stringIter ⟨s.toArray⟩ 0) _ _ rfl ?_⟩
 ·simp [Instr.range,run_underlying hu]
 ·intro X' _
  exact ⟨w.heap.size,rfl,heap_alloc_new w _⟩
theorem wa (w:World) (r k:Nat) (o:Obj) (h:k≠r):({ w with heap:=w.heap.setIfInBounds r o }:World).heap[k]? = w.heap[k]? := by
 simp [Array.getElem?_setIfInBounds_ne (Ne.symm h)]
theorem Gp (dst:Option Nat) {ty:TypeId} {x:DV E} {s:Bool} {v:Value} (h:Inv T w0 G st a w g) (hx:aB T w (free st.mem g) g x v) (out:Out E) (hh:(FV x s st.mem).has out) :
  fU T P w0 G st a w g dst out (do pure (.value (← Instr.next v s ty))):=by
 unfold FV at hh
 split at hh
 case h_2=>exact (ah hh).elim
 rename_i n
 split at hh
 case h_2=>exact (ah hh).elim
 rename_i s' pos hlook
 obtain ⟨b,hg,rfl⟩:=ep hx
 obtain ⟨b',h1,h2⟩:=h.mm n _ (bt hlook)
 rw [hg] at h1
 cases h1
 have hss:(⟨s'.toArray⟩:ByteArray).size=s'.length:=rfl
 by_cases hp:pos<s'.length
 ·have hh:(Cal.one ⟨.tup [.bool true, .int .i64 pos, .int .i32 (eY s' pos)],[],some (ie st.mem n (.siter s' (pos+runeLen s' pos)))⟩:Cal E).has out:=by
   simpa [Cal.has,hp] using hh
  obtain ⟨_,_,rfl⟩:=hh
  have hrun:(Instr.next (.pointer (some ⟨b,0,none⟩)) true ty).run P w = .ok (.tuple #[.bool true, .int .i64 pos, .int .i32 (eY s' pos)]) { w with heap:=w.heap.setIfInBounds b (.stringIter ⟨s'.toArray⟩ (pos+runeLen s' pos)) }:=by
   have hget:(getObj b).run P w = .ok (.stringIter ⟨s'.toArray⟩ pos) w:=by simp [getObj,Sem.run,h2]
   have hset : ∀ o:Obj,(setObj b o).run P w = .ok () { w with heap:=w.heap.setIfInBounds b o }:=by intro o; simp [setObj,Sem.run,h2]
   simp only [Instr.next,Sem.run_bind,hget,Result.andThen_ok,hss,hp,if_true,hset,Sem.run_pure]
   rfl
  have hblk:blk (g n)=some b:=by rw [hg]; rfl
  refine .inl ⟨_,_,g,by simp only [Sem.run_bind,hrun,Result.andThen_ok,Sem.run_pure]; rfl,?_⟩
  refine h.write n (.siter s' (pos+runeLen s' pos)) (bp hlook) ?_ ?_ (rA h hg) dst _ _ ?_ (fun _ _ _ _ e=>by cases e)
  ·rw [hblk]
   exact ⟨rfl,rfl,rfl,by simp,fun k hk hne=>wa w b k _ fun e=>hne (by rw [e])⟩
  ·exact ⟨b,hg,by simp only [Array.getElem?_setIfInBounds,if_true,if_pos (kP h2)]⟩
  ·refine ⟨_,rfl,rfl,?_⟩
   intro i hi hi'
   have:i=0∨i=1∨i=2:=by simp at hi; omega
   rcases this with rfl | rfl | rfl
   ·exact ⟨Rep.bool true,rfl⟩
   ·exact ⟨Rep.int rfl,rfl⟩
   ·exact ⟨Rep.int rfl,rfl⟩
 ·have hh:(Cal.v (.tup [.bool false]):Cal E).has out:=by simpa [Cal.has,hp] using hh
  rw [cZ hh]
  have hrun:(Instr.next (.pointer (some ⟨b,0,none⟩)) true ty).run P w = .ok (.tuple #[.bool false]) w:=by
   have hget:(getObj b).run P w = .ok (.stringIter ⟨s'.toArray⟩ pos) w:=by simp [getObj,Sem.run,h2]
   simp only [Instr.next,Sem.run_bind,hget,Result.andThen_ok,hss,hp,if_false,Sem.run_pure]
  refine .inl ⟨.tuple #[.bool false],w,g,by simp only [Sem.run_bind,hrun,Result.andThen_ok,Sem.run_pure],h.put dst ?_ (fun _ _ _ _ e=>by cases e)⟩
  refine ⟨_,rfl,rfl,?_⟩
  intro i hi hi'
  have:i=0:=by simp at hi; omega
  subst this
  exact ⟨Rep.bool false,rfl⟩
theorem Ep {e:TypeId} (h:JK P e=true):P.underlying e=some (.int .u8):=by
 unfold JK at h; split at h <;> simp_all
theorem Gb (dst:Option Nat) {src ds:TypeId} {x:DV E} {v:Value} (h:Inv T w0 G st a w g) (hx:aB T w (free st.mem g) g x v) (out:Out E) (hh:(Gv T P src ds x st.mem).has out) :
  fU T P w0 G st a w g dst out (do pure (.value (← convert src ds v))):=by
 unfold Gv at hh
 split at hh
 case h_2=>exact (ah hh).elim
 rename_i n k l e hl he
 split at hh
 case isFalse=>exact (ah hh).elim
 rename_i hc
 split at hh
 case h_2=>exact (ah hh).elim
 rename_i s hs
 rw [cZ hh]
 obtain ⟨_,rfl,hn,e',hr⟩:=mz h hl hx
 have hrep:=qM (Y:=fun _=>True) (hr.mono (fun b hb hlt=>⟨trivial,hlt,rfl⟩) fun _ _=>rfl) (fun _ _=>trivial)
 have:=wH (P:=P) (g:=g) (dR he) (oy hc) hs (Rep.toT hrep)
 exact .inl ⟨_,w,g,by simp only [Sem.run_bind,this,Result.andThen_ok,Sem.run_pure],h.put dst (DB s) (fun _ _ _ _ e=>by cases e)⟩
theorem EM (dst:Option Nat) {src ds:TypeId} {x:DV E} {v:Value} (h:Inv T w0 G st a w g) (hx:aB T w (free st.mem g) g x v) (c:Cal E) (hc:B4 T P src ds dst x st.mem=some c) (out:Out E) (hh:c.has out) :
  fU T P w0 G st a w g dst out (do pure (.value (← convert src ds v))):=by
 unfold B4 at hc
 split at hc
 case h_2=>cases hc
 rename_i s e d he
 split at hc
 case h_2=>cases hc
 rename_i k hk
 split at hc
 case isFalse=>cases hc
 rename_i hcc
 simp only [Bool.and_eq_true,beq_iff_eq] at hcc
 obtain ⟨⟨hu8,hs1⟩,hsrc⟩:=hcc
 split at hc
 case h_2=>cases hc
 rename_i l hl
 cases hc
 obtain ⟨hb,hh⟩:=eB hh
 simp only [decide_eq_true_eq] at hb
 obtain ⟨_,_,rfl⟩:=hh
 obtain rfl:=jo hx
 obtain ⟨u,hu⟩:=Option.isSome_iff_exists.1 hsrc
 have hrun:=Lib.run_convert_string_bytes (P:=P) w src ds e ⟨s.toArray⟩ hu (dR he) (Ep hu8)
 have hss:(⟨s.toArray⟩:ByteArray).size=s.length:=rfl
 rw [hss] at hrun
 have hll:=(T.ofStr_ok k s l hl).1
 have hels:Els T w (free st.mem g) k l (strCells ⟨s.toArray⟩):=Dd hl hs1
 have hnew:=Lib.bytesWorld_at_new w e ⟨s.toArray⟩
 have hold:=fun j hj=>Lib.bytesWorld_at_old w e ⟨s.toArray⟩ j hj
 have hsz:=Lib.bytesWorld_size w e ⟨s.toArray⟩
 have hK:Kept w (Lib.bytesWorld w e ⟨s.toArray⟩) none:=by
  refine ⟨?_,?_,?_,by omega,fun j hj _=>hold j hj⟩ <;> (unfold Lib.bytesWorld World.freeze; split <;> rfl)
 have hge:=grownCap_ge w s.length 0 e
 have hcm:grownCap w s.length 0 e≤maxLen:=grownCap_le_maxLen w s.length 0 e (by simp only [maxLen]; exact hb)
 have hbl : ∀ b,blk (.slice (some ⟨w.heap.size,0,none⟩) s.length (grownCap w s.length 0 e))=some b→b<(Lib.bytesWorld w e ⟨s.toArray⟩).heap.size∧(w.heap.size≤b∨(64 * d∈names st.mem∧blk (g (64 * d))=some b)):=by
  intro b hb
  simp only [blk,Option.some.injEq] at hb
  subst hb
  exact ⟨by omega, .inl (Nat.le_refl _)⟩
 have hX:=pn h (w':=Lib.bytesWorld w e ⟨s.toArray⟩) (64 * d) (.row e k l) _ none hK (fun _ h=>by cases h) hbl
 refine .inl ⟨_,_,upd g (64 * d) (.slice (some ⟨w.heap.size,0,none⟩) s.length (grownCap w s.length 0 e)),by simp only [Sem.run_bind,hrun,Result.andThen_ok,Sem.run_pure]; rfl,?_⟩
 refine h.renew (64 * d) (.row e k l) _ none hK (fun _ h=>by cases h) hbl ?_ _ (.rowp (64 * d)) _ (by show _=upd g (64 * d) _ (64 * d); rw [fR]) (fun _ _ _ _ h=>by cases h)
 have hcs:(Lib.bytesCells w e ⟨s.toArray⟩).size=grownCap w s.length 0 e:=by
  simp [Lib.bytesCells]
  show s.length+(grownCap w s.length 0 e - s.length) = _
  omega
 refine aP.mk' (xs:=strCells ⟨s.toArray⟩) ⟨by rw [hels.len], .inr ⟨w.heap.size,_,Lib.bytesCells w e ⟨s.toArray⟩,by rw [hll],Nat.zero_le _,⟨_, .inr (Nat.le_refl _),hnew⟩,by omega,hcm,?_,?_⟩⟩ (hels.mono hX)
 ·rw [hcs,hs1,Nat.mul_one]
 ·have e1:(Lib.bytesCells w e ⟨s.toArray⟩).toList=strCells ⟨s.toArray⟩ ++ List.replicate (grownCap w s.length 0 e - s.length) (.int .u8 0):=by
   simp [Lib.bytesCells,strCells]
   rfl
  have e2:(strCells ⟨s.toArray⟩).length=l.length * T.sz k:=hels.len
  rw [e1, ← e2]
  exact List.take_left
theorem xH (orc:Orc) (dst:Option Nat) {t:TypeId} {x:DV E} {v:Value} (h:Inv T w0 G st a w g) (hx:aB T w (free st.mem g) g x v) (out:Out E) (hh:(BV T P orc t x dst st.mem).has out) :
  fU T P w0 G st a w g dst out (pure (.value v)):=by
 unfold BV at hh
 split at hh
 case h_2=>exact (ah hh).elim
 rename_i e d he
 split at hh
 case h_2=>exact (ah hh).elim
 rename_i k hk
 obtain ⟨_,_,rfl⟩:=hh
 obtain rfl:=iR hx
 refine .inl ⟨_,w,upd g (64 * d) (.slice none 0 0),rfl,?_⟩
 exact h.renew (64 * d) (.row e k []) _ none (Kept.refl w) (fun _ h=>by cases h) (fun b hb=>by cases hb) (aP.mk' (kX w e (T.sz k)) (.nil k)) _ (.rowp (64 * d)) _
  (by show _=upd g (64 * d) _ (64 * d); rw [fR]) (fun _ _ _ _ h=>by cases h)
theorem EH (dst:Option Nat) {t:TypeId} {x i:DV E} {v u:Value} (h:Inv T w0 G st a w g) (hx:aB T w (free st.mem g) g x v) (hi:aB T w (free st.mem g) g i u) (c:Cal E) (hc:BJ P t x i=some c) (out:Out E) (hh:c.has out) :
  fU T P w0 G st a w g dst out (do pure (.value (← Instr.indexAt t v u))):=by
 unfold BJ at hc
 split at hc
 case h_3=>cases hc
 case h_2 =>
  rename_i e n len j hu hj
  split at hc
  case isFalse=>cases hc
  rename_i hcc
  simp only [beq_iff_eq] at hcc
  cases hc
  obtain ⟨hb,hh⟩:=eB hh
  simp only [Bool.and_eq_true,decide_eq_true_eq] at hb
  rw [cZ hh]
  obtain ⟨b,hg,rfl⟩:=hx
  obtain ⟨kd,rfl⟩:=fA hj hi
  refine .inl ⟨.pointer (some ⟨b,j.toNat,none⟩),w,g,?_,h.put dst ⟨b,hg,rfl⟩ (fun _ _ _ _ e=>by cases e)⟩
  simp only [Instr.indexAt,asIntOf,Instr.sureAddr,Sem.run_bind,Sem.run_pure,Result.andThen_ok,run_underlying hu,if_pos hb,bu (P:=P) (w:=w) (t:=e) (by omega),hcc,Nat.mul_one,Addr.add_lit,Nat.zero_add]
 rename_i m e n off j hu hj
 split at hc
 case isFalse=>cases hc
 rename_i hcc
 simp only [Bool.and_eq_true,beq_iff_eq,Bool.not_eq_true',beq_eq_false_iff_ne] at hcc
 cases hc
 obtain ⟨hb,hh⟩:=eB hh
 simp only [Bool.and_eq_true,decide_eq_true_eq] at hb
 rw [cZ hh]
 obtain ⟨b,hg,rfl⟩:=ep hx
 obtain ⟨kd,rfl⟩:=fA hj hi
 have hoff:GY off j=off+j.toNat:=by unfold GY; split <;> omega
 refine .inl ⟨.pointer (some ⟨b,off+j.toNat,none⟩),w,g,?_,h.put dst (by rw [hoff]; exact ⟨b,hg,rfl⟩) (fun _ _ _ _ e=>by cases e)⟩
 have hb':(0≤j∧j<(m:Int)):=hb
 simp only [Instr.indexAt,asIntOf,Instr.sureAddr,Sem.run_bind,Sem.run_pure,Result.andThen_ok,run_underlying hu,if_pos hb',bu (P:=P) (w:=w) (t:=e) (by omega),hcc.1,Nat.mul_one,Addr.add_lit]
theorem J1 [hgl:tC T w0 G] (env:Env E) (henv : ∀ f,Ctr T P f (env f)) (orc:Orc) (h:Inv T w0 G st a w g) (o:Oper) (out:Out E) (hh:(eff T P env orc o st.ev st.mem).has out) (next:Act→World→Prop) (Q:Exit→Act→World→Prop)
  (hnext : ∀ v w' g',Inv T w0 G (st.app o.dst out) (a.put o.dst v) w' g'→next (a.put o.dst v) w'):o.wp P a w next Q:=by
 unfold eff at hh
 split at hh
 ·rename_i c he
  obtain ⟨h1,h2,v,hr,hrep⟩:=Il o st.ev a.eval h.ev c he out hh
  have ho:out=val out.v:=by
   obtain ⟨v',ks,m⟩:=out
   simp only at h1 h2
   subst h1; subst h2
   rfl
  refine fU.wp (g:=g) (dst:=o.dst) (.inl ⟨v,w,g,hr,?_⟩) next Q hnext
  rw [ho]
  exact h.put o.dst hrep (FB h he hh)
 ·rename_i he
  by_cases hcall : ∃ f as ats,o.op = .call { callee := .value f,args:=as,argTypes:=ats }
  ·obtain ⟨f,as,ats,ho⟩:=hcall
   unfold ig at hh
   simp only [ho] at hh
   have hh':(uF env (match o.dst with
     | some d=>d
     | none=>999) (st.ev f) (as.toList.map fun x=>(st.ev x,p9 orc x)) st.mem).has out:=by
    split at hh
    ·have e:as.toList.map st.ev=(as.toList.map fun x=>(st.ev x,p9 orc x)).map (·.1):=by rw [List.map_map]; rfl
     rw [e] at hh
     have:=Bu (mem:=st.mem) hh
     cases hd:o.dst with
     | none=>rw [hd] at this; exact this
     | some d=>rw [hd] at this; exact this
    ·exact hh
   exact G2 env henv orc h o f as ats _ ho out hh' next Q hnext
  ·refine fU.wp (g:=g) (dst:=o.dst) ?_ next Q hnext
   obtain ⟨dst,op,ty,pos,aft,guard⟩:=o
   cases op <;> simp only [ig] at hh <;> try (exact (ah hh).elim)
   case move x=>exact xH orc dst h (h.ev x) out hh
   case assign x=>exact xH orc dst h (h.ev x) out hh
   case alloc t =>
    split at hh
    case h_2=>exact (ah hh).elim
    rename_i z hz
    obtain ⟨i,hi,hiz⟩:=Option.bind_eq_some_iff.1 hz
    have hrun:(Instr.alloc t true (.tuple #[])).run P w = .ok (.pointer (some ⟨w.heap.size,0,none⟩)) (w.alloc (.cells z.cells t)):=by
     simp only [Instr.alloc,Sem.run_bind,zeroValue,typeInfo,run_program,hi,hiz,Sem.run_pure,Result.andThen_ok,uV]
    split at hh
    ·rename_i n k l hm
     obtain ⟨_,_,hr⟩:=qo (P:=P) (t:=t) (lC (T:=T) (w:=w) (X:=free st.mem g) z) hm
     exact xm dst h z.cells (by simpa using hr) out hh _ hrun
    ·exact tq dst h z (lC z) out hh _ hrun
   case box t x =>
    have hrun:(Instr.box t (a.eval x)).run P w = .ok (.pointer (some ⟨w.heap.size,0,none⟩)) (w.alloc (.cells (a.eval x).cells t)):=by
     simp only [Instr.box,Sem.run_bind,uV,Result.andThen_ok,Sem.run_pure]
    split at hh
    ·rename_i n k l hd
     have hx:=h.ev x
     rw [hd] at hx
     obtain ⟨_,_,vs,hv,_⟩:=lN hx
     rw [hv] at hrun
     rw [hv] at hx
     have:=xm dst h vs (hx.plain rfl) out hh (Instr.box t (a.eval x)) (by rw [hv]; exact hrun)
     exact this
    ·split at hh
     case isFalse=>exact (ah hh).elim
     rename_i hs
     exact tq dst h (a.eval x) (oT (h.ev x) hs) out hh _ hrun
   case load t x=>exact Hh dst h (h.ev x) out hh
   case store t x y =>
    split at hh
    case isFalse=>exact (ah hh).elim
    rename_i hc
    simp only [Bool.and_eq_true,Option.isNone_iff_eq_none] at hc
    obtain ⟨rfl,hk⟩:=hc
    split at hh
    ·exact DG h (h.ev x) (h.ev y) out hh
    ·split at hh
     ·exact Eb h (h.ev x) (h.ev y) out hh
     ·exact Ed h (h.ev x) (wW (P:=P) (t:=t) (h.ev y)) out (by rw [if_pos hk]; exact hh)
   case buildSlice t len parts=>exact H4 orc dst len parts st.ev a.eval h.ev h out hh
   case indexAddr t x i =>
    split at hh
    ·rename_i c hc
     exact EH dst h (h.ev x) (h.ev i) c hc out hh
    ·exact DR dst h (h.ev x) (h.ev i) out hh
   case slice t x lo hi mx =>
    cases mx with
    | some m=>exact (ah hh).elim
    | none =>
     replace hh:(if lo.isNone && (dst.map orc.rv.contains).getD false then HA P t (st.ev x) (hi.map st.ev) st.mem else sliceB T P t (st.ev x) (lo.map st.ev) (hi.map st.ev) st.mem).has out:=hh
     split at hh
     ·rename_i hc
      have hlo:lo=none:=by simp only [Bool.and_eq_true,Option.isNone_iff_eq_none] at hc; exact hc.1
      subst hlo
      exact Is dst st.ev a.eval h.ev hi h (h.ev x) out hh
     ·exact ED dst st.ev a.eval h.ev lo hi h (h.ev x) out hh
   case convert src ds x =>
    split at hh
    ·rename_i c hc
     exact EM dst h (h.ev x) c hc out hh
    ·exact Gb dst h (h.ev x) out hh
   case range t x=>exact DL dst h (h.ev x) out hh
   case next x s=>exact Gp dst h (h.ev x) out hh
   case call cl =>
    obtain ⟨callee,args,argTypes⟩:=cl
    cases callee with
    | value f=>exact absurd ⟨f,args,argTypes,rfl⟩ hcall
    | invoke r m=>exact (ah hh).elim
    | builtin b =>
     cases b <;> simp only at hh <;> try (exact (ah hh).elim)
     case append =>
      split at hh
      ·rename_i s x t xt ha hat
       have e1:args = #[s,x]:=by apply Array.ext'; simpa using ha
       have e2:argTypes = #[t,xt]:=by apply Array.ext'; simpa using hat
       subst e1; subst e2
       have:=BK (T:=T) (P:=P) (ty:=ty) dst h (h.ev s) (h.ev x) out hh
       simpa [execOp,resolve,invoke,builtin] using this
      ·exact (ah hh).elim
     case len =>
      split at hh
      ·rename_i x t ha hat
       split at hh
       case isFalse=>exact (ah hh).elim
       rename_i ht
       obtain ⟨e,het⟩:=Option.isSome_iff_exists.1 ht
       have e1:args = #[x]:=by apply Array.ext'; simpa using ha
       have e2:argTypes = #[t]:=by apply Array.ext'; simpa using hat
       subst e1; subst e2
       have:=Iz (T:=T) (P:=P) (ty:=ty) dst (dR het) h (h.ev x) out hh
       simpa [execOp,resolve,invoke,builtin] using this
      ·exact (ah hh).elim
     case clear =>
      split at hh
      ·rename_i x t ha hat
       have e1:args = #[x]:=by apply Array.ext'; simpa using ha
       have e2:argTypes = #[t]:=by apply Array.ext'; simpa using hat
       subst e1; subst e2
       have:=EA (T:=T) (P:=P) (ty:=ty) dst h (h.ev x) out hh
       simpa [execOp,resolve,invoke,builtin] using this
      ·exact (ah hh).elim
end Go.Vm
/- The abstract value machine: regions, in every order that Go leaves open. -/
namespace Go.Vm
open Go.Lib
set_option linter.unusedVariables false
variable {K:Type} {E:K→Type}
structure Rec (E:K→Type) where
 i:Nat
 o:Oper
 out:Out E
 free:Bool
 reads:List (DV E)
 src:Option (Nat×Box E)
 tch:Option (List Nat)
def ue (ops:Array Oper) (j:Nat):Option Nat:=(ops[j]?).bind (·.dst)
def xZ:DV E→Bool
 | .junk=>true
 | _=>false
def Rec.pure (r:Rec E):Bool:=r.out.kills.isEmpty && r.out.mem.isNone
def Rec.calm (r:Rec E) (ns:List Nat):Bool:=r.pure && !r.out.v.du ns && r.reads.all fun d => !d.du ns && !xZ d
def zt (o:Oper) (ρ:Operand→DV E) (mem:Mem E):Option (Nat×Box E):=match o.op with
 | .load _ x=>match ρ x with
  | .ptr n _=>match look mem n with
   | some b=>some (n,b)
   | none=>none
  | _=>none
 | _=>none
def JO (as:List (DV E×Md)) (mem:Mem E) (ks:List Nat) (m':Mem E):List Nat :=
 (m'.take (m'.length - (gY mem ((as.flatMap fun x=>hI mem x.2 x.1) ++ ks)).length)).map (·.1) ++ ((as.flatMap fun x=>hI mem x.2 x.1) ++ ks)
def B6 (orc:Orc) (o:Oper) (ρ:Operand→DV E) (mem:Mem E) (out:Out E):Option (List Nat):=match o.op with
 | .call { callee := .value _,args, .. }=>match out.mem with
  | some m'=>some (JO (args.toList.map fun x=>(ρ x,p9 orc x)) mem out.kills m')
  | none=>none
 | .call { callee := .builtin .append, .. }=>some out.kills
 | .alloc _=>some out.kills
 | .buildSlice .. => match out.mem with
  | some _=>some out.kills
  | none=>none
 | .store _ x _=>match ρ x with
  | .ptr n _=>some [n]
  | _=>none
 | _=>none
def Box.Fx (ks:List Nat):Box E→Bool
 | .cells _ cs=>cs.all fun d => !d.du ks && !xZ d
 | _=>true
def Rec.past (r q:Rec E):Bool:=match r.src,q.tch with
 | some (n,b),some ts=>r.calm q.out.kills && !ts.contains n && b.Fx q.out.kills
 | _,_=>false
def tL (o:Oper):Bool:=o.guard.isNone && match o.op with
 | .alloc _=>true
 | _=>false
def nT (ops:Array Oper) (a b:Rec E):Bool :=
 a.o.apart ops b.o && ((a.pure && b.pure) || (a.free && a.calm b.out.kills) || (b.free && b.calm a.out.kills) || a.past b || b.past a || (tL a.o && tL b.o))
def Dp (prev:List Nat) (o:Oper):Nat:=o.after.toList.foldl (fun s e=>if Region.binds .any e then s ||| (1 <<< e.on) ||| prev.getD e.on 0 else s) 0
def yH:List Nat→List Oper→List Nat
 | prev,[]=>prev
 | prev,o :: r=>yH (prev ++ [Dp prev o]) r
def AJ (ops:Array Oper):List Nat:=yH [] ops.toList
def lH (ms:List Nat) (ops:Array Oper) (b a:Rec E):Bool:=(ms.getD b.i 0).testBit a.i || nT ops a b
def apB (ops:Array Oper) (i j:Nat):Bool:=match ops[i]?,ops[j]? with
 | some a,some b=>a.apart ops b
 | _,_=>false
def Ci (ops:Array Oper) (j:Nat):Nat:=(List.range j).foldl (fun s i=>if apB ops i j=true then s ||| (1 <<< i) else s) 0
def tX (ops:Array Oper):List Nat:=(List.range ops.size).map (Ci ops)
def Bx (ms ap:List Nat) (ops:Array Oper) (b a:Rec E):Bool:=(ms.getD b.i 0).testBit a.i || ((ap.getD b.i 0).testBit a.i && (a.pure && b.pure)) || nT ops a b
def pz (ops:Array Oper):Bool:=ops.toList.zipIdx.all fun x=>x.1.after.toList.all fun e => !Region.binds .any e || decide (e.on<x.2)
def rk:Out E:=val (.tup [])
def isLit (orc:Orc) (o:Oper):Bool:=match o.op,o.dst with
 | .buildSlice ..,some d => !orc.rv.contains d
 | _,_=>false
def r9 (orc:Orc) (o:Oper):Bool:=match o.op,o.dst with
 | .call { callee := .value _, .. },some d=>orc.pr.contains d
 | _,_=>false
def kr (T:Tab E) (P:Program) (env:Env E) (orc:Orc) (o:Oper) (ρ:Operand→DV E):Option (Cal E):=match pS T P orc o ρ with
 | some c=>some c
 | none=>if isLit orc o=true then some (ig T P (fun _ _ => .bad) orc o ρ []) else if r9 orc o=true then some (ig T P env orc o ρ []) else none
theorem BM {T:Tab E} {P:Program} {env:Env E} {orc:Orc} {o:Oper} (h:r9 orc o=true) (ρ:Operand→DV E) (mem mem':Mem E):ig T P env orc o ρ mem=ig T P env orc o ρ mem':=by
 obtain ⟨dst,op,type,pos,after,guard⟩:=o
 unfold r9 at h
 cases op <;> simp only at h <;> first | (cases h; done) | skip
 rename_i c
 obtain ⟨callee,args,ats⟩:=c
 cases callee with
 | value f =>
  cases dst with
  | none=>cases h
  | some d =>
   simp only at h
   simp only [ig,Option.map_some,Option.getD_some,h,if_true]
 | _=>cases h
theorem Ga {T:Tab E} {P:Program} {orc:Orc} {o:Oper} (h:isLit orc o=true) (env env':Env E) (ρ:Operand→DV E) (mem mem':Mem E):ig T P env orc o ρ mem=ig T P env' orc o ρ mem':=by
 obtain ⟨dst,op,type,pos,after,guard⟩:=o
 unfold isLit at h
 cases op <;> simp only at h <;> first | (cases h; done) | skip
 rename_i t len parts
 cases dst with
 | none=>cases h
 | some d =>
  have hd : ¬ orc.rv.contains d=true:=by simpa using h
  simp only [ig,Cs]
  cases jz P t with
  | none=>rfl
  | some e =>
   simp only
   cases kindOf T P e with
   | none =>
    simp only [Em,hd]
    simp
   | some k =>
    simp only
    split
    ·cases iW P (T.sz k) ρ 0 parts.toList with
     | none=>rfl
     | some cs =>
      cases jF T k len cs <;> simp_all
    ·rfl
theorem A8 {T:Tab E} {P:Program} {env:Env E} {orc:Orc} {o:Oper} {ρ:Operand→DV E} {c:Cal E} (h:kr T P env orc o ρ=some c) (mem:Mem E):eff T P env orc o ρ mem=c:=by
 unfold kr at h
 unfold eff
 cases h1:pS T P orc o ρ with
 | some c'=>rw [h1] at h; exact Option.some.inj h
 | none =>
  rw [h1] at h
  simp only at h ⊢
  split at h
  ·rename_i hl
   rw [← Option.some.inj h]
   exact Ga hl _ _ _ _ _
  ·split at h
   ·rename_i hp
    rw [← Option.some.inj h]
    exact BM hp _ _ _
   ·cases h
theorem xI {T:Tab E} {P:Program} {env:Env E} {orc:Orc} {o:Oper} {ρ:Operand→DV E} (h:kr T P env orc o ρ=none) (mem:Mem E):eff T P env orc o ρ mem=ig T P env orc o ρ mem:=by
 unfold kr at h
 unfold eff
 cases h1:pS T P orc o ρ with
 | some c'=>rw [h1] at h; cases h
 | none=>rfl
section
variable (T:Tab E) (P:Program) (env:Env E) (orc:Orc) (ops:Array Oper)
def yW (o:Oper) (ρ:Operand→DV E) (mem:Mem E):Option (Nat×Box E):=match kr T P env orc o ρ with
 | some _=>none
 | none=>zt o ρ mem
def yp (o:Oper) (ρ:Operand→DV E) (mem:Mem E) (out:Out E):Option (List Nat):=match kr T P env orc o ρ with
 | some _=>none
 | none=>B6 orc o ρ mem out
def Gx {β:Type} (st:St E) (i:Nat) (K:Rec E→St E→Option β):Option β :=
 match ops[i]? with
 | none=>none
 | some o =>
  match o.guard with
  | none =>
   (eff T P env orc o st.ev st.mem).run fun out=>K ⟨i,o,out,(kr T P env orc o st.ev).isSome,o.op.operands.toList.map st.ev,yW T P env orc o st.ev st.mem,yp T P env orc o st.ev st.mem out⟩ (st.app o.dst out)
  | some (j,w) =>
   match ue ops j with
   | none=>none
   | some d =>
    match st.tmps.getD d .junk with
    | .bool b =>
     if b=w then
      (eff T P env orc o (st.set d (.bool w)).ev st.mem).run fun out =>
       K ⟨i,o,out,(kr T P env orc o (st.set d (.bool w)).ev).isSome,o.op.operands.toList.map (st.set d (.bool w)).ev,yW T P env orc o (st.set d (.bool w)).ev (st.set d (.bool w)).mem,yp T P env orc o (st.set d (.bool w)).ev (st.set d (.bool w)).mem out⟩ ((st.set d (.bool w)).app o.dst out)
     else K ⟨i,o,rk,true,[],none,none⟩ ((st.set d (.bool (!w))).app o.dst rk)
    | .tup []=>K ⟨i,o,rk,true,[],none,none⟩ (st.app o.dst rk)
    | _=>none
def oL {β:Type} (ms:Option (List Nat)):List Nat→List (Rec E)→St E→(St E→Option β)→Option β
 | [],_,st,K=>K st
 | i :: rest,acc,st,K=>Gx T P env orc ops st i fun r st' =>
   match ms with
   | none=>oL ms rest [] st' K
   | some m=>if acc.all (Bx m (tX ops) ops r) then oL ms rest (r :: acc) st' K else none
def act (st:St E) (r:Rec E):Prop :=
 ((r.free=true ∧ ∃ c,kr T P env orc r.o st.ev=some c∧c.has r.out)∨(r.free=false∧kr T P env orc r.o st.ev=none∧(ig T P env orc r.o st.ev st.mem).has r.out))∧r.reads=r.o.op.operands.toList.map st.ev ∧
   r.src=yW T P env orc r.o st.ev st.mem∧r.tch=yp T P env orc r.o st.ev st.mem r.out
def nX (st:St E) (r:Rec E):Prop :=
 ops[r.i]? = some r.o∧match r.o.guard with
  | none=>act T P env orc st r
  | some (j,w) => ∃ d,ue ops j=some d∧((∃ b,st.tmps[d]? = some (.bool b)∧if b=w then act T P env orc st r else (r.out=rk∧r.free=true∧r.reads = []∧r.src=none∧r.tch=none))∨(st.tmps[d]? = some (.tup [])∧r.out=rk∧r.free=true∧r.reads = []∧r.src=none∧r.tch=none))
def Tr:List (Rec E)→St E→St E→Prop
 | [],st,st'=>st=st'
 | r :: rs,st,st'=>nX T P env orc ops st r∧Tr rs (st.app r.o.dst r.out) st'
end
variable {T:Tab E} {P:Program} {env:Env E} {orc:Orc} {ops:Array Oper}
theorem AP {st:St E} {d:Nat} {v:DV E} (h:st.tmps[d]? = some v):st.set d v=st:=by
 obtain ⟨hlt,he⟩:=List.getElem?_eq_some_iff.1 h
 unfold St.set
 have:st.tmps.set d v=st.tmps:=by rw [← he]; exact List.set_getElem_self hlt
 rw [this]
theorem EW {st:St E} {d:Nat} {b:Bool} (h:st.tmps.getD d .junk = .bool b):st.tmps[d]? = some (.bool b):=by
 by_cases hd:d<st.tmps.length
 ·rw [dV _ _ _ hd] at h; rw [List.getElem?_eq_getElem hd,h]
 ·rw [List.getD_eq_getElem?_getD,List.getElem?_eq_none (Nat.le_of_not_lt hd)] at h; cases h
theorem Ge {st:St E} {d:Nat} (h:st.tmps.getD d .junk = .tup []):st.tmps[d]? = some (.tup []):=by
 by_cases hd:d<st.tmps.length
 ·rw [dV _ _ _ hd] at h; rw [List.getElem?_eq_getElem hd,h]
 ·rw [List.getD_eq_getElem?_getD,List.getElem?_eq_none (Nat.le_of_not_lt hd)] at h; cases h
theorem CI {o:Oper} {ρ:Operand→DV E} {mem:Mem E} {out:Out E} (h:(eff T P env orc o ρ mem).has out) :
  ((kr T P env orc o ρ).isSome=true ∧ ∃ c,kr T P env orc o ρ=some c∧c.has out)∨((kr T P env orc o ρ).isSome=false∧kr T P env orc o ρ=none∧(ig T P env orc o ρ mem).has out):=by
 cases hc:kr T P env orc o ρ with
 | some c=>rw [A8 hc] at h; exact .inl ⟨rfl,c,rfl,h⟩
 | none=>rw [xI hc] at h; exact .inr ⟨rfl,rfl,h⟩
theorem Be {β:Type} {st:St E} {i:Nat} {K:Rec E→St E→Option β} {x:β} (h:Gx T P env orc ops st i K=some x) : ∃ r,r.i=i∧nX T P env orc ops st r∧K r (st.app r.o.dst r.out)=some x:=by
 unfold Gx at h
 split at h
 ·cases h
 ·rename_i o ho
  split at h
  ·rename_i hg
   obtain ⟨out,hh,hk⟩:=Cal.zo _ _ _ h
   refine ⟨⟨i,o,out,(kr T P env orc o st.ev).isSome,o.op.operands.toList.map st.ev,yW T P env orc o st.ev st.mem,yp T P env orc o st.ev st.mem out⟩,rfl,⟨ho,?_⟩,hk⟩
   rw [hg]
   exact ⟨CI hh,rfl,rfl,rfl⟩
  ·rename_i j w hg
   split at h
   ·cases h
   ·rename_i d hd
    split at h
    ·rename_i b hb
     have hb':=EW hb
     split at h
     ·rename_i hbw
      subst hbw
      rw [AP hb'] at h
      obtain ⟨out,hh,hk⟩:=Cal.zo _ _ _ h
      refine ⟨⟨i,o,out,(kr T P env orc o st.ev).isSome,o.op.operands.toList.map st.ev,yW T P env orc o st.ev st.mem,yp T P env orc o st.ev st.mem out⟩,rfl,⟨ho,?_⟩,hk⟩
      rw [hg]
      refine ⟨d,hd, .inl ⟨b,hb',?_⟩⟩
      rw [if_pos rfl]
      exact ⟨CI hh,rfl,rfl,rfl⟩
     ·rename_i hbw
      have hb2:(!w)=b:=by cases b <;> cases w <;> simp_all
      rw [hb2,AP hb'] at h
      refine ⟨⟨i,o,rk,true,[],none,none⟩,rfl,⟨ho,?_⟩,h⟩
      rw [hg]
      exact ⟨d,hd, .inl ⟨b,hb',by rw [if_neg hbw]; exact ⟨rfl,rfl,rfl,rfl,rfl⟩⟩⟩
    ·rename_i hb
     refine ⟨⟨i,o,rk,true,[],none,none⟩,rfl,⟨ho,?_⟩,h⟩
     rw [hg]
     exact ⟨d,hd, .inr ⟨Ge hb,rfl,rfl,rfl,rfl,rfl⟩⟩
    ·cases h
theorem xE (f:Nat→Bool) (i:Nat) : ∀ (l:List Nat) (s:Nat),(l.foldl (fun s i=>if f i=true then s ||| (1 <<< i) else s) s).testBit i=true→s.testBit i=true∨f i=true
 | [],s,h => .inl h
 | x :: l,s,h=>by
  rcases xE f i l _ h with h | h
  ·change (if f x=true then s ||| (1 <<< x) else s).testBit i=true at h
   split at h
   ·rename_i hx
    simp only [Nat.testBit_or,Bool.or_eq_true] at h
    rcases h with h | h
    ·exact .inl h
    ·rw [Nat.one_shiftLeft,Nat.testBit_two_pow] at h
     have:x=i:=by simpa using h
     subst this
     exact .inr hx
   ·exact .inl h
  ·exact .inr h
theorem yF {i j:Nat} (h:((tX ops).getD j 0).testBit i=true) {a b:Oper} (ha:ops[i]? = some a) (hb:ops[j]? = some b):a.apart ops b=true:=by
 unfold tX at h
 have hlt:j<ops.size:=(Array.getElem?_eq_some_iff.1 hb).1
 have e:((List.range ops.size).map (Ci ops)).getD j 0=Ci ops j:=by simp [List.getD,hlt]
 rw [e] at h
 rcases xE (fun i=>apB ops i j) i _ _ h with h | h
 ·simp at h
 ·unfold apB at h
  rw [ha,hb] at h
  exact h
theorem AN {m:List Nat} {a b:Rec E} (ha:ops[a.i]? = some a.o) (hb:ops[b.i]? = some b.o) (h:Bx m (tX ops) ops b a=true):lH m ops b a=true:=by
 unfold Bx at h
 unfold lH
 simp only [Bool.or_eq_true,Bool.and_eq_true] at h ⊢
 rcases h with (h | ⟨h,h1,h2⟩) | h
 ·exact .inl h
 ·refine .inr ?_
  unfold nT
  rw [yF h ha hb,h1,h2]
  rfl
 ·exact .inr h
theorem jU {β:Type} {ms:Option (List Nat)} : ∀ (l:List Nat) (acc:List (Rec E)) (st:St E) (K:St E→Option β) (x:β) (hacc : ∀ a∈acc,ops[a.i]? = some a.o),oL T P env orc ops ms l acc st K=some x →
  ∃ (rs:List (Rec E)) (st':St E),rs.map (·.i)=l∧Tr T P env orc ops rs st st'∧K st'=some x ∧
   ∀ m,ms=some m→(∀ a∈acc, ∀ b∈rs,lH m ops b a=true)∧rs.Pairwise fun a b=>lH m ops b a=true
 | [],acc,st,K,x,hacc,h=>⟨[],st,rfl,rfl,h,fun m _=>⟨(fun a _ b hb=>by cases hb),List.Pairwise.nil⟩⟩
 | i :: l,acc,st,K,x,hacc,h=>by
  obtain ⟨r,hr,hf,hk⟩:=Be h
  cases ms with
  | none =>
   simp only at hk
   obtain ⟨rs,st',h1,h2,h3,h4⟩:=jU l [] _ K x (fun a ha=>by cases ha) hk
   exact ⟨r :: rs,st',by simp [hr,h1],⟨hf,h2⟩,h3,fun m hm=>by cases hm⟩
  | some m =>
   simp only at hk
   split at hk
   ·rename_i hall
    obtain ⟨rs,st',h1,h2,h3,h4⟩:=jU l (r :: acc) _ K x (fun a ha=>by
     rcases List.mem_cons.1 ha with rfl | ha
     ·exact hf.1
     ·exact hacc a ha) hk
    refine ⟨r :: rs,st',by simp [hr,h1],⟨hf,h2⟩,h3,fun m' hm => ?_⟩
    cases hm
    obtain ⟨q1,q2⟩:=h4 m rfl
    refine ⟨fun a ha b hb => ?_,?_⟩
    ·rcases List.mem_cons.1 hb with rfl | hb
     ·exact AN (hacc a ha) hf.1 (List.all_eq_true.1 hall a ha)
     ·exact q1 a (List.mem_cons_of_mem _ ha) b hb
    ·exact List.pairwise_cons.2 ⟨fun b hb=>q1 r (List.mem_cons_self ..) b hb,q2⟩
   ·cases hk
end Go.Vm
/- The abstract value machine: what one operation looks at, and operations that may change places. -/
namespace Go.Vm
open Go.Lib
set_option linter.unusedVariables false
variable {K:Type} {E:K→Type}
variable {T:Tab E} {P:Program} {env:Env E} {orc:Orc} {ops:Array Oper}
theorem rW {ρ ρ':Operand→DV E} : ∀ (ps:List (Nat×Operand)) (cs:List (DV E)),(∀ x∈ps.map (·.2),ρ x=ρ' x)→nC ρ ps cs=nC ρ' ps cs
 | [],cs,_=>rfl
 | (i,x) :: r,cs,h=>by
  have hx:=h x (by simp)
  unfold nC
  simp only [hx]
  split
  ·exact rW r _ fun y hy=>h y (by simp at hy ⊢; exact .inr hy)
  ·rfl
theorem rT {fs:Array Field} {ρ ρ':Operand→DV E} : ∀ (ps:List (Nat×Operand)) (cs:List (DV E)),(∀ x∈ps.map (·.2),ρ x=ρ' x)→mS T P fs ρ ps cs=mS T P fs ρ' ps cs
 | [],cs,_=>rfl
 | (i,x) :: r,cs,h=>by
  have hx:=h x (by simp)
  unfold mS
  simp only [hx]
  split
  ·split
   ·exact rT r _ fun y hy=>h y (by simp at hy ⊢; exact .inr hy)
   ·rfl
  ·rfl
theorem oM {sz:Nat} {ρ ρ':Operand→DV E} : ∀ (ps:List (Nat×Operand)) (j:Nat),(∀ x∈ps.map (·.2),ρ x=ρ' x)→iW P sz ρ j ps=iW P sz ρ' j ps
 | [],j,_=>rfl
 | (i,x) :: r,j,h=>by
  have hx:=h x (by simp)
  unfold iW
  simp only [hx,oM r (j+1) fun y hy=>h y (by simp at hy ⊢; exact .inr hy)]
theorem sW {nm:Nat} {ρ ρ':Operand→DV E} : ∀ (ps:List (Nat×Operand)) (j:Nat),(∀ x∈ps.map (·.2),ρ x=ρ' x)→ql nm ρ j ps=ql nm ρ' j ps
 | [],j,_=>rfl
 | (i,x) :: r,j,h=>by
  have hx:=h x (by simp)
  unfold ql
  simp only [hx,sW r (j+1) fun y hy=>h y (by simp at hy ⊢; exact .inr hy)]
theorem BX {ρ ρ':Operand→DV E} (o:Oper) (h : ∀ x∈o.op.operands,ρ x=ρ' x):pS T P orc o ρ=pS T P orc o ρ':=by
 obtain ⟨dst,op,type,pos,after,guard⟩:=o
 cases op <;> simp only [Op.operands] at h <;> simp only [pS]
 case build t ps=>simp only [rT ps.toList _ (fun x hx=>h x (by simpa using hx)),rW ps.toList _ (fun x hx=>h x (by simpa using hx))]
 case slice t x lo hi mx=>cases lo <;> cases hi <;> cases mx <;> simp_all [oY]
 case makeFunc fn first caps =>
  cases fn <;> simp only []
  rw [List.map_congr_left fun x hx=>h x (by simp; exact .inr (by simpa using hx))]
 case call c =>
  have hargs : ∀ x∈c.args,ρ x=ρ' x:=fun x hx=>h x (by simp [Call.operands,hx])
  obtain ⟨callee,args,ats⟩:=c
  cases callee <;> simp only []
  rw [List.map_congr_left fun x hx=>hargs x (by simpa using hx)]
 all_goals (first | rfl | (simp_all; done))
theorem qJ {ρ ρ':Operand→DV E} (o:Oper) (mem:Mem E) (h : ∀ x∈o.op.operands,ρ x=ρ' x):ig T P env orc o ρ mem=ig T P env orc o ρ' mem:=by
 obtain ⟨dst,op,type,pos,after,guard⟩:=o
 cases op <;> simp only [Op.operands] at h <;> simp only [ig]
 case buildSlice t n ps =>
  have hl : ∀ nm,ql nm ρ 0 ps.toList=ql nm ρ' 0 ps.toList:=fun nm=>sW ps.toList 0 (fun x hx=>h x (by simpa using hx))
  simp only [Cs,Em,oM ps.toList 0 (fun x hx=>h x (by simpa using hx)),hl]
 case slice t x lo hi mx=>cases lo <;> cases hi <;> cases mx <;> simp_all
 case call c =>
  have hargs : ∀ x∈c.args,ρ x=ρ' x:=fun x hx=>h x (by simp [Call.operands,hx])
  obtain ⟨callee,args,ats⟩:=c
  cases callee with
  | value f =>
   have hf:ρ f=ρ' f:=h f (by simp [Call.operands])
   have hm:(args.toList.map fun x=>(ρ x,p9 orc x))=args.toList.map fun x=>(ρ' x,p9 orc x):=List.map_congr_left fun x hx=>by rw [hargs x (by simpa using hx)]
   have hm2:args.toList.map ρ=args.toList.map ρ':=List.map_congr_left fun x hx=>hargs x (by simpa using hx)
   simp only [hf,hm,hm2]
  | invoke r m=>rfl
  | builtin b =>
   cases b <;> simp only []
   case append =>
    split
    ·rename_i s x st xt h1 h2
     have:ρ s=ρ' s:=hargs s (by have:s∈args.toList:=by rw [h1]; simp
                                simpa using this)
     have h3:ρ x=ρ' x:=hargs x (by have:x∈args.toList:=by rw [h1]; simp
                                   simpa using this)
     rw [this,h3]
    ·rfl
   case len =>
    split
    ·rename_i x t h1 h2
     have h3:ρ x=ρ' x:=hargs x (by have:x∈args.toList:=by rw [h1]; simp
                                   simpa using this)
     rw [h3]
    ·rfl
   case clear =>
    split
    ·rename_i x t h1 h2
     have h3:ρ x=ρ' x:=hargs x (by have:x∈args.toList:=by rw [h1]; simp
                                   simpa using this)
     rw [h3]
    ·rfl
 all_goals (first | rfl | (simp_all; done))
end Go.Vm
/- The abstract value machine: operations that may change places. -/
namespace Go.Vm
open Go.Lib
set_option linter.unusedVariables false
variable {K:Type} {E:K→Type}
variable {T:Tab E} {P:Program} {env:Env E} {orc:Orc} {ops:Array Oper}
theorem E1 (d:DV E):d.fv []=false:=by cases d <;> rfl
theorem lF (d:DV E):d.du []=false:=by
 cases d <;> first | rfl | skip
 simp [DV.du,E1]
theorem pG (d:DV E):d.kill []=d:=by unfold DV.kill; rw [lF]; rfl
theorem gP {ns:List Nat} {d:DV E} (h:d.du ns=false):d.kill ns=d:=by unfold DV.kill; rw [h]; rfl
theorem xG {ns:List Nat} {d:DV E} (h:xZ (d.kill ns)=false):d.kill ns=d:=by
 unfold DV.kill at h ⊢
 split
 ·rename_i hh; rw [if_pos hh] at h; cases h
 ·rfl
theorem DH {ns:List Nat} {d b:DV E} (hb:b = .tup [] ∨ ∃ c,b = .bool c) (h:d.kill ns=b):d=b:=by
 unfold DV.kill at h
 split at h
 ·rcases hb with rfl | ⟨c,rfl⟩ <;> cases h
 ·exact h
theorem Cv (ns:List Nat) (v:Value):(ofConst v:DV E).kill ns=ofConst v:=gP (by unfold ofConst; (repeat' split) <;> rfl)
theorem nx (st:St E) (dst:Option Nat) (o:Out E):st.app dst o=St.mk (match dst with
   | some d=>(st.tmps.map (DV.kill o.kills)).set d o.v
   | none=>st.tmps.map (DV.kill o.kills)) (o.mem.getD st.mem):=by
 obtain ⟨v,ks,m⟩:=o
 have hid:DV.kill ([]:List Nat)=(id:DV E→DV E):=funext pG
 unfold St.app
 cases ks <;> cases m <;> cases dst <;> simp [hid]
theorem uI {st:St E} {dst:Option Nat} {o:Out E} {d:Nat} (h:dst≠some d):(st.app dst o).tmps[d]? = (st.tmps[d]?).map (DV.kill o.kills):=by
 rw [nx]
 cases dst with
 | none=>simp
 | some i =>
  have:i≠d:=fun e=>h (by rw [e])
  simp [List.getElem?_set_ne this]
theorem FR {st:St E} {dst:Option Nat} {o:Out E} {x:Operand} (h : ∀ t,x = .tmp t→dst≠some t):(st.app dst o).ev x=(st.ev x).kill o.kills:=by
 cases x with
 | tmp t =>
  simp only [St.ev,List.getD_eq_getElem?_getD,uI (h t rfl)]
  cases st.tmps[t]? with
  | none=>exact (gP rfl).symm
  | some d=>rfl
 | const v=>exact (Cv _ v).symm
 | global g=>exact (gP rfl).symm
 | func f=>exact (gP rfl).symm
theorem vT {ρ ρ':Operand→DV E} (o:Oper) (h : ∀ x∈o.op.operands,ρ x=ρ' x):kr T P env orc o ρ=kr T P env orc o ρ':=by
 unfold kr
 rw [BX o h,qJ (env:=fun _ _ => .bad) o [] h,qJ (env:=env) o [] h]
def Looks (st st':St E) (r:Rec E):Prop := ∃ t x n off,r.o.op = .load t x∧st.ev x = .ptr n off∧look st'.mem n=look st.mem n
theorem Looks.ig {st st':St E} {r:Rec E} (h:Looks st st' r) (he : ∀ x∈r.o.op.operands,st'.ev x=st.ev x):Go.Vm.ig T P env orc r.o st'.ev st'.mem=Go.Vm.ig T P env orc r.o st.ev st.mem:=by
 obtain ⟨t,x,n,off,h1,h2,h3⟩:=h
 have hx:st'.ev x=st.ev x:=he x (by rw [h1]; simp [Op.operands])
 unfold Go.Vm.ig
 rw [h1]
 simp only
 rw [hx,h2]
 unfold xq
 simp only [h3]
theorem Looks.src {st st':St E} {r:Rec E} (h:Looks st st' r) (he : ∀ x∈r.o.op.operands,st'.ev x=st.ev x):zt r.o st'.ev st'.mem=zt r.o st.ev st.mem:=by
 obtain ⟨t,x,n,off,h1,h2,h3⟩:=h
 have hx:st'.ev x=st.ev x:=he x (by rw [h1]; simp [Op.operands])
 unfold zt
 rw [h1]
 simp only
 rw [hx,h2]
 simp only [h3]
theorem Bw {o:Oper} {ρ ρ':Operand→DV E} {mem:Mem E} (he : ∀ x∈o.op.operands,ρ' x=ρ x):zt o ρ' mem=zt o ρ mem:=by
 obtain ⟨dst,op,type,pos,after,guard⟩:=o
 cases op <;> simp only [zt]
 case load t x =>
  have hx:ρ' x=ρ x:=he x (by simp [Op.operands])
  rw [hx]
theorem Bt {o:Oper} {ρ ρ':Operand→DV E} {mem:Mem E} {out:Out E} (he : ∀ x∈o.op.operands,ρ' x=ρ x):B6 orc o ρ' mem out=B6 orc o ρ mem out:=by
 obtain ⟨dst,op,type,pos,after,guard⟩:=o
 cases op <;> simp only [B6]
 case call c =>
  obtain ⟨callee,args,ats⟩:=c
  cases callee with
  | value f =>
   have hm:(args.toList.map fun x=>(ρ' x,p9 orc x))=args.toList.map fun x=>(ρ x,p9 orc x):=List.map_congr_left fun x hx=>by rw [he x (by simp at hx; simp [Op.operands,Call.operands,hx])]
   simp only [hm]
  | builtin b=>cases b <;> rfl
  | _=>rfl
 case store t x y =>
  have hx:ρ' x=ρ x:=he x (by simp [Op.operands])
  rw [hx]
theorem qY {n m:Nat} {bx:Box E} (h:m≠n) : ∀ mem:Mem E,look (ie mem n bx) m=look mem m
 | []=>rfl
 | (k,b) :: r=>by
  unfold ie
  split
  ·rename_i hk
   subst hk
   unfold look
   rw [if_neg (fun e=>h e.symm),if_neg (fun e=>h e.symm)]
  ·show (if k=m then some b else look (ie r n bx) m)=(if k=m then some b else look r m)
   rw [qY h r]
theorem Ak (b:Box E):b.kill []=b:=by
 cases b with
 | cells t cs =>
  show Box.cells t (cs.map (DV.kill [])) = _
  rw [show (DV.kill ([]:List Nat):DV E→DV E)=id from funext pG,List.map_id]
 | _=>rfl
theorem BD {t:TypeId} {n off:Nat} {v:DV E} {mem:Mem E} {out:Out E} (h:(uQ P t (.ptr n off) v mem).has out) : ∃ bx,out.kills = []∧out.mem=some (ie mem n bx):=by
 unfold uQ at h
 simp only at h
 split at h
 ·split at h
  ·obtain ⟨_,_,h⟩:=h
   exact ⟨_,by rw [← h],by rw [← h]⟩
  ·exact (ah h).elim
 ·exact (ah h).elim
theorem BE {t:TypeId} {n off:Nat} {v:DV E} {mem:Mem E} {out:Out E} (h:(uh T P t (.ptr n off) v mem).has out) : ∃ bx,out.kills = []∧out.mem=some (ie mem n bx):=by
 unfold uh at h
 simp only at h
 split at h
 ·split at h
  ·split at h
   ·split at h
    ·split at h
     ·obtain ⟨_,_,h⟩:=h
      exact ⟨_,by rw [← h],by rw [← h]⟩
     ·exact (ah h).elim
    ·exact (ah h).elim
   ·split at h
    ·split at h
     ·obtain ⟨_,_,h⟩:=h
      exact ⟨_,by rw [← h],by rw [← h]⟩
     ·exact (ah h).elim
    ·exact (ah h).elim
  ·exact (ah h).elim
 ·exact (ah h).elim
theorem Ao {st xt:TypeId} {dst:Option Nat} {s x:DV E} {mem:Mem E} {out:Out E} (h:(rM T P st xt dst s x mem).has out) : ∃ n bx,out.kills = [n]∧out.mem=some (gk mem n bx):=by
 have chk : ∀ {c:Bool} {o:Out E},(Cal.chk c (.one o)).has out→o=out:=by
  intro c o hh
  unfold Cal.chk at hh
  cases c with
  | true =>
   obtain ⟨_,_,hh⟩:=(show (Cal.one o).has out from hh)
   exact hh
  | false=>exact (ah hh).elim
 unfold rM at h
 split at h
 ·split at h
  ·split at h
   ·split at h
    ·split at h
     ·split at h
      ·split at h
       ·have:=chk h
        exact ⟨_,_,by rw [← this],by rw [← this]⟩
       ·exact (ah h).elim
      ·exact (ah h).elim
     ·exact (ah h).elim
    ·have:=chk h
     exact ⟨_,_,by rw [← this],by rw [← this]⟩
    ·exact (ah h).elim
   ·exact (ah h).elim
  ·exact (ah h).elim
 ·exact (ah h).elim
theorem F9 {t:TypeId} {len:Nat} {parts:List (Nat×Operand)} {dst:Option Nat} {ρ:Operand→DV E} {mem m':Mem E} {out:Out E} (h:(Cs T P orc t len parts dst ρ mem).has out) (hm:out.mem=some m') : ∃ n bx,out.kills = [n]∧out.mem=some (gk mem n bx):=by
 unfold Cs at h
 split at h
 ·split at h
  ·split at h
   ·split at h
    ·split at h
     ·split at h
      ·obtain ⟨_,_,h⟩:=h
       exact ⟨_,_,by rw [← h],by rw [← h]⟩
      ·obtain ⟨_,_,h⟩:=h
       rw [← h] at hm
       cases hm
     ·exact (ah h).elim
    ·exact (ah h).elim
   ·exact (ah h).elim
  ·unfold Em at h
   split at h
   ·split at h
    ·obtain ⟨_,_,h⟩:=h
     exact ⟨_,_,by rw [← h],by rw [← h]⟩
    ·exact (ah h).elim
   ·exact (ah h).elim
 ·exact (ah h).elim
theorem lf {ks:List Nat} {n:Nat} : ∀ m:Mem E,look (cK ks m) n=(look m n).map (Box.kill ks)
 | []=>rfl
 | (k,b) :: r=>by
  show (if k=n then some (b.kill ks) else look (cK ks r) n)=(if k=n then some b else look r n).map (Box.kill ks)
  split
  ·rfl
  ·exact lf r
theorem DM (ks:List Nat) (m:Mem E):(cK ks m).length=m.length:=by unfold cK; exact List.length_map ..
theorem gR {k n:Nat} (h:n≠k) : ∀ m:Mem E,look (drop m k) n=look m n
 | []=>rfl
 | (j,b) :: r=>by
  unfold drop
  split
  ·rename_i hj
   rw [gR h r]
   conv=>rhs; unfold look
   rw [if_neg (by omega)]
  ·show (if j=n then some b else look (drop r k) n) = _
   conv=>rhs; unfold look
   rw [gR h r]
theorem BZ {ns:List Nat} {n:Nat} : ∀ {m:Mem E},n ∉ ns→look (gY m ns) n=look m n:=by
 induction ns with
 | nil=>intro m h; rfl
 | cons k ns ih =>
  intro m h
  show look (gY (drop m k) ns) n = _
  rw [ih (fun hh=>h (List.mem_cons_of_mem _ hh)),gR (fun e=>h (by rw [e]; exact List.mem_cons_self ..))]
theorem tf {n:Nat} : ∀ {m m':Mem E},n ∉ m.map (·.1)→look (m ++ m') n=look m' n
 | [],m',h=>rfl
 | (k,b) :: r,m',h=>by
  show (if k=n then some b else look (r ++ m') n) = _
  rw [if_neg (fun e=>h (by simp [e])),tf (fun hh=>h (by simp at hh ⊢; exact .inr hh))]
theorem yX {nm:Nat} {args:List (DV E×Md)} {mem m':Mem E} {res:Res E} {o:Out E} (h:po nm args mem res=some o) (hm:o.mem=some m') {n:Nat} (hn:n ∉ JO args mem o.kills m'):look m' n=(look mem n).map (Box.kill o.kills):=by
 unfold po at h
 simp only at h
 split at h
 ·cases h; cases hm
 ·split at h
  ·cases h
   simp only at hm hn ⊢
   cases hm
   unfold JO at hn
   rw [List.mem_append,not_or] at hn
   obtain ⟨h1,h2⟩:=hn
   rw [List.length_append,DM,Nat.add_sub_cancel,List.take_left] at h1
   rw [tf h1,lf,BZ h2]
  ·cases h
theorem om {k:Nat} (p:Nat→Bool) : ∀ m:Mem E,look (m.filter fun x=>p x.1) k=if p k=true then look m k else none
 | []=>by simp [look]
 | (j,b) :: r=>by
  have ih:=om (k:=k) p r
  by_cases hj:p j=true
  ·rw [List.filter_cons_of_pos (by simpa using hj)]
   show (if j=k then some b else look (r.filter fun x=>p x.1) k)=if p k=true then (if j=k then some b else look r k) else none
   rw [ih]
   by_cases hk:j=k
   ·subst hk; simp [hj]
   ·simp [hk]
  ·rw [List.filter_cons_of_neg (by simpa using hj),ih]
   show _=if p k=true then (if j=k then some b else look r k) else none
   by_cases hk:j=k
   ·subst hk; simp [hj]
   ·simp [hk]
theorem zU {k:Nat} : ∀ (m m':Mem E),look (m ++ m') k=(look m k).or (look m' k)
 | [],m'=>rfl
 | (j,b) :: r,m'=>by
  show (if j=k then some b else look (r ++ m') k)=(if j=k then some b else look r k).or (look m' k)
  rw [zU r m']
  by_cases hk:j=k <;> simp [hk]
theorem ER {m:Mem E} {n k:Nat} {bx:Box E} (h:k≠n):look (gf m n bx) k=(look m k).map (Box.kill [n]):=by
 unfold gf
 rw [zU,om (fun x=>decide (x<n))]
 show Option.or _ (if n=k then some bx else look ((cK [n] (drop m n)).filter fun x=>decide (n<x.1)) k) = _
 have hne : ¬ n=k:=fun e=>h e.symm
 rw [if_neg hne,om (fun x=>decide (n<x)),lf,gR h]
 by_cases hk:k<n
 ·have : ¬ n<k:=by omega
  simp [hk,this]
 ·have:n<k:=by omega
  simp [hk,this]
theorem Ac {ks:List Nat} {d:DV E} (h:d.plain=true):d.du ks=false:=by
 cases d <;> simp_all [DV.plain,DV.du,DV.fv]
theorem xp (a b:List Nat) (d:DV E):(d.kill a).kill b=(d.kill b).kill a:=by
 have hj : ∀ ks:List Nat,(DV.junk:DV E).kill ks = .junk:=fun ks=>by unfold DV.kill; split <;> rfl
 by_cases ha:d.du a=true
 ·have e1:d.kill a = .junk:=by unfold DV.kill; rw [if_pos ha]
  rw [e1,hj]
  by_cases hb:d.du b=true
  ·have e2:d.kill b = .junk:=by unfold DV.kill; rw [if_pos hb]
   rw [e2,hj]
  ·have e2:d.kill b=d:=gP (by simpa using hb)
   rw [e2,e1]
 ·have e1:d.kill a=d:=gP (by simpa using ha)
  rw [e1]
  by_cases hb:d.du b=true
  ·have e2:d.kill b = .junk:=by unfold DV.kill; rw [if_pos hb]
   rw [e2,hj]
  ·have e2:d.kill b=d:=gP (by simpa using hb)
   rw [e2,e1]
theorem zc (a b:List Nat) (x:Box E):(x.kill a).kill b=(x.kill b).kill a:=by
 cases x with
 | cells t cs =>
  show Box.cells t ((cs.map (DV.kill a)).map (DV.kill b))=Box.cells t ((cs.map (DV.kill b)).map (DV.kill a))
  rw [List.map_map,List.map_map]
  congr 1
  exact List.map_congr_left fun d _=>xp a b d
 | _=>rfl
theorem l6 (n:Nat) : ∀ m:Mem E,drop m n=m.filter fun x=>decide (x.1≠n)
 | []=>rfl
 | (k,b) :: r=>by
  unfold drop
  by_cases h:k=n
  ·rw [if_pos h,l6 n r,List.filter_cons_of_neg (by simp [h])]
  ·rw [if_neg h,l6 n r,List.filter_cons_of_pos (by simp [h])]
theorem gQ (ks:List Nat) (p:Nat→Bool) (m:Mem E):cK ks (m.filter fun x=>p x.1)=(cK ks m).filter fun x=>p x.1:=by
 unfold cK
 rw [List.filter_map]
 rfl
theorem w8 {m:Mem E} {a b:Nat} {x y:Box E} (hab:a<b) (hx:x.kill [b]=x) (hy:y.kill [a]=y):gf (gf m a x) b y=gf (gf m b y) a x:=by
 have e0:cK [b] (cK [a] m)=cK [a] (cK [b] m):=by
  unfold cK
  rw [List.map_map,List.map_map]
  exact List.map_congr_left fun z _=>by simp [zc]
 have cons_k : ∀ (ks:List Nat) (n:Nat) (z:Box E) (l:Mem E),cK ks ((n,z) :: l)=(n,z.kill ks) :: cK ks l:=fun _ _ _ _=>rfl
 have app_k : ∀ (ks:List Nat) (l l':Mem E),cK ks (l ++ l')=cK ks l ++ cK ks l':=fun _ _ _=>List.map_append ..
 have fl : ∀ (p q:Nat→Bool) (l:Mem E),(l.filter fun z=>p z.1).filter (fun z=>q z.1)=l.filter fun z=>p z.1 && q z.1:=fun p q l=>by
  rw [List.filter_filter]
  exact List.filter_congr fun z _=>Bool.and_comm ..
 have key : ∀ (ks:List Nat) (n:Nat) (z:Box E),gf m n z=((cK [n] m).filter fun w=>decide (w.1<n)) ++ (n,z) :: ((cK [n] m).filter fun w=>decide (n<w.1)):=by
  intro ks n z
  unfold gf
  rw [l6,gQ [n] (fun k=>decide (k≠n)),fl (fun k=>decide (k≠n)) (fun k=>decide (k<n)),fl (fun k=>decide (k≠n)) (fun k=>decide (n<k))]
  congr 1
  ·refine List.filter_congr fun w _ => ?_
   rw [Bool.eq_iff_iff]; simp; omega
  ·congr 1
   refine List.filter_congr fun w _ => ?_
   rw [Bool.eq_iff_iff]; simp; omega
 have keyG : ∀ (M:Mem E) (n:Nat) (z:Box E),gf M n z=((cK [n] M).filter fun w=>decide (w.1<n)) ++ (n,z) :: ((cK [n] M).filter fun w=>decide (n<w.1)):=by
  intro M n z
  unfold gf
  rw [l6,gQ [n] (fun k=>decide (k≠n)),fl (fun k=>decide (k≠n)) (fun k=>decide (k<n)),fl (fun k=>decide (k≠n)) (fun k=>decide (n<k))]
  congr 1
  ·refine List.filter_congr fun w _ => ?_
   rw [Bool.eq_iff_iff]; simp; omega
  ·congr 1
   refine List.filter_congr fun w _ => ?_
   rw [Bool.eq_iff_iff]; simp; omega
 rw [keyG (gf m a x) b y,keyG (gf m b y) a x,keyG m a x,keyG m b y]
 simp only [app_k,cons_k,hx,hy,gQ [b] (fun k=>decide (k<a)),gQ [b] (fun k=>decide (a<k)),gQ [a] (fun k=>decide (k<b)),gQ [a] (fun k=>decide (b<k)),List.filter_append]
 rw [e0]
 generalize cK [a] (cK [b] m)=L
 have c1:decide (a<b)=true:=decide_eq_true hab
 have c2:decide (b<a)=false:=decide_eq_false (by omega)
 rw [List.filter_cons_of_pos (by simpa using c1),List.filter_cons_of_neg (by simpa using c2),List.filter_cons_of_neg (by simpa using c2),List.filter_cons_of_pos (by simpa using c1)]
 rw [fl (fun k=>decide (k<a)) (fun k=>decide (k<b)),fl (fun k=>decide (a<k)) (fun k=>decide (k<b)),fl (fun k=>decide (k<a)) (fun k=>decide (b<k)),fl (fun k=>decide (a<k)) (fun k=>decide (b<k)),
  fl (fun k=>decide (k<b)) (fun k=>decide (k<a)),fl (fun k=>decide (b<k)) (fun k=>decide (k<a)),fl (fun k=>decide (k<b)) (fun k=>decide (a<k)),fl (fun k=>decide (b<k)) (fun k=>decide (a<k))]
 have f1:(L.filter fun z=>decide (z.1<a) && decide (z.1<b))=L.filter fun z=>decide (z.1<a):=List.filter_congr fun z _=>by rw [Bool.eq_iff_iff]; simp; omega
 have f2:(L.filter fun z=>decide (z.1<b) && decide (z.1<a))=L.filter fun z=>decide (z.1<a):=List.filter_congr fun z _=>by rw [Bool.eq_iff_iff]; simp; omega
 have f3:(L.filter fun z=>decide (z.1<a) && decide (b<z.1)) = []:=List.filter_eq_nil_iff.2 fun z _=>by simp; omega
 have f4:(L.filter fun z=>decide (b<z.1) && decide (z.1<a)) = []:=List.filter_eq_nil_iff.2 fun z _=>by simp; omega
 have f5:(L.filter fun z=>decide (a<z.1) && decide (b<z.1))=L.filter fun z=>decide (b<z.1):=List.filter_congr fun z _=>by rw [Bool.eq_iff_iff]; simp; omega
 have f6:(L.filter fun z=>decide (b<z.1) && decide (a<z.1))=L.filter fun z=>decide (b<z.1):=List.filter_congr fun z _=>by rw [Bool.eq_iff_iff]; simp; omega
 have f7:(L.filter fun z=>decide (z.1<b) && decide (a<z.1))=L.filter fun z=>decide (a<z.1) && decide (z.1<b):=List.filter_congr fun z _=>Bool.and_comm ..
 rw [f1,f2,f3,f4,f5,f6,f7]
 simp
theorem xe {o:Oper} {ρ:Operand→DV E} {mem:Mem E} {out:Out E} {t:TypeId} (hop:o.op = .alloc t) (h:(ig T P env orc o ρ mem).has out) :
  ∃ d bx,o.dst=some d∧(∀ ks,Box.kill ks bx=bx)∧out=⟨.ptr (64 * d) 0,[64 * d],some (gf mem (64 * d) bx)⟩ ∧ ∀ (ρ':Operand→DV E) (mem':Mem E),(ig T P env orc o ρ' mem').has ⟨.ptr (64 * d) 0,[64 * d],some (gf mem' (64 * d) bx)⟩:=by
 have hall : ∀ (ρ':Operand→DV E) (mem':Mem E),ig T P env orc o ρ' mem'=match zeroOf P t with
   | some z=>(match rG T P t (gq z).cells with
    | some (n,⟨k,l⟩)=>qv o.dst t n k l mem'
    | none=>ly o.dst t (gq z).cells mem')
   | none => .bad:=by
  intro ρ' mem'
  unfold ig
  rw [hop] <;> rfl
 rw [hall] at h
 split at h
 ·rename_i z hz
  split at h
  ·rename_i n k l hm
   have hgo : ∀ (ρ':Operand→DV E) (mem':Mem E),ig T P env orc o ρ' mem'=qv o.dst t n k l mem':=fun ρ' mem'=>by rw [hall,hz]; simp only [hm]
   simp only [hgo]
   unfold qv at h ⊢
   split at h
   ·rename_i d hd
    obtain ⟨_,_,h⟩:=h
    exact ⟨d,_,hd,fun _=>rfl,h.symm,fun ρ' mem'=>⟨(),rfl,rfl⟩⟩
   ·exact (ah h).elim
  ·rename_i hm
   have hgo : ∀ (ρ':Operand→DV E) (mem':Mem E),ig T P env orc o ρ' mem'=ly o.dst t (gq z).cells mem':=fun ρ' mem'=>by rw [hall,hz]; simp only [hm]
   simp only [hgo]
   unfold ly at h ⊢
   split at h
   ·rename_i d hd
    split at h
    ·rename_i hp
     obtain ⟨_,_,h⟩:=h
     refine ⟨d,_,hd,fun ks => ?_,h.symm,fun ρ' mem' => ?_⟩
     ·show Box.cells t ((gq z).cells.map (DV.kill ks)) = _
      congr 1
      refine (List.map_congr_left fun c hc => ?_).trans (List.map_id _)
      exact gP (Ac (List.all_eq_true.1 hp c hc))
     ·rw [if_pos hp]
      exact ⟨(),rfl,rfl⟩
    ·exact (ah h).elim
   ·exact (ah h).elim
 ·exact (ah h).elim
theorem xy {r:Rec E} {st:St E} {ts:List Nat} (ha:act T P env orc st r) (ht:r.tch=some ts) {n:Nat} (hn:n ∉ ts):look (st.app r.o.dst r.out).mem n=(look st.mem n).map (Box.kill r.out.kills):=by
 obtain ⟨h1,_,_,h4⟩:=ha
 rw [ht] at h4
 unfold yp at h4
 rcases h1 with ⟨hf,c,hc,ho⟩ | ⟨hf,hc,ho⟩
 ·rw [hc] at h4; cases h4
 ·rw [hc] at h4
  simp only at h4
  unfold B6 at h4
  split at h4
  ·rename_i f args ats hop
   split at h4
   ·rename_i m' hm'
    cases h4
    unfold ig at ho
    rw [hop] at ho
    simp only at ho
    have hmem:(st.app r.o.dst r.out).mem=m':=by rw [nx,hm']; rfl
    rw [hmem]
    split at ho
    ·exfalso
     unfold C4 at ho
     split at ho
     ·simp only at ho
      split at ho
      ·obtain ⟨x,_,hx⟩:=ho
       simp only at hx
       split at hx
       ·have:=Option.some.inj hx
        rw [← this] at hm'
        cases hm'
       ·cases hx
      ·exact (ah ho).elim
     ·exact (ah ho).elim
    unfold uF at ho
    split at ho
    ·simp only at ho
     split at ho
     ·obtain ⟨x,hx,hout⟩:=ho
      exact yX hout hm' hn
     ·exact (ah ho).elim
    ·exact (ah ho).elim
   ·cases h4
  ·rename_i args ats hop
   cases h4
   unfold ig at ho
   rw [hop] at ho
   simp only at ho
   obtain ⟨d,bx,hk,hm⟩ : ∃ d bx,r.out.kills = [d]∧r.out.mem=some (gk st.mem d bx):=by
    split at ho
    ·exact Ao ho
    ·exact (ah ho).elim
   have hmem:(st.app r.o.dst r.out).mem=gk st.mem d bx:=by rw [nx,hm]; rfl
   rw [hk,List.mem_singleton] at hn
   rw [hmem,hk]
   show (if d=n then some bx else look (cK [d] (drop st.mem d)) n) = _
   rw [if_neg (fun e=>hn e.symm),lf,gR hn]
  ·rename_i t hop
   cases h4
   obtain ⟨d,bx,_,_,hout,_⟩:=xe hop ho
   have hmem:(st.app r.o.dst r.out).mem=gf st.mem (64 * d) bx:=by rw [nx,hout]; rfl
   have hkl:r.out.kills = [64 * d]:=by rw [hout]
   rw [hkl,List.mem_singleton] at hn
   rw [hmem,hkl,ER hn]
  ·rename_i t len parts hop
   split at h4
   ·rename_i m' hm'
    cases h4
    unfold ig at ho
    rw [hop] at ho
    simp only at ho
    obtain ⟨d,bx,hk,hm⟩:=F9 ho hm'
    have hmem:(st.app r.o.dst r.out).mem=gk st.mem d bx:=by rw [nx,hm]; rfl
    rw [hk,List.mem_singleton] at hn
    rw [hmem,hk]
    show (if d=n then some bx else look (cK [d] (drop st.mem d)) n) = _
    rw [if_neg (fun e=>hn e.symm),lf,gR hn]
   ·cases h4
  ·rename_i t x y hop
   split at h4
   ·rename_i m off hev
    cases h4
    unfold ig at ho
    rw [hop] at ho
    simp only at ho
    obtain ⟨bx,hk,hm⟩ : ∃ bx,r.out.kills = []∧r.out.mem=some (ie st.mem m bx):=by
     split at ho
     ·rw [hev] at ho
      split at ho
      ·rename_i hp; cases hp
      ·split at ho
       ·exact BE ho
       ·exact BD ho
     ·exact (ah ho).elim
    have hmem:(st.app r.o.dst r.out).mem=ie st.mem m bx:=by rw [nx,hm]; rfl
    rw [List.mem_singleton] at hn
    rw [hmem,hk,qY hn]
    cases look st.mem n with
    | none=>rfl
    | some b=>show some b=some (b.kill []); rw [Ak]
   ·cases h4
  ·cases h4
theorem EO {ks:List Nat} {b:Box E} (h:b.Fx ks=true):b.kill ks=b:=by
 cases b with
 | cells t cs =>
  unfold Box.Fx at h
  show Box.cells t (cs.map (DV.kill ks))=Box.cells t cs
  congr 1
  rw [List.all_eq_true] at h
  refine (List.map_congr_left fun d hd => ?_).trans (List.map_id _)
  have:=h d hd
  simp only [Bool.and_eq_true,Bool.not_eq_true'] at this
  exact gP this.1
 | _=>rfl
theorem EX {ks:List Nat} {b b0:Box E} (h:b.Fx ks=true) (hk:b0.kill ks=b):b0=b:=by
 cases b0 with
 | cells t cs =>
  change Box.cells t (cs.map (DV.kill ks))=b at hk
  subst hk
  unfold Box.Fx at h
  simp only [List.all_eq_true] at h
  congr 1
  refine ((List.map_congr_left fun d hd => ?_).trans (List.map_id _)).symm
  have:=h _ (List.mem_map.2 ⟨d,hd,rfl⟩)
  simp only [Bool.and_eq_true,Bool.not_eq_true'] at this
  exact xG this.2
 | _=>exact hk
theorem zJ {r:Rec E} {st:St E} {n:Nat} {b:Box E} (ha:act T P env orc st r) (hs:r.src=some (n,b)):r.free=false ∧ ∃ t x off,r.o.op = .load t x∧st.ev x = .ptr n off∧look st.mem n=some b:=by
 obtain ⟨h1,_,h3,_⟩:=ha
 rw [hs] at h3
 unfold yW at h3
 rcases h1 with ⟨hf,c,hc,ho⟩ | ⟨hf,hc,ho⟩
 ·rw [hc] at h3; cases h3
 ·rw [hc] at h3
  simp only at h3
  refine ⟨hf,?_⟩
  unfold zt at h3
  split at h3
  ·rename_i t x hop
   split at h3
   ·rename_i m off hev
    split at h3
    ·rename_i b' hl
     cases h3
     exact ⟨t,x,off,hop,hev,hl⟩
    ·cases h3
   ·cases h3
  ·cases h3
theorem rK {r:Rec E} {st:St E} (h:nX T P env orc ops st r):act T P env orc st r∨(r.src=none∧r.tch=none):=by
 obtain ⟨_,h⟩:=h
 split at h
 ·exact .inl h
 ·obtain ⟨d,_,h⟩:=h
  rcases h with ⟨b,_,h⟩ | ⟨_,_,_,_,h⟩
  ·split at h
   ·exact .inl h
   ·exact .inr h.2.2.2
  ·exact .inr h
theorem vm {st st':St E} {r:Rec E} (he:r.reads=r.o.op.operands.toList.map st.ev → ∀ x∈r.o.op.operands,st'.ev x=st.ev x)
  (hg : ∀ j w d b,r.o.guard=some (j,w)→ue ops j=some d→(b = .tup [] ∨ ∃ c,b = .bool c)→st.tmps[d]? = some b→st'.tmps[d]? = some b) (hm:r.free=true∨st'.mem=st.mem∨Looks st st' r)
  (h:nX T P env orc ops st r):nX T P env orc ops st' r:=by
 have hact:act T P env orc st r→act T P env orc st' r:=by
  rintro ⟨h1,h2,h3,h4⟩
  have he:=he h2
  have e1:kr T P env orc r.o st'.ev=kr T P env orc r.o st.ev:=vT r.o he
  refine ⟨?_,by rw [h2]; exact List.map_congr_left fun x hx=>(he x (by simpa using hx)).symm,?_,?_⟩
  ·rcases h1 with ⟨hf,c,hc,ho⟩ | ⟨hf,hc,ho⟩
   ·exact .inl ⟨hf,c,by rw [e1]; exact hc,ho⟩
   ·refine .inr ⟨hf,by rw [e1]; exact hc,?_⟩
    rcases hm.resolve_left (by rw [hf]; simp) with hm | hm
    ·rw [hm,qJ r.o _ he]; exact ho
    ·rw [hm.ig he]; exact ho
  ·rw [h3]
   unfold yW
   rw [e1]
   rcases h1 with ⟨hf,c,hc,ho⟩ | ⟨hf,hc,ho⟩
   ·rw [hc]
   ·rw [hc]
    simp only
    rcases hm.resolve_left (by rw [hf]; simp) with hm | hm
    ·rw [hm,Bw he]
    ·exact (hm.src he).symm
  ·rw [h4]
   unfold yp
   rw [e1]
   rcases h1 with ⟨hf,c,hc,ho⟩ | ⟨hf,hc,ho⟩
   ·rw [hc]
   ·rw [hc]
    simp only
    rcases hm.resolve_left (by rw [hf]; simp) with hm | hm
    ·rw [hm,Bt he]
    ·obtain ⟨t,x,n,off,h5,_⟩:=hm
     unfold B6
     rw [h5]
 obtain ⟨h0,h⟩:=h
 refine ⟨h0,?_⟩
 split at h
 ·exact hact h
 ·rename_i j w hjw
  obtain ⟨d,h1,h⟩:=h
  refine ⟨d,h1,?_⟩
  rcases h with ⟨b,h2,h3⟩ | ⟨h2,h3⟩
  ·refine .inl ⟨b,hg j w d _ hjw h1 (.inr ⟨b,rfl⟩) h2,?_⟩
   split
   ·rename_i hb; rw [if_pos hb] at h3; exact hact h3
   ·rename_i hb; rw [if_neg hb] at h3; exact h3
  ·exact .inr ⟨hg j w d _ hjw h1 (.inl rfl) h2,h3⟩
theorem zB {o:Oper} {t:Nat} (h:Operand.tmp t∈o.op.operands):t∈o.looksAt ops :=
 List.mem_append_left _ (List.mem_filterMap.2 ⟨.tmp t,by simpa using h,rfl⟩)
theorem s9 {o:Oper} {j d:Nat} {w:Bool} (hg:o.guard=some (j,w)) (hd:ue ops j=some d):d∈o.looksAt ops:=by
 refine List.mem_append_right _ ?_
 rw [hg]
 simp only
 unfold ue at hd
 rw [hd]
 simp
theorem oG {st:St E} {r:Rec E} {dst:Option Nat} {o:Out E} (hl : ∀ t∈r.o.looksAt ops,dst≠some t) (hr : ∀ d∈r.reads,d.du o.kills=false) (hm:r.free=true∨o.mem=none∨Looks st (st.app dst o) r)
  (h:nX T P env orc ops st r):nX T P env orc ops (st.app dst o) r:=by
 refine vm (fun hre x hx => ?_) (fun j w d b hg hd hbb hb => ?_) ?_ h
 ·rw [FR fun t ht=>hl t (zB (ht ▸ hx))]
  exact gP (hr _ (by rw [hre]; exact List.mem_map.2 ⟨x,by simpa using hx,rfl⟩))
 ·rw [uI (hl d (s9 hg hd)),hb]
  rcases hbb with rfl | ⟨c,rfl⟩ <;> rfl
 ·exact hm.imp_right fun hm=>hm.imp_left fun hm=>by rw [nx,hm]; rfl
theorem mw {st:St E} {r:Rec E} {dst:Option Nat} {o:Out E} (hl : ∀ t∈r.o.looksAt ops,dst≠some t) (hr:o.kills = [] ∨ ∀ d∈r.reads,xZ d=false) (hm:r.free=true∨o.mem=none∨Looks (st.app dst o) st r)
  (h:nX T P env orc ops (st.app dst o) r):nX T P env orc ops st r:=by
 refine vm (fun hre x hx => ?_) (fun j w d b hg hd hbb hb => ?_) ?_ h
 ·have hev:=FR (st:=st) (o:=o) (x:=x) (dst:=dst) fun t ht=>hl t (zB (ht ▸ hx))
  rw [hev]
  rcases hr with hr | hr
  ·rw [hr,pG]
  ·refine (xG ?_).symm
   rw [← hev]
   exact hr _ (by rw [hre]; exact List.mem_map.2 ⟨x,by simpa using hx,rfl⟩)
 ·rw [uI (hl d (s9 hg hd))] at hb
  obtain ⟨y,hy,hyb⟩:=Option.map_eq_some_iff.1 hb
  rw [hy,DH hbb hyb]
 ·exact hm.imp_right fun hm=>hm.imp_left fun hm=>by rw [nx,hm]; rfl
theorem o9 (st:St E) (da db:Option Nat) (oa ob:Out E) (hd : ∀ d,da=some d→db≠some d) (hk:oa.kills = []) (hm:oa.mem=none) (hv:oa.v.du ob.kills=false) :
  (st.app da oa).app db ob=(st.app db ob).app da oa:=by
 simp only [nx,hk,hm]
 have hid:DV.kill ([]:List Nat)=(id:DV E→DV E):=funext pG
 simp only [hid,List.map_id,Option.getD_none,St.mk.injEq,and_true]
 cases da with
 | none=>cases db <;> simp
 | some i =>
  cases db with
  | none=>simp [List.map_set,gP hv]
  | some j =>
   have:i≠j:=fun e=>hd i rfl (by rw [e])
   simp only [List.map_set,gP hv]
   rw [List.set_comm _ _ this]
theorem pure_spec {r:Rec E} (h:r.pure=true):r.out.kills = []∧r.out.mem=none:=by
 unfold Rec.pure at h
 simpa using h
def Rec.wB (r r':Rec E):Prop := ∃ m:Option (Mem E),m.isNone=r.out.mem.isNone∧r'={ r with out:={ r.out with mem:=m } }
theorem Rec.my (r:Rec E):r.wB r:=⟨r.out.mem,rfl,rfl⟩
theorem Aq {ms:List Nat} {a a' b b':Rec E} (ha:a.wB a') (hb:b.wB b'):lH ms ops b' a'=lH ms ops b a:=by
 obtain ⟨m,hm,rfl⟩:=ha
 obtain ⟨m',hm',rfl⟩:=hb
 simp only [lH,nT,Rec.pure,Rec.calm,Rec.past,hm,hm']
theorem Cy {a a' b b':Rec E} (ha:a.wB a') (hb:b.wB b'):nT ops a' b'=nT ops a b:=by
 obtain ⟨m,hm,rfl⟩:=ha
 obtain ⟨m',hm',rfl⟩:=hb
 simp only [nT,Rec.pure,Rec.calm,Rec.past,hm,hm']
def jx:List (Rec E)→List (Rec E)→Prop
 | [],[]=>True
 | a :: l,b :: m=>a.wB b∧jx l m
 | _,_=>False
theorem jx.refl : ∀ l:List (Rec E),jx l l
 | []=>trivial
 | a :: l=>⟨a.my,jx.refl l⟩
theorem jx.is : ∀ {l m:List (Rec E)},jx l m→m.map (·.i)=l.map (·.i)
 | [],[],_=>rfl
 | a :: l,b :: m,h=>by
  obtain ⟨⟨x,_,rfl⟩,h2⟩:=h
  rw [List.map_cons,List.map_cons,jx.is h2]
 | [],_ :: _,h=>h.elim
 | _ :: _,[],h=>h.elim
theorem jx.of {l m:List (Rec E)} (h:jx l m) {x:Rec E} (hx:x∈m) : ∃ y∈l,y.wB x:=by
 induction l generalizing m with
 | nil =>
  cases m with
  | nil=>cases hx
  | cons b m=>exact h.elim
 | cons a l ih =>
  cases m with
  | nil=>exact h.elim
  | cons b m =>
   rcases List.mem_cons.1 hx with rfl | hx
   ·exact ⟨a,List.mem_cons_self ..,h.1⟩
   ·obtain ⟨y,hy,hl⟩:=ih h.2 hx
    exact ⟨y,List.mem_cons_of_mem _ hy,hl⟩
theorem jx.pairwise {ms:List Nat} : ∀ {l m:List (Rec E)},jx l m→(l.Pairwise fun x y=>lH ms ops y x=true)→m.Pairwise fun x y=>lH ms ops y x=true
 | [],[],_,_=>List.Pairwise.nil
 | a :: l,b :: m,h,hp=>by
  obtain ⟨h1,h2⟩:=List.pairwise_cons.1 hp
  refine List.pairwise_cons.2 ⟨fun y hy => ?_,jx.pairwise h.2 h2⟩
  obtain ⟨y0,hy0,hl⟩:=h.2.of hy
  rw [Aq h.1 hl]
  exact h1 y0 hy0
 | [],_ :: _,h,_=>h.elim
 | _ :: _,[],h,_=>h.elim
theorem jx.append : ∀ {l m:List (Rec E)} (post:List (Rec E)),jx l m→jx (l ++ post) (m ++ post)
 | [],[],post,_=>jx.refl post
 | a :: l,b :: m,post,h=>⟨h.1,jx.append post h.2⟩
 | [],_ :: _,_,h=>h.elim
 | _ :: _,[],_,h=>h.elim
theorem wI {st:St E} {r:Rec E} (hg:tL r.o=true) (h:nX T P env orc ops st r) : ∃ d bx,r.o.dst=some d∧(∀ ks,Box.kill ks bx=bx)∧r.out=⟨.ptr (64 * d) 0,[64 * d],some (gf st.mem (64 * d) bx)⟩ ∧
  ∀ st':St E,nX T P env orc ops st' { r with out:=⟨.ptr (64 * d) 0,[64 * d],some (gf st'.mem (64 * d) bx)⟩ }:=by
 unfold tL at hg
 rw [Bool.and_eq_true] at hg
 obtain ⟨hgu,hop⟩:=hg
 obtain ⟨h0,h⟩:=h
 have hgn:r.o.guard=none:=by simpa using hgu
 rw [hgn] at h
 simp only at h
 obtain ⟨t,hop⟩ : ∃ t,r.o.op = .alloc t:=by
  split at hop
  ·rename_i t ht; exact ⟨t,ht⟩
  ·cases hop
 have hoper:r.o.op.operands = #[]:=by rw [hop]; rfl
 obtain ⟨h1,h2,h3,h4⟩:=h
 have hfc : ∀ ρ ρ':Operand→DV E,kr T P env orc r.o ρ=kr T P env orc r.o ρ':=fun ρ ρ'=>vT r.o fun x hx=>by rw [hoper] at hx; simp at hx
 rcases h1 with ⟨_,c,hc,ho⟩ | ⟨hf,hc,ho⟩
 ·exfalso
  unfold kr at hc
  have e1:pS T P orc r.o st.ev=none:=by unfold pS; rw [hop]
  have e2:isLit orc r.o=false:=by unfold isLit; rw [hop]
  have e3:r9 orc r.o=false:=by unfold r9; rw [hop]
  rw [e1,e2,e3] at hc
  cases hc
 ·obtain ⟨d,bx,hd,hk,hout,hall⟩:=xe hop ho
  refine ⟨d,bx,hd,hk,hout,fun st'=>⟨h0,?_⟩⟩
  show match r.o.guard with
   | none => _
   | some (j,w) => _
  rw [hgn]
  refine ⟨.inr ⟨hf,(hfc _ _).trans hc,hall _ _⟩,?_,?_,?_⟩
  ·show r.reads=r.o.op.operands.toList.map st'.ev
   rw [h2,hoper]; rfl
  ·show r.src=yW T P env orc r.o st'.ev st'.mem
   rw [h3]
   unfold yW zt
   rw [hfc st'.ev st.ev,hc,hop]
  ·show r.tch=yp T P env orc r.o st'.ev st'.mem _
   rw [h4]
   unfold yp B6
   rw [hfc st'.ev st.ev,hc,hop,hout]
theorem swap {st:St E} {a b:Rec E} (hc:nT ops a b=true) (ha:nX T P env orc ops st a) (hb:nX T P env orc ops (st.app a.o.dst a.out) b) :
  ∃ a' b',a.wB a'∧b.wB b'∧nX T P env orc ops st b'∧nX T P env orc ops (st.app b.o.dst b'.out) a'∧(st.app a.o.dst a.out).app b.o.dst b.out=(st.app b.o.dst b'.out).app a.o.dst a'.out:=by
 unfold nT at hc
 simp only [Bool.and_eq_true,Bool.or_eq_true] at hc
 obtain ⟨hap,hc⟩:=hc
 rcases hc with hc | ⟨xa,xb⟩
 case inr =>
  obtain ⟨l1,l2,l3⟩:=Oper.apart_spec hap
  obtain ⟨da,ba,hda,hka,hoa,hfa⟩:=wI xa ha
  obtain ⟨db,bb,hdb,hkb,hob,hfb⟩:=wI xb hb
  have hne:da≠db:=fun e=>l2 da hda (by rw [hdb,e])
  rw [hda,hoa] at hob
  refine ⟨_,_,⟨some (gf (st.app b.o.dst ⟨.ptr (64 * db) 0,[64 * db],some (gf st.mem (64 * db) bb)⟩).mem (64 * da) ba),by rw [hoa]; rfl,rfl⟩,⟨some (gf st.mem (64 * db) bb),by rw [hob]; rfl,rfl⟩,?_,?_,?_⟩
  ·have:=hfb st
   rw [hob]
   exact this
  ·rw [hob,hoa]
   exact hfa _
  ·rw [hoa,hob,hda,hdb]
   have m1:(st.app (some da) ⟨.ptr (64 * da) 0,[64 * da],some (gf st.mem (64 * da) ba)⟩).mem=gf st.mem (64 * da) ba:=rfl
   have m2:(st.app (some db) ⟨.ptr (64 * db) 0,[64 * db],some (gf st.mem (64 * db) bb)⟩).mem=gf st.mem (64 * db) bb:=rfl
   have hmem:gf (gf st.mem (64 * da) ba) (64 * db) bb=gf (gf st.mem (64 * db) bb) (64 * da) ba:=by
    rcases Nat.lt_or_gt_of_ne hne with h | h
    ·exact w8 (by omega) (hka _) (hkb _)
    ·exact (w8 (by omega) (hkb _) (hka _)).symm
   have tp : ∀ (n k:Nat),n≠k→(DV.ptr n 0:DV E).kill [k] = .ptr n 0:=by
    intro n k hnk
    refine gP ?_
    simp [DV.du,DV.fv,hnk]
   have n1:64 * da≠64 * db:=fun e=>hne (Nat.eq_of_mul_eq_mul_left (by decide) e)
   have t1:((st.tmps.map (DV.kill [64 * da])).set da (.ptr (64 * da) 0)).map (DV.kill [64 * db])=((st.tmps.map (DV.kill [64 * da])).map (DV.kill [64 * db])).set da (.ptr (64 * da) 0):=by rw [List.map_set,tp _ _ n1]
   have t2:((st.tmps.map (DV.kill [64 * db])).set db (.ptr (64 * db) 0)).map (DV.kill [64 * da])=((st.tmps.map (DV.kill [64 * db])).map (DV.kill [64 * da])).set db (.ptr (64 * db) 0):=by rw [List.map_set,tp _ _ (Ne.symm n1)]
   have t3:(st.tmps.map (DV.kill [64 * da])).map (DV.kill [64 * db])=(st.tmps.map (DV.kill [64 * db])).map (DV.kill [64 * da]):=by
    rw [List.map_map,List.map_map]
    exact List.map_congr_left fun d _=>xp _ _ d
   show (St.mk ((((st.tmps.map (DV.kill [64 * da])).set da (.ptr (64 * da) 0)).map (DV.kill [64 * db])).set db (.ptr (64 * db) 0)) (gf (gf st.mem (64 * da) ba) (64 * db) bb):St E)=St.mk ((((st.tmps.map (DV.kill [64 * db])).set db (.ptr (64 * db) 0)).map (DV.kill [64 * da])).set da (.ptr (64 * da) 0)) (gf (gf st.mem (64 * db) bb) (64 * da) ba)
   rw [hmem,t1,t2,t3,List.set_comm _ _ hne]
 refine ⟨a,b,a.my,b.my,?_⟩
 obtain ⟨l1,l2,l3⟩:=Oper.apart_spec hap
 have hla : ∀ t∈a.o.looksAt ops,b.o.dst≠some t:=fun t ht e=>l3 t e ht
 have hlb : ∀ t∈b.o.looksAt ops,a.o.dst≠some t:=fun t ht e=>l1 t e ht
 rcases hc with (((⟨pa,pb⟩ | ⟨fa,ca⟩) | ⟨fb,cb⟩) | hp) | hp
 ·obtain ⟨ka,ma⟩:=pure_spec pa
  obtain ⟨kb,mb⟩:=pure_spec pb
  exact ⟨mw hlb (.inl ka) (.inr (.inl ma)) hb,oG hla (fun d _=>by rw [kb]; exact lF d) (.inr (.inl mb)) ha,o9 _ _ _ _ _ l2 ka ma (by rw [kb]; exact lF _)⟩
 ·unfold Rec.calm at ca
  simp only [Bool.and_eq_true,Bool.not_eq_true',List.all_eq_true] at ca
  obtain ⟨⟨pa,va⟩,ra⟩:=ca
  obtain ⟨ka,ma⟩:=pure_spec pa
  exact ⟨mw hlb (.inl ka) (.inr (.inl ma)) hb,oG hla (fun d hd=>(ra d hd).1) (.inl fa) ha,o9 _ _ _ _ _ l2 ka ma va⟩
 ·unfold Rec.calm at cb
  simp only [Bool.and_eq_true,Bool.not_eq_true',List.all_eq_true] at cb
  obtain ⟨⟨pb,vb⟩,rb⟩:=cb
  obtain ⟨kb,mb⟩:=pure_spec pb
  refine ⟨mw hlb (.inr fun d hd=>(rb d hd).2) (.inl fb) hb,oG hla (fun d _=>by rw [kb]; exact lF d) (.inr (.inl mb)) ha,?_⟩
  exact (o9 _ _ _ _ _ (fun d h1 h2=>l2 d h2 h1) kb mb vb).symm
 ·unfold Rec.past at hp
  split at hp
  ·rename_i n bx ts hs ht
   simp only [Bool.and_eq_true,Bool.not_eq_true',List.contains_eq_mem,decide_eq_false_iff_not] at hp
   obtain ⟨⟨ca,hn⟩,hfirm⟩:=hp
   unfold Rec.calm at ca
   simp only [Bool.and_eq_true,Bool.not_eq_true',List.all_eq_true] at ca
   obtain ⟨⟨pa,va⟩,ra⟩:=ca
   obtain ⟨ka,ma⟩:=pure_spec pa
   have hb0:nX T P env orc ops st b:=mw hlb (.inl ka) (.inr (.inl ma)) hb
   have aa:=(rK ha).resolve_right (fun h=>by rw [hs] at h; cases h.1)
   have ab:=(rK hb0).resolve_right (fun h=>by rw [ht] at h; cases h.2)
   obtain ⟨_,t,x,off,h1,h2,h3⟩:=zJ aa hs
   have hl:=xy ab ht hn
   rw [h3] at hl
   simp only [Option.map_some] at hl
   rw [EO hfirm] at hl
   exact ⟨hb0,oG hla (fun d hd=>(ra d hd).1) (.inr (.inr ⟨t,x,n,off,h1,h2,by rw [hl,h3]⟩)) ha,o9 _ _ _ _ _ l2 ka ma va⟩
  ·cases hp
 ·unfold Rec.past at hp
  split at hp
  ·rename_i n bx ts hs ht
   simp only [Bool.and_eq_true,Bool.not_eq_true',List.contains_eq_mem,decide_eq_false_iff_not] at hp
   obtain ⟨⟨cb,hn⟩,hfirm⟩:=hp
   unfold Rec.calm at cb
   simp only [Bool.and_eq_true,Bool.not_eq_true',List.all_eq_true] at cb
   obtain ⟨⟨pb,vb⟩,rb⟩:=cb
   obtain ⟨kb,mb⟩:=pure_spec pb
   have aa:=(rK ha).resolve_right (fun h=>by rw [ht] at h; cases h.2)
   have ab:=(rK hb).resolve_right (fun h=>by rw [hs] at h; cases h.1)
   obtain ⟨_,t,x,off,h1,h2,h3⟩:=zJ ab hs
   have hl:=xy aa ht hn
   have hl2:look st.mem n=some bx:=by
    rw [h3] at hl
    obtain ⟨b0,hb0,hb1⟩:=Option.map_eq_some_iff.1 hl.symm
    rw [hb0,EX hfirm hb1]
   refine ⟨mw hlb (.inr fun d hd=>(rb d hd).2) (.inr (.inr ⟨t,x,n,off,h1,h2,by rw [h3,hl2]⟩)) hb,oG hla (fun d _=>by rw [kb]; exact lF d) (.inr (.inl mb)) ha,?_⟩
   exact (o9 _ _ _ _ _ (fun d h1 h2=>l2 d h2 h1) kb mb vb).symm
  ·cases hp
theorem front {r:Rec E} {post:List (Rec E)} {st':St E} : ∀ (pre:List (Rec E)) (st:St E),Tr T P env orc ops (pre ++ r :: post) st st'→(∀ a∈pre,nT ops a r=true) →
  ∃ r' pre',r.wB r'∧jx pre pre'∧nX T P env orc ops st r'∧Tr T P env orc ops (pre' ++ post) (st.app r.o.dst r'.out) st'
 | [],st,h,_=>⟨r,[],r.my,trivial,h⟩
 | a :: pre,st,h,hc=>by
  obtain ⟨h1,h2⟩:=h
  obtain ⟨r1,pre1,k1,k2,h3,h4⟩:=front pre _ h2 fun x hx=>hc x (List.mem_cons_of_mem _ hx)
  have hcc:nT ops a r1=true:=by rw [Cy a.my k1]; exact hc a (List.mem_cons_self ..)
  obtain ⟨m1,_,e1⟩:=id k1
  have eo:r1.o=r.o:=by rw [e1]
  obtain ⟨a',r2,la,lr,q1,q2,q3⟩:=swap hcc h1 h3
  rw [eo] at q2 q3
  obtain ⟨m2,hm2,e2⟩:=id lr
  obtain ⟨m3,_,e3⟩:=id la
  have ea:a'.o=a.o:=by rw [e3]
  refine ⟨r2,a' :: pre1,?_,⟨la,k2⟩,q1,q2,?_⟩
  ·obtain ⟨m1,hm1,rfl⟩:=k1
   exact ⟨m2,hm2.trans hm1,e2⟩
  ·rw [ea, ← q3]; exact h4
end Go.Vm
/- The abstract value machine: regions are sound. -/
namespace Go.Vm
open Go.Lib
set_option linter.unusedVariables false
variable {K:Type} {E:K→Type}
variable {T:Tab E} {P:Program} {env:Env E} {orc:Orc} {ops:Array Oper}
inductive Anc (ops:Array Oper):Nat→Nat→Prop
 | edge {i:Nat} {o:Oper} {e:Edge} (ho:ops[i]? = some o) (he:e∈o.after) (hb:Region.binds .any e=true):Anc ops e.on i
 | step {j i:Nat} {o:Oper} {e:Edge} (ho:ops[i]? = some o) (he:e∈o.after) (hb:Region.binds .any e=true) (h:Anc ops j e.on):Anc ops j i
theorem B1 {prev:List Nat} {o:Oper} {j:Nat} (h:(Dp prev o).testBit j=true) : ∃ e∈o.after,Region.binds .any e=true∧(e.on=j∨(prev.getD e.on 0).testBit j=true):=by
 unfold Dp at h
 have key : ∀ (l:List Edge) (s:Nat),(l.foldl (fun s e=>if Region.binds .any e then s ||| (1 <<< e.on) ||| prev.getD e.on 0 else s) s).testBit j=true →
   s.testBit j=true ∨ ∃ e∈l,Region.binds .any e=true∧(e.on=j∨(prev.getD e.on 0).testBit j=true):=by
  intro l
  induction l with
  | nil=>intro s h; exact .inl h
  | cons e l ih =>
   intro s h
   rw [List.foldl_cons] at h
   rcases ih _ h with h1 | ⟨e',he',hh⟩
   ·split at h1
    ·rename_i hb
     rw [Nat.testBit_or,Nat.testBit_or,Bool.or_eq_true,Bool.or_eq_true] at h1
     rcases h1 with (h1 | h1) | h1
     ·exact .inl h1
     ·refine .inr ⟨e,List.mem_cons_self ..,hb, .inl ?_⟩
      rw [Nat.one_shiftLeft,Nat.testBit_two_pow] at h1
      simpa using h1
     ·exact .inr ⟨e,List.mem_cons_self ..,hb, .inr h1⟩
    ·exact .inl h1
   ·exact .inr ⟨e',List.mem_cons_of_mem _ he',hh⟩
 rcases key _ 0 h with h0 | ⟨e,he,hh⟩
 ·simp at h0
 ·exact ⟨e,by simpa using he,hh⟩
theorem rV : ∀ (l:List Oper) (prev:List Nat),(∀ q,l[q]? = ops[prev.length+q]?)→(∀ b a,(prev.getD b 0).testBit a=true→Anc ops a b) →
  ∀ b a,((yH prev l).getD b 0).testBit a=true→Anc ops a b
 | [],prev,_,h,b,a,hh=>h b a hh
 | o :: l,prev,hl,h,b,a,hh=>by
  have h0:ops[prev.length]? = some o:=by have:=hl 0; simp at this; exact this.symm
  refine rV l (prev ++ [Dp prev o]) (fun q => ?_) (fun b a hb => ?_) b a hh
  ·have:=hl (q+1)
   rw [List.length_append,List.length_singleton,Nat.add_assoc,Nat.add_comm 1 q]
   simpa using this
  ·rw [List.getD_eq_getElem?_getD] at hb
   by_cases hlt:b<prev.length
   ·rw [List.getElem?_append_left hlt, ← List.getD_eq_getElem?_getD] at hb
    exact h b a hb
   ·by_cases he:b=prev.length
    ·subst he
     rw [List.getElem?_append_right (Nat.le_refl _)] at hb
     simp only [Nat.sub_self,List.getElem?_cons_zero,Option.getD_some] at hb
     obtain ⟨e,he,hbi,hh⟩:=B1 hb
     rcases hh with hh | hh
     ·subst hh; exact .edge h0 he hbi
     ·exact .step h0 he hbi (h _ _ hh)
    ·rw [List.getElem?_eq_none (by simp; omega)] at hb
     simp at hb
theorem Cz {a b:Nat} (h:((AJ ops).getD b 0).testBit a=true):Anc ops a b :=
 rV ops.toList [] (fun q=>by simp) (fun b a h=>by simp at h) b a h
theorem uJ (h:pz ops=true) {i:Nat} {o:Oper} {e:Edge} (ho:ops[i]? = some o) (he:e∈o.after) (hb:Region.binds .any e=true):e.on<i:=by
 unfold pz at h
 rw [List.all_eq_true] at h
 have hm:(o,i)∈ops.toList.zipIdx:=by
  rw [List.mem_zipIdx_iff_getElem?]
  simpa using ho
 have:=h _ hm
 simp only [List.all_eq_true] at this
 have:=this e (by simpa using he)
 simpa [hb] using this
section
variable {w0:World} {G:GP} {Q:Exit→Act→World→Prop}
theorem wP [hgl:tC T w0 G] (henv : ∀ f,Ctr T P f (env f)) {st:St E} {a:Act} {w:World} {g:Gh} (h:Inv T w0 G st a w g) {r:Rec E} (hf:nX T P env orc ops st r)
  (next:Act→World→Prop) (hnext : ∀ v w' g',Inv T w0 G (st.app r.o.dst r.out) (a.put r.o.dst v) w' g'→next (a.put r.o.dst v) w'):wpOp P ops Q r.i next a w:=by
 obtain ⟨ho,hf⟩:=hf
 have hgo:act T P env orc st r→r.o.wp P a w next Q:=by
  rintro ⟨h1,_⟩
  refine J1 env henv orc h r.o r.out ?_ next Q hnext
  rcases h1 with ⟨_,c,hc,hh⟩ | ⟨_,hc,hh⟩
  ·rw [A8 hc]; exact hh
  ·rw [xI hc]; exact hh
 unfold wpOp
 simp only [ho]
 split at hf
 ·rename_i hg
  rw [if_pos (by simp [Region.wanted,hg])]
  exact .inl (hgo hf)
 ·rename_i j wt hg
  obtain ⟨d,hd,hf⟩:=hf
  have skip:r.out=rk→next (a.put r.o.dst undef) w:=by
   intro hout
   refine hnext _ _ g ?_
   rw [hout]
   exact h.put r.o.dst (d := .tup []) ⟨#[],rfl,rfl,fun i hi=>absurd hi (by simp)⟩ (fun _ _ _ _ e=>by cases e)
  rcases hf with ⟨b,hb,hh⟩ | ⟨hb,hout,_,_⟩
  case inr =>
   obtain ⟨hlt,hbe⟩:=List.getElem?_eq_some_iff.1 hb
   have hr:=h.tm d hlt
   rw [hbe] at hr
   have hlt':d<a.tmps.size:=by rw [h.tl]; exact hlt
   have hg2:a.tmps.getD d undef=a.tmps[d]:=by simp [hlt']
   rw [hg2] at hr
   obtain ⟨vs,hv,_⟩:=hr
   have hy:yielded ops a.tmps j=none:=by
    unfold yielded
    unfold ue at hd
    rw [hd]
    simp [Array.getElem?_eq_getElem hlt',hv]
   have hw:Region.wanted r.o (yielded ops a.tmps)=false:=by
    unfold Region.wanted
    rw [hg]
    simp only [hy]
    rfl
   rw [hw,if_neg (by simp)]
   exact skip hout
  obtain ⟨hlt,hbe⟩:=List.getElem?_eq_some_iff.1 hb
  have hv:a.tmps[d]? = some (.bool b):=by
   have hr:=h.tm d hlt
   rw [hbe] at hr
   have hlt':d<a.tmps.size:=by rw [h.tl]; exact hlt
   have:a.tmps.getD d undef=a.tmps[d]:=by simp [hlt']
   rw [this] at hr
   have h2:=jG hr
   rw [Array.getElem?_eq_getElem hlt',h2]
  have hy:yielded ops a.tmps j=some b:=by
   unfold yielded
   unfold ue at hd
   rw [hd]
   simp [hv]
  have hw:Region.wanted r.o (yielded ops a.tmps)=(b == wt):=by
   unfold Region.wanted
   rw [hg]
   simp only [hy]
   cases b <;> cases wt <;> rfl
  rw [hw]
  split at hh
  ·rename_i hbw
   subst hbw
   rw [if_pos (by simp)]
   exact .inl (hgo hh)
  ·rename_i hbw
   rw [if_neg (by simpa using hbw)]
   exact skip hh.1
def kR (J:List Nat) (a a':Act):Prop := ∀ j∈J,a'.tmps.getD j undef=a.tmps.getD j undef
theorem kR.refl (J:List Nat) (a:Act):kR J a a:=fun _ _=>rfl
theorem kR.trans {J:List Nat} {a b c:Act} (h:kR J a b) (h':kR J b c):kR J a c:=fun j hj=>(h' j hj).trans (h j hj)
theorem kR.put {J:List Nat} {a:Act} {dst:Option Nat} (v:Value) (h : ∀ d,dst=some d→d ∉ J):kR J a (a.put dst v):=by
 intro j hj
 cases dst with
 | none=>rfl
 | some d =>
  have:d≠j:=fun e=>h d rfl (e ▸ hj)
  simp [Act.put,Array.getElem?_setIfInBounds_ne this]
theorem zr [hgl:tC T w0 G] (henv : ∀ f,Ctr T P f (env f)) {J:List Nat} (hJ : ∀ (i:Nat) (o:Oper),ops[i]? = some o → ∀ d,o.dst=some d→d ∉ J) : ∀ (rs:List (Rec E)) (st st':St E) (a:Act) (w:World) (g:Gh),Inv T w0 G st a w g→Tr T P env orc ops rs st st' →
  ∀ rest:List Nat,(∀ a' w g,Inv T w0 G st' a' w g→kR J a a'→wpOps P ops Q rest a' w)→wpOps P ops Q (rs.map (·.i) ++ rest) a w
 | [],st,st',a,w,g,h,ht,rest,hn=>by cases ht; simpa using hn a w g h (kR.refl J a)
 | r :: rs,st,st',a,w,g,h,ht,rest,hn=>by
  obtain ⟨h1,h2⟩:=ht
  rw [List.map_cons,List.cons_append,wpOps_cons]
  exact wP henv h h1 _ fun v w' g' h'=>zr henv hJ rs _ _ _ w' g' h' h2 rest fun a'' w'' g'' hi hk=>hn a'' w'' g'' hi ((kR.put v (hJ r.i r.o h1.1)).trans hk)
theorem sR {p q:Nat→Bool} {i:Nat} : ∀ (l:List Nat),l.Nodup→(∀ j,j≠i→q j=p j)→q i=false→l.filter q=(l.filter p).filter (fun j=>j != i)
 | [],_,_,_=>rfl
 | x :: l,hn,h1,h2=>by
  have ih:=sR l (List.nodup_cons.1 hn).2 h1 h2
  by_cases hx:x=i
  ·subst hx
   rw [List.filter_cons_of_neg (by simp [h2]),ih]
   cases hp:p x
   ·rw [List.filter_cons_of_neg (by simp [hp])]
   ·rw [List.filter_cons_of_pos (by simp [hp]),List.filter_cons_of_neg (by simp)]
  ·cases hp:p x
   ·rw [List.filter_cons_of_neg (by simp [h1 x hx,hp]),List.filter_cons_of_neg (by simp [hp]),ih]
   ·rw [List.filter_cons_of_pos (by simp [h1 x hx,hp]),List.filter_cons_of_pos (by simp [hp]),List.filter_cons_of_pos (by simpa using hx),ih]
theorem Ka [hgl:tC T w0 G] (henv : ∀ f,Ctr T P f (env f)) (hback:pz ops=true) {J:List Nat} (hJ : ∀ (i:Nat) (o:Oper),ops[i]? = some o → ∀ d,o.dst=some d→d ∉ J) {st':St E} {a0:Act} (hn : ∀ a w g,Inv T w0 G st' a w g→kR J a0 a→Q .normal a w) :
  ∀ (fuel:Nat) (listed:Array Bool) (rs:List (Rec E)) (st:St E) (a:Act) (w:World) (g:Gh),Inv T w0 G st a w g→kR J a0 a→Tr T P env orc ops rs st st' →
   rs.map (·.i)=(List.range ops.size).filter (fun j => !listed.getD j true)→listed.size=ops.size →
   (∀ i o e,ops[i]? = some o→e∈o.after→Region.binds .any e=true→listed.getD i false=true→listed.getD e.on false=true) →
   (rs.Pairwise fun x y=>lH (AJ ops) ops y x=true)→rs.length≤fuel→wpAny P .any ops Q fuel listed a w:=by
 intro fuel
 have lt_of : ∀ (listed:Array Bool) j,listed.getD j true=false→j<listed.size:=by
  intro listed j hj
  rcases Nat.lt_or_ge j listed.size with h | h
  ·exact h
  ·simp [Array.getElem?_eq_none h] at hj
 have empty : ∀ (listed:Array Bool) (rs:List (Rec E)),rs.map (·.i)=(List.range ops.size).filter (fun j => !listed.getD j true)→listed.size=ops.size→Region.ready .any ops listed = []→rs = []:=by
  intro listed rs hrs hsz hr
  cases rs with
  | nil=>rfl
  | cons r rs =>
   exfalso
   rw [List.map_cons] at hrs
   have hmin : ∀ j∈(List.range ops.size).filter (fun j => !listed.getD j true),r.i≤j:=by
    intro j hj
    have hs:((List.range ops.size).filter (fun j => !listed.getD j true)).Pairwise (· < ·):=List.Pairwise.filter _ List.pairwise_lt_range
    rw [← hrs] at hs hj
    rcases List.mem_cons.1 hj with rfl | hj
    ·exact Nat.le_refl _
    ·exact Nat.le_of_lt ((List.pairwise_cons.1 hs).1 j hj)
   have hri:r.i∈(List.range ops.size).filter (fun j => !listed.getD j true):=by rw [← hrs]; exact List.mem_cons_self ..
   rw [List.mem_filter,List.mem_range] at hri
   obtain ⟨hlt,hun⟩:=hri
   have:r.i∈Region.ready .any ops listed:=by
    rw [mem_ready]
    refine ⟨by simpa using hun,ops[r.i],Array.getElem?_eq_getElem hlt,fun e he hb => ?_⟩
    have hel:=uJ hback (Array.getElem?_eq_getElem hlt) he hb
    have hes:e.on<listed.size:=by rw [hsz]; omega
    cases hl:listed.getD e.on false with
    | true=>rfl
    | false =>
     have hq:listed.getD e.on true=false:=by simpa [hes] using hl
     have:=hmin e.on (List.mem_filter.2 ⟨List.mem_range.2 (by omega),by rw [hq]; rfl⟩)
     omega
   rw [hr] at this
   cases this
 induction fuel with
 | zero =>
  intro listed rs st a w g h hka ht hrs hsz hdc hpw hlen
  have:rs = []:=List.eq_nil_of_length_eq_zero (by omega)
  subst this
  cases ht
  refine ⟨?_,hn a w g h hka⟩
  cases hr:Region.ready .any ops listed with
  | nil=>rfl
  | cons x xs =>
   exfalso
   have hx:x∈Region.ready .any ops listed:=by rw [hr]; exact List.mem_cons_self ..
   obtain ⟨h1,o,h2,_⟩:=mem_ready.1 hx
   have:x∈(List.range ops.size).filter (fun j => !listed.getD j true):=List.mem_filter.2 ⟨List.mem_range.2 (Array.getElem?_eq_some_iff.1 h2).1,by rw [h1]; rfl⟩
   rw [← hrs] at this
   cases this
 | succ fuel ih =>
  intro listed rs st a w g h hka ht hrs hsz hdc hpw hlen
  refine ⟨fun hr => ?_,fun i hi => ?_⟩
  ·have:=empty listed rs hrs hsz hr
   subst this
   cases ht
   exact hn a w g h hka
  ·obtain ⟨h1,o,h2,h3⟩:=mem_ready.1 hi
   have hilt:=(Array.getElem?_eq_some_iff.1 h2).1
   have hmem:i∈rs.map (·.i):=by rw [hrs]; exact List.mem_filter.2 ⟨List.mem_range.2 hilt,by rw [h1]; rfl⟩
   obtain ⟨r,hr,rfl⟩:=List.mem_map.1 hmem
   obtain ⟨pre,post,rfl⟩:=List.append_of_mem hr
   have hanc : ∀ j,Anc ops j r.i→listed.getD j false=true:=by
    have base : ∀ j i,Anc ops j i→listed.getD i false=true→listed.getD j false=true:=by
     intro j i ha
     induction ha with
     | edge ho he hb=>intro hl; exact hdc _ _ _ ho he hb hl
     | step ho he hb _ ih=>intro hl; exact ih (hdc _ _ _ ho he hb hl)
    intro j ha
    cases ha with
    | edge ho he hb=>rw [h2] at ho; cases ho; exact h3 _ he hb
    | step ho he hb ha=>rw [h2] at ho; cases ho; exact base _ _ ha (h3 _ he hb)
   have hcomm : ∀ x∈pre,nT ops x r=true:=by
    intro x hx
    have hp:=(List.pairwise_append.1 hpw).2.2 x hx r (List.mem_cons_self ..)
    unfold lH at hp
    rw [Bool.or_eq_true] at hp
    rcases hp with hp | hp
    ·have hl:=hanc _ (Cz hp)
     have hxm:x.i∈(List.range ops.size).filter (fun j => !listed.getD j true):=by rw [← hrs]; exact List.mem_map.2 ⟨x,List.mem_append_left _ hx,rfl⟩
     rw [List.mem_filter] at hxm
     have hun:listed.getD x.i true=false:=by simpa using hxm.2
     have hlt:=lt_of _ _ hun
     simp [hlt] at hun hl
     rw [hl] at hun
     cases hun
    ·exact hp
   obtain ⟨r',pre',lr,lp,hf,hrest⟩:=front pre st ht hcomm
   obtain ⟨m0,hm0,rfl⟩:=lr
   have his:=lp.is
   have hlen':pre'.length=pre.length:=by have:=congrArg List.length his; simpa using this
   have hlt:r.i<listed.size:=lt_of _ _ h1
   have hget : ∀ j (d:Bool),j≠r.i→(listed.setIfInBounds r.i true).getD j d=listed.getD j d:=fun j d hj=>getD_set_ne d (Ne.symm hj)
   refine wP henv h hf _ fun v w' g' h'=>ih _ (pre' ++ post) _ _ w' g' h' (hka.trans (kR.put v (hJ r.i r.o hf.1))) hrest ?_ (by simpa using hsz) ?_ ?_ (by simp at hlen ⊢; omega)
   ·rw [sR (p:=fun j => !listed.getD j true) (i:=r.i) _ List.nodup_range (fun j hj=>by simp only [hget j true hj]) (by simp [hlt]), ← hrs]
    have hnd:((pre ++ r :: post).map (·.i)).Nodup:=by rw [hrs]; exact List.Nodup.sublist List.filter_sublist List.nodup_range
    rw [List.map_append,List.map_cons] at hnd
    rw [List.map_append,his,List.map_append,List.map_cons,List.filter_append,List.filter_cons_of_neg (by simp)]
    have hnd:=List.nodup_append.1 hnd
    congr 1
    ·symm; rw [List.filter_eq_self]
     intro x hx
     have:=hnd.2.2 x hx r.i (List.mem_cons_self ..)
     simpa using this
    ·symm; rw [List.filter_eq_self]
     intro x hx
     have:=(List.nodup_cons.1 hnd.2.1).1
     have:x≠r.i:=fun e=>this (e ▸ hx)
     simpa using this
   ·intro i o e ho he hb hl
    by_cases hir:i=r.i
    ·subst hir
     rw [h2] at ho; cases ho
     exact getD_set_true (h3 _ he hb)
    ·rw [hget i false hir] at hl
     exact getD_set_true (hdc i o e ho he hb hl)
   ·exact (lp.append post).pairwise (List.Pairwise.sublist ((List.Sublist.refl pre).append (List.sublist_cons_self r post)) hpw)
end
end Go.Vm
/- The abstract value machine: less is known: names are forgotten, rows become shared slices. -/
namespace Go.Vm
open Go.Lib
set_option linter.unusedVariables false
variable {K:Type} {E:K→Type}
variable {T:Tab E} {P:Program}
inductive WD (m:Mem E) (ns:List Nat):DV E→DV E→Prop
 | junk (d:DV E):WD m ns d .junk
 | same (d:DV E) (h : ∀ n i cs off,d = .rptr n i cs off→n∈ns):WD m ns d d
 | rowp {n:Nat} {e:TypeId} {k:K} {l:List (E k)} (h:(n,Box.row e k l)∈m) (hn:n ∉ ns):WD m ns (.rowp n) (.slc k l)
 | rowv {n b:Nat} {e:TypeId} {k:K} {l:List (E k)} (h:(n,Box.row e k l)∈m) (hn:n ∉ ns):WD m ns (.rowv n b) (.slc k (l.take b))
 | ptr {n:Nat} {t:TypeId} {cs:List (DV E)} (h:(n,Box.cells t cs)∈m) (hn:n ∉ ns) (hp:cs.all DV.plain=true):WD m ns (.ptr n 0) (.shp cs)
inductive WB (m:Mem E) (ns:List Nat):Box E→Box E→Prop
 | same (b:Box E):WB m ns b b
 | cells (t:TypeId) {cs cs':List (DV E)} (hl:cs'.length=cs.length) (h : ∀ i (hi:i<cs.length) (hi':i<cs'.length),WD m ns cs[i] cs'[i]):WB m ns (.cells t cs) (.cells t cs')
structure Kn (st st':St E):Prop where
 len:st'.tmps.length=st.tmps.length
 nn:(names st'.mem).Nodup
 tm : ∀ i (hi:i<st.tmps.length) (hi':i<st'.tmps.length),WD st.mem (names st'.mem) st.tmps[i] st'.tmps[i]
 mm : ∀ n bx,(n,bx)∈st'.mem → ∃ b0,(n,b0)∈st.mem∧WB st.mem (names st'.mem) b0 bx
theorem Hy {w:World} {X X':Nat→Prop} {k:K} {l:List (E k)} {xs:List Value} {gg cap:Nat} (hX : ∀ b,X b→X' b) (hg:X' gg∧gg<w.heap.size) (hl:l.length≤cap)
  (hc : ∀ j u,xs[j]? = some u→w.cell? ⟨gg,j,none⟩=some u) (h:Els T w X k l xs):Rep T w X' (.slc k l) (.slice (some ⟨gg,0,none⟩) l.length cap):=by
 refine Rep.slc cap (fun j=>xs.getD j undef) hl (fun _=>hg) ?_ ?_ h.pl
 ·intro j hj
  have hlt:j<xs.length:=by rw [h.len]; exact hj
  rw [dV _ _ _ hlt,Nat.zero_add]
  exact hc j _ (List.getElem?_eq_getElem hlt)
 ·intro i hi c hcc
  obtain ⟨u,h1,h2⟩:=h.rep i hi c hcc
  have:xs.getD (i * T.sz k+c) undef=u:=by rw [List.getD_eq_getElem?_getD,h1]; rfl
  rw [this]
  exact h2.mono fun b hb hlt=>⟨hX b hb,hlt,rfl⟩
theorem CH {w:World} {X X':Nat→Prop} {e:TypeId} {k:K} {l:List (E k)} {v:Value} (hX : ∀ b,X b→X' b) (h:aP T w X e k l v) (hb : ∀ b,blk v=some b→X' b) (b:Nat) :
  (∃ a len cap,v = .slice a len cap∧l.length=len) ∧ ∀ (a:Option Addr) (len cap:Nat),v = .slice a len cap→b≤len→Rep T w X' (.slc k (l.take b)) (.slice a b cap):=by
 rcases iK h with ⟨rfl,rfl⟩ | ⟨gg,cap,xs,rfl,hc,hlt,hcell,hels⟩
 ·refine ⟨⟨_,_,_,rfl,rfl⟩,fun a len cap e hb => ?_⟩
  cases e
  have:b=0:=by omega
  subst this
  exact Rep.slcn k
 ·refine ⟨⟨_,_,_,rfl,rfl⟩,fun a len cap' e hble => ?_⟩
  cases e
  have:=Hy (T:=T) (w:=w) (X:=X) (X':=X') (cap:=cap) (gg:=gg) (l:=l.take b) hX ⟨hb gg rfl,hlt⟩ (by simp; omega) (xs:=xs.take (b * T.sz k)) (fun j u hj=>hcell j u (by
    rw [List.getElem?_take] at hj
    split at hj
    ·exact hj
    ·cases hj)) (hels.take b hble)
  rw [show (l.take b).length=b by simp; omega] at this
  exact this
theorem aB.Kt {w:World} {X X':Nat→Prop} {g:Gh} {d:DV E} {v:Value} (h:aB T w X g d v) (hX : ∀ b,X b→X' b):aB T w X' g d v:=by
 have base : ∀ (d1:DV E) (v1:Value),dt T w X g d1 v1→dt T w X' g d1 v1:=fun d1 v1 h1 =>
  h1.mono (fun b hb hlt=>⟨hX b hb,hlt,rfl⟩) (fun _ _=>rfl) (fun _ _ _ _ _ _ _ _ _=>rfl)
 cases d with
 | tup ds =>
  obtain ⟨vs,h1,h2,h3⟩:=h
  exact ⟨vs,h1,h2,fun i hi hi'=>⟨base _ _ (h3 i hi hi').1,(h3 i hi hi').2⟩⟩
 | junk=>exact .of1 (base .junk v h)
 | int k n=>exact .of1 (base (.int k n) v h)
 | bool b=>exact .of1 (base (.bool b) v h)
 | str s=>exact .of1 (base (.str s) v h)
 | nilp=>exact .of1 (base .nilp v h)
 | nili=>exact .of1 (base .nili v h)
 | nils=>exact .of1 (base .nils v h)
 | arr n k l=>exact .of1 (base (.arr n k l) v h)
 | shp cs=>exact .of1 (base (.shp cs) v h)
 | opt c cs=>exact .of1 (base (.opt c cs) v h)
 | any k x=>exact .of1 (base (.any k x) v h)
 | slc k l=>exact .of1 (base (.slc k l) v h)
 | agg cs=>exact .of1 (base (.agg cs) v h)
 | ifc t d=>exact .of1 (base (.ifc t d) v h)
 | fn f c=>exact .of1 (base (.fn f c) v h)
 | ptr n o=>exact .of1 (base (.ptr n o) v h)
 | rowp n=>exact .of1 (base (.rowp n) v h)
 | rowv n b=>exact .of1 (base (.rowv n b) v h)
 | eptr cs o=>exact .of1 (base (.eptr cs o) v h)
 | rptr n i cs o=>exact .of1 (base (.rptr n i cs o) v h)
 | row e k l=>exact .of1 (base (.row e k l) v h)
 | pin t cs=>exact .of1 (base (.pin t cs) v h)
 | newb t cs=>exact .of1 (base (.newb t cs) v h)
 | argp j=>exact .of1 (base (.argp j) v h)
 | cslc n b=>exact .of1 (base (.cslc n b) v h)
 | rws n lo sz=>exact .of1 (base (.rws n lo sz) v h)
theorem WD.rep {w0:World} {G:GP} {st st':St E} {a:Act} {w:World} {g:Gh} (h:Inv T w0 G st a w g) (hw:Kn st st') {d d':DV E} {v:Value} (hd:WD st.mem (names st'.mem) d d')
  (hr:aB T w (free st.mem g) g d v):aB T w (free st'.mem g) g d' v:=by
 have hsub : ∀ n,n∈names st'.mem→n∈names st.mem:=by
  intro n hn
  obtain ⟨x,hx,rfl⟩:=List.mem_map.1 hn
  obtain ⟨b0,hb0,_⟩:=hw.mm x.1 x.2 hx
  exact List.mem_map.2 ⟨_,hb0,rfl⟩
 have hX : ∀ b,free st.mem g b→free st'.mem g b:=by
  intro b hb
  refine ⟨fun hb' => ?_,hb.2⟩
  obtain ⟨n,h1,h2⟩:=aD.1 hb'
  exact hb.1 (aD.2 ⟨n,hsub n h1,h2⟩)
 have hbl : ∀ n b,n∈names st.mem→n ∉ names st'.mem→blk (g n)=some b→free st'.mem g b:=by
  intro n b hn hn' hb
  refine ⟨fun hb' => ?_,fun hb' => ?_⟩
  case refine_2 =>
   have h0:=h.hz.2 b hb'
   rcases (h.bo b (aD.2 ⟨n,hn,hb⟩)).2 with h1 | h1
   ·omega
   ·exact h0.2 h1
  obtain ⟨n',h1,h2⟩:=aD.1 hb'
  have:=jJ h.nd h.nn hn (hsub n' h1) hb h2
  exact hn' (this ▸ h1)
 cases hd with
 | junk d=>exact (Rep.junk _).toT
 | same d hr' =>
  exact aB.Kt hr hX
 | @rowp n e k l hm hn =>
  have hrow:aP T w (free st.mem g) e k l (g n):=h.mm n _ hm
  have hmn:n∈names st.mem:=List.mem_map.2 ⟨_,hm,rfl⟩
  obtain ⟨⟨ad,len,cap,hv,hlen⟩,hq⟩:=CH hX hrow (fun b hb=>hbl n b hmn hn hb) l.length
  have:v=g n:=hr
  rw [this,hv]
  subst hlen
  have:=hq ad l.length cap hv (Nat.le_refl _)
  rw [List.take_length] at this
  exact this
 | @rowv n b e k l hm hn =>
  have hrow:aP T w (free st.mem g) e k l (g n):=h.mm n _ hm
  have hmn:n∈names st.mem:=List.mem_map.2 ⟨_,hm,rfl⟩
  obtain ⟨⟨ad,len,cap,hv,hlen⟩,hq⟩:=CH hX hrow (fun b hb=>hbl n b hmn hn hb) b
  obtain ⟨a',len',cap',h1,h2,h3⟩:=hr
  rw [hv] at h1
  cases h1
  rw [h2]
  exact hq ad len cap hv h3
 | @ptr n t cs hm hn hp =>
  obtain ⟨b,vs,h1,h2,h3,h4⟩:=h.mm n _ hm
  have hmn:n∈names st.mem:=List.mem_map.2 ⟨_,hm,rfl⟩
  obtain ⟨b',e1,e2⟩:=hr
  rw [h1] at e1
  cases e1
  have hlt:b<w.heap.size:=kP h2
  rw [e2]
  refine (Rep.shp (fun j=>vs.getD j undef) ⟨hbl n b hmn hn (by rw [h1]; rfl),hlt⟩ (fun j hj => ?_) (fun j hj => ?_) (fun j hj => ?_)).toT
  ·have hj':j<vs.size:=by omega
   rw [cell_of_row w b (0+j) vs t (0,0) h2,Nat.zero_add]
   simp [hj']
  ·have hj':j<vs.size:=by omega
   have hpl:cs[j].plain=true:=List.all_eq_true.1 hp _ (List.getElem_mem hj)
   have:=(h4 j hj hj').1.plain (by revert hpl; generalize cs[j]=d; cases d <;> simp [DV.share,DV.lay,DV.plain])
   have e3:vs.getD j undef=vs[j]:=by simp [hj']
   rw [e3]
   exact this.mono fun b hb hlt=>⟨hX b hb,hlt,rfl⟩
  ·exact List.all_eq_true.1 hp _ (List.getElem_mem hj)
theorem WD.t1 {m:Mem E} {ns:List Nat} {d d':DV E} (h:WD m ns d d') (hc:d.ej=true):d'.ej=true:=by
 cases h <;> first | rfl | exact hc
theorem Inv.Ki {w0:World} {G:GP} {st st':St E} {a:Act} {w:World} {g:Gh} (h:Inv T w0 G st a w g) (hw:Kn st st'):Inv T w0 G st' a w g:=by
 have hsub : ∀ n,n∈names st'.mem→n∈names st.mem:=by
  intro n hn
  obtain ⟨x,hx,rfl⟩:=List.mem_map.1 hn
  obtain ⟨b0,hb0,_⟩:=hw.mm x.1 x.2 hx
  exact List.mem_map.2 ⟨_,hb0,rfl⟩
 have hX : ∀ b,free st.mem g b→free st'.mem g b:=by
  intro b hb
  refine ⟨fun hb' => ?_,hb.2⟩
  obtain ⟨n,h1,h2⟩:=aD.1 hb'
  exact hb.1 (aD.2 ⟨n,hsub n h1,h2⟩)
 refine ⟨h.df,by rw [hw.len]; exact h.tl,?_,hw.nn,?_,?_,?_,h.fr,?_,h.hz⟩
 ·intro i hi
  have hi0:i<st.tmps.length:=by rw [← hw.len]; exact hi
  exact (hw.tm i hi0 hi).rep h hw (h.tm i hi0)
 ·have : ∀ (m:Mem E),(names m).Nodup→(∀ n,n∈names m→n∈names st.mem)→(dP m g).Nodup:=by
   intro m
   induction m with
   | nil=>intro _ _; simp [dP]
   | cons x m ih =>
    intro hn hs
    simp only [names,List.map_cons,List.nodup_cons] at hn
    simp only [dP,List.flatMap_cons]
    rw [List.nodup_append]
    refine ⟨by cases blk (g x.1) <;> simp,ih hn.2 (fun n hm=>hs n (List.mem_cons_of_mem _ hm)),?_⟩
    rintro b hb b' hb' rfl
    simp only [Option.mem_toList] at hb
    obtain ⟨n,h1,h2⟩:=aD.1 (show b∈dP m g from hb')
    have:=jJ h.nd h.nn (hs x.1 (List.mem_cons_self ..)) (hs n (List.mem_cons_of_mem _ h1)) hb h2
    exact hn.1 (this ▸ h1)
  exact this _ hw.nn hsub
 ·intro n bx hm
  obtain ⟨b0,hb0,hwb⟩:=hw.mm n bx hm
  have hr:=h.mm n b0 hb0
  cases hwb with
  | same b =>
   cases bx with
   | cells t cs =>
    obtain ⟨b,vs,h1,h2,h3,h4⟩:=hr
    refine ⟨b,vs,h1,h2,h3,fun i hi hi' => ?_⟩
    obtain ⟨p1,p2,p3⟩:=h4 i hi hi'
    refine ⟨p1.mono (fun b hb hlt=>⟨hX b hb,hlt,rfl⟩) (fun _ _=>rfl) (fun _ _ _ _ _ _ _ _ _=>rfl),p2,p3⟩
   | row e k l =>
    obtain ⟨xs,p1,p2⟩:=aP.els hr
    exact aP.mk' p1 (p2.mono fun b hb hlt=>⟨hX b hb,hlt,rfl⟩)
   | siter s pos=>exact hr
   | arr t n k l =>
    obtain ⟨b,vs,h1,h2,h3⟩:=hr
    exact ⟨b,vs,h1,h2,h3.mono fun b hb hlt=>⟨hX b hb,hlt,rfl⟩⟩
  | @cells t cs cs' hl hh =>
   obtain ⟨b,vs,h1,h2,h3,h4⟩:=hr
   refine ⟨b,vs,h1,h2,by rw [hl]; exact h3,fun i hi hi' => ?_⟩
   have hi0:i<cs.length:=by rw [← hl]; exact hi
   obtain ⟨p1,p2,p3⟩:=h4 i hi0 hi'
   have hd:=hh i hi0 hi
   have hk:=hd.t1 p3
   have hq:=hd.rep h hw (.of1 p1)
   refine ⟨?_,p2,hk⟩
   generalize cs'[i]=dd at hq hk
   cases dd <;> first | exact hq | (simp [DV.ej] at hk; done)
 ·intro b hb
  obtain ⟨n,h1,h2⟩:=aD.1 hb
  exact h.bo b (aD.2 ⟨n,hsub n h1,h2⟩)
 ·intro i hi n j cs off he
  have hi0:i<st.tmps.length:=by rw [← hw.len]; exact hi
  have:=hw.tm i hi0 hi
  rw [he] at this
  generalize hdd:st.tmps[i]=dd at this
  cases this with
  | same d hr=>exact hr n j cs off rfl
/-! ### names are forgotten -/
def fz (m:Mem E) (ns:List Nat) (d:DV E):DV E :=
 match d with
 | .rowp n=>if ns.contains n then
   match look m n with
   | some (.row _ k l) => .slc k l
   | _ => .junk
  else .rowp n
 | .rowv n b=>if ns.contains n then
   match look m n with
   | some (.row _ k l) => .slc k (l.take b)
   | _ => .junk
  else .rowv n b
 | .ptr n 0=>if ns.contains n then
   match look m n with
   | some (.cells _ cs)=>if cs.all DV.plain then .shp cs else .junk
   | _ => .junk
  else .ptr n 0
 | d=>if d.du ns then .junk else d
def fzB (m:Mem E) (ns:List Nat):Box E→Box E
 | .cells t cs => .cells t (cs.map (fz m ns))
 | b=>b
def forget (ns:List Nat) (st:St E):St E :=
 if ns.isEmpty=true then st else ⟨st.tmps.map (fz st.mem ns),(st.mem.filter fun x => !ns.contains x.1).map fun x=>(x.1,fzB st.mem ns x.2)⟩
theorem yZ (m:Mem E) (ns:List Nat) (f:Nat×Box E→Box E):names ((m.filter fun x => !ns.contains x.1).map fun x=>(x.1,f x))=(names m).filter fun n => !ns.contains n:=by
 induction m with
 | nil=>rfl
 | cons x m ih =>
  simp only [names,List.map_cons,List.filter_cons] at ih ⊢
  split
  ·rw [List.map_cons,List.map_cons]; exact congrArg _ ih
  ·exact ih
theorem I6 {m:Mem E} {ns ns':List Nat} {d:DV E} (hn : ∀ n∈ns,n ∉ ns') (hr : ∀ n i cs off,d = .rptr n i cs off→n ∉ ns→n∈ns'):WD m ns' d (fz m ns d):=by
 unfold fz
 split
 ·rename_i n
  split
  ·rename_i hc
   split
   ·rename_i e k l hl
    exact .rowp (bt hl) (hn n (by simpa using hc))
   ·exact .junk _
  ·exact .same _ (fun _ _ _ _ e=>by cases e)
 ·rename_i n b
  split
  ·rename_i hc
   split
   ·rename_i e k l hl
    exact .rowv (bt hl) (hn n (by simpa using hc))
   ·exact .junk _
  ·exact .same _ (fun _ _ _ _ e=>by cases e)
 ·rename_i n
  split
  ·rename_i hc
   split
   ·rename_i t cs hl
    split
    ·rename_i hp
     exact .ptr (bt hl) (hn n (by simpa using hc)) hp
    ·exact .junk _
   ·exact .junk _
  ·exact .same _ (fun _ _ _ _ e=>by cases e)
 ·split
  ·exact .junk _
  ·rename_i ht
   refine .same _ fun n i cs off e=>hr n i cs off e fun hin=>ht ?_
   rw [e]
   simp [DV.du,DV.fv,hin]
theorem l8 {w0:World} {G:GP} {st:St E} {a:Act} {w:World} {g:Gh} (h:Inv T w0 G st a w g) (ns:List Nat):Inv T w0 G (forget ns st) a w g:=by
 unfold forget
 split
 ·exact h
 ·have hnm:=yZ st.mem ns fun x=>fzB st.mem ns x.2
  have hn : ∀ n∈ns,n ∉ (names st.mem).filter fun n => !ns.contains n:=by intro n hn hm; simp [hn] at hm
  refine h.Ki ⟨by simp,?_,?_,?_⟩
  ·show (names _).Nodup
   rw [hnm]
   exact List.Nodup.sublist List.filter_sublist h.nn
  ·intro i hi hi'
   simp only [List.getElem_map]
   refine I6 (by rw [hnm]; exact hn) fun n j cs off e hnn => ?_
   rw [hnm]
   exact List.mem_filter.2 ⟨h.rl i hi n j cs off e,by simpa using hnn⟩
  ·intro n bx hm
   obtain ⟨⟨n0,b0⟩,hx,he⟩:=List.mem_map.1 hm
   cases he
   have hx':=(List.mem_filter.1 hx).1
   refine ⟨b0,hx',?_⟩
   cases b0 with
   | cells t cs =>
    refine .cells t (by simp) fun i hi hi' => ?_
    simp only [List.getElem_map]
    refine I6 (by rw [hnm]; exact hn) fun n j cs' off e hnn => ?_
    obtain ⟨b,vs,h1,h2,h3,h4⟩:=h.mm n0 _ hx'
    have:=(h4 i hi (by omega)).2.2
    rw [e] at this
    simp [DV.ej] at this
   | row e k l=>exact .same _
   | siter s pos=>exact .same _
   | arr t n k l=>exact .same _
end Go.Vm
/- The abstract value machine: values that are seen anew: a nil slice as a row of one's own, a nil pointer as 'nothing or the box itself'. -/
namespace Go.Vm
open Go.Lib
set_option linter.unusedVariables false
variable {K:Type} {E:K→Type}
inductive Zt (K:Type) where
 | int (k:IntKind) | bool | str | slc (k:K)
def Zt.z:Zt K→DV E
 | .int k => .int k 0
 | .bool => .bool false
 | .str => .str []
 | .slc k => .slc k []
inductive Co (K:Type) where
 | tmpRow (t m:Nat) (e:TypeId) (k:K)
 | cellRow (n c m:Nat) (e:TypeId) (k:K)
 | cellSelf (n c:Nat)
 | cellSlc (n c:Nat) (k:K)
 | tmpSlc (t:Nat) (k:K)
 | tmpAny (t:Nat) (k:K)
 | aggSlc (t c:Nat) (k:K)
 | tmpOpt (t:Nat) (zs:List (Zt K))
def kL (n c:Nat) (f:DV E→Option (DV E)) (st:St E):St E :=
 match look st.mem n with
 | some (.cells t cs)=>match f (cs.getD c .junk) with
  | some d=>st.app none ⟨.junk,[],some (ie st.mem n (.cells t (cs.set c d)))⟩
  | none=>st
 | _=>st
def yq (d':DV E):DV E→Option (DV E)
 | .nils=>some d'
 | _=>none
def FC (n:Nat):DV E→Option (DV E)
 | .nilp=>some (.argp n)
 | .ptr m 0=>if m=n then some (.argp n) else none
 | _=>none
def sa:DV E→Bool
 | .nils=>true
 | _=>false
def cellAt (n c:Nat) (mem:Mem E):DV E:=match look mem n with
 | some (.cells _ cs)=>cs.getD c .junk
 | _ => .junk
def BL (x m:Nat) (b:Box E) (mem:Mem E):Mem E:=(m,b) :: cK [x,m] (gY mem [x,m])
def rowAt (d:DV E) (mem:Mem E):Option (Nat×Box E):=match d with
 | .rowp x=>match look mem x with
  | some (.row e k l)=>some (x, .row e k l)
  | _=>none
 | _=>none
def yT (t m:Nat) (st:St E):St E :=
 match rowAt (st.tmps.getD t .junk) st.mem with
 | some (x,b)=>if x=m then st else st.app (some t) ⟨.rowp m,[x,m],some (BL x m b st.mem)⟩
 | none=>st
def Ha (d':DV E):DV E→Option (DV E)
 | .junk=>some d'
 | _=>none
def tJ (n c m:Nat) (st:St E):St E :=
 match rowAt (cellAt n c st.mem) st.mem with
 | some (x,b)=>if x=m∨n=x∨n=m then st else kL n c (Ha (.rowp m)) (st.app none ⟨.junk,[x,m],some (BL x m b st.mem)⟩)
 | none=>st
def CS (c:Nat) (k:K):DV E→Option (DV E)
 | .agg cs=>if sa (cs.getD c .junk)=true then some (.agg (cs.set c (.slc k []))) else none
 | _=>none
def GK (zs:List (Zt K)):DV E→Option (DV E)
 | .nilp=>some (.opt false (zs.map Zt.z))
 | .shp cs=>some (.opt true cs)
 | _=>none
def wj (T:Tab E) (c:Co K) (st:St E):St E :=
 match c with
 | .tmpRow t m e k=>if sa (st.tmps.getD t .junk)=true then st.app (some t) ⟨.rowp m,[m],some (gk st.mem m (.row e k []))⟩ else yT t m st
 | .cellRow n c m e k=>if sa (cellAt n c st.mem)=true∧n≠m then kL n c (yq (.rowp m)) (st.app none ⟨.junk,[m],some (gk st.mem m (.row e k []))⟩) else tJ n c m st
 | .cellSelf n c=>kL n c (FC n) st
 | .cellSlc n c k=>kL n c (yq (.slc k [])) st
 | .tmpSlc t k=>if sa (st.tmps.getD t .junk)=true then st.set t (.slc k []) else st
 | .tmpAny t k=>match T.und k (st.tmps.getD t .junk) with
  | some x=>st.set t (.any k x)
  | none=>st
 | .aggSlc t c k=>match CS c k (st.tmps.getD t .junk) with
  | some d=>st.set t d
  | none=>st
 | .tmpOpt t zs=>match GK zs (st.tmps.getD t .junk) with
  | some d=>st.set t d
  | none=>st
def Au (T:Tab E):List (Co K)→St E→St E
 | [],st=>st
 | c :: cs,st=>Au T cs (wj T c st)
variable {T:Tab E} {P:Program} {w0:World} {G:GP} {st:St E} {a:Act} {w:World} {g:Gh}
theorem oN {d:DV E} (h:sa d=true):d = .nils:=by
 unfold sa at h; split at h
 ·rfl
 ·cases h
theorem C6 (w:World) (row:Option Nat):Kept w w row:=⟨rfl,rfl,rfl,Nat.le_refl _,fun _ _ _=>rfl⟩
theorem qL (h:Inv T w0 G st a w g) (n c:Nat) (f:DV E→Option (DV E))
  (hf : ∀ b d d' v,g n = .pointer (some ⟨b,0,none⟩)→f d=some d'→dt T w (free st.mem g) g d v→dt T w (free st.mem g) g d' v∧d'.ej=true) :
  Inv T w0 G (kL n c f st) a w g:=by
 unfold kL
 split
 ·rename_i t cs hl
  split
  ·rename_i d hd
   obtain ⟨b,vs,h1,h2,h3,h4⟩:=h.mm n _ (bt hl)
   refine h.write n (.cells t (cs.set c d)) (bp hl) (C6 w _) ?_ (rA h h1) none .junk undef (Rep.junk _).toT (fun _ _ _ _ e=>by cases e)
   refine ⟨b,vs,h1,h2,by simpa using h3,fun i hi hi' => ?_⟩
   have hi0:i<cs.length:=by simpa using hi
   obtain ⟨p1,p2,p3⟩:=h4 i hi0 hi'
   by_cases hic:c=i
   ·subst hic
    simp only [List.getElem_set_self]
    rw [dV _ _ _ hi0] at hd
    obtain ⟨q1,q2⟩:=hf b _ _ _ h1 hd p1
    exact ⟨q1,p2,q2⟩
   ·simp only [List.getElem_set_ne hic]
    exact ⟨p1,p2,p3⟩
  ·exact h
 ·exact h
theorem mF (a:Act) (t:Nat) (h:t<a.tmps.size):a.put (some t) (a.tmps.getD t undef)=a:=by
 have:a.tmps.setIfInBounds t (a.tmps.getD t undef)=a.tmps:=by
  apply Array.ext
  ·simp
  ·intro i h1 h2
   by_cases e:t=i
   ·subst e; simp [h]
   ·exact Array.getElem_setIfInBounds_ne h2 e
 cases a
 exact congrArg (fun q=>Act.mk q _) this
theorem Fy (h:Inv T w0 G st a w g) {x m:Nat} {e:TypeId} {k:K} {l:List (E k)} (hl:look st.mem x=some (.row e k l)) (dst:Option Nat) (d:DV E) (v:Value)
  (hd : ∀ g' X,g'.f m=g x→aB T w X g' d v) (hdl : ∀ k j cs off,d ≠ .rptr k j cs off) :
  Inv T w0 G (st.app dst ⟨d,[x,m],some (BL x m (.row e k l) st.mem)⟩) (a.put dst v) w (fH g [(m, .row e k l,g x)]):=by
 have hr:aP T w (free st.mem g) e k l (g x):=h.mm x _ (bt hl)
 have hm:Ba st w g w [(m, .row e k l,g x)] [x,m] [x,m] (blk (g x)).toList:=by
  refine ⟨by simp [bB],fun n hn => ?_,?_,fun b hb => ?_,fun b hb=>⟨x,by simp,bp hl,by simpa using hb⟩,fun y hy => .inr ?_,fun n hn => .inl hn,fun n hn => .inl hn,jD.refl _ w⟩
  ·simp [bB] at hn; simp [hn]
  ·simp only [dY,List.flatMap_cons,List.flatMap_nil,List.append_nil]
   cases blk (g x) <;> simp
  ·simp only [dY,List.flatMap_cons,List.flatMap_nil,List.append_nil] at hb
   exact ⟨(h.bo b (aD.2 ⟨x,bp hl,by simpa using hb⟩)).1, .inr hb⟩
  ·simp at hy; simp [hy]
 have hg:fH g [(m, .row e k l,g x)] m=g x:=by simp [fH,Cp]
 have hX:=hm.X h
 have:=Inv.I7 hm h (fun y hy=>by
  simp only [List.mem_singleton] at hy
  subst hy
  exact (show aP T w _ e k l (g x) from hr.mono (fun b hb hlt=>⟨(hX b hb hlt).1,hlt,rfl⟩) fun _ _=>rfl)) dst d v (hd _ _ hg) hdl
 exact this
theorem H2 (c:Co K) (h:Inv T w0 G st a w g) : ∃ g',Inv T w0 G (wj T c st) a w g':=by
 have hren : ∀ (n:Nat) (e:TypeId) (k:K) (dst:Option Nat) (d:DV E) (v:Value) (hd:aB T w (free (gk st.mem n (.row e k [])) (upd g n (.slice none 0 0))) (upd g n (.slice none 0 0)) d v) (hdl : ∀ k j cs off,d ≠ .rptr k j cs off),
   Inv T w0 G (st.app dst ⟨d,[n],some (gk st.mem n (.row e k []))⟩) (a.put dst v) w (upd g n (.slice none 0 0)):=by
  intro n e k dst d v hd hdl
  exact h.renew n (.row e k []) _ none (Kept.refl w) (fun _ h=>by cases h) (fun b hb=>by cases hb) (aP.mk' (kX w e (T.sz k)) (.nil k)) dst d v hd (fun a b c d e=>absurd e (hdl a b c d))
 cases c with
 | tmpRow t m e k =>
  simp only [wj]
  split
  ·rename_i hn
   have hd:=oN hn
   have hlt:t<st.tmps.length:=by
    rcases Nat.lt_or_ge t st.tmps.length with h' | h'
    ·exact h'
    ·rw [List.getD_eq_getElem?_getD,List.getElem?_eq_none h'] at hd; cases hd
   have hr:=h.tm t hlt
   rw [dV _ _ _ hlt] at hd
   rw [hd] at hr
   have hv:=iR hr
   have:=hren m e k (some t) (.rowp m) (.slice none 0 0) (by show _=upd g m _ m; rw [fR]) (fun _ _ _ _ e=>by cases e)
   rw [← hv,mF a t (by rw [h.tl]; exact hlt)] at this
   exact ⟨_,this⟩
  ·unfold yT
   split
   ·rename_i x b hb
    split
    ·exact ⟨g,h⟩
    ·unfold rowAt at hb
     split at hb
     ·rename_i x' hd
      split at hb
      ·rename_i e' k' l' hl
       cases hb
       have hlt:t<st.tmps.length:=by
        rcases Nat.lt_or_ge t st.tmps.length with h' | h'
        ·exact h'
        ·rw [List.getD_eq_getElem?_getD,List.getElem?_eq_none h'] at hd; cases hd
       have hr:=h.tm t hlt
       rw [dV _ _ _ hlt] at hd
       rw [hd] at hr
       have hv:a.tmps.getD t undef=g x:=hr
       have:=Fy (m:=m) h hl (some t) (.rowp m) (a.tmps.getD t undef) (fun g' X e=>by show _=g'.f m; rw [e]; exact hv) (fun _ _ _ _ e=>by cases e)
       rw [mF a t (by rw [h.tl]; exact hlt)] at this
       exact ⟨_,this⟩
      ·cases hb
     ·cases hb
   ·exact ⟨g,h⟩
 | cellRow n c m e k =>
  simp only [wj]
  split
  ·rename_i hc
   have h1:=hren m e k none .junk undef (Rep.junk _).toT (fun _ _ _ _ e=>by cases e)
   refine ⟨_,qL (a:=a) h1 n c _ ?_⟩
   intro b d d' v hg hf hr
   unfold yq at hf
   split at hf
   ·cases hf
    have hv:=iR (aB.of1 hr)
    refine ⟨?_,rfl⟩
    show v=upd g m _ m
    rw [fR]; exact hv
   ·cases hf
  ·unfold tJ
   split
   ·rename_i x b hb
    split
    ·exact ⟨g,h⟩
    ·rename_i hne
     simp only [not_or] at hne
     unfold rowAt at hb
     split at hb
     ·rename_i x' hd
      split at hb
      ·rename_i e' k' l' hl
       cases hb
       have h1:=Fy (m:=m) h hl none .junk undef (fun g' X e=>(Rep.junk _).toT) (fun _ _ _ _ e=>by cases e)
       -- what the cell holds
       unfold cellAt at hd
       split at hd
       ·rename_i t cs hln
        obtain ⟨b,vs,p1,p2,p3,p4⟩:=h.mm n _ (bt hln)
        have hlt:c<cs.length:=by
         rcases Nat.lt_or_ge c cs.length with h' | h'
         ·exact h'
         ·rw [List.getD_eq_getElem?_getD,List.getElem?_eq_none h'] at hd; cases hd
        have hv:vs[c]'(by omega)=g x:=by
         have:=(p4 c hlt (by omega)).1
         rw [dV _ _ _ hlt] at hd
         rw [hd] at this
         exact this
        have hgn:fH g [(m, .row e' k' l',g x)] n=g n:=re (by simp [bB,hne.2.2])
        unfold kL
        split
        ·rename_i t2 cs2 hl2
         split
         ·rename_i d2 hd2
          refine ⟨_,Inv.write (a:=a) (dst:=none) (d := .junk) (v:=undef) h1 n _ (bp hl2) (C6 w _) ?_ (rA h1 (by rw [hgn]; exact p1)) (Rep.junk _).toT (fun _ _ _ _ e=>by cases e)⟩
          obtain ⟨b',vs',q1,q2,q3,q4⟩:=h1.mm n _ (bt hl2)
          rw [hgn,p1] at q1
          cases q1
          rw [p2] at q2
          cases q2
          refine ⟨b,vs,by rw [hgn]; exact p1,p2,by simpa using q3,fun i hi hi' => ?_⟩
          have hi0:i<cs2.length:=by simpa using hi
          obtain ⟨r1,r2,r3⟩:=q4 i hi0 hi'
          by_cases hic:c=i
          ·subst hic
           simp only [List.getElem_set_self]
           unfold Ha at hd2
           split at hd2
           ·cases hd2
            refine ⟨?_,r2,rfl⟩
            show vs[c]=fH g _ m
            rw [hv]; simp [fH,Cp]
           ·cases hd2
          ·simp only [List.getElem_set_ne hic]
           exact ⟨r1,r2,r3⟩
         ·exact ⟨_,h1⟩
        ·exact ⟨_,h1⟩
       ·cases hd
      ·cases hb
     ·cases hb
   ·exact ⟨g,h⟩
 | cellSelf n c =>
  refine ⟨g,qL h n c _ ?_⟩
  intro b d d' v hg hf hr
  unfold FC at hf
  split at hf
  ·cases hf
   exact ⟨⟨b,hg, .inl (kZ (aB.of1 hr))⟩,rfl⟩
  ·split at hf
   ·rename_i e
    subst e
    cases hf
    obtain ⟨b',h1,h2⟩:=hr
    exact ⟨⟨b',h1, .inr h2⟩,rfl⟩
   ·cases hf
  ·cases hf
 | cellSlc n c k =>
  refine ⟨g,qL h n c _ ?_⟩
  intro b d d' v hg hf hr
  unfold yq at hf
  split at hf
  ·cases hf
   have hv:=iR (aB.of1 hr)
   rw [hv]
   exact ⟨Rep.slcn k,rfl⟩
  ·cases hf
 | tmpSlc t k =>
  simp only [wj]
  split
  ·rename_i hn
   have hd:=oN hn
   have hlt:t<st.tmps.length:=by
    rcases Nat.lt_or_ge t st.tmps.length with h' | h'
    ·exact h'
    ·rw [List.getD_eq_getElem?_getD,List.getElem?_eq_none h'] at hd; cases hd
   have hr:=h.tm t hlt
   rw [dV _ _ _ hlt] at hd
   rw [hd] at hr
   have hv:=iR hr
   have:=h.put (some t) (d := .slc k []) (v := .slice none 0 0) (Rep.slcn k) (fun _ _ _ _ e=>by cases e)
   rw [← hv,mF a t (by rw [h.tl]; exact hlt)] at this
   exact ⟨g,this⟩
  ·exact ⟨g,h⟩
 | tmpAny t k =>
  simp only [wj]
  split
  ·rename_i x hx
   have hd:=T.und_ok k _ x hx
   have hp:=T.dyn_pl k x
   have hlt:t<st.tmps.length:=by
    rcases Nat.lt_or_ge t st.tmps.length with h' | h'
    ·exact h'
    ·rw [List.getD_eq_getElem?_getD,List.getElem?_eq_none h'] at hd
     rw [hd] at hp
     cases hp
   have hr:=h.tm t hlt
   rw [dV _ _ _ hlt] at hd
   rw [← hd] at hr
   have hq:=hr.plain (by revert hp; generalize T.dyn k x=d; cases d <;> simp [DV.share,DV.lay,DV.plain])
   have:=h.put (some t) (d := .any k x) (v:=a.tmps.getD t undef) (Rep.any hq) (fun _ _ _ _ e=>by cases e)
   rw [mF a t (by rw [h.tl]; exact hlt)] at this
   exact ⟨g,this⟩
  ·exact ⟨g,h⟩
 | aggSlc t c k =>
  simp only [wj]
  split
  ·rename_i d hd
   unfold CS at hd
   split at hd
   ·rename_i cs hcs
    split at hd
    ·rename_i hn
     cases hd
     have hnn:=oN hn
     have hlt:t<st.tmps.length:=by
      rcases Nat.lt_or_ge t st.tmps.length with h' | h'
      ·exact h'
      ·rw [List.getD_eq_getElem?_getD,List.getElem?_eq_none h'] at hcs
       cases hcs
     have hr:=h.tm t hlt
     rw [dV _ _ _ hlt] at hcs
     rw [hcs] at hr
     have hr:Rep T w (free st.mem g) (.agg cs) (a.tmps.getD t undef):=hr
     have hq:Rep T w (free st.mem g) (.agg (cs.set c (.slc k []))) (a.tmps.getD t undef):=by
      generalize a.tmps.getD t undef=v at hr
      cases hr with
      | agg hl hc =>
       refine Rep.agg (by simpa using hl) fun i hi hi' => ?_
       have hi0:i<cs.length:=by simpa using hi
       by_cases e:c=i
       ·subst e
        rw [dV _ _ _ hi0] at hnn
        have:=hc c hi0 hi'
        rw [hnn] at this
        simp only [List.getElem_set_self]
        have hs : ∀ u:Value,Rep T w (free st.mem g) (.nils:DV E) u→Rep T w (free st.mem g) (.slc k []) u:=fun u hu=>by cases hu; exact Rep.slcn k
        exact hs _ this
       ·simp only [List.getElem_set_ne e]
        exact hc i hi0 hi'
     have:=h.put (some t) (d := .agg (cs.set c (.slc k []))) (v:=a.tmps.getD t undef) hq.toT (fun _ _ _ _ e=>by cases e)
     rw [mF a t (by rw [h.tl]; exact hlt)] at this
     exact ⟨g,this⟩
    ·cases hd
   ·cases hd
  ·exact ⟨g,h⟩
 | tmpOpt t zs =>
  simp only [wj]
  split
  ·rename_i d hd
   have hlt:t<st.tmps.length:=by
    rcases Nat.lt_or_ge t st.tmps.length with h' | h'
    ·exact h'
    ·rw [List.getD_eq_getElem?_getD,List.getElem?_eq_none h'] at hd; cases hd
   have hr:=h.tm t hlt
   rw [dV _ _ _ hlt] at hd
   have hq:aB T w (free st.mem g) g d (a.tmps.getD t undef):=by
    unfold GK at hd
    split at hd
    ·rename_i e
     cases hd
     rw [e] at hr
     rw [kZ hr]
     exact Rep.optn _
    ·rename_i cs e
     cases hd
     rw [e] at hr
     exact Rep.opts hr
    ·cases hd
   have:=h.put (some t) (d:=d) (v:=a.tmps.getD t undef) hq (fun _ _ _ _ e=>by
    unfold GK at hd
    split at hd <;> cases hd <;> cases e)
   rw [mF a t (by rw [h.tl]; exact hlt)] at this
   exact ⟨g,this⟩
  ·exact ⟨g,h⟩
theorem yd : ∀ (cs:List (Co K)) {st:St E} {g:Gh},Inv T w0 G st a w g → ∃ g',Inv T w0 G (Au T cs st) a w g'
 | [],st,g,h=>⟨g,h⟩
 | c :: cs,st,g,h=>by
  obtain ⟨g1,h1⟩:=H2 c h
  exact yd cs h1
theorem Fg (c:Co K) (st:St E):(wj T c st).tmps.length=st.tmps.length:=by
 have hs : ∀ n c f (st:St E),(kL n c f st).tmps.length=st.tmps.length:=by
  intro n c f st
  unfold kL
  split
  ·split
   ·simp [St.app]
   ·rfl
  ·rfl
 have hr : ∀ t m (st:St E),(yT t m st).tmps.length=st.tmps.length:=by
  intro t m st
  unfold yT
  split
  ·split
   ·rfl
   ·simp [St.app]
  ·rfl
 have hc : ∀ n c m (st:St E),(tJ n c m st).tmps.length=st.tmps.length:=by
  intro n c m st
  unfold tJ
  split
  ·split
   ·rfl
   ·rw [hs]; simp [St.app]
  ·rfl
 cases c <;> simp only [wj] <;> (try split) <;> simp [hs,hr,hc,St.app,St.set]
theorem AD : ∀ (cs:List (Co K)) (st:St E),(Au T cs st).tmps.length=st.tmps.length
 | [],st=>rfl
 | c :: cs,st=>by rw [Au,AD cs,Fg]
end Go.Vm
