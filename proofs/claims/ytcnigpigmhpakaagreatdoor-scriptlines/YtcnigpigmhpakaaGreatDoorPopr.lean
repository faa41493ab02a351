import Derived.Test.YtcnigpigmhpakaaGreatDoorPsc7
import Derived.Test.YtcnigpigmhpakaaGreatDoorKt
/- Acts as lines: the document parses; lines are written and read. No condition but on lengths. -/
namespace Go.Vm
open Go.Proofs
open Go.Lib (decodeL decDigits itoa validD)
set_option linter.unusedVariables false
set_option linter.unusedSimpArgs false
/-! ### the document's kind -/
def kf (h:By):Nat→Nat→Int→Int
 | 0,_,c=>c
 | n+1,i,c=>kf h n (i+1) (if aH.getD i []=h then (i:Int) else c)
theorem CA (h:By) (hn : ∀ i,i<14→aH.getD i []≠h) : ∀ (n i:Nat) (c:Int),i+n≤14→kf h n i c=c
 | 0,_,c,_=>rfl
 | n+1,i,c,hi=>by
  unfold kf
  rw [if_neg (hn i (by omega)),CA h hn n (i+1) c (by omega)]
theorem IL : ∀ k:Fin 14,kf (aH.getD k.val []) 14 0 (-1)=(k.val:Int):=by decide +kernel
theorem IM (h:By):kf h 14 0 (-1)=xo h:=by
 unfold xo
 cases hf:aH.findIdx? (fun x=>decide (x=h)) with
 | none =>
  simp only
  refine CA h (fun i hi e => ?_) 14 0 (-1) (by omega)
  have hlt:i<aH.length:=by rw [mJ]; exact hi
  have:=List.findIdx?_eq_none_iff.1 hf aH[i] (List.getElem_mem hlt)
  rw [List.getD_eq_getElem?_getD,List.getElem?_eq_getElem hlt] at e
  rw [decide_eq_false_iff_not] at this
  exact this e
 | some k =>
  have hk:=yh hf
  obtain ⟨hlt,hp,_⟩:=List.findIdx?_eq_some_iff_getElem.1 hf
  have e:aH.getD k []=h:=by
   rw [List.getD_eq_getElem?_getD,List.getElem?_eq_getElem hlt]
   simpa using hp
  have:=IL ⟨k,hk⟩
  simp only [e] at this
  exact this
theorem u3 (s h rest:By) (z:AcT) (T:Int×Int×Int×Int×Int×Int×By×By×By×By×Unit) : ∀ (n i:Nat) (c:Int),i+n=14 →
  af dL (s,(),h,rest,(),(i:Int),z,(c,T),()) (s,(),rest,(),z,(kf h n i c,T),())
 | 0,i,c,hi=>by
  refine af.fin (.of fun F => ?_)
  unfold dL
  rw [if_neg (by rw [decide_eq_true_eq]; simp only; omega)]
  rfl
 | n+1,i,c,hi=>by
  have hw:IntKind.i64.wrap ((i:Int)+1)=((i+1:Nat):Int):=dn i (by omega)
  refine af.step ?_ (u3 s h rest z T n (i+1) _ (by omega))
  unfold dL
  refine ae.pos (by rw [decide_eq_true_eq]; simp only; omega) ?_
  refine ae.bind (r:=(s,(),h,rest,(),(i:Int),z,((if aH.getD i []=h then (i:Int) else c),T),())) (ae.bind (.of fun F=>r6 F (i:Int)) ?_) (.of fun F=>by simp only [hw])
  rw [if_neg (show ¬((i:Int)<0∨14≤(i:Int)) by omega),Int.toNat_natCast]
  by_cases he:aH.getD i []=h
  ·rw [if_pos he]
   exact ae.pos (decide_eq_true he) (.ret _)
  ·rw [if_neg he]
   exact ae.neg (by simpa using he) (.ret _)
theorem wV (s:By) (z y:AcT) : ∀ (n i:Nat) (rest:By) (l:List By),i+n=8→l.length≤i→rest.length≤1000000 →
  af cI (s,(),rest,(),(),(i:Int),l,z,y,()) (s,(),(),(),l ++ oz n rest,z,y,())
 | 0,i,rest,l,hi,hl,hr=>by
  refine af.fin ?_
  unfold cI oz
  refine ae.bind (ae.neg (by rw [decide_eq_true_eq]; simp only; omega) (.ret _)) (ae.neg (by simp) (.of fun F => ?_))
  simp
 | n+1,i,rest,l,hi,hl,hr=>by
  have hw:IntKind.i64.wrap ((i:Int)+1)=((i+1:Nat):Int):=dn i (by omega)
  have hd:=lv rest false false []
  unfold oz
  by_cases h0:rest = []
  ·subst h0
   rw [if_pos rfl]
   refine af.fin ?_
   unfold cI
   refine ae.bind (ae.pos (by rw [decide_eq_true_eq]; simp only; omega) (.ret _)) (ae.neg (by simp) (.of fun F => ?_))
   simp
  ·rw [if_neg h0]
   have ih:=wV s z y n (i+1) (eA false false [] rest).2 (l ++ [(eA false false [] rest).1]) (by omega) (by simp; omega) (by omega)
   rw [List.append_assoc] at ih
   refine af.step ?_ ih
   unfold cI
   refine ae.bind (ae.pos (by rw [decide_eq_true_eq]; simp only; omega) (.ret _)) (ae.pos (by simpa using h0) ?_)
   refine ae.bind (A2 rest hr) (ae.pos (by rw [decide_eq_true_eq]; simp; omega) (.of fun F => ?_))
   simp only [hw]
theorem zF {α:Type} (f:By→α) (z:α) (hz:f []=z) (m:Nat) (l:List By) (i:Nat) (hl:l.length≤m) (hi:i<m):jw (jl f z m l.length l) i=some (f (l.getD i [])):=by
 by_cases h:i<l.length
 ·exact yy f z m l i h
 ·unfold jw jl
  rw [List.take_length,List.getElem?_append_right (by simp; omega),List.getElem?_replicate,if_pos (by simp; omega),List.getD_eq_getElem?_getD,List.getElem?_eq_none (by omega)]
  exact congrArg some hz.symm
theorem xz (s:By) (l:List By) (z y:AcT) (hl:l.length≤8) (hp : ∀ p∈l,p.length≤1000) : ∀ (n i:Nat),i+n=l.length →
  af dM (s,(),(),(),(),(),(i:Int),l,z,y,jl nvP 0 8 i l,jl tvP [] 8 i l,()) (s,(),(),(),(),z,y,jl nvP 0 8 l.length l,jl tvP [] 8 l.length l,())
 | 0,i,h=>by
  refine af.fin (.of fun F => ?_)
  unfold dM
  rw [if_neg (by rw [decide_eq_true_eq]; simp only; omega)]
  have:i=l.length:=by omega
  subst this
  rfl
 | n+1,i,h=>by
  have hi:i<l.length:=by omega
  have hw:IntKind.i64.wrap ((i:Int)+1)=((i+1:Nat):Int):=dn i (by omega)
  have hx:=uU l i (i:Int) rfl hi
  have hpl:=hp l[i] (List.getElem_mem hi)
  have hc:(decide (0≤(i:Int)) && decide ((i:Int)<8))=true:=by
   rw [Bool.and_eq_true,decide_eq_true_eq,decide_eq_true_eq]; omega
  refine af.step ?_ (xz s l z y hl hp n (i+1) (by omega))
  have ho:=EN l[i]
  unfold dM
  refine ae.pos (by rw [decide_eq_true_eq]; simp only; omega) (ae.bind (ae.bind (.of fun F=>hx) (ae.bind (KG l[i] hpl) (.ret _))) (ae.pos hc ?_))
  have a1:sx (jl nvP 0 8 i l) ((i:Int).toNat) ((ofP l[i]).1.2.2.2.1)=some (jl nvP 0 8 (i+1) l):=by rw [ho.2.2.1]; exact tZ nvP 0 8 i l hi (by omega)
  have a2:sx (jl tvP [] 8 i l) ((i:Int).toNat) ((ofP l[i]).1.2.2.1)=some (jl tvP [] 8 (i+1) l):=by rw [ho.2.1]; exact tZ tvP [] 8 i l hi (by omega)
  refine ae.bind (.of fun F=>a1) (ae.pos hc (ae.bind (.of fun F=>a2) (.of fun F => ?_)))
  simp only [hw]
def yK (r:Option di):AcT×Bool:=match r with
 | none=>(zAc,false)
 | some x=>(ofA x,true)
theorem zK (s:By) (hs:s.length≤1000):ae (fun F=>dI F s) (yK (tE validD nvP tvP s)):=by
 unfold dI tE
 refine ae.bind (A2 s (by omega)) ?_
 obtain ⟨v1,v2⟩:=lv s false false []
 generalize eA false false [] s=V at v1 v2 ⊢
 obtain ⟨w,rest⟩:=V
 simp only [List.length_nil,Nat.zero_add] at v1 v2
 obtain ⟨p1,p2⟩:=Df 8 rest
 refine ae.bind (u3 s w rest zAc _ 14 0 (-1) rfl).run ?_
 rw [IM]
 refine ae.bind (wV s zAc _ 8 0 rest [] rfl (Nat.le_refl _) (by omega)).run ?_
 rw [List.nil_append]
 simp only
 generalize hl:oz 8 rest=l at p1 p2 ⊢
 refine ae.bind (xz s l zAc _ p1 (fun p hp=>by have:=p2 p hp; omega) l.length 0 (by omega)).run ?_
 have gN : ∀ i,i<8→jw (jl nvP 0 8 l.length l) i=some (nvP (l.getD i [])):=fun i hi=>zF nvP 0 Hv 8 l i p1 hi
 have gT : ∀ i,i<8→jw (jl tvP [] 8 l.length l) i=some (tvP (l.getD i [])):=fun i hi=>zF tvP [] HW 8 l i p1 hi
 generalize jl nvP 0 8 l.length l=A at gN ⊢
 generalize jl tvP [] 8 l.length l=B at gT ⊢
 unfold xo
 cases hf:aH.findIdx? (fun x=>decide (x=w)) with
 | none=>exact ae.pos rfl (.ret _)
 | some k =>
 simp only
 have hk:=yh hf
 have hu3:=lV k
 refine ae.neg (by rw [decide_eq_true_eq]; omega) (ae.bind (.of fun F=>rH F (k:Int)) ?_)
 rw [kW]
 refine ae.bind (r:=(s,(),(),(),(),((bn k:Nat):Int),zAc,((k:Int),(if 1≤bn k then nvP (l.getD 0 []) else 0),0,0,0,0,0,[],[],[],[],()),A,B,())) ?_ ?_
 ·by_cases h:1≤bn k
  ·rw [if_pos h]
   exact ae.pos (by rw [decide_eq_true_eq]; omega) (ae.bind (.of fun F=>gN 0 (by omega)) (.ret _))
  ·rw [if_neg h]
   exact ae.neg (by rw [decide_eq_true_eq]; omega) (.ret _)
 refine ae.bind (r:=(s,(),(),(),(),((bn k:Nat):Int),zAc,((k:Int),(if 1≤bn k then nvP (l.getD 0 []) else 0),(if 2≤bn k then nvP (l.getD 1 []) else 0),0,0,0,0,[],[],[],[],()),A,B,())) ?_ ?_
 ·by_cases h:2≤bn k
  ·rw [if_pos h]
   exact ae.pos (by rw [decide_eq_true_eq]; simp only; omega) (ae.bind (.of fun F=>gN 1 (by omega)) (.ret _))
  ·rw [if_neg h]
   exact ae.neg (by rw [decide_eq_true_eq]; simp only; omega) (.ret _)
 refine ae.bind (r:=(s,(),(),(),(),zAc,((k:Int),(if 1≤bn k then nvP (l.getD 0 []) else 0),(if 2≤bn k then nvP (l.getD 1 []) else 0),(if 3≤bn k then nvP (l.getD 2 []) else 0),0,0,0,[],[],[],[],()),A,B,())) ?_ ?_
 ·by_cases h:3≤bn k
  ·rw [if_pos h]
   exact ae.pos (by rw [decide_eq_true_eq]; simp only; omega) (ae.bind (.of fun F=>gN 2 (by omega)) (.ret _))
  ·rw [if_neg h]
   exact ae.neg (by rw [decide_eq_true_eq]; simp only; omega) (.ret _)
 refine ae.bind (r:=(s,(),(),zAc,ofA (lu nvP tvP k l),())) ?_ ?_
 ·by_cases h0:k=0
  ·subst h0
   refine ae.pos rfl (.of fun F => ?_)
   simp only [gN 1 (by omega),gT 2 (by omega),gT 3 (by omega),gT 4 (by omega),gT 5 (by omega),Option.bind_some]
   rfl
  ·refine ae.neg (by simpa using h0) (.of fun F => ?_)
   unfold lu ofA
   simp only [if_neg h0]
 obtain ⟨_,_,_,_,f1,f2,f3,f4⟩:=CN k l
 have hH:=B3 (lu nvP tvP k l) f1 f2 f3 f4
 have hP:=vr (lu nvP tvP k l)
 generalize lu nvP tvP k l=x at hH hP ⊢
 cases hh:ew validD x with
 | false =>
  rw [hh] at hH
  rw [if_neg (show ¬(false=true∧aT x=s) by simp)]
  refine ae.bind (r:=((),(),true,zAc,ofA x,())) (ae.bind hH (ae.neg (by simp) (.ret _))) (ae.pos rfl (.ret _))
 | true =>
  rw [hh] at hH
  refine ae.bind (r:=((),(), !decide (aT x=s),zAc,ofA x,())) (ae.bind hH (ae.pos rfl (ae.bind (hP hh) (.ret _)))) ?_
  by_cases he:aT x=s
  ·rw [show (if true=true∧aT x=s then some x else none)=some x from if_pos ⟨rfl,he⟩]
   exact ae.neg (by simpa using he) (.ret _)
  ·rw [show (if true=true∧aT x=s then some x else none)=none from if_neg (fun h=>he h.2)]
   exact ae.pos (by simpa using he) (.ret _)
end Go.Vm
/- Data that came in, opened as values of the machine, with the numbers in their kinds' range. No condition. -/
namespace Go.Vm
open Go.Lib Go.RowKit
set_option linter.unusedVariables false
inductive OkD:DV El→Prop
 | int {k:IntKind} {n:Int} (h:(Lit.int k n).wf=true):OkD (.int k n)
 | bool (b:Bool):OkD (.bool b)
 | str (s:B8):OkD (.str s)
 | slc {k:Kd} {l:List (El k)} (h : ∀ y∈l, ∀ d∈Kd.enc k y,OkD d):OkD (.slc k l)
section
variable {S:Value→Prop} {kt:KT} {H:Type} {enc:TypeId×Value→H} {P:Program} {w:World} {base:Nat} {sp:Nat→Bool} {held:Bool}
def ni (S:Value→Prop) (kt:KT) (enc:TypeId×Value→H) (P:Program) (w:World) (base:Nat) (sp:Nat→Bool) (held:Bool) (t:TypeId) (ss:List (S0 Kd)):Prop :=
 ∀ fuel cs d,DataW.trod enc P w base sp held fuel t cs=some d→(∀ c∈cs,S c) → ∃ x:tyL El ss,jA kt w (fun _=>True) (fO ss x) cs ∧ ∀ d∈fO ss x,OkD d
theorem dC {t:TypeId} {k:IntKind} (ht:P.underlying t=some (.int k)) (hk:k ≠ .u8):ni S kt enc P w base sp held t [.int k]:=by
 intro fuel cs d h _
 obtain ⟨n,rfl,_,hw⟩:=DataW.trod_int ht h
 refine ⟨(n,()), .cons (.int ?_) .nil,fun d hd=>by obtain rfl:=List.mem_singleton.1 hd; exact .int hw⟩
 cases k <;> first | rfl | exact absurd rfl hk
theorem gy {t:TypeId} (ht:P.underlying t=some .string):ni S kt enc P w base sp held t [.str]:=by
 intro fuel cs d h _
 obtain ⟨s,rfl,_⟩:=DataW.trod_string ht h
 exact ⟨(s.data.toList,()), .cons (qK s) .nil,fun d hd=>by obtain rfl:=List.mem_singleton.1 hd; exact .str _⟩
inductive bF (S:Value→Prop) (kt:KT) (enc:TypeId×Value→H) (P:Program) (w:World) (base:Nat) (sp:Nat→Bool) (held:Bool):List Field→Nat→List (S0 Kd)→Prop
 | nil (off:Nat):bF S kt enc P w base sp held [] off []
 | cons {f:Field} {fs:List Field} {off:Nat} {s s':List (S0 Kd)} (ho:f.offset=off) (hc:P.cellsOf f.type=s.length) (h:ni S kt enc P w base sp held f.type s) (hs:bF S kt enc P w base sp held fs (off+s.length) s') :
   bF S kt enc P w base sp held (f :: fs) off (s ++ s')
theorem Bb {fs:List Field} {off:Nat} {ss:List (S0 Kd)} (h:bF S kt enc P w base sp held fs off ss) : ∀ (cs:List Value) (fuel:Nat) (xs:List (DataW H×List MemPlace)),(∀ c∈cs,S c)→cs.length=off+ss.length→xs.length=fs.length →
  (∀ (i:Nat) (f:Field),fs[i]? = some f→DataW.trod enc P w base sp held fuel f.type ((cs.drop f.offset).take (P.cellsOf f.type))=xs[i]?) → ∃ x:tyL El ss,jA kt w (fun _=>True) (fO ss x) (cs.drop off) ∧ ∀ d∈fO ss x,OkD d:=by
 induction h with
 | nil off =>
  intro cs fuel xs _ hl hx h
  refine ⟨(),?_,fun d hd=>by cases hd⟩
  rw [List.drop_of_length_le (by simp at hl; omega)]
  exact .nil
 | @cons f fs off s s' ho hc h hs ih =>
  intro cs fuel xs hsp hl hx hf
  cases xs with
  | nil=>simp at hx
  | cons x xs =>
   have h0:=hf 0 f rfl
   rw [ho,hc] at h0
   obtain ⟨x1,r1,g1⟩:=h fuel _ x h0 (fun c hcm=>hsp c (List.mem_of_mem_drop (List.mem_of_mem_take hcm)))
   obtain ⟨x2,r2,g2⟩:=ih cs fuel xs hsp (by rw [hl,List.length_append]; omega) (by simpa using hx) (fun i g hg=>hf (i+1) g hg)
   refine ⟨Gl s x1 x2,?_,fun d hd => ?_⟩
   case refine_2 =>
    rw [sL] at hd
    rcases List.mem_append.1 hd with hd | hd
    ·exact g1 d hd
    ·exact g2 d hd
   rw [sL]
   have e:cs.drop off=(cs.drop off).take s.length ++ cs.drop (off+s.length):=by
    rw [← List.drop_drop,List.take_append_drop]
   rw [e]
   exact r1.append r2
theorem jK {t:TypeId} {fs:Array Field} {ss:List (S0 Kd)} (ht:P.underlying t=some (.struct fs)) (hc:P.cellsOf t=ss.length) (h:bF S kt enc P w base sp held fs.toList 0 ss):ni S kt enc P w base sp held t ss:=by
 intro fuel cs d hd hsp
 obtain ⟨xs,m,rfl,_,hl,hxl,hfs⟩:=DataW.trod_struct ht hd
 have:=Bb h cs m xs hsp (by rw [hl,hc]; omega) (by simpa using hxl) (fun i f hf=>hfs i f (by simpa using hf))
 simpa using this
theorem yb {t e:TypeId} {ss:List (S0 Kd)} (k:Kd) (ht:P.underlying t=some (.slice e)) (hc:P.cellsOf e=ss.length) (hk:Kd.sz k=ss.length) (hpos:0<ss.length) (h:ni S kt enc P w base sp held e ss)
  (mk:tyL El ss→El k) (hmk : ∀ x,Kd.enc k (mk x)=fO ss x) (hcell : ∀ a v,w.cell? a=some v→S v) {S':Value→Prop}:ni S' kt enc P w base sp held t [.slc k]:=by
 intro fuel cs d hd hsp
 rcases DataW.trod_slice ht hd with ⟨rfl,_⟩ | ⟨a,len,cap,elems,rest,n,_,rfl,_,hb,hl,hm,hlen,hel,_⟩
 ·exact ⟨([],()), .cons (.slcn k) .nil,fun d hd=>by obtain rfl:=List.mem_singleton.1 hd; exact .slc fun y hy=>by cases hy⟩
 rcases Nat.eq_zero_or_pos len with h0 | h0
 ·subst h0
  exact ⟨([],()), .cons (.slcz k a cap) .nil,fun d hd=>by obtain rfl:=List.mem_singleton.1 hd; exact .slc fun y hy=>by cases hy⟩
 have hs0:a.spot=none∧a.block<w.heap.size:=by
  have h1:=hel 0 h0
  rw [List.getElem?_eq_getElem (by omega),Option.bind_eq_some_iff] at h1
  obtain ⟨cs',h2,_⟩:=h1
  obtain ⟨_,hcl,hcg⟩:=World.cells?_some h2
  rw [hc] at hcl hcg
  have h3:=hcg 0 hpos
  rw [List.getElem?_eq_getElem (by omega)] at h3
  rw [show (a.add (0 * ss.length)).add 0=a by simp [Addr.add]] at h3
  refine ⟨World.cell?_spot h3,?_⟩
  rcases Nat.lt_or_ge a.block w.heap.size with h' | h'
  ·exact h'
  ·simp [World.cell?,Array.getElem?_eq_none h'] at h3
 obtain ⟨hs1,hs2⟩:=hs0
 obtain ⟨b,off,spot⟩:=a
 simp only at hs1 hs2
 subst hs1
 have add_eq : ∀ j,(⟨b,off,none⟩:Addr).add j=⟨b,off+j,none⟩:=by
  intro j
  unfold Addr.add
  split
  ·rename_i h0; subst h0; rfl
  ·rfl
 have each : ∀ i,i<len → ∃ x:tyL El ss,(∀ d∈fO ss x,OkD d) ∧ ∀ c (hcc:c<(fO ss x).length), ∃ v,w.cell? ⟨b,off+(i * ss.length+c),none⟩=some v∧Rep (aX kt) w (fun _=>True) ((fO ss x)[c]) v:=by
  intro i hi
  have h1:=hel i hi
  rw [List.getElem?_eq_getElem (by omega),Option.bind_eq_some_iff] at h1
  obtain ⟨cs',h2,h3⟩:=h1
  obtain ⟨_,hcl,hcg⟩:=World.cells?_some h2
  rw [hc] at hcl hcg
  have hspc : ∀ c∈cs',S c:=by
   intro c hcm
   obtain ⟨j,hj,rfl⟩:=List.getElem_of_mem hcm
   have:=hcg j (by omega)
   rw [List.getElem?_eq_getElem hj] at this
   exact hcell _ _ this
  obtain ⟨x,rx,gx⟩:=h n cs' _ h3 hspc
  refine ⟨x,gx,fun c hcc => ?_⟩
  have hlen2:=rx.len
  have hcv:c<cs'.length:=by omega
  have:=hcg c (by omega)
  rw [List.getElem?_eq_getElem hcv,add_eq] at this
  refine ⟨cs'[c],?_,rx.get.2 c hcc hcv⟩
  rw [← this]
  unfold Addr.add
  split
  ·rename_i h0; subst h0; rfl
  ·simp only [Nat.add_assoc]
 have hex : ∀ i:Fin len, ∃ y:El k,(∀ d∈Kd.enc k y,OkD d) ∧ ∀ c (hcc:c<(Kd.enc k y).length), ∃ v,w.cell? ⟨b,off+(i.val * ss.length+c),none⟩=some v∧Rep (aX kt) w (fun _=>True) ((Kd.enc k y)[c]) v:=by
  intro i
  obtain ⟨x,gx,hx⟩:=each i.val i.isLt
  have e:=hmk x
  refine ⟨mk x,by rw [e]; exact gx,fun c hcc => ?_⟩
  obtain ⟨v,hv,hr⟩:=hx c (by rw [← e]; exact hcc)
  refine ⟨v,hv,?_⟩
  have:(Kd.enc k (mk x))[c]=(fO ss x)[c]'(by rw [← e]; exact hcc):=by simp only [e]
  rw [this]
  exact hr
 let g:Fin len→El k:=fun i=>Classical.choose (hex i)
 have hgg : ∀ i:Fin len, ∀ d∈Kd.enc k (g i),OkD d:=fun i=>(Classical.choose_spec (hex i)).1
 have hg : ∀ i:Fin len, ∀ c (hcc:c<(Kd.enc k (g i)).length), ∃ v,w.cell? ⟨b,off+(i.val * ss.length+c),none⟩=some v∧Rep (aX kt) w (fun _=>True) ((Kd.enc k (g i))[c]) v:=fun i=>(Classical.choose_spec (hex i)).2
 clear_value g
 have hll:(List.ofFn g).length=len:=List.length_ofFn
 have hsz:(aX kt).sz k=ss.length:=hk
 have hel : ∀ (y:El k),(Kd.enc k y).length=ss.length:=fun y=>((aX kt).enc_len k y).trans hk
 refine ⟨(List.ofFn g,()), .cons ?_ .nil,fun d hd => ?_⟩
 case refine_2 =>
  obtain rfl:=List.mem_singleton.1 hd
  refine .slc fun y hy => ?_
  obtain ⟨i,hi,rfl⟩:=List.getElem_of_mem hy
  rw [List.getElem_ofFn]
  exact hgg _
 have key:=Rep.slc (T:=aX kt) (w:=w) (X:=fun _=>True) (k:=k) (l:=List.ofFn g) (b:=b) (off:=off) cap (fun j=>(w.cell? ⟨b,off+j,none⟩).getD undef) (by rw [hll]; exact hl) (fun _=>⟨trivial,hs2⟩)
  (fun j hj=>by
   rw [hll,hsz] at hj
   have hi:j / ss.length<len:=(Nat.div_lt_iff_lt_mul hpos).2 hj
   obtain ⟨v,hv,_⟩:=hg ⟨j / ss.length,hi⟩ (j % ss.length) (by rw [hel]; exact Nat.mod_lt _ hpos)
   have e:j / ss.length * ss.length+j % ss.length=j:=by rw [Nat.mul_comm]; exact Nat.div_add_mod j ss.length
   simp only [e] at hv
   rw [hv]
   rfl)
  (fun i hi c hcc=>by
   rw [hll] at hi
   have e:(List.ofFn g)[i]'(by rw [hll]; exact hi)=g ⟨i,hi⟩:=by simp
   have hcc':c<(Kd.enc k ((List.ofFn g)[i]'(by rw [hll]; exact hi))).length:=hcc
   rw [e] at hcc'
   obtain ⟨v,hv,hr⟩:=hg ⟨i,hi⟩ c hcc'
   have e2:((aX kt).enc k ((List.ofFn g)[i]'(by rw [hll]; exact hi)))[c]'hcc=(Kd.enc k (g ⟨i,hi⟩))[c]'hcc':=by
    show (Kd.enc k _)[c]'_ = _
    simp only [e]
   rw [e2,hsz]
   simp only at hv
   rw [hv]
   exact hr)
  (fun i hi c hcc=>EK k _ c hcc)
 rw [hll] at key
 exact key
theorem xn {r:Reach} {base':Nat} {t:TypeId} {v:Value} {d:DataW H} {ps:List MemPlace} {ss:List (S0 Kd)} (hop:ni (EY w) kt enc P w base sp held t ss) (hv:Value.okWide P w r base' t v) (h:DataW.Trod enc P w base sp held t v d ps) :
  ∃ x:tyL El ss,jA kt w (fun _=>True) (fO ss x) v.cells.toList ∧ ∀ d∈fO ss x,OkD d:=by
 obtain ⟨fuel,hf⟩:=h
 exact hop fuel _ _ hf (tH hv)
end
end Go.Vm
