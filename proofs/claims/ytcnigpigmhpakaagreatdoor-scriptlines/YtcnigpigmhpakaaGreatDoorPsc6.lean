/- Acts as lines: the program parses a line. No condition but on lengths. -/
import Derived.Test.YtcnigpigmhpakaaGreatDoorPsc5
namespace Go.Vm
open Go.Proofs
open Go.Lib (decodeL decDigits itoa validD)
set_option linter.unusedVariables false
set_option linter.unusedSimpArgs false
/-! ### which word -/
theorem tr (ws:List By) (w:By) (hw:ws.length≤1000000) : ∀ (n i:Nat),i+n=ws.length →
  af bz (ws,w,(ws.length:Int),(i:Int),()) (match (ws.drop i).findIdx? (fun x=>decide (x=w)) with | none => .inl () | some k => .inr (((i+k:Nat):Int),()))
 | 0,i,h=>by
  refine af.fin (.of fun F => ?_)
  unfold bz
  rw [List.drop_of_length_le (by omega),if_neg (by simp; omega)]
  rfl
 | n+1,i,h=>by
  have hi:i<ws.length:=by omega
  have hd:ws.drop i=ws[i] :: ws.drop (i+1):=List.drop_eq_getElem_cons hi
  rw [hd,List.findIdx?_cons]
  have hst : ∀ F,bz F (ws,w,(ws.length:Int),(i:Int),())=if ws[i]=w then some (.inr (.inr ((i:Int),()))) else some (.inl (ws,w,(ws.length:Int),((i+1:Nat):Int),())):=by
   intro F
   unfold bz
   rw [if_pos (by simpa using hi)]
   simp only [uU ws i (i:Int) rfl hi,Option.bind_some,dn i (by omega)]
   by_cases h:ws[i]=w
   ·rw [if_pos (decide_eq_true h.symm),if_pos h]
   ·rw [if_neg (by simpa using fun e=>h e.symm),if_neg h]
  by_cases h:ws[i]=w
  ·rw [if_pos (decide_eq_true h)]
   exact af.fin (.of fun F=>by rw [hst,if_pos h]; rfl)
  ·rw [if_neg (by simpa using h)]
   have ih:=tr ws w hw n (i+1) (by omega)
   refine af.step (.of fun F=>by rw [hst,if_neg h]) ?_
   cases hq:(ws.drop (i+1)).findIdx? (fun x=>decide (x=w)) with
   | none=>rw [hq] at ih; exact ih
   | some k =>
    rw [hq] at ih
    have e:i+(k+1)=i+1+k:=by omega
    show af _ _ (Sum.inr (((i+(k+1):Nat):Int),()))
    rw [e]
    exact ih
def xo (w:By):Int:=match aH.findIdx? (fun x=>decide (x=w)) with
 | none => -1
 | some k=>(k:Int)
theorem GS (w:By):ae (fun F=>cW F (aH,w)) (xo w):=by
 have h:=tr aH w (by decide) 14 0 rfl
 rw [List.drop_zero] at h
 unfold cW xo
 refine ae.bind h.run (.of fun F => ?_)
 cases aH.findIdx? (fun x=>decide (x=w)) with
 | none=>rfl
 | some k=>simp only [eW,Nat.zero_add]
theorem yh {w:By} {k:Nat} (h:aH.findIdx? (fun x=>decide (x=w))=some k):k<14:=by
 have:=(List.findIdx?_eq_some_iff_getElem.1 h).1
 rwa [mJ] at this
/-! ### the pieces' values -/
theorem GM {α:Type} (L:List α) (z v:α) (m:Nat):sx (L ++ List.replicate (m+1) z) L.length v=some (L ++ [v] ++ List.replicate m z):=by
 unfold sx
 rw [if_pos (by simp),List.set_append_right _ _ (Nat.le_refl _),Nat.sub_self,List.replicate_succ,List.set_cons_zero]
 simp
def nvP (p:By):Int:=wz (vP p)
def tvP (p:By):By:=p8 (vP p)
theorem Hv:nvP []=0:=by rfl
theorem HW:tvP [] = []:=by rfl
def jl {α:Type} (f:By→α) (z:α) (m i:Nat) (l:List By):List α:=(l.take i).map f ++ List.replicate (m - i) z
theorem tZ {α:Type} (f:By→α) (z:α) (m i:Nat) (l:List By) (hi:i<l.length) (hm:i<m):sx (jl f z m i l) i (f l[i])=some (jl f z m (i+1) l):=by
 have h1:((l.take i).map f).length=i:=by simp; omega
 have:=GM ((l.take i).map f) z (f l[i]) (m - i - 1)
 rw [h1] at this
 have e1:m - i - 1+1=m - i:=by omega
 have e2:m - i - 1=m - (i+1):=by omega
 rw [e1,e2] at this
 unfold jl
 rw [this, ← List.take_append_getElem hi,List.map_append]
 rfl
theorem yy {α:Type} (f:By→α) (z:α) (m:Nat) (l:List By) (i:Nat) (hi:i<l.length):jw (jl f z m l.length l) i=some (f (l.getD i [])):=by
 unfold jw jl
 rw [List.take_length,List.getElem?_append_left (by simpa using hi),List.getElem?_map,List.getElem?_eq_getElem hi,List.getD_eq_getElem?_getD,List.getElem?_eq_getElem hi]
 rfl
theorem wU (s:By) (k:Int) (l:List By) (y:AcT) (hl:l.length≤6) (hp : ∀ p∈l,p.length≤1000) : ∀ (n i:Nat),i+n=l.length →
  af gn (s,(),k,(),(),l,(l.length:Int),(i:Int),y,jl nvP 0 6 i l,jl tvP [] 6 i l,()) (s,(),k,(),(),y,jl nvP 0 6 l.length l,jl tvP [] 6 l.length l,())
 | 0,i,h=>by
  refine af.fin (.of fun F => ?_)
  unfold gn
  rw [if_neg (by rw [decide_eq_true_eq]; simp only; omega)]
  have:i=l.length:=by omega
  subst this
  rfl
 | n+1,i,h=>by
  have hi:i<l.length:=by omega
  have hw:IntKind.i64.wrap ((i:Int)+1)=((i+1:Nat):Int):=dn i (by omega)
  have hx:=uU l i (i:Int) rfl hi
  have hpl:=hp l[i] (List.getElem_mem hi)
  have hc:(decide (0≤(i:Int)) && decide ((i:Int)<6))=true:=by
   rw [Bool.and_eq_true,decide_eq_true_eq,decide_eq_true_eq]; omega
  refine af.step ?_ (wU s k l y hl hp n (i+1) (by omega))
  unfold gn
  refine ae.pos (by rw [decide_eq_true_eq]; simp only; omega) (ae.bind (.of fun F=>hx) (ae.bind (Gn l[i] hpl) (ae.pos hc ?_)))
  have a1:sx (jl nvP 0 6 i l) ((i:Int).toNat) (wz (vP l[i]))=some (jl nvP 0 6 (i+1) l):=tZ nvP 0 6 i l hi (by omega)
  have a2:sx (jl tvP [] 6 i l) ((i:Int).toNat) (p8 (vP l[i]))=some (jl tvP [] 6 (i+1) l):=tZ tvP [] 6 i l hi (by omega)
  refine ae.bind (.of fun F=>a1) (ae.bind (J4 l[i] hpl) (ae.pos hc (ae.bind (.of fun F=>a2) (.of fun F => ?_))))
  simp only [hw]
/-! ### what is read fits -/
theorem IE (p:By):I64 (nvP p):=by
 unfold nvP
 rcases Jc p with h | ⟨h,_⟩
 ·rw [h]; exact ⟨by decide,by decide⟩
 ·generalize vP p=v at h
  cases v with
  | int n =>
   have:okN n:=h
   obtain ⟨h1,h2⟩:=this
   show I64 n
   exact ⟨by omega,by omega⟩
  | _=>exact (⟨by decide,by decide⟩:I64 0)
theorem GN (t:By):t.length≤(fS t).length:=by
 unfold fS
 induction t with
 | nil=>exact Nat.le_refl _
 | cons c t ih =>
  rw [List.flatMap_cons,List.length_append,List.length_cons]
  have:1≤(kT c).length:=by
   unfold kT
   (repeat' split) <;> simp
  omega
theorem tN (p:By):(tvP p).length≤400:=by
 unfold tvP
 rcases Jc p with h | ⟨_,h⟩
 ·rw [h]; exact Nat.zero_le _
 ·generalize vP p=v at h
  cases v with
  | str t =>
   have e:gE 8 (.str t)=quo t:=rfl
   rw [e] at h
   have:=GN t
   unfold quo at h
   simp only [List.length_cons,List.length_append,List.length_nil] at h
   show t.length≤400
   omega
  | _=>exact Nat.zero_le _
theorem CN (k:Nat) (l:List By):Fit (lu nvP tvP k l):=by
 have z:I64 0:=⟨by decide,by decide⟩
 unfold lu Fit
 refine ⟨?_,?_,?_,?_,?_,?_,?_,?_⟩ <;> simp only <;> split <;> first | exact IE _ | exact z | exact Nat.zero_le _ | (have:=tN (l.getD 2 []); omega) | (have:=tN (l.getD 3 []); omega) | (have:=tN (l.getD 4 []); omega) | (have:=tN (l.getD 5 []); omega)
theorem rL : ∀ (s:By) (o sk:Bool) (cur:By),ey o sk cur s ≠ []
 | [],o,sk,cur=>by cases sk <;> simp [ey]
 | c :: s,o,true,cur=>by rw [ey]; exact rL s _ _ _
 | c :: s,o,false,cur=>by
  rw [ey]
  split
  ·exact rL s _ _ _
  split
  ·exact rL s _ _ _
  split
  ·simp
  ·exact rL s _ _ _
/-! ### a line is parsed -/
def F2 (r:Option di):AcT×Int:=match r with
 | none=>(zAc,3)
 | some x=>(ofA x,0)
theorem oD (s:By) (hs:s.length≤1000000) (hp : ∀ p∈ey false false [] s,p.length≤1000):ae (fun F=>eU F s) (F2 (qS validD nvP tvP s)):=by
 unfold eU qS
 refine ae.bind (Jm s hs) (ae.bind (.of Ay) ?_)
 cases hcut:ey false false [] s with
 | nil=>exact absurd hcut (rL s _ _ _)
 | cons w l =>
 rw [hcut] at hp
 simp only
 refine ae.bind (m:=fun F=>idx (w :: l) 0) (r:=w) (.of fun F=>rfl) (ae.bind (GS w) ?_)
 unfold xo
 cases hf:aH.findIdx? (fun x=>decide (x=w)) with
 | none =>
  refine ae.bind (.of fun F=>tM F (-1)) ?_
  refine ae.bind (r:=(s,(),w :: l, -1,ir (-1),zAc,())) (ae.neg (by decide) (.ret _)) ?_
  refine ae.bind (r:=(s,(),w :: l, -1,true,zAc,())) (ae.neg (by simp) (.ret _)) ?_
  exact ae.pos rfl (.ret _)
 | some k =>
 simp only
 have hk:=yh hf
 have hu3:=lV k
 refine ae.bind (.of fun F=>tM F (k:Int)) ?_
 have hw:ae (fun F=>if decide ((k:Int)=0)=true then some (s,(),w :: l,(k:Int),IntKind.i64.wrap (ir (k:Int)+5),zAc,()) else some (s,(),w :: l,(k:Int),ir (k:Int),zAc,())) (s,(),w :: l,(k:Int),((bn k+(if k=0 then 5 else 0):Nat):Int),zAc,()):=by
  rw [kW]
  by_cases h0:k=0
  ·refine ae.pos (by simpa using h0) (.of fun F => ?_)
   rw [if_pos h0,wrap64 _ (by omega) (by omega)]
   rfl
  ·refine ae.neg (by simpa using h0) (.of fun F => ?_)
   rw [if_neg h0]; rfl
 refine ae.bind hw ?_
 have hlw:IntKind.i64.wrap (((bn k+(if k=0 then 5 else 0):Nat):Int)+1)=((bn k+(if k=0 then 5 else 0)+1:Nat):Int):=by
  refine dn _ ?_
  have:(if k=0 then 5 else 0)≤5:=by split <;> omega
  omega
 refine ae.bind (r:=(s,(),w :: l,(k:Int), !decide (l.length=bn k+(if k=0 then 5 else 0)),zAc,())) ?_ ?_
 ·refine ae.pos (by simp) (.of fun F => ?_)
  simp only [hlw]
  have e:decide (((w :: l).length:Int)=((bn k+(if k=0 then 5 else 0)+1:Nat):Int))=decide (l.length=bn k+(if k=0 then 5 else 0)):=by
   by_cases h:l.length=bn k+(if k=0 then 5 else 0)
   ·rw [decide_eq_true h,decide_eq_true (by rw [List.length_cons]; omega)]
   ·rw [decide_eq_false h,decide_eq_false (by rw [List.length_cons]; omega)]
  rw [e]
 by_cases hl:l.length≠bn k+(if k=0 then 5 else 0)
 ·rw [if_pos hl]
  exact ae.pos (by simpa using hl) (.ret _)
 rw [if_neg hl]
 have hl:l.length=bn k+(if k=0 then 5 else 0):=by omega
 refine ae.neg (by simpa using hl) ?_
 have hl6:l.length≤6:=by
  rw [hl]
  by_cases h0:k=0
  ·subst h0; decide
  ·rw [if_neg h0]; omega
 refine ae.bind (r:=l) (.of fun F => ?_) ?_
 ·have:=H3 (w :: l) 1 (by simp)
  exact this
 have hloop:=wU s (k:Int) l zAc hl6 (fun p hm=>hp p (List.mem_cons_of_mem _ hm)) l.length 0 (by omega)
 refine ae.bind hloop.run ?_
 have gN:=yy nvP 0 6 l
 have gT:=yy tvP [] 6 l
 generalize jl nvP 0 6 l.length l=A at gN ⊢
 generalize jl tvP [] 6 l.length l=B at gT ⊢
 have hun:bn k≤l.length:=by omega
 have w1:IntKind.i64.wrap (0+1)=1:=by decide
 have w2:IntKind.i64.wrap (1+1)=2:=by decide
 refine ae.bind (r:=(s,(),(k:Int),(),(),(),zAc,A,B,((k:Int),(if 1≤bn k then nvP (l.getD 0 []) else 0),(if 2≤bn k then nvP (l.getD 1 []) else 0),(if 3≤bn k then nvP (l.getD 2 []) else 0),0,0,0,[],[],[],[],()),())) (.of fun F => ?_) ?_
 ·have hU : ∀ F,b8 F (k:Int)=some ((bn k:Nat):Int):=fun F=>by rw [tM,kW]
  simp only [hU,Option.bind_some,w1,w2]
  generalize bn k=u at hu3 hun ⊢
  match u,hu3,hun with
  | 0,_,_=>simp
  | 1,_,hun=>simp [gN 0 (by omega)]
  | 2,_,hun=>simp [gN 0 (by omega),gN 1 (by omega)]
  | 3,_,hun=>simp [gN 0 (by omega),gN 1 (by omega),gN 2 (by omega)]
 refine ae.bind (r:=(s,(),(),zAc,ofA (lu nvP tvP k l),())) ?_ ?_
 ·by_cases h0:k=0
  ·subst h0
   have h6:l.length=6:=hl
   refine ae.pos rfl (.of fun F => ?_)
   simp only [gN 1 (by omega),gT 2 (by omega),gT 3 (by omega),gT 4 (by omega),gT 5 (by omega),Option.bind_some]
   rfl
  ·refine ae.neg (by simpa using h0) (.of fun F => ?_)
   unfold lu ofA
   simp only [if_neg h0]
 refine ae.bind (rD _ (CN k l)) ?_
 unfold sE
 generalize lu nvP tvP k l=x
 cases hh:ew validD x with
 | false =>
  rw [if_neg (show ¬(false=true∧aT x=s) by simp)]
  refine ae.bind (r:=((),(),true,zAc,ofA x,())) (ae.neg (by simp) (.ret _)) (ae.pos rfl (.ret _))
 | true =>
  refine ae.bind (r:=((),(), !decide (aT x=s),zAc,ofA x,())) (ae.pos (by simp) (.of fun F=>by simp)) ?_
  by_cases he:aT x=s
  ·rw [show (if true=true∧aT x=s then some x else none)=some x from if_pos ⟨rfl,he⟩]
   exact ae.neg (by simpa using he) (.ret _)
  ·rw [show (if true=true∧aT x=s then some x else none)=none from if_neg (fun h=>he h.2)]
   exact ae.pos (by simpa using he) (.ret _)
end Go.Vm
