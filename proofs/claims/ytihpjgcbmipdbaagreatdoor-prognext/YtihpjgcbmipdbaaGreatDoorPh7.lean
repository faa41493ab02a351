/- Phrases: what the document fills is the plain text. No condition but on lengths. -/
import Derived.Test.YtihpjgcbmipdbaaGreatDoorPh6
namespace Go.Vm
open Go.Proofs
open Go.Lib (decodeL decodeN decodeL_N decode_N decodeN_shape decodeL_le)
set_option linter.unusedVariables false
set_option linter.unusedSimpArgs false
/-! ### members -/
theorem uZ (g name body:By) (V:V9) (l:List Me) (hl:l.length≤1000) (hb:body.length≤1000) (hn:V.2.2.2.2.1=l.map (·.1)) (hi : ∀ (i:Nat) (h:i<l.length),V.2.2.2.2.2.1[i]? = some (bG 7 l[i].2.1)) (h7 : ∀ m∈l,(bG 7 m.2.1).length≤400)
  (hg:sub g 2 (IntKind.i64.wrap ((g.length:Int) - 1))=some name) : ∀ (n i:Nat),i+n=l.length→af cD (g,(),(i:Int),V,()) (if (firstM name (l.drop i)).2=true then .inr ((if lF (vP (firstM name (l.drop i)).1)=4 then rC (vP (firstM name (l.drop i)).1) else (firstM name (l.drop i)).1),()) else .inl ())
 | 0,i,h=>by
  refine af.fin (.of fun F => ?_)
  unfold cD
  rw [if_neg (by rw [decide_eq_true_eq]; simp only [hn,List.length_map]; omega),List.drop_eq_nil_of_le (by omega)]
  rfl
 | n+1,i,h=>by
  have hil:i<l.length:=by omega
  have hx:idx V.2.2.2.2.1 (i:Int)=some l[i].1:=by rw [hn]; exact bn _ _ _ (by simp [hil])
  have hx3:idx V.2.2.2.2.2.1 (i:Int)=some (bG 7 l[i].2.1):=bn _ _ _ (hi i hil)
  have hw:IntKind.i64.wrap ((i:Int)+1)=((i+1:Nat):Int):=by rw [wrap64 _ (by omega) (by omega)]; omega
  have ih:=uZ g name body V l hl hb hn hi h7 hg n (i+1) (by omega)
  have h4:=h7 l[i] (List.getElem_mem hil)
  rw [List.drop_eq_getElem_cons hil]
  generalize l[i]=m at *
  unfold firstM
  by_cases hc:m.1=name
  ·rw [if_pos hc]
   have ho:=D7 (bG 7 m.2.1) (by omega)
   obtain ⟨q1,q2,_⟩:=pR (bG 7 m.2.1)
   refine af.fin ?_
   unfold cD
   refine ae.pos (by rw [decide_eq_true_eq]; simp only [hn,List.length_map]; omega) ?_
   refine ae.bind (r:=((g,(),(i:Int),true,V,()):By×Unit×Int×Bool×V9×Unit)) (ae.bind (.of fun F=>hx) (ae.bind (.of fun F=>hg) (.of fun F=>by rw [decide_eq_true hc]))) ?_
   refine ae.pos rfl ?_
   refine ae.bind (r:=(((),(i:Int),(),V,(ofP (bG 7 m.2.1)).1,()):Unit×Int×Unit×V9×V9×Unit)) (ae.bind (.of fun F=>hx3) (ae.bind ho (.ret _))) ?_
   rw [if_pos rfl]
   simp only
   by_cases hk:lF (vP (bG 7 m.2.1))=4
   ·rw [if_pos hk, ← q2]
    exact ae.pos (by rw [decide_eq_true_eq,q1]; exact hk) (.ret _)
   ·rw [if_neg hk]
    refine ae.neg (by rw [decide_eq_true_eq,q1]; exact hk) ?_
    exact ae.bind (.of fun F=>hx3) (.ret _)
  ·rw [if_neg hc]
   refine af.step (x':=(g,(),((i+1:Nat):Int),V,())) ?_ ih
   unfold cD
   refine ae.pos (by rw [decide_eq_true_eq]; simp only [hn,List.length_map]; omega) ?_
   refine ae.bind (r:=((g,(),(i:Int),false,V,()):By×Unit×Int×Bool×V9×Unit)) (ae.bind (.of fun F=>hx) (ae.bind (.of fun F=>hg) (.of fun F=>by rw [decide_eq_false hc]))) ?_
   exact ae.neg Bool.false_ne_true (.of fun F=>by simp only [hw])
def LH (g:By):Prop := ∃ b q,g=37 :: b :: q∧(((b=37∨b=98∨b=107∨b=109∨b=112)∧q = [])∨(b=123∧q ≠ []))
theorem Ks (r:By) (h:bM (37 :: r)≠0):LH ((37 :: r:By).take (bM (37 :: r))):=by
 unfold bM at h ⊢
 cases r with
 | nil=>exact absurd rfl h
 | cons b q =>
  simp only at h ⊢
  by_cases hc:b=37∨b=98∨b=107∨b=109∨b=112
  ·rw [if_pos hc]
   exact ⟨b,[],rfl, .inl ⟨hc,rfl⟩⟩
  ·rw [if_neg hc] at h ⊢
   by_cases hb:b=123
   ·rw [if_pos hb] at h ⊢
    by_cases hk:(q.takeWhile (fun c=>c != 125)).length<q.length∧nmP (q.takeWhile (fun c=>c != 125))=true
    ·rw [if_pos hk]
     refine ⟨b,q.take ((q.takeWhile (fun c=>c != 125)).length+1),?_,?_⟩
     ·rw [show (q.takeWhile (fun c=>c != 125)).length+3=((q.takeWhile (fun c=>c != 125)).length+1)+1+1 by omega,List.take_succ_cons,List.take_succ_cons]
     ·refine .inr ⟨hb,?_⟩
      intro hh
      have:=congrArg List.length hh
      rw [List.length_take] at this
      simp only [List.length_nil] at this
      omega
    ·rw [if_neg hk] at h; exact absurd rfl h
   ·rw [if_neg hb] at h; exact absurd rfl h
theorem EP (g:By) (e:EnT) (hg:LH g) (hpl:g.length≤1000) (he:e.body.length≤1000):ae (fun F=>eE F (g,e)) (lB e g):=by
 obtain ⟨b,q,rfl,hb⟩:=hg
 unfold eE
 rcases hb with ⟨h,rfl⟩ | ⟨rfl,hq⟩
 ·rcases h with rfl | rfl | rfl | rfl | rfl
  ·show ae _ ([37]:By)
   exact ae.neg (by simp) (ae.neg (by simp) (ae.neg (by simp) (ae.neg (by simp) (ae.pos (by simp) (.ret _)))))
  ·show ae _ e.body
   exact ae.pos (by simp) (.ret _)
  ·show ae _ e.key
   exact ae.neg (by simp) (ae.pos (by simp) (.ret _))
  ·show ae _ e.method
   exact ae.neg (by simp) (ae.neg (by simp) (ae.pos (by simp) (.ret _)))
  ·show ae _ e.path
   exact ae.neg (by simp) (ae.neg (by simp) (ae.neg (by simp) (ae.pos (by simp) (.ret _))))
 ·show ae _ (vY e.body (q.take (q.length - 1)))
  refine ae.neg (by simp) (ae.neg (by simp) (ae.neg (by simp) (ae.neg (by simp) (ae.neg (by simp) ?_))))
  refine ae.bind (D7 e.body he) ?_
  obtain ⟨_,_,_,q4,q5⟩:=pR e.body
  have hv:=Bp e.body
  have hnames:(ofP e.body).1.2.2.2.2.1=(iS (vP e.body)).map (·.1):=q4.trans (wa _)
  have hitems : ∀ (i:Nat) (h:i<(iS (vP e.body)).length),(ofP e.body).1.2.2.2.2.2.1[i]? = some (bG 7 (iS (vP e.body))[i].2.1):=by
   rw [q5]
   cases hc:vP e.body with
   | obj l =>
    intro i h
    have h':i<l.length:=h
    show (l.map fun m=>JN 8 m.2.1)[i]? = some (bG 7 l[i].2.1)
    rw [List.getElem?_map,List.getElem?_eq_getElem h']
    rfl
   | _=>intro i h; exact absurd h (Nat.not_lt_zero _)
  have hll:(iS (vP e.body)).length≤1000 ∧ ∀ m∈iS (vP e.body),(bG 7 m.2.1).length≤400:=by
   cases hc:vP e.body with
   | obj l =>
    obtain ⟨_,h2,h3⟩:=pI hv hc
    exact ⟨by show l.length≤1000; omega,fun m hm=>(h3 m hm).2⟩
   | _=>exact ⟨Nat.zero_le _,fun m hm=>by cases hm⟩
  have hql:=List.length_pos_iff.2 hq
  simp only [List.length_cons] at hpl
  have hs:sub (37 :: 123 :: q:By) 2 (IntKind.i64.wrap (((37 :: 123 :: q:By).length:Int) - 1))=some (q.take (q.length - 1)):=by
   have hw:IntKind.i64.wrap (((37 :: 123 :: q:By).length:Int) - 1)=((q.length+1:Nat):Int):=by
    simp only [List.length_cons]
    rw [wrap64 _ (by omega) (by omega)]
    omega
   rw [hw]
   have:=fE (37 :: 123 :: q:By) 2 (q.length+1) (by omega) (by simp)
   rw [show (37 :: 123 :: q:By).drop 2=q from rfl,show q.length+1 - 2=q.length - 1 by omega] at this
   exact this
  have hL:=uZ (37 :: 123 :: q) (q.take (q.length - 1)) e.body (ofP e.body).1 (iS (vP e.body)) hll.1 he hnames hitems hll.2 hs (iS (vP e.body)).length 0 (by omega)
  rw [List.drop_zero] at hL
  refine ae.bind hL.run ?_
  unfold vY
  by_cases h2:(firstM (q.take (q.length - 1)) (iS (vP e.body))).2=true
  ·rw [if_pos h2,if_pos h2]
   exact .ret _
  ·rw [if_neg h2,if_neg h2]
   exact .ret _
/-! ### filling -/
theorem Bh (s:By) (hs:s.length≤1000) (e:EnT) (he:e.key.length≤1000∧e.method.length≤1000∧e.path.length≤1000∧e.body.length≤1000) : ∀ (n p:Nat) (out:By) (m:List Pc),s.length - p≤n→p≤s.length→out.length≤1000 * p→oG (s.drop p)=some m→af bV (s,(),out,(p:Int),e,()) (out ++ iq (lB e) m,()):=by
 intro n
 induction n with
 | zero =>
  intro p out m hn hp ho ht
  rw [List.drop_eq_nil_of_le (by omega),r9] at ht
  cases ht
  refine af.fin (.of fun F => ?_)
  unfold bV
  rw [if_neg (by rw [decide_eq_true_eq]; simp only; omega)]
  show some (Sum.inr (out,()))=some (Sum.inr (out ++ [],()))
  rw [List.append_nil]
 | succ n ih =>
  intro p out m hn hp ho ht
  by_cases hlt:p<s.length
  case neg =>
   rw [List.drop_eq_nil_of_le (by omega),r9] at ht
   cases ht
   refine af.fin (.of fun F => ?_)
   unfold bV
   rw [if_neg (by rw [decide_eq_true_eq]; simp only; omega)]
   show some (Sum.inr (out,()))=some (Sum.inr (out ++ [],()))
   rw [List.append_nil]
  have hd:s.drop p=s[p] :: s.drop (p+1):=List.drop_eq_getElem_cons hlt
  have hx0:idx s (p:Int)=some s[p]:=bn _ _ _ (List.getElem?_eq_getElem hlt)
  have hse:=ek s p (by omega)
  have hlen:(s.drop p).length=s.length - p:=List.length_drop
  have hw1:IntKind.i64.wrap ((p:Int)+1)=((p+1:Nat):Int):=by rw [wrap64 _ (by omega) (by omega)]; omega
  have ih1:=fun out m=>ih (p+1) out m (by omega) (by omega)
  have hdd : ∀ m,(s.drop p).drop m=s.drop (p+m):=fun m=>List.drop_drop
  have hsb : ∀ g:Nat,p+g≤s.length→sub s (p:Int) ((p+g:Nat):Int)=some ((s.drop p).take g):=by
   intro g hg
   have:=fE s p (p+g) (by omega) hg
   rw [Nat.add_sub_cancel_left] at this
   exact this
  rw [hd] at hse hlen hdd hsb ht
  rw [pH] at ht
  generalize hr:s.drop (p+1)=r at *
  generalize s[p]=c at *
  have n37:((c.toNat:Int)=37)=(c=37):=nvB c 37
  by_cases h37:c=37
  ·rw [if_pos h37] at ht
   by_cases hg:bM (c :: r)=0
   ·rw [if_pos hg] at ht; cases ht
   rw [if_neg hg] at ht
   obtain ⟨m',hm,rfl⟩:=Option.map_eq_some_iff.1 ht
   have hgle:=uO (c :: r)
   have h1:=lJ (c :: r)
   have hgt:=DY c r (by simp only [List.length_cons] at hlen; omega)
   have hw:IntKind.i64.wrap ((p:Int)+(bM (c :: r):Int))=((p+bM (c :: r):Nat):Int):=by rw [wrap64 _ (by omega) (by omega)]; omega
   have hsg:=hsb (bM (c :: r)) (by omega)
   have hgS:LH ((c :: r).take (bM (c :: r))):=by
    subst h37
    exact Ks r hg
   have hvl:=wW e ((c :: r).take (bM (c :: r))) he
   have hvt:=EP ((c :: r).take (bM (c :: r))) e hgS (by simp only [List.length_take]; omega) he.2.2.2
   have ihg:=ih (p+bM (c :: r)) (out ++ lB e ((c :: r).take (bM (c :: r)))) m' (by omega) (by omega) (by rw [List.length_append]; omega) (by rw [← hdd]; exact hm)
   rw [mU,if_pos rfl, ← List.append_assoc]
   refine af.step ?_ ihg
   unfold bV
   refine ae.pos (by rw [decide_eq_true_eq]; simp only; omega) ?_
   refine ae.bind (.of fun F=>hx0) ?_
   refine ae.bind (r:=((s,(),out ++ lB e ((c :: r).take (bM (c :: r))),(p:Int),(bM (c :: r):Int),e,()):By×Unit×By×Int×Int×EnT×Unit)) ?_ (.of fun F=>by simp only [hw])
   refine ae.pos (by simp only [n37,decide_eq_true h37]) ?_
   refine ae.bind (.of fun F=>hse) ?_
   refine ae.bind hgt ?_
   refine ae.bind (r:=((s,(),out ++ lB e ((c :: r).take (bM (c :: r))),(p:Int),(bM (c :: r):Int),e,()):By×Unit×By×Int×Int×EnT×Unit)) (ae.bind (.of fun F=>by simp only [hw]; exact hsg) ?_) (.ret _)
   refine ae.bind hvt ?_
   exact ae.pos (by rw [decide_eq_true_eq]; simp only; omega) (.ret _)
  ·rw [if_neg h37] at ht
   obtain ⟨m',hm,rfl⟩:=Option.map_eq_some_iff.1 ht
   have hs1:sub s (p:Int) ((p+1:Nat):Int)=some [c]:=hsb 1 (by omega)
   rw [mU,if_neg Bool.false_ne_true, ← List.append_assoc]
   refine af.step (x':=(s,(),out ++ [c],((p+1:Nat):Int),e,())) (.of fun F => ?_) (ih1 (out ++ [c]) m' (by rw [List.length_append,List.length_singleton]; omega) hm)
   unfold bV
   rw [if_pos (by rw [decide_eq_true_eq]; simp only; omega)]
   simp only [hx0,Option.bind_some,n37,decide_eq_false h37,Bool.false_eq_true,if_false,hw1,hs1]
   rw [if_pos (by rw [decide_eq_true_eq]; simp only [List.length_singleton]; omega)]
   simp only [Option.bind_some,hw1]
theorem vc (l:List Int) (hl:l.length≤1000000) (hok : ∀ n∈l, ∃ c:Nat,n=(c:Int)∧okR c) : ∀ (n i:Nat) (acc:By),i+n=l.length→acc.length≤40→af cV (acc,l,(i:Int),()) (Bg (l.drop i) acc,())
 | 0,i,acc,h,ha=>by
  refine af.fin (.of fun F => ?_)
  unfold cV
  rw [if_neg (by rw [decide_eq_true_eq]; simp only; omega),List.drop_eq_nil_of_le (by omega)]
  rfl
 | n+1,i,acc,h,ha=>by
  have hi:i<l.length:=by omega
  have hx0:idx l (i:Int)=some l[i]:=bn _ _ _ (List.getElem?_eq_getElem hi)
  have hw:IntKind.i64.wrap ((i:Int)+1)=((i+1:Nat):Int):=by rw [wrap64 _ (by omega) (by omega)]; omega
  have ih:=fun acc=>vc l hl hok n (i+1) acc (by omega)
  obtain ⟨c,hc,hco⟩:=hok l[i] (List.getElem_mem hi)
  rw [List.drop_eq_getElem_cons hi]
  rw [hc] at hx0 ⊢
  have hb:=fun F=>pd F c hco
  rw [iZ c hco] at hb
  unfold Bg
  rw [Int.toNat_natCast]
  have hpl:(if bA (c:Int)=0 then [63] else bw c:By).length≤4:=by
   split
   ·exact Nat.le_of_ble_eq_true rfl
   ·exact mP _
  have hbody : ∀ F,cV F (acc,l,(i:Int),())=if decide (40<IntKind.i64.wrap ((acc.length:Int)+((if bA (c:Int)=0 then [63] else bw c:By).length:Int)))=true then some (Sum.inr (acc,())) else if decide (acc.length+(if bA (c:Int)=0 then [63] else bw c:By).length≤9223372036854775807)=true then some (Sum.inl (acc ++ (if bA (c:Int)=0 then [63] else bw c),l,IntKind.i64.wrap ((i:Int)+1),())) else none:=by
   intro F
   unfold cV
   rw [if_pos (by rw [decide_eq_true_eq]; simp only; omega)]
   simp only [hx0,Option.bind_some,nI]
   by_cases h0:bA (c:Int)=0
   ·rw [if_pos h0,if_neg (by rw [decide_eq_true h0]; decide)]
    rfl
   ·rw [if_neg h0,if_pos (by rw [decide_eq_false h0]; rfl),hb]
    rfl
  generalize (if bA (c:Int)=0 then [63] else bw c:By)=w at hpl hbody
  have hwl:IntKind.i64.wrap ((acc.length:Int)+(w.length:Int))=((acc.length+w.length:Nat):Int):=by rw [wrap64 _ (by omega) (by omega)]; omega
  by_cases h40:40<acc.length+w.length
  ·rw [if_pos h40]
   refine af.fin (.of fun F=>(hbody F).trans ?_)
   rw [hwl,if_pos (by rw [decide_eq_true_eq]; omega)]
  ·rw [if_neg h40]
   refine af.step (.of fun F=>(hbody F).trans ?_) (ih (acc ++ w) (by rw [List.length_append]; omega))
   rw [hwl,if_neg (by rw [decide_eq_true_eq]; omega),if_pos (by rw [decide_eq_true_eq]; omega),hw]
theorem Fh : ∀ s:By, ∀ n∈(bX s).map (·.1), ∃ c:Nat,n=(c:Int)∧okR c:=by
 refine xP ?_ ?_
 ·rw [fF]; intro n hn; cases hn
 ·intro l h ih n hn
  rw [gN h,List.map_cons] at hn
  rcases List.mem_cons.1 hn with rfl | hn
  ·exact ⟨_,rfl,mf l⟩
  ·exact ih n hn
theorem EU (val:By→By) (l:List Pc) (h : ∀ p∈l,(if p.1=true then val p.2.1 else p.2.1).length≤1000):(iq val l).length≤1000 * l.length:=by
 induction l with
 | nil=>exact Nat.zero_le _
 | cons p l ih =>
  have h1:=h p (List.mem_cons_self ..)
  have h2:=ih fun q hq=>h q (List.mem_cons_of_mem _ hq)
  rw [mU,List.length_append,List.length_cons]
  omega
theorem HT (s:By) (e:EnT) (hs:s.length≤1000) (he:e.key.length≤1000∧e.method.length≤1000∧e.path.length≤1000∧e.body.length≤1000):ae (fun F=>eY F (s,e)) (oY s e):=by
 unfold eY oY
 refine ae.bind (yz s hs) ?_
 unfold pq
 by_cases h6:60<s.length
 ·rw [if_pos h6,decide_eq_false (by omega)]
  exact ae.pos rfl (.ret _)
 rw [if_neg h6,decide_eq_true (by omega)]
 have h:=uD s.length s (Nat.le_refl _)
 cases hc:lG s with
 | none=>exact ae.pos rfl (.ret _)
 | some l =>
  rw [hc] at h
  obtain ⟨h1,m,h2,_,h4⟩:=h
  obtain ⟨g1,g2⟩:=se s.length s (Nat.le_refl _) l hc
  refine ae.neg (by show ¬ (!true)=true; decide) ?_
  have hl:=Bh s hs e he s.length 0 [] m (by omega) (by omega) (by simp) (by rw [List.drop_zero]; exact h2)
  rw [List.nil_append, ← h4] at hl
  refine ae.bind hl.run ?_
  have hfl:=EU (lB e) l fun p hp=>by
   split
   ·exact wW e _ he
   ·have:=(g2 p hp).2; omega
  have hsl:=s8 (iq (lB e) l)
  refine ae.bind (oX (iq (lB e) l) (by omega)) ?_
  have ho:=vc ((bX (iq (lB e) l)).map (·.1)) (by rw [List.length_map]; omega) (Fh _) ((bX (iq (lB e) l)).map (·.1)).length 0 [] (by omega) (by decide)
  rw [List.drop_zero] at ho
  exact ae.bind ho.run (.ret _)
end Go.Vm
