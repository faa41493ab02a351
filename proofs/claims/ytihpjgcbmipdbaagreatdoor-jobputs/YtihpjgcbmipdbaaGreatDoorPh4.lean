import Derived.Test.YtihpjgcbmipdbaaGreatDoorFlaw29
import Derived.Test.YtihpjgcbmipdbaaGreatDoorPu2
import Derived.Test.YtihpjgcbmipdbaaGreatDoorPu5
import Derived.Test.YtihpjgcbmipdbaaGreatDoorPj11
/- JSON: the document's reader at its leaves is the plain one. No condition but on lengths. -/
namespace Go.Vm
open Go.Lib (decodeL decodeN decodeL_N decode_N decodeN_shape decodeL_le decDigits itoa)
set_option linter.unusedVariables false
set_option linter.unusedSimpArgs false
theorem nvB (c k:UInt8):((c.toNat:Int)=(k.toNat:Int))=(c=k):=by
 apply propext
 constructor
 ·intro hh; exact UInt8.toNat_inj.1 (by omega)
 ·intro hh; rw [hh]
end Go.Vm
/- JSON: the document's strings, numbers, quotes, places are the plain ones. No condition but on lengths. -/
namespace Go.Vm
open Go.Lib (decodeL decodeN decodeL_N decode_N decodeN_shape decodeL_le decDigits itoa)
set_option linter.unusedVariables false
set_option linter.unusedSimpArgs false
/-! ### escapes -/
end Go.Vm
/- JSON: the document's numbers, quotes, places, ends are the plain ones. No condition but on lengths. -/
namespace Go.Vm
open Go.Lib (decodeL decodeN decodeL_N decode_N decodeN_shape decodeL_le decDigits itoa)
set_option linter.unusedVariables false
set_option linter.unusedSimpArgs false
/-! ### decimals -/
abbrev V9:=Int×By×By×Int×List By×List By×Unit
def z9:V9:=(0,[],[],0,[],[],())
end Go.Vm
/- JSON: the document's quotes, places, ends are the plain ones. No condition but on lengths. -/
namespace Go.Vm
open Go.Lib (decodeL decodeN decodeL_N decode_N decodeN_shape decodeL_le decDigits itoa)
set_option linter.unusedVariables false
set_option linter.unusedSimpArgs false
/-! ### quotes -/
end Go.Vm
/- JSON: the document's lists and objects are the plain ones. No condition but on lengths. -/
namespace Go.Vm
open Go.Lib (decodeL decDigits itoa)
set_option linter.unusedVariables false
set_option linter.unusedSimpArgs false
/-! ### what is told -/
def uV:JV→Int
 | .nil=>0
 | .null=>1
 | .bool _=>2
 | .int _=>3
 | .str _=>4
 | .list _=>5
 | .obj _=>6
def DY:JV→By
 | .str t=>t
 | _ => []
def Ht:JV→Int
 | .int n=>n
 | _=>0
def LI:JV→List By
 | .obj l=>l.map (·.1)
 | _ => []
def LM (d:Nat) (v:JV):By:=match d with
 | 0 => []
 | d+1=>dw d v
def Lx (d:Nat):JV→List By
 | .list l=>l.map (LM d)
 | .obj l=>l.map fun m=>LM d m.2.1
 | _ => []
def Mu (d:Nat) (v:JV):V9:=(uV v,dw d v,DY v,Ht v,LI v,Lx d v,())
end Go.Vm
/- JSON: the document's objects are the plain ones. No condition but on lengths. -/
namespace Go.Vm
open Go.Lib (decodeL decDigits itoa)
set_option linter.unusedVariables false
set_option linter.unusedSimpArgs false
theorem Ip (c:UInt8):1≤(uB c).length:=by
 unfold uB
 repeat' split
 all_goals exact Nat.le_of_ble_eq_true rfl
theorem IQ (t:By):t.length≤(jK t).length:=by
 induction t with
 | nil=>exact Nat.le_refl _
 | cons c t ih =>
  have:=Ip c
  show _≤(uB c ++ jK t).length
  rw [List.length_append,List.length_cons]
  omega
end Go.Vm
/- JSON: the document's objects and values are the plain ones. No condition but on lengths. -/
namespace Go.Vm
open Go.Lib (decodeL decDigits itoa)
set_option linter.unusedVariables false
set_option linter.unusedSimpArgs false
end Go.Vm
/- JSON: the document's values are the plain ones. No condition but on lengths. -/
namespace Go.Vm
open Go.Lib (decodeL decDigits itoa)
set_option linter.unusedVariables false
set_option linter.unusedSimpArgs false
def ofP (s:By):V9×Int:=match zV s with
 | .ok v=>(Mu 8 v,0)
 | .error e=>(z9,(e:Int))
end Go.Vm
/- JSON: what the program tells of a text's parts, for those that ask it. No condition but on lengths. -/
namespace Go.Vm
open Go.Proofs
open Go.Lib (decodeL decDigits itoa)
set_option linter.unusedVariables false
set_option linter.unusedSimpArgs false
def vP (s:By):JV:=match zV s with
 | .ok v=>v
 | .error _ => .nil
theorem zm (s:By) (hs:s.length≤1000):ae (fun F=>eN F s) (vP s,(ofP s).2):=by
 refine ae.eq (JU s hs) ?_
 unfold vP ofP
 cases zV s <;> rfl
theorem La (s:By) (hs:s.length≤1000):ae (fun F=>kY F s) (DY (vP s),decide (uV (vP s)=4)):=by
 unfold kY
 refine ae.bind (zm s hs) ?_
 cases vP s <;> exact .ret _
theorem HS (s:By) (hs:s.length≤1000):ae (fun F=>iZ F s) (Ht (vP s),decide (uV (vP s)=3)):=by
 unfold iZ
 refine ae.bind (zm s hs) ?_
 cases vP s <;> exact .ret _
def s7:JV→List Me
 | .obj l=>l
 | _ => []
theorem H3 (s:By):vP s = .nil∨(okV 8 (vP s)∧(dw 8 (vP s)).length≤400):=by
 unfold vP
 cases h:zV s with
 | error e=>exact .inl rfl
 | ok v =>
  obtain ⟨o1,o2,o3⟩:=K1 h
  exact .inr ⟨o1,Nat.le_trans o2 o3⟩
theorem xB {v:JV} {l:List Me} (h:v = .nil∨(okV 8 v∧(dw 8 v).length≤400)) (hv:v = .obj l):Uni l∧l.length≤400 ∧ ∀ m∈l,okV 7 m.2.1∧(dw 7 m.2.1).length≤400:=by
 subst hv
 rcases h with h | ⟨h1,h2⟩
 ·cases h
 obtain ⟨h3,h4⟩:Ris l ∧ ∀ m∈l,OkT m.1∧okV 7 m.2.1:=h1
 have e:dw 8 (.obj l)=123 :: (dQ (l.map fun m=>quo m.1 ++ 58 :: dw 7 m.2.1) ++ [125]):=rfl
 rw [e] at h2
 simp only [List.length_cons,List.length_append,List.length_nil] at h2
 have hj:=ui (fun m:Me=>quo m.1 ++ 58 :: dw 7 m.2.1) l (fun m _=>by unfold quo; simp)
 refine ⟨II h3,by omega,fun m hm=>⟨(h4 m hm).2,?_⟩⟩
 have:=piece (fun m:Me=>quo m.1 ++ 58 :: dw 7 m.2.1) l m hm
 simp only [List.length_append,List.length_cons] at this
 omega
where
 piece {α:Type} (f:α→By) : ∀ (l:List α) (x:α),x∈l→(f x).length≤(dQ (l.map f)).length
  | [],x,h=>by cases h
  | [y],x,h=>by
   rw [List.mem_singleton] at h
   subst h
   exact Nat.le_refl _
  | y :: z :: l,x,h=>by
   have ih:=piece f (z :: l)
   rw [List.map_cons] at ih
   simp only [List.map_cons,dQ,List.length_append,List.length_cons] at ih ⊢
   rcases List.mem_cons.1 h with rfl | h
   ·omega
   ·have:=ih x h
    omega
def firstM (name:By):List Me→By×Bool
 | []=>([],false)
 | m :: l=>if m.1=name then (dw 7 m.2.1,true) else firstM name l
theorem tY (name:By) : ∀ l:List Me,match l.findIdx? (fun m=>m.1 == name) with
  | some i => ∃ m,l[i]? = some m∧firstM name l=(dw 7 m.2.1,true)
  | none=>firstM name l=([],false)
 | []=>rfl
 | m :: l=>by
  have ih:=tY name l
  rw [List.findIdx?_cons]
  by_cases hc:m.1=name
  ·rw [if_pos (beq_iff_eq.2 hc)]
   exact ⟨m,rfl,by unfold firstM; rw [if_pos hc]⟩
  ·rw [if_neg (by simpa using hc)]
   cases hf:l.findIdx? (fun m=>m.1 == name) with
   | none =>
    rw [hf] at ih
    simp only [Option.map_none]
    unfold firstM
    rw [if_neg hc]
    exact ih
   | some i =>
    rw [hf] at ih
    obtain ⟨m',h1,h2⟩:=ih
    simp only [Option.map_some]
    refine ⟨m',by simpa using h1,?_⟩
    unfold firstM
    rw [if_neg hc]
    exact h2
theorem DS (s name:By) (hs:s.length≤1000):ae (fun F=>iq F (s,name)) (firstM name (s7 (vP s))):=by
 have hv:=H3 s
 unfold iq
 refine ae.bind (zm s hs) ?_
 have none:ae (fun F=>(bI F ([],name)).bind fun v5=>if decide (v5<0)=true then some ([],false) else (idx ([]:List Me) v5).bind fun v6=>(kC F ([],v6.2.1)).bind fun v7=>some (v7,true)) (([],false):By×Bool):=by
  refine ae.bind (CX [] name (by simp)) ?_
  exact ae.pos rfl (.ret _)
 cases hc:vP s with
 | obj l =>
  obtain ⟨h1,h2,h3⟩:=xB hv hc
  refine ae.pos rfl ?_
  refine ae.bind (.of fun F=>(rfl:(JV.obj l).ET=some l)) ?_
  refine ae.bind (CX l name (by omega)) ?_
  have hff:=tY name l
  unfold Bf
  cases hf:l.findIdx? (fun m=>m.1 == name) with
  | none =>
   rw [hf] at hff
   refine ae.pos (by decide) ?_
   show ae _ (firstM name l)
   rw [hff]
   exact .ret _
  | some i =>
   rw [hf] at hff
   obtain ⟨m,q1,q2⟩:=hff
   refine ae.neg (by show ¬ decide ((i:Int)<0)=true; rw [decide_eq_true_eq]; omega) ?_
   refine ae.bind (.of fun F=>eE l i m q1) ?_
   obtain ⟨o1,o2⟩:=h3 m (List.mem_of_getElem? q1)
   show ae _ (firstM name l)
   rw [q2]
   exact ae.bind (L9 7 m.2.1 [] o1 (by simp; omega)) (.ret _)
 | _=>exact ae.neg Bool.false_ne_true none
end Go.Vm
/- Phrases: what the program fills is the plain text. No condition but on lengths. -/
namespace Go.Vm
open Go.Lib (decodeL decodeN decodeL_N decode_N decodeN_shape decodeL_le)
set_option linter.unusedVariables false
set_option linter.unusedSimpArgs false
/-! ### values -/
abbrev EnT:=Int×By×Int×Int×Int×Int×By×Int×Int×Int×By×By×By×By×Unit
abbrev EnT.key (e:EnT):By:=e.2.1
abbrev EnT.method (e:EnT):By:=e.2.2.2.2.2.2.2.2.2.2.2.1
abbrev EnT.path (e:EnT):By:=e.2.2.2.2.2.2.2.2.2.2.2.2.1
abbrev EnT.body (e:EnT):By:=e.2.2.2.2.2.2.2.2.2.2.2.2.2.1
def EL (body name:By):By:=if (firstM name (s7 (vP body))).2=true then (if uV (vP (firstM name (s7 (vP body))).1)=4 then DY (vP (firstM name (s7 (vP body))).1) else (firstM name (s7 (vP body))).1) else []
def tf (e:EnT) (g:By):By:=match g with
 | _ :: b :: q=>if b=98 then e.body else if b=107 then e.key else if b=109 then e.method else if b=112 then e.path else if b=37 then [37] else EL e.body (q.take (q.length - 1))
 | _ => []
theorem wU (name:By) : ∀ l:List Me,(∀ m∈l,(dw 7 m.2.1).length≤400)→(firstM name l).1.length≤400
 | [],h=>Nat.zero_le _
 | m :: l,h=>by
  unfold firstM
  split
  ·exact h m (List.mem_cons_self ..)
  ·exact wU name l fun x hx=>h x (List.mem_cons_of_mem _ hx)
theorem tQ (body name:By):(firstM name (s7 (vP body))).1.length≤400:=by
 have hv:=H3 body
 cases hc:vP body with
 | obj l=>exact wU name l fun m hm=>((xB hv hc).2.2 m hm).2
 | _=>exact Nat.zero_le _
theorem Gx (s:By):(DY (vP s)).length≤400:=by
 have hv:=H3 s
 cases hc:vP s with
 | str t =>
  rw [hc] at hv
  rcases hv with h | ⟨_,h2⟩
  ·cases h
  ·have e:dw 8 (.str t)=quo t:=rfl
   rw [e] at h2
   have:=IQ t
   unfold quo at h2
   simp only [List.length_cons,List.length_append,List.length_nil] at h2
   show t.length≤400
   omega
 | _=>exact Nat.zero_le _
theorem Jh (body name:By):(EL body name).length≤400:=by
 unfold EL
 split
 ·split
  ·exact Gx _
  ·exact tQ body name
 ·exact Nat.zero_le _
theorem HN (body name:By) (hb:body.length≤1000):ae (fun F=>gz F (body,name)) (EL body name):=by
 unfold gz
 refine ae.bind (DS body name hb) ?_
 have h4:=tQ body name
 unfold EL
 generalize firstM name (s7 (vP body))=v at h4
 cases hv:v.2 with
 | false=>exact ae.pos rfl (.ret _)
 | true =>
  refine ae.neg (by decide) ?_
  refine ae.bind (La v.1 (by omega)) ?_
  rw [if_pos rfl]
  by_cases hk:uV (vP v.1)=4
  ·rw [if_pos hk]
   exact ae.pos (decide_eq_true hk) (.ret _)
  ·rw [if_neg hk]
   exact ae.neg (by rw [decide_eq_true_eq]; exact hk) (.ret _)
def IP (g:By):Prop := ∃ b q,g=37 :: b :: q∧(b=37∨b=98∨b=107∨b=109∨b=112∨(b=123∧q ≠ []))
theorem IY (p:Pc) (e:EnT) (hp:p.1=true→IP p.2.1) (hpl:p.2.1.length≤1000) (he:e.body.length≤1000):ae (fun F=>iz F (p,e)) (if p.1=true then tf e p.2.1 else p.2.1):=by
 obtain ⟨g,t,u⟩:=p
 unfold iz
 cases g with
 | false=>exact ae.pos rfl (.ret _)
 | true =>
  obtain ⟨b,q,hq,hb⟩:=hp rfl
  simp only at hq hpl
  subst hq
  have hi:idx (37 :: b :: q:By) 1=some b:=eE _ 1 _ rfl
  have nv : ∀ k:UInt8,((b.toNat:Int)=(k.toNat:Int))=(b=k):=fun k=>nvB b k
  have n98:((b.toNat:Int)=98)=(b=98):=nv 98
  have n107:((b.toNat:Int)=107)=(b=107):=nv 107
  have n109:((b.toNat:Int)=109)=(b=109):=nv 109
  have n112:((b.toNat:Int)=112)=(b=112):=nv 112
  have n37:((b.toNat:Int)=37)=(b=37):=nv 37
  refine ae.neg (by show ¬ (!true)=true; decide) ?_
  refine ae.bind (.of fun F=>hi) ?_
  rw [if_pos rfl]
  unfold tf
  simp only [n98,n107,n109,n112,n37]
  by_cases c1:b=98
  ·rw [if_pos c1]; exact ae.pos (decide_eq_true c1) (.ret _)
  rw [if_neg c1]
  refine ae.neg (by rw [decide_eq_true_eq]; exact c1) ?_
  by_cases c2:b=107
  ·rw [if_pos c2]; exact ae.pos (decide_eq_true c2) (.ret _)
  rw [if_neg c2]
  refine ae.neg (by rw [decide_eq_true_eq]; exact c2) ?_
  by_cases c3:b=109
  ·rw [if_pos c3]; exact ae.pos (decide_eq_true c3) (.ret _)
  rw [if_neg c3]
  refine ae.neg (by rw [decide_eq_true_eq]; exact c3) ?_
  by_cases c4:b=112
  ·rw [if_pos c4]; exact ae.pos (decide_eq_true c4) (.ret _)
  rw [if_neg c4]
  refine ae.neg (by rw [decide_eq_true_eq]; exact c4) ?_
  by_cases c5:b=37
  ·rw [if_pos c5]; exact ae.pos (decide_eq_true c5) (.ret _)
  rw [if_neg c5]
  refine ae.neg (by rw [decide_eq_true_eq]; exact c5) ?_
  have hqn:q ≠ []:=by
   rcases hb with h | h | h | h | h | h
   ·exact absurd h c5
   ·exact absurd h c1
   ·exact absurd h c2
   ·exact absurd h c3
   ·exact absurd h c4
   ·exact h.2
  have hql:=List.length_pos_iff.2 hqn
  simp only [List.length_cons] at hpl
  have hs:sub (37 :: b :: q:By) 2 (IntKind.i64.wrap (((37 :: b :: q:By).length:Int) - 1))=some (q.take (q.length - 1)):=by
   have hw:IntKind.i64.wrap (((37 :: b :: q:By).length:Int) - 1)=((q.length+1:Nat):Int):=by
    simp only [List.length_cons]
    rw [wrap64 _ (by omega) (by omega)]
    omega
   rw [hw]
   have:=lh (37 :: b :: q:By) 2 (q.length+1) (by omega) (by simp)
   rw [show (37 :: b :: q:By).drop 2=q from rfl,show q.length+1 - 2=q.length - 1 by omega] at this
   exact this
  refine ae.bind (r:=((EL e.body (q.take (q.length - 1)),()):By×Unit)) (ae.bind (.of fun F=>hs) (ae.bind (HN _ _ he) (.ret _))) (.ret _)
theorem Jg (r:By) (h:eA (37 :: r)≠0):IP ((37 :: r:By).take (eA (37 :: r))):=by
 unfold eA at h ⊢
 cases r with
 | nil=>exact absurd rfl h
 | cons b q =>
  simp only at h ⊢
  by_cases hc:b=37∨b=98∨b=107∨b=109∨b=112
  ·rw [if_pos hc]
   refine ⟨b,[],rfl,?_⟩
   rcases hc with h | h | h | h | h <;> simp [h]
  ·rw [if_neg hc] at h ⊢
   by_cases hb:b=123
   ·rw [if_pos hb] at h ⊢
    by_cases hk:(q.takeWhile (fun c=>c != 125)).length<q.length∧nmP (q.takeWhile (fun c=>c != 125))=true
    ·rw [if_pos hk]
     refine ⟨b,q.take ((q.takeWhile (fun c=>c != 125)).length+1),?_,?_⟩
     ·rw [show (q.takeWhile (fun c=>c != 125)).length+3=((q.takeWhile (fun c=>c != 125)).length+1)+1+1 by omega,List.take_succ_cons,List.take_succ_cons]
     ·refine .inr (.inr (.inr (.inr (.inr ⟨hb,?_⟩))))
      intro hh
      have:=congrArg List.length hh
      rw [List.length_take] at this
      simp only [List.length_nil] at this
      omega
    ·rw [if_neg hk] at h; exact absurd rfl h
   ·rw [if_neg hb] at h; exact absurd rfl h
theorem u4 : ∀ (n:Nat) (s:By),s.length≤n → ∀ l,oB s=some l→l.length≤s.length ∧ ∀ p∈l,(p.1=true→IP p.2.1)∧p.2.1.length≤s.length
 | 0,s,h,l,hl=>by
  obtain rfl:s = []:=List.length_eq_zero_iff.1 (by omega)
  rw [qm] at hl
  cases hl
  exact ⟨Nat.le_refl _,fun p hp=>by cases hp⟩
 | n+1,s,h,l,hl=>by
  cases s with
  | nil =>
   rw [qm] at hl
   cases hl
   exact ⟨Nat.le_refl _,fun p hp=>by cases hp⟩
  | cons c r =>
   have hp:=bg (c :: r)
   have hgl:=Eb (c :: r)
   simp only [List.length_cons] at h hgl ⊢
   rw [w9] at hl
   split at hl
   ·cases hl
   split at hl
   ·rename_i h37
    subst h37
    split at hl
    ·cases hl
    ·rename_i hg
     obtain ⟨l',h1,rfl⟩:=Option.map_eq_some_iff.1 hl
     obtain ⟨i1,i2⟩:=u4 n ((37 :: r:By).drop (eA (37 :: r))) (by rw [List.length_drop,List.length_cons]; omega) l' h1
     rw [List.length_drop,List.length_cons] at i1 i2
     refine ⟨by rw [List.length_cons]; omega,fun p hp => ?_⟩
     rcases List.mem_cons.1 hp with rfl | hp
     ·exact ⟨fun _=>Jg r hg,by simp only [List.length_take,List.length_cons]; omega⟩
     ·exact ⟨(i2 p hp).1,by have:=(i2 p hp).2; omega⟩
   ·obtain ⟨l',h1,rfl⟩:=Option.map_eq_some_iff.1 hl
    obtain ⟨i1,i2⟩:=u4 n ((c :: r).drop (decodeL (c :: r)).2) (by rw [List.length_drop,List.length_cons]; omega) l' h1
    rw [List.length_drop,List.length_cons] at i1 i2
    refine ⟨by rw [List.length_cons]; omega,fun p hp => ?_⟩
    rcases List.mem_cons.1 hp with rfl | hp
    ·exact ⟨fun hh=>absurd hh Bool.false_ne_true,by simp only [List.length_take,List.length_cons]; omega⟩
    ·exact ⟨(i2 p hp).1,by have:=(i2 p hp).2; omega⟩
/-! ### filling -/
theorem Gt (e:EnT) (g:By) (h:e.key.length≤1000∧e.method.length≤1000∧e.path.length≤1000∧e.body.length≤1000):(tf e g).length≤1000:=by
 unfold tf
 split
 ·repeat' split
  ·exact h.2.2.2
  ·exact h.1
  ·exact h.2.1
  ·exact h.2.2.1
  ·exact Nat.le_of_ble_eq_true rfl
  ·exact Nat.le_trans (Jh _ _) (by decide)
 ·exact Nat.zero_le _
theorem EC (val:By→By) (p:Pc) (l:List Pc):rj val (p :: l)=(if p.1=true then val p.2.1 else p.2.1) ++ rj val l:=by unfold rj; rw [List.flatMap_cons]
theorem uW (l:List Pc) (e:EnT) (hll:l.length≤1000) (hl : ∀ p∈l,(p.1=true→IP p.2.1)∧p.2.1.length≤1000) (he:e.key.length≤1000∧e.method.length≤1000∧e.path.length≤1000∧e.body.length≤1000) : ∀ (n i:Nat) (out:By),i+n=l.length→out.length≤1000 * i →
  ag fM ((),(),l,(l.length:Int),(i:Int),e,((),(),()),out,()) ((),((),(),()),out ++ rj (tf e) (l.drop i),())
 | 0,i,out,h,ho=>by
  refine ag.fin (.of fun F => ?_)
  unfold fM
  rw [if_neg (by rw [decide_eq_true_eq]; simp only; omega),List.drop_eq_nil_of_le (by omega)]
  show some (Sum.inr ((),((),(),()),out,()))=some (Sum.inr ((),((),(),()),out ++ [],()))
  rw [List.append_nil]
 | n+1,i,out,h,ho=>by
  have hi:i<l.length:=by omega
  have hx:idx l (i:Int)=some l[i]:=eE _ _ _ (List.getElem?_eq_getElem hi)
  obtain ⟨p1,p2⟩:=hl l[i] (List.getElem_mem hi)
  have hv:=IY l[i] e p1 p2 he.2.2.2
  have hvl:(if l[i].1=true then tf e l[i].2.1 else l[i].2.1).length≤1000:=by
   split
   ·exact Gt e _ he
   ·exact p2
  have hw:IntKind.i64.wrap ((i:Int)+1)=((i+1:Nat):Int):=by rw [wrap64 _ (by omega) (by omega)]; omega
  rw [List.drop_eq_getElem_cons hi,EC]
  generalize (if l[i].1=true then tf e l[i].2.1 else l[i].2.1)=v at hv hvl
  refine ag.step (x':=((),(),l,(l.length:Int),((i+1:Nat):Int),e,((),(),()),out ++ v,())) ?_ ?_
  ·unfold fM
   refine ae.pos (by rw [decide_eq_true_eq]; simp only; omega) ?_
   refine ae.bind (.of fun F=>hx) ?_
   refine ae.bind hv ?_
   refine ae.bind (r:=(((v.length:Int),()),(),out ++ v,())) (.of fun F => ?_) (.of fun F => ?_)
   ·unfold de
    have:aO F ((),out,())=some ((),(),out,()):=rfl
    simp only [this,Option.bind_some]
    rw [if_pos (by rw [decide_eq_true_eq]; omega)]
    rfl
   ·simp only [hw]
  ·have:=uW l e hll hl he n (i+1) (out ++ v) (by omega) (by rw [List.length_append]; omega)
   rw [List.append_assoc] at this
   exact this
def EH:List Int→By→By
 | [],acc=>acc
 | n :: l,acc=>if 40<acc.length+(if cR n=0 then [63] else bF n.toNat).length then acc else EH l (acc ++ (if cR n=0 then [63] else bF n.toNat))
theorem uJ (l:List Int) (n:Int):iP (l ++ [n])=iP l ++ nG n:=by
 unfold iP
 simp
theorem BZ (T:By) : ∀ (n p:Nat) (R:List Int) (acc:By),p≤T.length→T.length - p≤n→iP R=acc→acc.length≤40→R.length≤40 →
  ∃ R',ag dM ((),(acc.length:Int),(),(T,p),R,()) ((),R',())∧iP R'=EH ((bt (T.drop p)).map (·.1)) acc:=by
 intro n
 induction n with
 | zero =>
  intro p R acc hp hn hR ha hr
  rw [List.drop_eq_nil_of_le (by omega),dL]
  refine ⟨R,ag.fin (.of fun F => ?_),hR⟩
  unfold dM
  rw [if_neg (by rw [decide_eq_true_eq]; simp only; omega)]
 | succ n ih =>
  intro p R acc hp hn hR ha hr
  by_cases hlt:p<T.length
  case neg =>
   rw [List.drop_eq_nil_of_le (by omega),dL]
   refine ⟨R,ag.fin (.of fun F => ?_),hR⟩
   unfold dM
   rw [if_neg (by rw [decide_eq_true_eq]; exact hlt)]
  have hne:=ki hlt
  have hra:=fS T p
  have hrl:=dN T p
  have hok:=qJ (T.drop p)
  have hnx:=oP hlt
  have hpos:=bg (T.drop p)
  rw [fB hne,List.drop_drop,List.map_cons]
  generalize (decodeL (T.drop p)).1=c at *
  generalize (decodeL (T.drop p)).2=k at *
  unfold EH
  simp only [Int.toNat_natCast]
  -- the sign that is let out
  obtain ⟨d,hd1,hd2,hd3⟩ : ∃ d:Nat,okR d∧(if cR (c:Int)=0 then [63] else bF c)=bF d∧(if cR (c:Int)=0 then (63:Int) else (c:Int))=(d:Int):=by
   by_cases h0:cR (c:Int)=0
   ·exact ⟨63,by unfold okR; omega,by rw [if_pos h0]; rfl,by rw [if_pos h0]; rfl⟩
   ·exact ⟨c,hok,by rw [if_neg h0],by rw [if_neg h0]⟩
  have hrn:=fun F=>lN F d hd1
  have hel:=qo d
  have hep:=rM d
  rw [hd2]
  have hw:IntKind.i64.wrap ((acc.length:Int)+((bF d).length:Int))=((acc.length+(bF d).length:Nat):Int):=by rw [wrap64 _ (by omega) (by omega)]; omega
  have hbody : ∀ (z:(Unit×Int×Unit×(By×Nat)×List Int×Unit) ⊕ (Unit×List Int×Unit)),(∀ F:Nat,(if decide (40<((acc.length+(bF d).length:Nat):Int))=true then some (Sum.inr ((),R,())) else if decide ((R.length + [(d:Int)].length) * 4≤140737488355328)=true then some (Sum.inl ((),((acc.length+(bF d).length:Nat):Int),(),(T,p+k),R ++ [(d:Int)],())) else none:Option ((Unit×Int×Unit×(By×Nat)×List Int×Unit) ⊕ (Unit×List Int×Unit)))=some z) → ∀ F,dM F ((),(acc.length:Int),(),(T,p),R,())=some z:=by
   intro z hz F
   have hz:=hz F
   unfold dM
   rw [if_pos (by rw [decide_eq_true_eq]; exact hlt)]
   simp only [hra,hrl,iX,Option.bind_some]
   have h9:(if decide (cR (c:Int)=0)=true then some ((),(acc.length:Int),63,(),(T,p+k),R,()) else some ((),(acc.length:Int),(c:Int),(),(T,p+k),R,()):Option (Unit×Int×Int×Unit×(By×Nat)×List Int×Unit))=some ((),(acc.length:Int),(d:Int),(),(T,p+k),R,()):=by
    by_cases h0:cR (c:Int)=0
    ·rw [if_pos (decide_eq_true h0)]
     rw [if_pos h0] at hd3
     rw [← hd3]
    ·rw [if_neg (by rw [decide_eq_true_eq]; exact h0)]
     rw [if_neg h0] at hd3
     rw [← hd3]
   rw [h9]
   simp only [Option.bind_some,hrn F,hw]
   exact hz
  by_cases h40:40<acc.length+(bF d).length
  ·rw [if_pos h40]
   refine ⟨R,ag.fin (.of (hbody _ fun F => ?_)),hR⟩
   rw [if_pos (by rw [decide_eq_true_eq]; omega)]
  ·rw [if_neg h40]
   -- as many bt as bytes at most
   have hlen : ∀ l:List Int,(∀ n∈l,1≤(nG n).length)→l.length≤(iP l).length:=by
    intro l
    induction l using lC with
    | h0=>intro _; exact Nat.zero_le _
    | h1 l a ih2 =>
     intro h
     have h1:=ih2 fun n hn=>h n (List.mem_append_left _ hn)
     have h2:=h a (by simp)
     rw [uJ,List.length_append,List.length_append,List.length_singleton]
     omega
   have henc : ∀ n:Int,1≤(nG n).length:=fun n=>by rw [e3]; exact rM _
   have hRd:iP (R ++ [(d:Int)])=acc ++ bF d:=by rw [uJ,hR,om d hd1]
   have hRl:(R ++ [(d:Int)]).length≤40:=by
    have h3:=hlen (R ++ [(d:Int)]) (fun n _=>henc n)
    rw [hRd] at h3
    have h4:(acc ++ bF d).length=acc.length+(bF d).length:=List.length_append
    omega
   have hal:(acc ++ bF d).length=acc.length+(bF d).length:=List.length_append
   obtain ⟨R',i1,i2⟩:=ih (p+k) (R ++ [(d:Int)]) (acc ++ bF d) hnx (by omega) hRd (by omega) hRl
   refine ⟨R',ag.step (.of (hbody _ fun F => ?_)) i1,i2⟩
   rw [if_neg (by rw [decide_eq_true_eq]; omega),if_pos (by rw [decide_eq_true_eq]; simp only [List.length_singleton]; omega),hal]
def qR (s:By) (e:EnT):By:=if 60<s.length then [] else match oB s with
 | none => []
 | some l=>EH ((bt (rj (tf e) l)).map (·.1)) []
theorem Gm (s:By) (e:EnT) (hs:s.length≤1000) (he:e.key.length≤1000∧e.method.length≤1000∧e.path.length≤1000∧e.body.length≤1000):ae (fun F=>gn F (s,e)) (qR s e):=by
 unfold gn qR
 refine ae.bind (Kh s hs) ?_
 unfold Jo
 by_cases h6:60<s.length
 ·rw [if_pos h6,if_pos h6]
  exact ae.pos rfl (.ret _)
 rw [if_neg h6,if_neg h6]
 cases hc:oB s with
 | none=>exact ae.pos rfl (.ret _)
 | some l =>
  obtain ⟨g1,g2⟩:=u4 s.length s (Nat.le_refl _) l hc
  refine ae.neg (by show ¬ (!true)=true; decide) ?_
  have h0:=uW l e (by omega) (fun p hp=>⟨(g2 p hp).1,by have:=(g2 p hp).2; omega⟩) he l.length 0 [] (by omega) (by simp)
  rw [List.drop_zero,List.nil_append] at h0
  refine ae.bind h0.run ?_
  refine ae.bind (r:=(rj (tf e) l,((),(),()))) (.ret _) ?_
  obtain ⟨R',i1,i2⟩:=BZ (rj (tf e) l) (rj (tf e) l).length 0 [] [] (Nat.zero_le _) (by omega) rfl (by decide) (by decide)
  rw [List.drop_zero] at i2
  show ae _ (EH ((bt (rj (tf e) l)).map (·.1)) [])
  rw [← i2]
  exact ae.bind i1.run (.ret _)
end Go.Vm
