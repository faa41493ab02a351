/- Acts as lines: the laws. No condition but that numbers are such as Go has them. -/
import Derived.Test.YtcnigpigmhpakaaGreatDoorPsc9
namespace Go.Vm
open Go.Proofs
open Go.Lib (decodeL decDigits itoa validD)
set_option linter.unusedVariables false
set_option linter.unusedSimpArgs false
theorem zA (s:By):qS validD nvP tvP s=tE validD nvP tvP s:=EJ (fun t h=>sj t h) s
theorem qz {x:di} (h:ew validD x=true):qS validD nvP tvP (aT x)=some x :=
 xl (fun n h=>Al h) (fun t h=>by
  unfold dB at h
  rw [Bool.and_eq_true,Bool.and_eq_true,decide_eq_true_eq,decide_eq_true_eq] at h
  exact AB (sj t h.1.1) h.2) h
theorem mA : ∀ (s:By) (o sk:Bool) (cur:By), ∀ p∈ey o sk cur s,p.length≤cur.length+s.length
 | [],o,sk,cur,p,hp=>by
  have:ey o sk cur [] = [cur]:=by cases sk <;> rfl
  rw [this] at hp
  obtain rfl:=List.mem_singleton.1 hp
  simp
 | c :: s,o,true,cur,p,hp=>by
  rw [ey] at hp
  have:=mA s o false (cur ++ [c]) p hp
  simp only [List.length_append,List.length_cons,List.length_nil] at this ⊢
  omega
 | c :: s,o,false,cur,p,hp=>by
  rw [ey] at hp
  split at hp
  ·have:=mA s o true (cur ++ [c]) p hp
   simp only [List.length_append,List.length_cons,List.length_nil] at this ⊢
   omega
  split at hp
  ·have:=mA s (!o) false (cur ++ [c]) p hp
   simp only [List.length_append,List.length_cons,List.length_nil] at this ⊢
   omega
  split at hp
  ·rcases List.mem_cons.1 hp with rfl | hp
   ·simp
   ·have:=mA s false false [] p hp
    simp only [List.length_nil,List.length_cons] at this ⊢
    omega
  ·have:=mA s o false (cur ++ [c]) p hp
   simp only [List.length_append,List.length_cons,List.length_nil] at this ⊢
   omega
theorem qU {s:By} (h:s.length≤1000):PL s:=⟨by omega,fun p hp=>by have:=mA s false false [] p hp; simp at this; omega⟩
theorem uY {x:di} (h:ew validD x=true):PL (aT x):=by
 refine ⟨by have:=jE x h; omega,fun p hp => ?_⟩
 have e:ey false false [] (aT x)=aH.getD x.kind.toNat [] :: dW x:=uo _ (by simp) (sM h)
 rw [e] at hp
 have:=qI x h p hp
 omega
theorem AK : ∀ (f:Nat) (s:By),s.length≤1000→RD f s
 | 0,s,_=>trivial
 | f+1,s,h=>by
  unfold RD
  cases hq:cutAt 10 s with
  | none=>exact qU h
  | some xr =>
   obtain ⟨x,r⟩:=xr
   obtain ⟨hxe,_⟩:=nk _ _ _ hq
   have hl:s.length=x.length+1+r.length:=by rw [hxe]; simp; omega
   exact ⟨qU (by omega),AK f r (by omega)⟩
theorem AF : ∀ (f:Nat) (l:List di),(∀ a∈l,ew validD a=true)→RD f (cR l)
 | 0,l,_=>trivial
 | f+1,[],_=>by
  show PL []
  exact qU (by simp)
 | f+1,a :: l,h=>by
  have e:cR (a :: l)=aT a ++ 10 :: cR l:=by
   unfold cR
   rw [List.flatMap_cons,List.append_assoc]; rfl
  unfold RD
  rw [e,pF _ _ (AO a)]
  exact ⟨uY (h a List.mem_cons_self),AF f l fun b hb=>h b (List.mem_cons_of_mem _ hb)⟩
theorem w9 : ∀ (l:List di),(∀ a∈l,ew validD a=true)→(cR l).length≤l.length * 5000
 | [],_=>by simp [cR]
 | a :: l,h=>by
  have ih:=w9 l fun b hb=>h b (List.mem_cons_of_mem _ hb)
  have:=jE a (h a List.mem_cons_self)
  have e:cR (a :: l)=aT a ++ [10] ++ cR l:=by unfold cR; rw [List.flatMap_cons]
  rw [e]
  simp only [List.length_append,List.length_cons,List.length_nil]
  rw [Nat.succ_mul]
  omega
/-! ### awake -/
def wA0:di:=⟨0,1,0,0,0,0,0,[107],[71,69,84],[47,97],[]⟩
def wA1:di:=⟨9,0,9, -1,0,0,0,[],[],[],[]⟩
theorem HD:itoa 1 = [49]:=by unfold itoa; rw [if_neg (by decide)]; exact Go.Lib.decDigits_one (by decide)
theorem CK:itoa 0 = [48]:=by unfold itoa; rw [if_neg (by decide)]; exact Go.Lib.decDigits_one (by decide)
theorem HT:itoa 9 = [57]:=by unfold itoa; rw [if_neg (by decide)]; exact Go.Lib.decDigits_one (by decide)
theorem H7:itoa (-1) = [45,49]:=by
 unfold itoa
 rw [if_pos (by decide)]
 exact congrArg (45 :: ·) (Go.Lib.decDigits_one (i:=1) (by decide))
theorem KE:ew validD wA0=true:=by kernel_rfl
theorem IZ:ew validD wA1=true:=by kernel_rfl
theorem HJ:aT wA0 = [115,101,110,100,32,49,32,48,32,34,107,34,32,34,71,69,84,34,32,34,47,97,34,32,34,34]:=by
 have:aT wA0=eM [[115,101,110,100],itoa 1,itoa 0,quo [107],quo [71,69,84],quo [47,97],quo []]:=rfl
 rw [this,HD,CK]
 rfl
theorem HG:aT wA1 = [114,111,116,32,48,32,57,32,45,49]:=by
 have:aT wA1=eM [[114,111,116],itoa 0,itoa 9,itoa (-1)]:=rfl
 rw [this,CK,HT,H7]
 rfl
theorem rB:ae (fun F=>bP F ()) true:=by
 have h0:=rD wA0 ⟨⟨by decide,by decide⟩,⟨by decide,by decide⟩,⟨by decide,by decide⟩,⟨by decide,by decide⟩,by decide,by decide,by decide,by decide⟩
 unfold sE at h0
 rw [KE,if_pos rfl,HJ] at h0
 have hPL:=uY IZ
 have h1:=oD (aT wA1) hPL.1 hPL.2
 rw [qz IZ,HG] at h1
 unfold bP
 refine ae.bind h0 (ae.bind h1 (ae.bind (ae.pos rfl (.ret _)) (ae.bind (ae.pos rfl (.ret _)) (ae.bind (r:=(true,())) (ae.pos (by decide) (.of fun F => ?_)) (.ret _)))))
 rfl
/-! ### the numbers' range -/
theorem zv {n:Int} (h:OkD (.int .i64 n)):I64 n:=by
 cases h with
 | int h =>
  simp [Lit.wf,IntKind.min,IntKind.max,IntKind.signed,IntKind.bits] at h
  exact ⟨by omega,by omega⟩
abbrev acS:List (S0 Kd) := [.int .i64, .int .i64, .int .i64, .int .i64, .int .i64, .int .i64, .int .i64, .str, .str, .str, .str]
theorem Fb {y:AcT} (g : ∀ d∈fO acS (E:=El) y,OkD d):I64 y.2.1∧I64 y.2.2.1∧I64 y.2.2.2.1∧I64 y.2.2.2.2.2.2.1 :=
 ⟨zv (g _ (List.mem_of_getElem? (i:=1) rfl)),zv (g _ (List.mem_of_getElem? (i:=2) rfl)),zv (g _ (List.mem_of_getElem? (i:=3) rfl)),zv (g _ (List.mem_of_getElem? (i:=6) rfl))⟩
theorem Fh {y:AcT} (g:I64 y.2.1∧I64 y.2.2.1∧I64 y.2.2.2.1∧I64 y.2.2.2.2.2.2.1) (h:smB y=true):Fit (toA y):=by
 have hl:=Hq h
 exact ⟨g.1,g.2.1,g.2.2.1,g.2.2.2,by show y.2.2.2.2.2.2.2.1.length≤1000; omega,by show y.2.2.2.2.2.2.2.2.1.length≤1000; omega,by show y.2.2.2.2.2.2.2.2.2.1.length≤1000; omega,by show y.2.2.2.2.2.2.2.2.2.2.1.length≤1000; omega⟩
/-! ### there and back -/
theorem zh (y:AcT) (g:I64 y.2.1∧I64 y.2.2.1∧I64 y.2.2.2.1∧I64 y.2.2.2.2.2.2.1):ae (fun F=>dq F y) true:=by
 unfold dq
 refine ae.bind rB (ae.neg (by simp) (ae.bind (m:=fun F=>bR F ([],[y],1)) (C0 [y] 1 (by omega)) ?_))
 have e1:(decide (([y]:List AcT).length≤1) && ([y]:List AcT).all smB)=smB y:=by simp
 rw [e1]
 cases hsm:smB y with
 | false=>exact ae.pos rfl (.ret _)
 | true =>
 refine ae.neg (by simp) ?_
 have hfit:=Fh g hsm
 have hp:=rD (toA y) hfit
 obtain ⟨_,_,_,_,l1,l2,l3,l4⟩:=hfit
 have hh:=B3 (toA y) l1 l2 l3 l4
 rw [FA] at hp hh
 refine ae.bind hp (ae.bind hh ?_)
 unfold sE
 cases hb:ew validD (toA y) with
 | false=>exact ae.pos rfl (ae.bind (r:=(true,())) (ae.pos rfl (.ret _)) (.ret _))
 | true =>
  refine ae.neg (by simp) ?_
  have hPL:=uY hb
  have h1:=oD (aT (toA y)) hPL.1 hPL.2
  rw [qz hb] at h1
  have h2:=vr (toA y) hb
  rw [FA] at h2
  refine ae.bind h1 ?_
  refine ae.bind (r:=((),(),0,true,y,y,())) (ae.pos rfl (ae.bind h2 (.of fun F => ?_))) ?_
  ·show some ((),(),0,decide (aT (toA y)=aT (toA y)),y,y,()) = _
   rw [decide_eq_true rfl]
  refine ae.bind (r:=((),(),true,y,y,())) (ae.pos rfl (.ret _)) (ae.bind (r:=(true,())) (ae.pos rfl (.of fun F => ?_)) (.ret _))
  simp
theorem pure_conciergelaw34_ScriptBack (y:AcT) (g : ∀ d∈fO acS (E:=El) y,OkD d) : ∃ F,dq F y=some true:=(zh y (Fb g)).ex
/-! ### any text -/
theorem zG (s:By):ae (fun F=>dH F s) true:=by
 unfold dH
 refine ae.bind rB (ae.neg (by simp) ?_)
 by_cases h4:400<s.length
 ·exact ae.pos (by rw [decide_eq_true_eq]; omega) (.ret _)
 refine ae.neg (by rw [decide_eq_true_eq]; omega) ?_
 have hPL:=qU (s:=s) (by omega)
 have h1:=oD s hPL.1 hPL.2
 have h2:=zK s (by omega)
 rw [← zA] at h2
 refine ae.bind h1 (ae.bind h2 ?_)
 cases qS validD nvP tvP s with
 | none=>exact ae.pos rfl (ae.bind (r:=(true,())) (ae.pos rfl (.ret _)) (.ret _))
 | some x=>exact ae.neg (by simp [yK]) (ae.bind (r:=(true,())) (ae.pos rfl (.of fun F=>by simp [F2,yK])) (.ret _))
theorem pure_conciergelaw34_ScriptAny (s:By) : ∃ F,dH F s=some true:=(zG s).ex
/-! ### any lines -/
theorem w7 {P:By→Option di} : ∀ (f n:Nat) (out:List di) (s:By),(iy P f n out s).1.length≤out.length+f
 | 0,n,out,s=>by simp [iy]
 | f+1,n,out,s=>by
  unfold iy
  split
  ·simp only; omega
  cases cutAt 10 s with
  | none=>simp only; omega
  | some xr =>
   obtain ⟨x,r⟩:=xr
   simp only
   cases P x with
   | none=>simp only; omega
   | some a =>
    have:=w7 (P:=P) f (n+1) (out ++ [a]) r
    simp only [List.length_append,List.length_cons,List.length_nil] at this ⊢
    omega
theorem wk (s:By):ae (fun F=>cU F s) true:=by
 unfold cU
 refine ae.bind rB (ae.neg (by simp) ?_)
 by_cases h5:500<s.length
 ·exact ae.pos (by rw [decide_eq_true_eq]; omega) (.ret _)
 refine ae.neg (by rw [decide_eq_true_eq]; omega) ?_
 have h1:=C1 s (by omega) (AK _ s (by omega))
 have h2:=HQ s (by omega)
 have e:uj=tG:=funext fun x=>(zA x).symm
 rw [e] at h2
 have hl:=w7 (P:=tG) (s.length+1) 1 [] s
 generalize iy tG (s.length+1) 1 [] s=R at h1 h2 hl
 have hs:=Dl (R.1.map ofA) (R.1.map ofA) (by rw [List.length_map]; simp at hl; omega) (by rw [List.length_map]; simp at hl; omega)
 rw [if_pos rfl] at hs
 refine ae.bind h1 (ae.bind h2 ?_)
 refine ae.bind (r:=(R.2.2,R.2.2,true,())) (ae.bind hs (ae.pos rfl (.of fun F => ?_))) (ae.bind (r:=(true,())) (ae.pos rfl (.of fun F=>by simp)) (.ret _))
 simp [ug]
theorem pure_conciergelaw34_ScriptReads (s:By) : ∃ F,cU F s=some true:=(wk s).ex
/-! ### lines there and back -/
theorem sP (l:List di) (hf : ∀ a∈l,Fit a) (hl:l.length≤100) : ∀ (n i:Nat) (want:By),i+n=l.length→want.length≤i * 5000 →
  af bC (l.map ofA,want,l.map ofA,((l.map ofA).length:Int),(i:Int),()) (if (l.drop i).all (ew validD)=true then .inl (l.map ofA,want ++ cR (l.drop i),()) else .inr (true,()))
 | 0,i,want,h,hb=>by
  refine af.fin (.of fun F => ?_)
  unfold bC
  rw [if_neg (by rw [decide_eq_true_eq,List.length_map]; simp only; omega),List.drop_of_length_le (by omega)]
  simp [cR]
 | n+1,i,want,h,hb=>by
  have hi:i<l.length:=by omega
  have hw:IntKind.i64.wrap ((i:Int)+1)=((i+1:Nat):Int):=dn i (by omega)
  have hx:idx (l.map ofA) (i:Int)=some (ofA l[i]):=eQ _ _ _ (by simp [hi])
  have hd:l.drop i=l[i] :: l.drop (i+1):=List.drop_eq_getElem_cons hi
  obtain ⟨_,_,_,_,f1,f2,f3,f4⟩:=hf _ (List.getElem_mem hi)
  have hh:=B3 l[i] f1 f2 f3 f4
  rw [hd,List.all_cons]
  cases hb0:ew validD l[i] with
  | false =>
   rw [hb0] at hh
   rw [Bool.false_and,if_neg (by simp)]
   have hall:l.all (ew validD)=false:=by
    rw [Bool.eq_false_iff]
    intro ha
    have:=List.all_eq_true.1 ha _ (List.getElem_mem hi)
    rw [hb0] at this
    cases this
   have hwr:=AV l hf hl
   rw [hall,if_neg (by simp)] at hwr
   refine af.fin ?_
   unfold bC
   refine ae.pos (by rw [decide_eq_true_eq,List.length_map]; simp only; omega) (ae.bind (.of fun F=>hx) (ae.bind hh (ae.pos rfl (ae.bind hwr (ae.bind (r:=(true,())) (ae.pos rfl (.ret _)) (.ret _))))))
  | true =>
   rw [hb0] at hh
   rw [Bool.true_and]
   have hpl:=jE l[i] hb0
   have hlen:(want ++ (aT l[i] ++ [10])).length≤(i+1) * 5000:=by simp; omega
   have ih:=sP l hf hl n (i+1) (want ++ (aT l[i] ++ [10])) (by omega) hlen
   have hb2:want.length≤500000:=by
    have:i * 5000≤100 * 5000:=Nat.mul_le_mul_right _ (by omega)
    omega
   have e2:want ++ cR (l[i] :: l.drop (i+1))=want ++ (aT l[i] ++ [10]) ++ cR (l.drop (i+1)):=by unfold cR; rw [List.flatMap_cons]; simp
   rw [e2]
   refine af.step ?_ ih
   unfold bC
   refine ae.pos (by rw [decide_eq_true_eq,List.length_map]; simp only; omega) (ae.bind (.of fun F=>hx) (ae.bind hh (ae.neg (by simp) (ae.bind (vr l[i] hb0) ?_))))
   refine ae.pos (by rw [decide_eq_true_eq]; simp only [List.length_cons,List.length_nil]; omega) (ae.pos (by rw [decide_eq_true_eq]; simp only [List.length_append,List.length_cons,List.length_nil]; omega) (.of fun F=>by simp only [hw]))
theorem wD (l:List AcT) (g : ∀ y∈l,I64 y.2.1∧I64 y.2.2.1∧I64 y.2.2.2.1∧I64 y.2.2.2.2.2.2.1):ae (fun F=>cX F l) true:=by
 unfold cX
 refine ae.bind rB (ae.neg (by simp) (ae.bind (m:=fun F=>bR F ([],l,30)) (C0 l 30 (by omega)) ?_))
 cases hsm:(decide (l.length≤30) && l.all smB) with
 | false=>exact ae.pos rfl (.ret _)
 | true =>
 refine ae.neg (by simp) ?_
 rw [Bool.and_eq_true,decide_eq_true_eq,List.all_eq_true] at hsm
 obtain ⟨hl30,hsm⟩:=hsm
 obtain ⟨m,rfl,hf⟩ : ∃ m:List di,l=m.map ofA ∧ ∀ a∈m,Fit a:=by
  refine ⟨l.map toA,?_,fun a ha => ?_⟩
  ·rw [List.map_map]
   exact (List.map_id l).symm.trans (List.map_congr_left fun y _=>(FA y).symm)
  ·obtain ⟨y,hy,rfl⟩:=List.mem_map.1 ha
   exact Fh (g y hy) (hsm y hy)
 rw [List.length_map] at hl30
 have hloop:=sP m hf (by omega) m.length 0 [] (by omega) (by simp)
 rw [List.drop_zero,List.nil_append] at hloop
 refine ae.bind hloop.run ?_
 cases ha:m.all (ew validD) with
 | false=>exact .of fun F=>rfl
 | true =>
  have hwr:=AV m hf (by omega)
  rw [ha,if_pos rfl] at hwr
  have hall : ∀ a∈m,ew validD a=true:=List.all_eq_true.1 ha
  have hwl:=w9 m hall
  have hrd:=C1 (cR m) (by
   have:m.length * 5000≤30 * 5000:=Nat.mul_le_mul_right _ hl30
   omega) (AF _ m hall)
  have hml:m.length<(cR m).length+1:=by
   have : ∀ l:List di,l.length≤(cR l).length:=by
    intro l
    induction l with
    | nil=>exact Nat.zero_le _
    | cons a l ih =>
     have e:cR (a :: l)=aT a ++ [10] ++ cR l:=by unfold cR; rw [List.flatMap_cons]
     rw [e]
     simp only [List.length_append,List.length_cons,List.length_nil]
     omega
   have:=this m
   omega
  rw [uL m [] _ 1 (fun a h=>qz (hall a h)) hml,List.nil_append] at hrd
  have hs:=Dl (m.map ofA) (m.map ofA) (by rw [List.length_map]; omega) (by rw [List.length_map]; omega)
  rw [if_pos rfl] at hs
  show ae (fun F=>(fI F (m.map ofA)).bind _) true
  refine ae.bind hwr (ae.bind hrd ?_)
  refine ae.bind (r:=(m.map ofA,m.map ofA,0,0,true,())) (ae.pos rfl (.of fun F => ?_)) ?_
  ·simp [ug]
  refine ae.bind (r:=(m.map ofA,m.map ofA,0,true,())) (ae.pos rfl (.ret _)) ?_
  refine ae.bind (r:=(m.map ofA,m.map ofA,true,())) (ae.pos rfl (.ret _)) ?_
  exact ae.bind (r:=(true,())) (ae.pos rfl (ae.bind hs (.ret _))) (.ret _)
theorem pure_conciergelaw34_ScriptLines (l:List AcT) (g : ∀ d∈fO [.slc .ac] (E:=El) (l,()),OkD d) : ∃ F,cX F l=some true:=by
 have h:=g _ List.mem_cons_self
 refine (wD l fun y hy => ?_).ex
 have h' : ∀ y∈l, ∀ d∈Kd.enc .ac y,OkD d:=by
  cases h with
  | slc h=>exact h
 exact Fb (h' y hy)
end Go.Vm
