import Derived.Test.YtihpjgcbmipdbaaGreatDoorPj10
set_option linter.unusedVariables false
set_option linter.unusedSimpArgs false
namespace Go.Vm
open Go.Lib (decodeL itoa)
theorem S6:∀ c:Fin 32,idx ([48,49,50,51,52,53,54,55,56,57,97,98,99,100,101,102]:B8) (shr .i32 ((c.val:Nat):Int) 4)=some (HC (c.val / 16))/\idx ([48,49,50,51,52,53,54,55,56,57,97,98,99,100,101,102]:B8) (pX .i32 ((c.val:Nat):Int) 15)=some (HC (c.val % 16)):=by decide +kernel
theorem Nt:∀ c:Fin 32,c.val≠8->c.val≠9->c.val≠10->c.val≠12->c.val≠13->kQ (bR c.val)=[92,117,48,48,HC (c.val / 16),HC (c.val % 16)]:=by decide +kernel
theorem SZ (b:UInt8):UInt8.ofNat ((b.toNat:Nat):Int).toNat=b:=by simp
theorem JN (c:Nat) (h:okR c) (WO:¬ c<32) (WV:c≠34) (h92:c≠92):kQ (bR c)=bR c:=by
 by_cases h1:c<128
 ·rw[CA c h1]
  have e4:(UInt8.ofNat c).toNat=c:=by simp; omega
  have ne:∀ k:UInt8,k.toNat≠c->UInt8.ofNat c≠k:=by
   intro k hk hh;rw[<-hh,e4] at hk;exact hk rfl
  have e3:bR c=[UInt8.ofNat c]:=by unfold bR; rw[if_pos h1]
  unfold u9;have n8:(8:UInt8).toNat=8:=rfl;have n9:(9:UInt8).toNat=9:=rfl;have n10:(10:UInt8).toNat=10:=rfl;have n12:(12:UInt8).toNat=12:=rfl;have n13:(13:UInt8).toNat=13:=rfl;have n34:(34:UInt8).toNat=34:=rfl;have n92:(92:UInt8).toNat=92:=rfl;rw[if_neg (fun hh=>hh.elim (ne 34 (by omega)) (ne 92 (by omega))),if_neg (ne 8 (by omega)),if_neg (ne 9 (by omega)),if_neg (ne 10 (by omega)),if_neg (ne 12 (by omega)),if_neg (ne 13 (by omega)),if_neg (by omega),e3]
 ·exact Bn c h1 h.1
theorem JR (F:Nat) (T out:By) (i c:Nat) (hc:okR c) (hi:i<T.length) (I8:cT T i=(c:Int)) (ho:out.length<=1000000) :
  iM F ((),(),(T,i),out,())=some (.inl ((),(),(T,i+runeLen T i),out++kQ (bR c),())):=by
 unfold iM;have L2:∀ a b:UInt8,decide ((out.length + [a,b].length)*1<=140737488355328)=true:=by intro a b; simp; omega
 have L4:∀ a b c d:UInt8,decide ((out.length + [a,b,c,d].length)*1<=140737488355328)=true:=by intro a b c d; simp; omega
 have L6:∀ a b c d e f:UInt8,decide (((out++[a,b,c,d]).length + [e,f].length)*1<=140737488355328)=true:=by intro a b c d e f; simp; omega
 simp only[hi,decide_true,if_true,I8];by_cases k34:c=34
 ·subst k34
  have:((34:Nat):Int)=34:=rfl;simp only[this,decide_true,Bool.true_eq_false,if_false,ada,if_true,L2];rfl
 have i34:¬ (c:Int)=34:=by omega
 by_cases k92:c=92
 ·subst k92
  have:((92:Nat):Int)=92:=rfl;have:¬ ((92:Nat):Int)=34:=by decide
  simp only[this,decide_false,if_true,ada];have:((92:Nat):Int)=92:=rfl;simp only[this,decide_true,if_true,L2];rfl
 have i92:¬ (c:Int)=92:=by omega
 simp only[i34,i92,decide_false,if_true,ada,ade,if_false];by_cases k8:c=8
 ·subst k8
  have:((8:Nat):Int)=8:=rfl;simp only[this,decide_true,if_true];exact (if_pos (L2 92 98)).trans rfl
 have i8:¬ (c:Int)=8:=by omega
 simp only[i8,decide_false,ade,if_false];by_cases k12:c=12
 ·subst k12
  have:((12:Nat):Int)=12:=rfl;simp only[this,decide_true,if_true];exact (if_pos (L2 92 102)).trans rfl
 have i12:¬ (c:Int)=12:=by omega
 simp only[i12,decide_false,ade,if_false];by_cases k10:c=10
 ·subst k10
  have:((10:Nat):Int)=10:=rfl;simp only[this,decide_true,if_true];exact (if_pos (L2 92 110)).trans rfl
 have i10:¬ (c:Int)=10:=by omega
 simp only[i10,decide_false,ade,if_false];by_cases k13:c=13
 ·subst k13
  have:((13:Nat):Int)=13:=rfl;simp only[this,decide_true,if_true];exact (if_pos (L2 92 114)).trans rfl
 have i13:¬ (c:Int)=13:=by omega
 simp only[i13,decide_false,ade,if_false];by_cases k9:c=9
 ·subst k9
  have:((9:Nat):Int)=9:=rfl;simp only[this,decide_true,if_true];exact (if_pos (L2 92 116)).trans rfl
 have i9:¬ (c:Int)=9:=by omega
 simp only[i9,decide_false,ade,if_false];by_cases k32:c<32
 ·have i32:(c:Int)<32:=by omega
  obtain ⟨h1,h2⟩:=S6 ⟨c,k32⟩;have h3:=Nt ⟨c,k32⟩ k8 k9 k10 k12 k13;simp only at h1 h2 h3;simp only[i32,decide_true,if_true,h1,h2,ada,SZ,h3];refine (if_pos (L4 92 117 48 48)).trans ((if_pos (L6 92 117 48 48 _ _)).trans ?_);rw[List.append_assoc];rfl
 have i32:¬ (c:Int)<32:=by omega
 simp only[i32,decide_false,ade,if_false,append_eq F c hc out (by omega),ada,k6 c hc,JN c hc k32 k34 k92]
theorem Kt (T:By):∀ (t:By),OkT t -> ∀ (i:Nat) (out:By),T.drop i=t->i<=T.length->out.length+(kQ t).length<=1000000->ag iM ((),(),(T,i),out,()) ((),out++kQ t,()):=by
 intro t ht;induction ht with
 | nil =>
  intro i out hd hi ho;refine ag.fin (.of fun F => ?_);have:¬ i<T.length:=by
   have:=congrArg List.length hd;simp at this;omega
  unfold iM;simp only[this,decide_false,ade,if_false];have e:kQ []=[]:=rfl;rw[e,List.append_nil]
 | cons c t hc _ ih =>
  intro i out hd hi ho;have hp:=xq c;have aH:i<T.length:=by
   have:=congrArg List.length hd;rw[List.length_drop,adf] at this;omega
  have I6:=BP c hc t;have I8:cT T i=(c:Int):=by rw[jI,hd,I6]
  have Dp:runeLen T i=(bR c).length:=by rw[gu,hd,I6]
  rw[xU,<-List.append_assoc];rw[xU,adf] at ho;refine ag.step (.of fun F=>JR F T out i c hc aH I8 (by omega)) ?_;rw[Dp];refine ih (i+(bR c).length) (out++kQ (bR c)) ?_ ?_ (by rw[adf]; omega)
  ·rw[<-List.drop_drop,hd,List.drop_left' rfl]
  ·have:=congrArg List.length hd
   rw[List.length_drop,adf] at this;omega
theorem L0 (b t:By) (ht:OkT t) (hb:b.length+(quo t).length<=1000000):ae (fun F=>iD F (b,t)) (b++quo t):=by
 unfold quo at hb;simp only[adb,adf,List.length_nil] at hb;unfold iD;refine ae.pos (by simp; omega) ?_;refine ae.bind (Kt t t ht 0 (b++[UInt8.ofNat 34]) rfl (by omega) (by simp; omega)).run ?_;refine ae.pos (by simp; omega) ?_;refine (ae.ret _).eq ?_;unfold quo;simp
def LT (d:Nat) (R:Nat->By×JV->Option By):Prop:=∀ v b,okV d v->b.length+(cg d v).length<=1000000->ae (fun F=>R F (b,v)) (b++cg d v)
def Lr {α:Type} (f:α->By) (l:List α):By:=l.flatMap fun x=>44::f x
theorem join_cons {α:Type} (f:α->By) (x:α):∀ l:List α,eF ((x::l).map f)=f x++Lr f l
 | []=>by simp[eF,Lr]
 | y::l=>by
  have:=join_cons f y l;simp only[List.map_cons,eF,Lr,List.flatMap_cons,List.cons_append] at this ⊢
  rw[this]
def iz {α:Type} (f:α->By) (i:Nat) (l:List α):By:=if i=0 then eF (l.map f) else Lr f l
theorem qN {α:Type} (f:α->By) (i:Nat) (x:α) (l:List α):iz f i (x::l)=(if i=0 then [] else [44])++(f x++iz f (i+1) l):=by
 unfold iz;rw[if_neg (by omega:¬ i+1=0)];split
 ·rw[join_cons]; rfl
 ·rfl
theorem vE (d:Nat) (R:Nat->By×JV->Option By) (hR:LT d R) (l:List JV) (hl:∀ v∈l,okV d v) (Ae:l.length<=1000000):∀ (n i:Nat) (out:By),i+n=l.length->out.length+(iz (cg d) i (l.drop i)).length<=1000000 ->
  ag (fun F=>ir F (R F)) ((),l,(l.length:Int),(i:Int),out,()) ((),out++iz (cg d) i (l.drop i),())
 | 0,i,out,h,ho=>by
  have:i=l.length:=by omega
  subst this;refine ag.fin (.of fun F => ?_);unfold ir;rw[List.drop_length];have e:iz (cg d) l.length []=[]:=by unfold iz; split <;> rfl
  simp[e]
 | n+1,i,out,h,ho=>by
  have hi:i<l.length:=by omega
  have h':(i:Int)<(l.length:Int):=by omega
  have hx:idx l (i:Int)=some l[i]:=bU _ _ _ (by simp[hi]);rw[ado hi,qN] at ho ⊢
  rw[adf,adf] at ho;have hv:=hl l[i] (List.getElem_mem hi);have RJ:ae (fun F=>ir F (R F) ((),l,(l.length:Int),(i:Int),out,())) (.inl ((),l,(l.length:Int),((i+1:Nat):Int),out++(if i=0 then [] else [44])++cg d l[i],())):=by
   unfold ir;refine ae.pos (by simpa using h') ?_;refine ae.bind (.of fun F=>hx) ?_;refine ae.bind (r:=(((),l[i],l,(l.length:Int),(i:Int),out++(if i=0 then [] else [44]),()):Unit×JV×List JV×Int×Int×By×Unit)) ?_ ?_
   ·by_cases h0:i=0
    ·subst h0
     refine ae.neg (by simp) ?_;rw[if_pos rfl,List.append_nil];exact .ret _
    ·refine ae.pos (by simp; omega) ?_
     rw[if_neg h0] at ho ⊢
     refine ae.pos (by simp at ho ⊢; omega) ?_;exact .ret _
   ·refine ae.bind (hR l[i] (out++(if i=0 then [] else [44])) hv (by rw[adf]; omega)) ?_
    refine .of fun F => ?_
    simp only;rw[wrap64 _ (by omega) (by omega)];rfl
  have ih:=vE d R hR l hl Ae n (i+1) (out++(if i=0 then [] else [44])++cg d l[i]) (by omega) (by rw[adf,adf]; omega);have:=ag.step RJ ih;simpa only[List.append_assoc] using this
theorem wR (d:Nat) (R:Nat->By×JV->Option By) (hR:LT d R) (l:List Me) (hl:∀ m∈l,OkT m.1/\okV d m.2.1) (Ae:l.length<=1000000):∀ (n i:Nat) (out:By),i+n=l.length->out.length+(iz (fun m:Me=>quo m.1++58::cg d m.2.1) i (l.drop i)).length<=1000000 ->
  ag (fun F=>ik F (R F)) ((),l,(l.length:Int),(i:Int),out,()) ((),out++iz (fun m:Me=>quo m.1++58::cg d m.2.1) i (l.drop i),())
 | 0,i,out,h,ho=>by
  have:i=l.length:=by omega
  subst this;refine ag.fin (.of fun F => ?_);unfold ik;rw[List.drop_length];have e:iz (fun m:Me=>quo m.1++58::cg d m.2.1) l.length []=[]:=by unfold iz; split <;> rfl
  simp[e]
 | n+1,i,out,h,ho=>by
  have hi:i<l.length:=by omega
  have h':(i:Int)<(l.length:Int):=by omega
  have hx:idx l (i:Int)=some l[i]:=bU _ _ _ (by simp[hi]);rw[ado hi,qN] at ho ⊢
  simp only[adf,adb] at ho;obtain ⟨hv1,hv2⟩:=hl l[i] (List.getElem_mem hi);have RJ:ae (fun F=>ik F (R F) ((),l,(l.length:Int),(i:Int),out,())) (.inl ((),l,(l.length:Int),((i+1:Nat):Int),out++(if i=0 then [] else [44])++quo l[i].1++[58]++cg d l[i].2.1,())):=by
   unfold ik;refine ae.pos (by simpa using h') ?_;refine ae.bind (.of fun F=>hx) ?_;refine ae.bind (r:=(((),(),l,(l.length:Int),(i:Int),out++(if i=0 then [] else [44]),(l[i].1,l[i].2.1,()),()):Unit×Unit×List Me×Int×Int×By×Me×Unit)) ?_ ?_
   ·by_cases h0:i=0
    ·subst h0
     refine ae.neg (by simp) ?_;rw[if_pos rfl,List.append_nil];exact .ret _
    ·refine ae.pos (by simp; omega) ?_
     rw[if_neg h0] at ho ⊢
     refine ae.pos (by simp at ho ⊢; omega) ?_;exact .ret _
   ·refine ae.bind (L0 (out++(if i=0 then [] else [44])) l[i].1 hv1 (by rw[adf]; omega)) ?_
    refine ae.pos (by simp only[adf,adb,List.length_nil,ac9]; omega) ?_;refine ae.bind (hR l[i].2.1 (out++(if i=0 then [] else [44])++quo l[i].1++[UInt8.ofNat 58]) hv2 (by simp only[adf,adb,List.length_nil]; omega)) ?_;refine .of fun F => ?_
    simp only;rw[wrap64 _ (by omega) (by omega)];rfl
  have ih:=wR d R hR l hl Ae n (i+1) (out++(if i=0 then [] else [44])++quo l[i].1++[58]++cg d l[i].2.1) (by omega) (by simp only[adf,adb,List.length_nil]; omega);have:=ag.step RJ ih;simpa only[List.append_assoc,List.singleton_append,List.cons_append,List.nil_append] using this
theorem Ql (F:Nat) (b:By) (n:Int) (hn:okN n) (hb:b.length<=1000000):eS F (b,n,10)=some (b++itoa n):=by
 obtain ⟨h1,h2⟩:=hn;unfold eS xJ;rw[if_pos (adg rfl),if_pos (adg (show b.length<=140737488355000 by omega)),if_pos (adg (show -9223372036854775808<=n by omega)),if_pos (adg (show n<=9223372036854775807 by omega))]
theorem BT {α:Type} (f:α->By) (l:List α) (h:∀ v∈l,f v ≠ []) {n:Nat} (hn:(eF (l.map f)).length<=n):l.length<=n:=Nat.le_trans (BN f l h) hn
theorem H4 (d:Nat) (R:Nat->By×JV->Option By) (hR:∀ d',d=d'+1->LT d' R):LT d (fun F=>tv F (R F)):=by
 intro v b hv hb;cases v with
 | nil=>cases d <;> exact hv.elim
 | null =>
  have e:cg d .null=[110,117,108,108]:=by cases d <;> rfl
  rw[e] at hb ⊢
  refine .of fun F => ?_
  show (if decide ((b.length + [110,117,108,108].length)*1<=140737488355328)=true then some (b++[110,117,108,108]) else none) = _;rw[if_pos (by simp at hb ⊢; omega)]
 | bool x =>
  cases x with
  | true =>
   have e:cg d (.bool true)=[116,114,117,101]:=by cases d <;> rfl
   rw[e] at hb ⊢
   refine .of fun F => ?_
   show (dc F (b,true)).bind (fun v5=>some v5) = _;unfold dc dK;simp only[if_true];rw[if_pos (by simp at hb ⊢; omega)];rfl
  | false =>
   have e:cg d (.bool false)=[102,97,108,115,101]:=by cases d <;> rfl
   rw[e] at hb ⊢
   refine .of fun F => ?_
   show (dc F (b,false)).bind (fun v5=>some v5) = _;unfold dc dK;simp only[ade,if_false];rw[if_pos (by simp at hb ⊢; omega)];rfl
 | int n =>
  have hn:okN n:=by cases d <;> exact hv
  have e:cg d (.int n)=itoa n:=by cases d <;> rfl
  rw[e] at hb ⊢
  refine .of fun F => ?_
  show (eS F (b,n,10)).bind (fun v1=>some v1) = _;rw[Ql F b n hn (by omega)];rfl
 | str t =>
  have ht:OkT t:=by cases d <;> exact hv
  have e:cg d (.str t)=quo t:=by cases d <;> rfl
  rw[e] at hb ⊢
  have:=L0 b t ht hb;show ae (fun F=>(iD F (b,t)).bind fun v3=>some v3) _;exact this.bind (.ret _)
 | list l =>
  cases d with
  | zero=>exact hv.elim
  | succ d =>
   have hl:∀ v∈l,okV d v:=hv
   have e:cg (d+1) (.list l)=91::(eF (l.map (cg d))++[93]):=rfl;rw[e] at hb ⊢
   simp only[adb,adf,List.length_nil] at hb;have iv:∀ v∈l,cg d v ≠ []:=by
    intro v hv hh;obtain ⟨c,q,e,_⟩:=Qn d v (hl v hv);rw[hh] at e; cases e
   have sn:=vE d R (hR d rfl) l hl (BT (cg d) l iv (by omega)) l.length 0 (b++[UInt8.ofNat 91]) (by omega) (by
    rw[List.drop_zero,adf];show b.length+1+(eF (l.map (cg d))).length<=1000000;omega)
   rw[List.drop_zero] at sn;show ae (fun F=>if decide ((b.length + [UInt8.ofNat 91].length)*1<=140737488355328)=true then
    (bf (ir F (R F)) F ((),l,(l.length:Int),0,b++[UInt8.ofNat 91],())).bind fun v11=>if decide ((v11.2.1.length + [UInt8.ofNat 93].length)*1<=140737488355328)=true then some (v11.2.1++[UInt8.ofNat 93]) else none else none) _
   refine ae.pos (by simp; omega) ?_;refine ae.bind sn.run ?_;have ej:iz (cg d) 0 l=eF (l.map (cg d)):=rfl;rw[ej];refine ae.pos (by simp; omega) ?_;refine (ae.ret _).eq ?_;simp
 | obj l =>
  cases d with
  | zero=>exact hv.elim
  | succ d =>
   obtain ⟨_,hl⟩:Ris l /\ ∀ m∈l,OkT m.1/\okV d m.2.1:=hv
   have e:cg (d+1) (.obj l)=123::(eF (l.map fun m=>quo m.1++58::cg d m.2.1)++[125]):=rfl;rw[e] at hb ⊢
   simp only[adb,adf,List.length_nil] at hb;have sn:=wR d R (hR d rfl) l hl (BT (fun m:Me=>quo m.1++58::cg d m.2.1) l (fun m _=>by unfold quo; simp) (n:=1000000) (Nat.le_trans (Nat.le_add_left _ (b.length)) (Nat.le_trans (Nat.le_add_right _ 2) (by have:=hb; rw[Nat.add_assoc]; exact Nat.le_trans (Nat.le_of_eq (by simp only[Nat.add_assoc,Nat.zero_add])) this)))) l.length 0 (b++[UInt8.ofNat 123]) (by omega) (by
    rw[List.drop_zero,adf];show b.length+1+(eF (l.map fun m=>quo m.1++58::cg d m.2.1)).length<=1000000;omega)
   rw[List.drop_zero] at sn;show ae (fun F=>if decide ((b.length + [UInt8.ofNat 123].length)*1<=140737488355328)=true then
    (bf (ik F (R F)) F ((),l,(l.length:Int),0,b++[UInt8.ofNat 123],())).bind fun v11=>if decide ((v11.2.1.length + [UInt8.ofNat 125].length)*1<=140737488355328)=true then some (v11.2.1++[UInt8.ofNat 125]) else none else none) _
   refine ae.pos (by simp; omega) ?_;refine ae.bind sn.run ?_;have ej:iz (fun m:Me=>quo m.1++58::cg d m.2.1) 0 l=eF (l.map fun m=>quo m.1++58::cg d m.2.1):=rfl;rw[ej];refine ae.pos (by simp only[adf,adb,List.length_nil,ac9]; omega) ?_;refine (ae.ret _).eq ?_;simp
theorem Xm:∀ (d j:Nat),LT d (fun F=>gW F (F-j)):=by
 intro d;induction d with
 | zero =>
  intro j v b hv hb;refine (H4 0 (fun F=>gW F (F-(j+1))) (fun d' h=>by omega) v b hv hb).evt (j+1) fun F hF => ?_
  show gW F (F-j) _ = _;rw[show F-j=(F-(j+1))+1 by omega];rfl
 | succ d ih =>
  intro j v b hv hb;refine (H4 (d+1) (fun F=>gW F (F-(j+1))) (fun d' h=>(Nat.succ.inj h) ▸ ih (j+1)) v b hv hb).evt (j+1) fun F hF => ?_
  show gW F (F-j) _ = _;rw[show F-j=(F-(j+1))+1 by omega];rfl
theorem Xl (d:Nat) (v:JV) (b:By) (hv:okV d v) (hb:b.length+(cg d v).length<=1000000):ae (fun F=>oE F (b,v)) (b++cg d v):=Xm d 0 v b hv hb
theorem V2 {s:By} {v:JV} (h:CT s = .ok v):okV 8 v/\(cg 8 v).length<=s.length/\s.length<=400:=by
 unfold CT at h;split at h
 ·cases h
 ·rename_i h4
  cases hv:jF 8 s with
  | error e=>rw[hv] at h; cases h
  | ok w =>
   obtain ⟨v',r⟩:=w;rw[hv] at h;simp only at h;split at h
   ·cases h
    obtain ⟨o1,_,_,o4⟩:=vX 8 s v r hv;exact ⟨o1,by omega,by omega⟩
   ·cases h
end Go.Vm
