import Derived.Test.YtihpjgcbmipdbaaGreatDoorPh5
set_option linter.unusedVariables false
set_option linter.unusedSimpArgs false
namespace Go.Vm
open Go.Lib (decDigits itoa decNat decFrom digitVal)
theorem G8 {l:By} (h : ∀ c∈l,ba c=true) (ib:l ≠ []):decNat l=some (nM l):=by
 have main : ∀ (l:By) (n:Nat),(∀ c∈l,ba c=true)→decFrom n l=some (l.foldl (fun n c=>n * 10+(c.toNat - 48)) n):=by
  intro l;induction l with
  | nil=>intro n _; rfl
  | cons c l ih =>
   intro n hd;have hc:=hd c (List.mem_cons_self ..);have hv:digitVal c=some (c.toNat - 48):=by
    unfold digitVal;simp [ba] at hc;rw [if_pos ⟨hc.1,hc.2⟩]
   unfold decFrom;rw [hv];exact ih _ (fun x hx=>hd x (List.mem_cons_of_mem _ hx))
 unfold decNat nM;rw [main l 0 h];cases l with
 | nil=>exact absurd rfl ib
 | cons c l=>rfl
theorem Lo (n:Nat) (h:n<100000000000000000):Lib.atoiAll (itoa (n:Int)) = .ok (n:Int):=by
 have hl:(itoa (n:Int)).length≤18:=Nat.le_trans (Bm n 17 (by decide) (by omega)).1 (by decide);have hd:=wB n;have ib:=Kk n;rw [Lib.atoiAll_short _ hl];have hv:nM (itoa (n:Int))=n:=by rw [vK]; exact (lA n).2.1
 have VQ:=G8 hd ib;rw [hv] at VQ;cases hc:itoa (n:Int) with
 | nil=>exact absurd hc ib
 | cons c q =>
  rw [hc] at VQ hd;have h0:=hd c (List.mem_cons_self ..);have Vy:(c == 45)=false:=by
   cases hh:c == 45 with
   | false=>rfl
   | true=>rw [beq_iff_eq] at hh; subst hh; exact absurd h0 (by decide)
  have h43:(c == 43)=false:=by
   cases hh:c == 43 with
   | false=>rfl
   | true=>rw [beq_iff_eq] at hh; subst hh; exact absurd h0 (by decide)
  show Lib.NumEnd.ofOption (if (c == 45)=true then (decNat q).map (fun (m:Nat) => -(m:Int)) else if (c == 43)=true then (decNat q).map (fun (m:Nat)=>(m:Int)) else (decNat (c :: q)).map (fun (m:Nat)=>(m:Int))) = _;rw [Vy,h43,VQ];rfl
def Ow (s:By):Int:=match Lib.atoiAll s with
 | .ok n=>if n<1∨itoa n≠s then 0 else n
 | _=>0
theorem xB (n:Nat) (h1:1≤n) (h:n≤1073741824):Ow (itoa (n:Int))=n:=by
 unfold Ow;rw [Lo n (by omega)];simp only;rw [if_neg]
 rintro (h | h)
 ·omega
 ·exact h rfl
def uP (acc:Nat):By→Nat
 | []=>acc
 | c :: r=>if ba c=true∧acc≤1073741824 then uP (acc * 10+(c.toNat - 48)) r else 0
theorem Kc : ∀ (l:By) (acc:Nat),acc≤l.foldl (fun n c=>n * 10+(c.toNat - 48)) acc
 | [],acc=>Nat.le_refl _
 | c :: l,acc=>by
  have:=Kc l (acc * 10+(c.toNat - 48));rw [List.foldl_cons];omega
theorem DU : ∀ (l:By) (acc:Nat),(∀ c∈l,ba c=true)→l.foldl (fun n c=>n * 10+(c.toNat - 48)) acc≤1073741824→uP acc l=l.foldl (fun n c=>n * 10+(c.toNat - 48)) acc
 | [],acc,h,hv=>rfl
 | c :: l,acc,h,hv=>by
  rw [List.foldl_cons] at hv;have:=Kc l (acc * 10+(c.toNat - 48));unfold uP;rw [if_pos ⟨h c (List.mem_cons_self ..),by omega⟩,List.foldl_cons];exact DU l _ (fun x hx=>h x (List.mem_cons_of_mem _ hx)) hv
theorem vz (n:Nat) (h:n≤1073741824):uP 0 (itoa (n:Int))=n:=by
 have hv:nM (itoa (n:Int))=n:=by rw [vK]; exact (lA n).2.1
 have:=DU (itoa (n:Int)) 0 (wB n) (by show nM (itoa (n:Int)) ≤ _; omega);rw [this];exact hv
abbrev PhT:=Int×By×Int×By×Unit
def oD (s:By):Bool:=s.all (fun c=>c != 59) && xA s
def fU (p:PhT):Bool :=
 if p.1=1 then decide (1≤p.2.2.1) && decide (p.2.2.1≤80) && decide (p.2.1 = []) && decide (p.2.2.2.1 = [])
 else if p.1=2 then decide (1≤p.2.2.1) && decide (p.2.2.1≤1073741824) && nmP p.2.1 && decide (p.2.2.2.1 = [])
 else if p.1=3 then decide (p.2.2.1=0) && nmP p.2.1 && oD p.2.2.2.1
 else if p.1=4 then (decide (p.2.2.1=200) || decide (p.2.2.1=201)) && decide (p.2.1 = []) && oD p.2.2.2.1
 else false
def Hw:List PhT→Bool
 | []=>true
 | p :: r=>fU p && (decide (p.1=4) == decide (r = [])) && Hw r
def nR (l:List PhT):Bool:=decide (1≤l.length) && decide (l.length≤5) && Hw l
abbrev uN:By := [111,110,108,121]
abbrev sd:By := [110,101,101,100]
abbrev uH:By := [99,97,108,108]
abbrev xS:By := [101,110,100]
def iR (s:By):By:=if s = [] then [] else 32 :: s
def ax (p:PhT):By :=
 if p.1=1 then uN ++ 32 :: itoa p.2.2.1
 else if p.1=2 then sd ++ 32 :: (p.2.1 ++ 32 :: itoa p.2.2.1)
 else if p.1=3 then uH ++ 32 :: (p.2.1 ++ iR p.2.2.2.1)
 else xS ++ 32 :: (itoa p.2.2.1 ++ iR p.2.2.2.1)
abbrev z23:PhT:=(0,[],0,[],())
def GR (s:By):PhT:=if (Lib.cut s [32]).2.2=false then z23
 else if (Lib.cut s [32]).1=uN then (1,[],Ow (Lib.cut s [32]).2.1,[],())
 else if (Lib.cut (Lib.cut s [32]).2.1 [32]).2.1 = []∧(Lib.cut (Lib.cut s [32]).2.1 [32]).1≠(Lib.cut s [32]).2.1 then z23
 else if (Lib.cut s [32]).1=sd then (2,(Lib.cut (Lib.cut s [32]).2.1 [32]).1,Ow (Lib.cut (Lib.cut s [32]).2.1 [32]).2.1,[],())
 else if (Lib.cut s [32]).1=uH then (3,(Lib.cut (Lib.cut s [32]).2.1 [32]).1,0,(Lib.cut (Lib.cut s [32]).2.1 [32]).2.1,())
 else if (Lib.cut s [32]).1=xS then (4,[],Ow (Lib.cut (Lib.cut s [32]).2.1 [32]).1,(Lib.cut (Lib.cut s [32]).2.1 [32]).2.1,())
 else z23
def cF (s:By):By×By:=((Lib.cut s [32]).1,(Lib.cut s [32]).2.1)
def jE (s:By):PhT :=
 if (cF s).1=uN then (1,[],(uP 0 (cF s).2:Int),[],())
 else if (cF s).1=sd then (2,(cF (cF s).2).1,(uP 0 (cF (cF s).2).2:Int),[],())
 else if (cF s).1=uH then (3,(cF (cF s).2).1,0,(cF (cF s).2).2,())
 else if (cF s).1=xS then (4,[],(uP 0 (cF (cF s).2).1:Int),(cF (cF s).2).2,())
 else z23
theorem xe {s:By} (h:nmP s=true) : ∀ b∈s,b≠32∧b≠59:=by
 unfold nmP at h;simp only [abv] at h;intro b hb;have:=List.all_eq_true.1 h.1.1 b hb;constructor <;> rintro rfl <;> exact absurd this (by decide)
theorem tv (n:Nat) : ∀ b∈itoa (n:Int),b≠32∧b≠59:=by
 intro b hb;have:=wB n b hb;constructor <;> rintro rfl <;> exact absurd this (by decide)
theorem Gy {p:By} (hp : ∀ b∈p,b≠32) (t:By):(Lib.cut (p ++ iR t) [32]).1=p∧(Lib.cut (p ++ iR t) [32]).2.1=t:=by
 unfold iR;by_cases ht:t = []
 ·rw [if_pos ht,List.append_nil,Bw hp,ht]
  exact ⟨rfl,rfl⟩
 ·rw [if_neg ht,tL hp]
  exact ⟨rfl,rfl⟩
theorem O2 {p:By} (hp : ∀ b∈p,b≠32) (s:By):Lib.cut (p ++ 32 :: s) [32]=(p,s,true):=tL hp s
theorem RN : ∀ b∈uN,b≠32:=by decide
theorem SH : ∀ b∈sd,b≠32:=by decide
theorem RM : ∀ b∈uH,b≠32:=by decide
theorem Uv : ∀ b∈xS,b≠32:=by decide
theorem kq {p:PhT} (h:fU p=true) :
  (∃ n:Nat,p=(1,[],(n:Int),[],())∧1≤n∧n≤80)∨(∃ (nm:By) (n:Nat),p=(2,nm,(n:Int),[],())∧nmP nm=true∧1≤n∧n≤1073741824) ∨
  (∃ nm t,p=(3,nm,0,t,())∧nmP nm=true∧oD t=true) ∨ ∃ (n:Nat) (t:By),p=(4,[],(n:Int),t,())∧(n=200∨n=201)∧oD t=true:=by
 obtain ⟨k,nm,n,t,u⟩:=p;unfold fU at h;simp only at h;split at h
 ·rename_i hk
  subst hk;simp only [abv,abn] at h;obtain ⟨⟨⟨h1,h2⟩,rfl⟩,rfl⟩:=h;exact .inl ⟨n.toNat,by rw [show ((n.toNat:Nat):Int)=n by omega],by omega,by omega⟩
 split at h
 ·rename_i hk
  subst hk;simp only [abv,abn] at h;obtain ⟨⟨⟨h1,h2⟩,h3⟩,rfl⟩:=h;exact .inr (.inl ⟨nm,n.toNat,by rw [show ((n.toNat:Nat):Int)=n by omega],h3,by omega,by omega⟩)
 split at h
 ·rename_i hk
  subst hk;simp only [abv,abn] at h;obtain ⟨⟨rfl,h2⟩,h3⟩:=h;exact .inr (.inr (.inl ⟨nm,t,rfl,h2,h3⟩))
 split at h
 ·rename_i hk
  subst hk;simp only [abv,Bool.or_eq_true,abn] at h;obtain ⟨⟨h1,rfl⟩,h3⟩:=h;exact .inr (.inr (.inr ⟨n.toNat,t,by rw [show ((n.toNat:Nat):Int)=n by omega],by omega,h3⟩))
 ·cases h
theorem CE (p:PhT) (h:fU p=true):GR (ax p)=p∧jE (ax p)=p:=by
 rcases kq h with ⟨n,rfl,h1,h2⟩ | ⟨nm,n,rfl,h3,h1,h2⟩ | ⟨nm,t,rfl,h2,h3⟩ | ⟨n,t,rfl,h1,h3⟩
 ·have e:ax (1,[],(n:Int),[],())=uN ++ 32 :: itoa (n:Int):=rfl
  rw [e];unfold GR jE cF;rw [O2 RN];simp only;rw [if_neg (by decide),if_pos trivial,if_pos trivial,xB n h1 (by omega),vz n (by omega)];exact ⟨rfl,rfl⟩
 ·have e:ax (2,nm,(n:Int),[],())=sd ++ 32 :: (nm ++ 32 :: itoa (n:Int)):=rfl
  rw [e];unfold GR jE cF;rw [O2 SH];simp only;rw [O2 fun b hb=>(xe h3 b hb).1];simp only;rw [if_neg (by decide),if_neg (by decide),if_neg (fun hh=>Kk n hh.1),if_pos trivial,if_neg (by decide),if_pos trivial,xB n h1 h2,vz n h2];exact ⟨rfl,rfl⟩
 ·have e:ax (3,nm,0,t,())=uH ++ 32 :: (nm ++ iR t):=rfl
  obtain ⟨c1,c2⟩:=Gy (fun b hb=>(xe h2 b hb).1) t;rw [e];unfold GR jE cF;rw [O2 RM];simp only [c1,c2];rw [if_neg (by decide),if_neg (by decide),if_neg,if_neg (by decide),if_pos trivial,if_neg (by decide),if_neg (by decide),if_pos trivial]
  ·exact ⟨rfl,rfl⟩
  ·rintro ⟨rfl,hh⟩
   exact hh (by unfold iR; simp)
 ·have e:ax (4,[],(n:Int),t,())=xS ++ 32 :: (itoa (n:Int) ++ iR t):=rfl
  obtain ⟨c1,c2⟩:=Gy (fun b hb=>(tv n b hb).1) t;rw [e];unfold GR jE cF;rw [O2 Uv];simp only [c1,c2];rw [if_neg (by decide),if_neg (by decide),if_neg,if_neg (by decide),if_neg (by decide),if_pos trivial,if_neg (by decide),if_neg (by decide),if_neg (by decide),if_pos trivial,xB n (by omega) (by omega),vz n (by omega)]
  ·exact ⟨rfl,rfl⟩
  ·rintro ⟨rfl,hh⟩
   exact hh (by unfold iR; simp)
end Go.Vm
namespace Go.Vm
open Go.Lib (decDigits itoa)
def eE (l:List PhT):By:=Lib.join (l.map ax) [59,32]
theorem oC (p:PhT) (r:List PhT):eE (p :: r)=ax p ++ Lib.joinTail [59,32] (r.map ax):=by
 unfold eE;rw [List.map_cons,Lib.join_cons]
theorem vT {d:UInt8} (hd:d≠32) {t:By} (h : ∀ b∈t,b≠d) : ∀ b∈iR t,b≠d:=by
 unfold iR;split
 ·exact fun b hb=>by cases hb
 ·intro b hb
  rcases List.mem_cons.1 hb with rfl | hb
  ·exact fun e=>hd e.symm
  ·exact h b hb
theorem Gd {t:By} (h:oD t=true) : ∀ b∈t,b≠59:=by
 unfold oD at h;rw [abv] at h;intro b hb;have:=List.all_eq_true.1 h.1 b hb;simpa using this
theorem iz {d:UInt8} {a b:By} (ha : ∀ x∈a,x≠d) (hb : ∀ x∈b,x≠d) : ∀ x∈a ++ b,x≠d:=fun x hx=>(List.mem_append.1 hx).elim (ha x) (hb x)
theorem jr {d c:UInt8} {b:By} (hc:c≠d) (hb : ∀ x∈b,x≠d) : ∀ x∈c :: b,x≠d:=fun x hx=>(List.mem_cons.1 hx).elim (fun e=>e ▸ hc) (hb x)
theorem Km {p:PhT} (h:fU p=true) : ∀ b∈ax p,b≠59:=by
 rcases kq h with ⟨n,rfl,h1,h2⟩ | ⟨nm,n,rfl,h3,h1,h2⟩ | ⟨nm,t,rfl,h2,h3⟩ | ⟨n,t,rfl,h1,h3⟩
 ·exact iz (a:=uN) (by decide) (jr (by decide) fun b hb=>(tv n b hb).2)
 ·exact iz (a:=sd) (by decide) (jr (by decide) (iz (fun b hb=>(xe h3 b hb).2) (jr (by decide) fun b hb=>(tv n b hb).2)))
 ·exact iz (a:=uH) (by decide) (jr (by decide) (iz (fun b hb=>(xe h2 b hb).2) (vT (by decide) (Gd h3))))
 ·exact iz (a:=xS) (by decide) (jr (by decide) (iz (fun b hb=>(tv n b hb).2) (vT (by decide) (Gd h3))))
theorem RR (p:PhT):ax p ≠ []:=by
 unfold ax
 repeat' split
 all_goals simp
theorem BI : ∀ l:List PhT,Hw l=true → ∀ p∈l,fU p=true
 | [],h,p,hp=>by cases hp
 | q :: l,h,p,hp=>by
  unfold Hw at h;rw [abv,abv] at h;rcases List.mem_cons.1 hp with rfl | hp
  ·exact h.1.1
  ·exact BI l h.2 p hp
theorem ly {l:List PhT} (h:nR l=true):(∀ p∈l,fU p=true)∧1≤l.length∧l.length≤5:=by
 unfold nR at h;simp only [abv,abn] at h;exact ⟨BI l h.2,h.1.1,h.1.2⟩
def mH (s:By):Nat→Nat→Nat→List PhT→Option (List PhT)
 | 0,i,a,out=>some out
 | n+1,i,a,out=>if 6≤out.length then some out
  else if i=s.length∨s[i]? = some 59 then (if i<a then none else if s.length<i+2 then some (out ++ [jE ((s.drop a).take (i - a))]) else mH s n (i+1) (i+2) (out ++ [jE ((s.drop a).take (i - a))]))
  else mH s n (i+1) a out
def Jr (s:By):Option (List PhT):=mH s (s.length+1) 0 0 []
theorem vA (s:By) (a:Nat) (out:List PhT) (ho:out.length<6) : ∀ (k i n:Nat),i+k≤s.length→(∀ j,i≤j→j<i+k→s[j]? ≠ some 59)→mH s (n+k) i a out=mH s n (i+k) a out
 | 0,i,n,h,hb=>rfl
 | k+1,i,n,h,hb=>by
  have:=vA s a out ho k (i+1) n (by omega) fun j h1 h2=>hb j (by omega) (by omega)
  rw [show n+(k+1)=(n+k)+1 by omega,mH,if_neg (by omega),if_neg,this,show i+1+k=i+(k+1) by omega]
  rintro (h1 | h1)
  ·omega
  ·exact hb i (Nat.le_refl _) (by omega) h1
theorem yQ : ∀ (r:List PhT) (p:PhT) (pre:By) (out:List PhT),(∀ q∈p :: r,fU q=true)→out.length+r.length≤4 →
  mH (pre ++ (ax p ++ Lib.joinTail [59,32] (r.map ax))) ((pre ++ (ax p ++ Lib.joinTail [59,32] (r.map ax))).length+1 - pre.length) pre.length pre.length out=some (out ++ p :: r)
 | [],p,pre,out,hr,ho=>by
  have hp:=hr p (List.mem_cons_self ..);have e:pre ++ (ax p ++ Lib.joinTail [59,32] (([]:List PhT).map ax))=pre ++ ax p:=by
   show pre ++ (ax p ++ []) = _;rw [List.append_nil]
  rw [e];have hl:(pre ++ ax p).length=pre.length+(ax p).length:=abr;have pM:=vA (pre ++ ax p) pre.length out (by simp only [List.length_nil] at ho; omega) (ax p).length pre.length 1 (by omega) (by
   intro j h1 h2 h3;rw [List.getElem?_append_right h1] at h3;exact Km hp 59 (List.mem_of_getElem? h3) rfl)
  rw [show (pre ++ ax p).length+1 - pre.length=1+(ax p).length by omega,pM,mH,if_neg (by simp only [List.length_nil] at ho; omega),if_pos (.inl (by omega)),if_neg (by omega),if_pos (by omega),List.drop_left,Nat.add_sub_cancel_left,List.take_length,(CE p hp).2]
 | q :: r,p,pre,out,hr,ho=>by
  have hp:=hr p (List.mem_cons_self ..);simp only [abp] at ho;have e:Lib.joinTail [59,32] ((q :: r).map ax)=59 :: 32 :: (ax q ++ Lib.joinTail [59,32] (r.map ax)):=by
   rw [List.map_cons];rfl
  rw [e];have ih:=yQ r q (pre ++ ax p ++ [59,32]) (out ++ [p]) (fun x hx=>hr x (List.mem_cons_of_mem _ hx)) (by rw [abr,List.length_singleton]; omega);have e2:pre ++ ax p ++ [59,32] ++ (ax q ++ Lib.joinTail [59,32] (r.map ax))=pre ++ (ax p ++ 59 :: 32 :: (ax q ++ Lib.joinTail [59,32] (r.map ax))):=by simp [List.append_assoc]
  rw [e2] at ih;have ux:(pre ++ ax p ++ [59,32]).length=pre.length+(ax p).length+2:=by rw [abr,abr]; rfl
  rw [ux] at ih;have hq:=List.length_pos_iff.2 (RR q);have QE:(pre ++ (ax p ++ 59 :: 32 :: (ax q ++ Lib.joinTail [59,32] (r.map ax)))).length=pre.length+(ax p).length+2+(ax q ++ Lib.joinTail [59,32] (r.map ax)).length:=by
   simp only [abr,abp]; omega
  have hql:1≤(ax q ++ Lib.joinTail [59,32] (r.map ax)).length:=by rw [abr]; omega
  generalize hS:pre ++ (ax p ++ 59 :: 32 :: (ax q ++ Lib.joinTail [59,32] (r.map ax)))=S at *
  have JY : ∀ j,S[pre.length+j]? = (ax p ++ 59 :: 32 :: (ax q ++ Lib.joinTail [59,32] (r.map ax)))[j]? := by
   intro j;rw [← hS,List.getElem?_append_right (by omega),Nat.add_sub_cancel_left]
  generalize (ax q ++ Lib.joinTail [59,32] (r.map ax))=T at *
  have h59:S[pre.length+(ax p).length]? = some 59:=by rw [JY,List.getElem?_append_right (Nat.le_refl _),Nat.sub_self]; rfl
  have S4:S[pre.length+(ax p).length+1]? = some 32:=by rw [Nat.add_assoc,JY,List.getElem?_append_right (by omega),Nat.add_sub_cancel_left]; rfl
  have pM:=vA S pre.length out (by omega) (ax p).length pre.length (T.length+3) (by omega) (by
   intro j h1 h2 h3;rw [show j=pre.length+(j - pre.length) by omega,JY,List.getElem?_append_left (by omega)] at h3;exact Km hp 59 (List.mem_of_getElem? h3) rfl)
  have Cz:(S.drop pre.length).take (ax p).length=ax p:=by rw [← hS,List.drop_left,List.take_left]
  rw [show S.length+1 - pre.length=T.length+3+(ax p).length by omega,pM,mH,if_neg (by omega),if_pos (.inr h59),if_neg (by omega),if_neg (by omega),Nat.add_sub_cancel_left,Cz,(CE p hp).2];rw [show T.length+2=(T.length+1)+1 by omega,mH,if_neg (by rw [abr,List.length_singleton]; omega),if_neg]
  ·rw [show S.length+1 - (pre.length+(ax p).length+2)=T.length+1 by omega,List.append_assoc] at ih
   exact ih
  ·rintro (h | h)
   ·omega
   ·rw [S4] at h
    injection h with h
    exact absurd h (by decide)
theorem Hh (l:List PhT) (h:nR l=true):Jr (eE l)=some l:=by
 obtain ⟨h1,h2,h3⟩:=ly h;cases l with
 | nil=>simp at h2
 | cons p r =>
  have:=yQ r p [] [] h1 (by simp only [List.length_nil,abp] at h3 ⊢; omega);simp only [List.nil_append,List.length_nil,Nat.sub_zero] at this;unfold Jr;rw [oC];exact this
end Go.Vm
namespace Go.Vm
open Go.Lib (decodeL decodeN decodeL_N decode_N decodeN_shape decodeL_le)
def RJ (l:List Int):Bool:=l.any fun n=>decide (il n=0)
def Cq (l:List Int):Unit ⊕ Bool×Unit:=if RJ l=true then .inr (false,()) else .inl ()
theorem wJ:Cq [] = .inl ():=rfl
theorem C4 (n:Int) (l:List Int):Cq (n :: l)=if il n=0 then .inr (false,()) else Cq l:=by
 unfold Cq RJ;by_cases h:il n=0 <;> simp [h]
theorem L0 (s:B8) (p:Nat) (hp:p≤s.length):af fy ((),(s,p),()) (Cq ((dZ (s.drop p)).map (·.1))):=by
 have main : ∀ n p,s.length - p≤n→p≤s.length→af fy ((),(s,p),()) (Cq ((dZ (s.drop p)).map (·.1))):=by
  intro n;induction n with
  | zero =>
   intro p hn hp;have:p=s.length:=by omega
   subst this;refine af.fin (ae.of fun F => ?_);unfold fy;simp [ju,wJ]
  | succ n ih =>
   intro p hn hp;by_cases aM:p<s.length
   ·have yo:=cS (s.drop p)
    have Y6:=FA aM;rw [lB (tP aM),xY,List.map_cons,C4];by_cases h0:il ((decodeL (s.drop p)).1:Int)=0
    ·refine af.fin (ae.of fun F => ?_)
     unfold fy;simp only [aM,decide_true,if_true,o9,Fw,abo,h0]
    ·rw [if_neg h0]
     refine af.step (x':=((),(s,p+(decodeL (s.drop p)).2),())) (ae.of fun F => ?_) (ih _ (by omega) Y6);unfold fy;simp only [aM,decide_true,if_true,o9,nU,Fw,abo,h0,decide_false,abq,if_false]
   ·have:p=s.length:=by omega
    subst this;refine af.fin (ae.of fun F => ?_);unfold fy;simp [ju,wJ]
 exact main _ p (Nat.le_refl _) hp
theorem Ei (ns:List Int) (hn:ns.length≤1000000000000) (k:Nat) (hk:k≤ns.length):af bD (ns,(k:Int),()) (Cq (ns.drop k)):=by
 have main : ∀ n k,ns.length - k≤n→k≤ns.length→af bD (ns,(k:Int),()) (Cq (ns.drop k)):=by
  intro n;induction n with
  | zero =>
   intro k hn hk;have:k=ns.length:=by omega
   subst this;refine af.fin (ae.of fun F => ?_);unfold bD;simp [wJ]
  | succ n ih =>
   intro k VN hk;by_cases aM:k<ns.length
   ·have h:(k:Int)<(ns.length:Int):=by omega
    have hm:ns[k]? = some ns[k]:=by simp [aM]
    rw [List.drop_eq_getElem_cons aM,C4];by_cases h0:il ns[k]=0
    ·refine af.fin (ae.of fun F => ?_)
     unfold bD;simp only [h,decide_true,if_true,Tq ns k _ hm,nW,abo,h0]
    ·rw [if_neg h0]
     refine af.step (x':=(ns,((k+1:Nat):Int),())) (ae.of fun F => ?_) (ih _ (by omega) (by omega));have w:IntKind.i64.wrap ((k:Int)+1)=((k+1:Nat):Int):=by rw [wrap64 _ (by omega) (by omega)]; rfl
     unfold bD;simp only [h,decide_true,if_true,Tq ns k _ hm,nW,abo,h0,decide_false,abq,if_false,w]
   ·have:k=ns.length:=by omega
    subst this;refine af.fin (ae.of fun F => ?_);unfold bD;simp [wJ]
 exact main _ k (Nat.le_refl _) hk
def nB (s:B8) (r:Int):Bool:=if s = []∨r<(s.length:Int) then false else cg (Cq ((dZ s).map (·.1))) (fun _=>true) fun v=>v.1
theorem Du {α β γ:Type} (x:α ⊕ β) (f:α→γ) (g:β→γ):cg x (fun a=>some (f a)) (fun b=>some (g b))=some (cg x f g):=by cases x <;> rfl
theorem GJ (s:B8) (r:Int):ae (fun F=>mU F (s,r)) (nB s r):=by
 unfold mU nB;by_cases h1:s = []
 ·simp only [h1,decide_true,Bool.true_eq_false,if_false,abo,if_true,true_or]
  exact ae.ret false
 by_cases h2:r<(s.length:Int)
 ·simp only [h1,h2,decide_true,decide_false,Bool.true_eq_false,if_false,abo,if_true,or_true]
  exact ae.ret false
 ·simp only [h1,h2,decide_true,decide_false,abq,if_false,abo,if_true,or_self]
  have:=L0 s 0 (by omega);refine this.run.bind ?_;rw [List.drop_zero];exact ae.of fun F=>Du _ _ _
theorem Af (s:B8) (hs:s.length≤100000000000) (r:Int):ae (fun F=>fM F (s,r)) (nB s r):=by
 unfold fM nB;have hl:=xM s;by_cases h1:s = []
 ·simp only [h1,List.length_nil,true_or,if_true]
  exact ae.ret false
 have ND : ¬ (s.length:Int)<1:=by have:=List.length_pos_iff.2 h1; omega
 by_cases h2:r<(s.length:Int)
 ·simp only [h1,ND,h2,decide_true,decide_false,Bool.true_eq_false,if_false,abo,if_true,or_true]
  exact ae.ret false
 ·simp only [h1,ND,h2,decide_true,decide_false,abq,if_false,abo,if_true,or_self]
  refine (sP s (by omega)).bind ?_;have:=Ei ((dZ s).map (·.1)) (by simp; omega) 0 (by omega);refine this.run.bind ?_;rw [List.drop_zero];exact ae.of fun F=>Du _ _ _
end Go.Vm
