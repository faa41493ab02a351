import Derived.Test.YtihpjgcbmipdbaaGreatDoorPh2
import Derived.Test.YtihpjgcbmipdbaaGreatDoorPh5
/- Programs: numbers, phases, their texts, what reads them: plainly. No condition. -/
namespace Go.Vm
open Go.Lib (decDigits itoa decNat decFrom digitVal)
set_option linter.unusedVariables false
set_option linter.unusedSimpArgs false
/-! ### numbers -/
theorem BN {l:By} (h : ∀ c∈l,bj c=true) (hne:l ≠ []):decNat l=some (lF l):=by
 have main : ∀ (l:By) (n:Nat),(∀ c∈l,bj c=true)→decFrom n l=some (l.foldl (fun n c=>n * 10+(c.toNat - 48)) n):=by
  intro l
  induction l with
  | nil=>intro n _; rfl
  | cons c l ih =>
   intro n hd
   have hc:=hd c (List.mem_cons_self ..)
   have hv:digitVal c=some (c.toNat - 48):=by
    unfold digitVal
    simp [bj] at hc
    rw [if_pos ⟨hc.1,hc.2⟩]
   unfold decFrom
   rw [hv]
   exact ih _ (fun x hx=>hd x (List.mem_cons_of_mem _ hx))
 unfold decNat lF
 rw [main l 0 h]
 cases l with
 | nil=>exact absurd rfl hne
 | cons c l=>rfl
theorem G9 (n:Nat) (h:n<100000000000000000):Lib.atoiAll (itoa (n:Int)) = .ok (n:Int):=by
 have hl:(itoa (n:Int)).length≤18:=Nat.le_trans (xf n 17 (by decide) (by omega)).1 (by decide)
 have hd:=sg n
 have hne:=FA n
 rw [Lib.atoiAll_short _ hl]
 have hv:lF (itoa (n:Int))=n:=by rw [tn]; exact (qB n).2.1
 have hdn:=BN hd hne
 rw [hv] at hdn
 cases hc:itoa (n:Int) with
 | nil=>exact absurd hc hne
 | cons c q =>
  rw [hc] at hdn hd
  have h0:=hd c (List.mem_cons_self ..)
  have h45:(c == 45)=false:=by
   cases hh:c == 45 with
   | false=>rfl
   | true=>rw [beq_iff_eq] at hh; subst hh; exact absurd h0 (by decide)
  have h43:(c == 43)=false:=by
   cases hh:c == 43 with
   | false=>rfl
   | true=>rw [beq_iff_eq] at hh; subst hh; exact absurd h0 (by decide)
  show Lib.NumEnd.ofOption (if (c == 45)=true then (decNat q).map (fun (m:Nat) => -(m:Int)) else if (c == 43)=true then (decNat q).map (fun (m:Nat)=>(m:Int)) else (decNat (c :: q)).map (fun (m:Nat)=>(m:Int))) = _
  rw [h45,h43,hdn]
  rfl
def Jy (s:By):Int:=match Lib.atoiAll s with
 | .ok n=>if n<1∨itoa n≠s then 0 else n
 | _=>0
theorem tP (n:Nat) (h1:1≤n) (h:n≤1073741824):Jy (itoa (n:Int))=n:=by
 unfold Jy
 rw [G9 n (by omega)]
 simp only
 rw [if_neg]
 rintro (h | h)
 ·omega
 ·exact h rfl
def ru (acc:Nat):By→Nat
 | []=>acc
 | c :: r=>if bj c=true∧acc≤1073741824 then ru (acc * 10+(c.toNat - 48)) r else 0
theorem Ga : ∀ (l:By) (acc:Nat),acc≤l.foldl (fun n c=>n * 10+(c.toNat - 48)) acc
 | [],acc=>Nat.le_refl _
 | c :: l,acc=>by
  have:=Ga l (acc * 10+(c.toNat - 48))
  rw [List.foldl_cons]
  omega
theorem zS : ∀ (l:By) (acc:Nat),(∀ c∈l,bj c=true)→l.foldl (fun n c=>n * 10+(c.toNat - 48)) acc≤1073741824→ru acc l=l.foldl (fun n c=>n * 10+(c.toNat - 48)) acc
 | [],acc,h,hv=>rfl
 | c :: l,acc,h,hv=>by
  rw [List.foldl_cons] at hv
  have:=Ga l (acc * 10+(c.toNat - 48))
  unfold ru
  rw [if_pos ⟨h c (List.mem_cons_self ..),by omega⟩,List.foldl_cons]
  exact zS l _ (fun x hx=>h x (List.mem_cons_of_mem _ hx)) hv
theorem rM (n:Nat) (h:n≤1073741824):ru 0 (itoa (n:Int))=n:=by
 have hv:lF (itoa (n:Int))=n:=by rw [tn]; exact (qB n).2.1
 have:=zS (itoa (n:Int)) 0 (sg n) (by show lF (itoa (n:Int)) ≤ _; omega)
 rw [this]
 exact hv
/-! ### phases -/
abbrev PhT:=Int×By×Int×By×Unit
def lY (s:By):Bool:=s.all (fun c=>c != 59) && tY s
def eF (p:PhT):Bool :=
 if p.1=1 then decide (1≤p.2.2.1) && decide (p.2.2.1≤80) && decide (p.2.1 = []) && decide (p.2.2.2.1 = [])
 else if p.1=2 then decide (1≤p.2.2.1) && decide (p.2.2.1≤1073741824) && nmP p.2.1 && decide (p.2.2.2.1 = [])
 else if p.1=3 then decide (p.2.2.1=0) && nmP p.2.1 && lY p.2.2.2.1
 else if p.1=4 then (decide (p.2.2.1=200) || decide (p.2.2.1=201)) && decide (p.2.1 = []) && lY p.2.2.2.1
 else false
def BX:List PhT→Bool
 | []=>true
 | p :: r=>eF p && (decide (p.1=4) == decide (r = [])) && BX r
def kY (l:List PhT):Bool:=decide (1≤l.length) && decide (l.length≤5) && BX l
abbrev rD:By := [111,110,108,121]
abbrev pB:By := [110,101,101,100]
abbrev rB:By := [99,97,108,108]
abbrev uB:By := [101,110,100]
def gm (s:By):By:=if s = [] then [] else 32 :: s
def al (p:PhT):By :=
 if p.1=1 then rD ++ 32 :: itoa p.2.2.1
 else if p.1=2 then pB ++ 32 :: (p.2.1 ++ 32 :: itoa p.2.2.1)
 else if p.1=3 then rB ++ 32 :: (p.2.1 ++ gm p.2.2.2.1)
 else uB ++ 32 :: (itoa p.2.2.1 ++ gm p.2.2.2.1)
abbrev z23:PhT:=(0,[],0,[],())
def BH (s:By):PhT:=if (Lib.cut s [32]).2.2=false then z23
 else if (Lib.cut s [32]).1=rD then (1,[],Jy (Lib.cut s [32]).2.1,[],())
 else if (Lib.cut (Lib.cut s [32]).2.1 [32]).2.1 = []∧(Lib.cut (Lib.cut s [32]).2.1 [32]).1≠(Lib.cut s [32]).2.1 then z23
 else if (Lib.cut s [32]).1=pB then (2,(Lib.cut (Lib.cut s [32]).2.1 [32]).1,Jy (Lib.cut (Lib.cut s [32]).2.1 [32]).2.1,[],())
 else if (Lib.cut s [32]).1=rB then (3,(Lib.cut (Lib.cut s [32]).2.1 [32]).1,0,(Lib.cut (Lib.cut s [32]).2.1 [32]).2.1,())
 else if (Lib.cut s [32]).1=uB then (4,[],Jy (Lib.cut (Lib.cut s [32]).2.1 [32]).1,(Lib.cut (Lib.cut s [32]).2.1 [32]).2.1,())
 else z23
def bK (s:By):By×By:=((Lib.cut s [32]).1,(Lib.cut s [32]).2.1)
def gY (s:By):PhT :=
 if (bK s).1=rD then (1,[],(ru 0 (bK s).2:Int),[],())
 else if (bK s).1=pB then (2,(bK (bK s).2).1,(ru 0 (bK (bK s).2).2:Int),[],())
 else if (bK s).1=rB then (3,(bK (bK s).2).1,0,(bK (bK s).2).2,())
 else if (bK s).1=uB then (4,[],(ru 0 (bK (bK s).2).1:Int),(bK (bK s).2).2,())
 else z23
theorem tH {s:By} (h:nmP s=true) : ∀ b∈s,b≠32∧b≠59:=by
 unfold nmP at h
 simp only [Bool.and_eq_true] at h
 intro b hb
 have:=List.all_eq_true.1 h.1.1 b hb
 constructor <;> rintro rfl <;> exact absurd this (by decide)
theorem qA (n:Nat) : ∀ b∈itoa (n:Int),b≠32∧b≠59:=by
 intro b hb
 have:=sg n b hb
 constructor <;> rintro rfl <;> exact absurd this (by decide)
theorem Cr {p:By} (hp : ∀ b∈p,b≠32) (t:By):(Lib.cut (p ++ gm t) [32]).1=p∧(Lib.cut (p ++ gm t) [32]).2.1=t:=by
 unfold gm
 by_cases ht:t = []
 ·rw [if_pos ht,List.append_nil,wx hp,ht]
  exact ⟨rfl,rfl⟩
 ·rw [if_neg ht,qw hp]
  exact ⟨rfl,rfl⟩
theorem KF {p:By} (hp : ∀ b∈p,b≠32) (s:By):Lib.cut (p ++ 32 :: s) [32]=(p,s,true):=qw hp s
theorem La : ∀ b∈rD,b≠32:=by decide
theorem K3 : ∀ b∈pB,b≠32:=by decide
theorem KZ : ∀ b∈rB,b≠32:=by decide
theorem NJ : ∀ b∈uB,b≠32:=by decide
theorem iH {p:PhT} (h:eF p=true) :
  (∃ n:Nat,p=(1,[],(n:Int),[],())∧1≤n∧n≤80)∨(∃ (nm:By) (n:Nat),p=(2,nm,(n:Int),[],())∧nmP nm=true∧1≤n∧n≤1073741824) ∨
  (∃ nm t,p=(3,nm,0,t,())∧nmP nm=true∧lY t=true) ∨ ∃ (n:Nat) (t:By),p=(4,[],(n:Int),t,())∧(n=200∨n=201)∧lY t=true:=by
 obtain ⟨k,nm,n,t,u⟩:=p
 unfold eF at h
 simp only at h
 split at h
 ·rename_i hk
  subst hk
  simp only [Bool.and_eq_true,decide_eq_true_eq] at h
  obtain ⟨⟨⟨h1,h2⟩,rfl⟩,rfl⟩:=h
  exact .inl ⟨n.toNat,by rw [show ((n.toNat:Nat):Int)=n by omega],by omega,by omega⟩
 split at h
 ·rename_i hk
  subst hk
  simp only [Bool.and_eq_true,decide_eq_true_eq] at h
  obtain ⟨⟨⟨h1,h2⟩,h3⟩,rfl⟩:=h
  exact .inr (.inl ⟨nm,n.toNat,by rw [show ((n.toNat:Nat):Int)=n by omega],h3,by omega,by omega⟩)
 split at h
 ·rename_i hk
  subst hk
  simp only [Bool.and_eq_true,decide_eq_true_eq] at h
  obtain ⟨⟨rfl,h2⟩,h3⟩:=h
  exact .inr (.inr (.inl ⟨nm,t,rfl,h2,h3⟩))
 split at h
 ·rename_i hk
  subst hk
  simp only [Bool.and_eq_true,Bool.or_eq_true,decide_eq_true_eq] at h
  obtain ⟨⟨h1,rfl⟩,h3⟩:=h
  exact .inr (.inr (.inr ⟨n.toNat,t,by rw [show ((n.toNat:Nat):Int)=n by omega],by omega,h3⟩))
 ·cases h
theorem zr (p:PhT) (h:eF p=true):BH (al p)=p∧gY (al p)=p:=by
 rcases iH h with ⟨n,rfl,h1,h2⟩ | ⟨nm,n,rfl,h3,h1,h2⟩ | ⟨nm,t,rfl,h2,h3⟩ | ⟨n,t,rfl,h1,h3⟩
 ·have e:al (1,[],(n:Int),[],())=rD ++ 32 :: itoa (n:Int):=rfl
  rw [e]
  unfold BH gY bK
  rw [KF La]
  simp only
  rw [if_neg (by decide),if_pos trivial,if_pos trivial,tP n h1 (by omega),rM n (by omega)]
  exact ⟨rfl,rfl⟩
 ·have e:al (2,nm,(n:Int),[],())=pB ++ 32 :: (nm ++ 32 :: itoa (n:Int)):=rfl
  rw [e]
  unfold BH gY bK
  rw [KF K3]
  simp only
  rw [KF fun b hb=>(tH h3 b hb).1]
  simp only
  rw [if_neg (by decide),if_neg (by decide),if_neg (fun hh=>FA n hh.1),if_pos trivial,if_neg (by decide),if_pos trivial,tP n h1 h2,rM n h2]
  exact ⟨rfl,rfl⟩
 ·have e:al (3,nm,0,t,())=rB ++ 32 :: (nm ++ gm t):=rfl
  obtain ⟨c1,c2⟩:=Cr (fun b hb=>(tH h2 b hb).1) t
  rw [e]
  unfold BH gY bK
  rw [KF KZ]
  simp only [c1,c2]
  rw [if_neg (by decide),if_neg (by decide),if_neg,if_neg (by decide),if_pos trivial,if_neg (by decide),if_neg (by decide),if_pos trivial]
  ·exact ⟨rfl,rfl⟩
  ·rintro ⟨rfl,hh⟩
   exact hh (by unfold gm; simp)
 ·have e:al (4,[],(n:Int),t,())=uB ++ 32 :: (itoa (n:Int) ++ gm t):=rfl
  obtain ⟨c1,c2⟩:=Cr (fun b hb=>(qA n b hb).1) t
  rw [e]
  unfold BH gY bK
  rw [KF NJ]
  simp only [c1,c2]
  rw [if_neg (by decide),if_neg (by decide),if_neg,if_neg (by decide),if_neg (by decide),if_pos trivial,if_neg (by decide),if_neg (by decide),if_neg (by decide),if_pos trivial,tP n (by omega) (by omega),rM n (by omega)]
  ·exact ⟨rfl,rfl⟩
  ·rintro ⟨rfl,hh⟩
   exact hh (by unfold gm; simp)
end Go.Vm
/- Programs: printed and parsed, plainly; the document's parser on a printed one. No condition. -/
namespace Go.Vm
open Go.Lib (decDigits itoa)
set_option linter.unusedVariables false
set_option linter.unusedSimpArgs false
def cV (l:List PhT):By:=Lib.join (l.map al) [59,32]
theorem lQ (p:PhT) (r:List PhT):cV (p :: r)=al p ++ Lib.joinTail [59,32] (r.map al):=by
 unfold cV
 rw [List.map_cons,Lib.join_cons]
theorem sj {d:UInt8} (hd:d≠32) {t:By} (h : ∀ b∈t,b≠d) : ∀ b∈gm t,b≠d:=by
 unfold gm
 split
 ·exact fun b hb=>by cases hb
 ·intro b hb
  rcases List.mem_cons.1 hb with rfl | hb
  ·exact fun e=>hd e.symm
  ·exact h b hb
theorem Cg {t:By} (h:lY t=true) : ∀ b∈t,b≠59:=by
 unfold lY at h
 rw [Bool.and_eq_true] at h
 intro b hb
 have:=List.all_eq_true.1 h.1 b hb
 simpa using this
theorem fV {d:UInt8} {a b:By} (ha : ∀ x∈a,x≠d) (hb : ∀ x∈b,x≠d) : ∀ x∈a ++ b,x≠d:=fun x hx=>(List.mem_append.1 hx).elim (ha x) (hb x)
theorem gP {d c:UInt8} {b:By} (hc:c≠d) (hb : ∀ x∈b,x≠d) : ∀ x∈c :: b,x≠d:=fun x hx=>(List.mem_cons.1 hx).elim (fun e=>e ▸ hc) (hb x)
theorem FU {p:PhT} (h:eF p=true) : ∀ b∈al p,b≠59:=by
 rcases iH h with ⟨n,rfl,h1,h2⟩ | ⟨nm,n,rfl,h3,h1,h2⟩ | ⟨nm,t,rfl,h2,h3⟩ | ⟨n,t,rfl,h1,h3⟩
 ·exact fV (a:=rD) (by decide) (gP (by decide) fun b hb=>(qA n b hb).2)
 ·exact fV (a:=pB) (by decide) (gP (by decide) (fV (fun b hb=>(tH h3 b hb).2) (gP (by decide) fun b hb=>(qA n b hb).2)))
 ·exact fV (a:=rB) (by decide) (gP (by decide) (fV (fun b hb=>(tH h2 b hb).2) (sj (by decide) (Cg h3))))
 ·exact fV (a:=uB) (by decide) (gP (by decide) (fV (fun b hb=>(qA n b hb).2) (sj (by decide) (Cg h3))))
theorem Lm (p:PhT):al p ≠ []:=by
 unfold al
 repeat' split
 all_goals simp
theorem wz : ∀ l:List PhT,BX l=true → ∀ p∈l,eF p=true
 | [],h,p,hp=>by cases hp
 | q :: l,h,p,hp=>by
  unfold BX at h
  rw [Bool.and_eq_true,Bool.and_eq_true] at h
  rcases List.mem_cons.1 hp with rfl | hp
  ·exact h.1.1
  ·exact wz l h.2 p hp
theorem jE {l:List PhT} (h:kY l=true):(∀ p∈l,eF p=true)∧1≤l.length∧l.length≤5:=by
 unfold kY at h
 simp only [Bool.and_eq_true,decide_eq_true_eq] at h
 exact ⟨wz l h.2,h.1.1,h.1.2⟩
def kx (s:By):Nat→Nat→Nat→List PhT→Option (List PhT)
 | 0,i,a,out=>some out
 | n+1,i,a,out=>if 6≤out.length then some out
  else if i=s.length∨s[i]? = some 59 then (if i<a then none else if s.length<i+2 then some (out ++ [gY ((s.drop a).take (i - a))]) else kx s n (i+1) (i+2) (out ++ [gY ((s.drop a).take (i - a))]))
  else kx s n (i+1) a out
def D7 (s:By):Option (List PhT):=kx s (s.length+1) 0 0 []
theorem rP (s:By) (a:Nat) (out:List PhT) (ho:out.length<6) : ∀ (k i n:Nat),i+k≤s.length→(∀ j,i≤j→j<i+k→s[j]? ≠ some 59)→kx s (n+k) i a out=kx s n (i+k) a out
 | 0,i,n,h,hb=>rfl
 | k+1,i,n,h,hb=>by
  have:=rP s a out ho k (i+1) n (by omega) fun j h1 h2=>hb j (by omega) (by omega)
  rw [show n+(k+1)=(n+k)+1 by omega,kx,if_neg (by omega),if_neg,this,show i+1+k=i+(k+1) by omega]
  rintro (h1 | h1)
  ·omega
  ·exact hb i (Nat.le_refl _) (by omega) h1
theorem u7 : ∀ (r:List PhT) (p:PhT) (pre:By) (out:List PhT),(∀ q∈p :: r,eF q=true)→out.length+r.length≤4 →
  kx (pre ++ (al p ++ Lib.joinTail [59,32] (r.map al))) ((pre ++ (al p ++ Lib.joinTail [59,32] (r.map al))).length+1 - pre.length) pre.length pre.length out=some (out ++ p :: r)
 | [],p,pre,out,hr,ho=>by
  have hp:=hr p (List.mem_cons_self ..)
  have e:pre ++ (al p ++ Lib.joinTail [59,32] (([]:List PhT).map al))=pre ++ al p:=by
   show pre ++ (al p ++ []) = _
   rw [List.append_nil]
  rw [e]
  have hl:(pre ++ al p).length=pre.length+(al p).length:=List.length_append
  have hsk:=rP (pre ++ al p) pre.length out (by simp only [List.length_nil] at ho; omega) (al p).length pre.length 1 (by omega) (by
   intro j h1 h2 h3
   rw [List.getElem?_append_right h1] at h3
   exact FU hp 59 (List.mem_of_getElem? h3) rfl)
  rw [show (pre ++ al p).length+1 - pre.length=1+(al p).length by omega,hsk,kx,if_neg (by simp only [List.length_nil] at ho; omega),if_pos (.inl (by omega)),if_neg (by omega),if_pos (by omega),List.drop_left,Nat.add_sub_cancel_left,List.take_length,(zr p hp).2]
 | q :: r,p,pre,out,hr,ho=>by
  have hp:=hr p (List.mem_cons_self ..)
  simp only [List.length_cons] at ho
  have e:Lib.joinTail [59,32] ((q :: r).map al)=59 :: 32 :: (al q ++ Lib.joinTail [59,32] (r.map al)):=by
   rw [List.map_cons]
   rfl
  rw [e]
  have ih:=u7 r q (pre ++ al p ++ [59,32]) (out ++ [p]) (fun x hx=>hr x (List.mem_cons_of_mem _ hx)) (by rw [List.length_append,List.length_singleton]; omega)
  have e2:pre ++ al p ++ [59,32] ++ (al q ++ Lib.joinTail [59,32] (r.map al))=pre ++ (al p ++ 59 :: 32 :: (al q ++ Lib.joinTail [59,32] (r.map al))):=by simp [List.append_assoc]
  rw [e2] at ih
  have hpl:(pre ++ al p ++ [59,32]).length=pre.length+(al p).length+2:=by rw [List.length_append,List.length_append]; rfl
  rw [hpl] at ih
  have hq:=List.length_pos_iff.2 (Lm q)
  have hsl:(pre ++ (al p ++ 59 :: 32 :: (al q ++ Lib.joinTail [59,32] (r.map al)))).length=pre.length+(al p).length+2+(al q ++ Lib.joinTail [59,32] (r.map al)).length:=by
   simp only [List.length_append,List.length_cons]; omega
  have hql:1≤(al q ++ Lib.joinTail [59,32] (r.map al)).length:=by rw [List.length_append]; omega
  generalize hS:pre ++ (al p ++ 59 :: 32 :: (al q ++ Lib.joinTail [59,32] (r.map al)))=S at *
  have hat : ∀ j,S[pre.length+j]? = (al p ++ 59 :: 32 :: (al q ++ Lib.joinTail [59,32] (r.map al)))[j]? := by
   intro j
   rw [← hS,List.getElem?_append_right (by omega),Nat.add_sub_cancel_left]
  generalize (al q ++ Lib.joinTail [59,32] (r.map al))=T at *
  have h59:S[pre.length+(al p).length]? = some 59:=by rw [hat,List.getElem?_append_right (Nat.le_refl _),Nat.sub_self]; rfl
  have h32:S[pre.length+(al p).length+1]? = some 32:=by rw [Nat.add_assoc,hat,List.getElem?_append_right (by omega),Nat.add_sub_cancel_left]; rfl
  have hsk:=rP S pre.length out (by omega) (al p).length pre.length (T.length+3) (by omega) (by
   intro j h1 h2 h3
   rw [show j=pre.length+(j - pre.length) by omega,hat,List.getElem?_append_left (by omega)] at h3
   exact FU hp 59 (List.mem_of_getElem? h3) rfl)
  have htk:(S.drop pre.length).take (al p).length=al p:=by rw [← hS,List.drop_left,List.take_left]
  rw [show S.length+1 - pre.length=T.length+3+(al p).length by omega,hsk,kx,if_neg (by omega),if_pos (.inr h59),if_neg (by omega),if_neg (by omega),Nat.add_sub_cancel_left,htk,(zr p hp).2]
  rw [show T.length+2=(T.length+1)+1 by omega,kx,if_neg (by rw [List.length_append,List.length_singleton]; omega),if_neg]
  ·rw [show S.length+1 - (pre.length+(al p).length+2)=T.length+1 by omega,List.append_assoc] at ih
   exact ih
  ·rintro (h | h)
   ·omega
   ·rw [h32] at h
    injection h with h
    exact absurd h (by decide)
theorem Db (l:List PhT) (h:kY l=true):D7 (cV l)=some l:=by
 obtain ⟨h1,h2,h3⟩:=jE h
 cases l with
 | nil=>simp at h2
 | cons p r =>
  have:=u7 r p [] [] h1 (by simp only [List.length_nil,List.length_cons] at h3 ⊢; omega)
  simp only [List.nil_append,List.length_nil,Nat.sub_zero] at this
  unfold D7
  rw [lQ]
  exact this
end Go.Vm
/- Right texts, plainly. No condition. -/
namespace Go.Vm
open Go.Lib (decodeL decodeN decodeL_N decode_N decodeN_shape decodeL_le)
set_option linter.unusedVariables false
set_option linter.unusedSimpArgs false
def Mk (l:List Int):Bool:=l.any fun n=>decide (gq n=0)
def ym (l:List Int):Unit ⊕ Bool×Unit:=if Mk l=true then .inr (false,()) else .inl ()
theorem tD:ym [] = .inl ():=rfl
theorem zB (n:Int) (l:List Int):ym (n :: l)=if gq n=0 then .inr (false,()) else ym l:=by
 unfold ym Mk
 by_cases h:gq n=0 <;> simp [h]
theorem H2 (s:B8) (p:Nat) (hp:p≤s.length):af ek ((),(s,p),()) (ym ((de (s.drop p)).map (·.1))):=by
 have main : ∀ n p,s.length - p≤n→p≤s.length→af ek ((),(s,p),()) (ym ((de (s.drop p)).map (·.1))):=by
  intro n
  induction n with
  | zero =>
   intro p hn hp
   have:p=s.length:=by omega
   subst this
   refine af.fin (ae.of fun F => ?_)
   unfold ek
   simp [gO,tD]
  | succ n ih =>
   intro p hn hp
   by_cases hlt:p<s.length
   ·have hpos:=bQ (s.drop p)
    have hnx:=zX hlt
    rw [jG (qz hlt),tU,List.map_cons,zB]
    by_cases h0:gq ((decodeL (s.drop p)).1:Int)=0
    ·refine af.fin (ae.of fun F => ?_)
     unfold ek
     simp only [hlt,decide_true,if_true,mI,Bv,Option.bind_some,h0]
    ·rw [if_neg h0]
     refine af.step (x':=((),(s,p+(decodeL (s.drop p)).2),())) (ae.of fun F => ?_) (ih _ (by omega) hnx)
     unfold ek
     simp only [hlt,decide_true,if_true,mI,lE,Bv,Option.bind_some,h0,decide_false,Bool.false_eq_true,if_false]
   ·have:p=s.length:=by omega
    subst this
    refine af.fin (ae.of fun F => ?_)
    unfold ek
    simp [gO,tD]
 exact main _ p (Nat.le_refl _) hp
theorem A0 (ns:List Int) (hn:ns.length≤1000000000000) (k:Nat) (hk:k≤ns.length):af aU (ns,(k:Int),()) (ym (ns.drop k)):=by
 have main : ∀ n k,ns.length - k≤n→k≤ns.length→af aU (ns,(k:Int),()) (ym (ns.drop k)):=by
  intro n
  induction n with
  | zero =>
   intro k hn hk
   have:k=ns.length:=by omega
   subst this
   refine af.fin (ae.of fun F => ?_)
   unfold aU
   simp [tD]
  | succ n ih =>
   intro k hn' hk
   by_cases hlt:k<ns.length
   ·have h:(k:Int)<(ns.length:Int):=by omega
    have hm:ns[k]? = some ns[k]:=by simp [hlt]
    rw [List.drop_eq_getElem_cons hlt,zB]
    by_cases h0:gq ns[k]=0
    ·refine af.fin (ae.of fun F => ?_)
     unfold aU
     simp only [h,decide_true,if_true,Mv ns k _ hm,np,Option.bind_some,h0]
    ·rw [if_neg h0]
     refine af.step (x':=(ns,((k+1:Nat):Int),())) (ae.of fun F => ?_) (ih _ (by omega) (by omega))
     have w:IntKind.i64.wrap ((k:Int)+1)=((k+1:Nat):Int):=by rw [wrap64 _ (by omega) (by omega)]; rfl
     unfold aU
     simp only [h,decide_true,if_true,Mv ns k _ hm,np,Option.bind_some,h0,decide_false,Bool.false_eq_true,if_false,w]
   ·have:k=ns.length:=by omega
    subst this
    refine af.fin (ae.of fun F => ?_)
    unfold aU
    simp [tD]
 exact main _ k (Nat.le_refl _) hk
def mj (s:B8) (r:Int):Bool:=if s = []∨r<(s.length:Int) then false else cm (ym ((de s).map (·.1))) (fun _=>true) fun v=>v.1
theorem zU {α β γ:Type} (x:α ⊕ β) (f:α→γ) (g:β→γ):cm x (fun a=>some (f a)) (fun b=>some (g b))=some (cm x f g):=by cases x <;> rfl
theorem B2 (s:B8) (r:Int):ae (fun F=>kG F (s,r)) (mj s r):=by
 unfold kG mj
 by_cases h1:s = []
 ·simp only [h1,decide_true,Bool.true_eq_false,if_false,Option.bind_some,if_true,true_or]
  exact ae.ret false
 by_cases h2:r<(s.length:Int)
 ·simp only [h1,h2,decide_true,decide_false,Bool.true_eq_false,if_false,Option.bind_some,if_true,or_true]
  exact ae.ret false
 ·simp only [h1,h2,decide_true,decide_false,Bool.false_eq_true,if_false,Option.bind_some,if_true,or_self]
  have:=H2 s 0 (by omega)
  refine this.run.bind ?_
  rw [List.drop_zero]
  exact ae.of fun F=>zU _ _ _
theorem wR (s:B8) (hs:s.length≤100000000000) (r:Int):ae (fun F=>eE F (s,r)) (mj s r):=by
 unfold eE mj
 have hl:=yM s
 by_cases h1:s = []
 ·simp only [h1,List.length_nil,true_or,if_true]
  exact ae.ret false
 have h1' : ¬ (s.length:Int)<1:=by have:=List.length_pos_iff.2 h1; omega
 by_cases h2:r<(s.length:Int)
 ·simp only [h1,h1',h2,decide_true,decide_false,Bool.true_eq_false,if_false,Option.bind_some,if_true,or_true]
  exact ae.ret false
 ·simp only [h1,h1',h2,decide_true,decide_false,Bool.false_eq_true,if_false,Option.bind_some,if_true,or_self]
  refine (uL s (by omega)).bind ?_
  have:=A0 ((de s).map (·.1)) (by simp; omega) 0 (by omega)
  refine this.run.bind ?_
  rw [List.drop_zero]
  exact ae.of fun F=>zU _ _ _
end Go.Vm
