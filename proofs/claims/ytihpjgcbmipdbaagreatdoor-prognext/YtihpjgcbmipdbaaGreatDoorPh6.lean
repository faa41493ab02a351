import Derived.Test.YtihpjgcbmipdbaaGreatDoorPh1
import Derived.Test.YtihpjgcbmipdbaaGreatDoorPh5
/- Programs: numbers, phases, their texts, what reads them: plainly. No condition. -/
namespace Go.Vm
open Go.Lib (decDigits itoa decNat decFrom digitVal)
set_option linter.unusedVariables false
set_option linter.unusedSimpArgs false
/-! ### numbers -/
theorem Cb {l:By} (h : ∀ c∈l,bd c=true) (hne:l ≠ []):decNat l=some (lD l):=by
 have main : ∀ (l:By) (n:Nat),(∀ c∈l,bd c=true)→decFrom n l=some (l.foldl (fun n c=>n * 10+(c.toNat - 48)) n):=by
  intro l
  induction l with
  | nil=>intro n _; rfl
  | cons c l ih =>
   intro n hd
   have hc:=hd c (List.mem_cons_self ..)
   have hv:digitVal c=some (c.toNat - 48):=by
    unfold digitVal
    simp [bd] at hc
    rw [if_pos ⟨hc.1,hc.2⟩]
   unfold decFrom
   rw [hv]
   exact ih _ (fun x hx=>hd x (List.mem_cons_of_mem _ hx))
 unfold decNat lD
 rw [main l 0 h]
 cases l with
 | nil=>exact absurd rfl hne
 | cons c l=>rfl
theorem Fs (n:Nat) (h:n<100000000000000000):Lib.atoiAll (itoa (n:Int)) = .ok (n:Int):=by
 have hl:(itoa (n:Int)).length≤18:=Nat.le_trans (A8 n 17 (by decide) (by omega)).1 (by decide)
 have hd:=wF n
 have hne:=D9 n
 rw [Lib.atoiAll_short _ hl]
 have hv:lD (itoa (n:Int))=n:=by rw [rJ]; exact (pQ n).2.1
 have hdn:=Cb hd hne
 rw [hv] at hdn
 cases hc:itoa (n:Int) with
 | nil=>exact absurd hc hne
 | cons c q =>
  rw [hc] at hdn hd
  have h0:=hd c (List.mem_cons_self ..)
  have h45:(c == 45)=false:=by
   cases hh:c == 45 with
   | false=>rfl
   | true=>rw [beq_iff_eq] at hh; subst hh; exact absurd h0 (by decide)
  have h43:(c == 43)=false:=by
   cases hh:c == 43 with
   | false=>rfl
   | true=>rw [beq_iff_eq] at hh; subst hh; exact absurd h0 (by decide)
  show Lib.NumEnd.ofOption (if (c == 45)=true then (decNat q).map (fun (m:Nat) => -(m:Int)) else if (c == 43)=true then (decNat q).map (fun (m:Nat)=>(m:Int)) else (decNat (c :: q)).map (fun (m:Nat)=>(m:Int))) = _
  rw [h45,h43,hdn]
  rfl
def Dw (s:By):Int:=match Lib.atoiAll s with
 | .ok n=>if n<1∨itoa n≠s then 0 else n
 | _=>0
theorem s5 (n:Nat) (h1:1≤n) (h:n≤1073741824):Dw (itoa (n:Int))=n:=by
 unfold Dw
 rw [Fs n (by omega)]
 simp only
 rw [if_neg]
 rintro (h | h)
 ·omega
 ·exact h rfl
def vO (acc:Nat):By→Nat
 | []=>acc
 | c :: r=>if bd c=true∧acc≤1073741824 then vO (acc * 10+(c.toNat - 48)) r else 0
theorem Eo : ∀ (l:By) (acc:Nat),acc≤l.foldl (fun n c=>n * 10+(c.toNat - 48)) acc
 | [],acc=>Nat.le_refl _
 | c :: l,acc=>by
  have:=Eo l (acc * 10+(c.toNat - 48))
  rw [List.foldl_cons]
  omega
theorem xH : ∀ (l:By) (acc:Nat),(∀ c∈l,bd c=true)→l.foldl (fun n c=>n * 10+(c.toNat - 48)) acc≤1073741824→vO acc l=l.foldl (fun n c=>n * 10+(c.toNat - 48)) acc
 | [],acc,h,hv=>rfl
 | c :: l,acc,h,hv=>by
  rw [List.foldl_cons] at hv
  have:=Eo l (acc * 10+(c.toNat - 48))
  unfold vO
  rw [if_pos ⟨h c (List.mem_cons_self ..),by omega⟩,List.foldl_cons]
  exact xH l _ (fun x hx=>h x (List.mem_cons_of_mem _ hx)) hv
theorem re (n:Nat) (h:n≤1073741824):vO 0 (itoa (n:Int))=n:=by
 have hv:lD (itoa (n:Int))=n:=by rw [rJ]; exact (pQ n).2.1
 have:=xH (itoa (n:Int)) 0 (wF n) (by show lD (itoa (n:Int)) ≤ _; omega)
 rw [this]
 exact hv
/-! ### phases -/
abbrev PhT:=Int×By×Int×By×Unit
def kN (s:By):Bool:=s.all (fun c=>c != 59) && pq s
def ee (p:PhT):Bool :=
 if p.1=1 then decide (1≤p.2.2.1) && decide (p.2.2.1≤80) && decide (p.2.1 = []) && decide (p.2.2.2.1 = [])
 else if p.1=2 then decide (1≤p.2.2.1) && decide (p.2.2.1≤1073741824) && nmP p.2.1 && decide (p.2.2.2.1 = [])
 else if p.1=3 then decide (p.2.2.1=0) && nmP p.2.1 && kN p.2.2.2.1
 else if p.1=4 then (decide (p.2.2.1=200) || decide (p.2.2.1=201)) && decide (p.2.1 = []) && kN p.2.2.2.1
 else false
def uu:List PhT→Bool
 | []=>true
 | p :: r=>ee p && (decide (p.1=4) == decide (r = [])) && uu r
def oz (l:List PhT):Bool:=decide (1≤l.length) && decide (l.length≤5) && uu l
abbrev rF:By := [111,110,108,121]
abbrev qz:By := [110,101,101,100]
abbrev vK:By := [99,97,108,108]
abbrev AW:By := [101,110,100]
def nY (s:By):By:=if s = [] then [] else 32 :: s
def eU (p:PhT):By :=
 if p.1=1 then rF ++ 32 :: itoa p.2.2.1
 else if p.1=2 then qz ++ 32 :: (p.2.1 ++ 32 :: itoa p.2.2.1)
 else if p.1=3 then vK ++ 32 :: (p.2.1 ++ nY p.2.2.2.1)
 else AW ++ 32 :: (itoa p.2.2.1 ++ nY p.2.2.2.1)
abbrev z23:PhT:=(0,[],0,[],())
def fX (s:By):PhT:=if (Lib.cut s [32]).2.2=false then z23
 else if (Lib.cut s [32]).1=rF then (1,[],Dw (Lib.cut s [32]).2.1,[],())
 else if (Lib.cut (Lib.cut s [32]).2.1 [32]).2.1 = []∧(Lib.cut (Lib.cut s [32]).2.1 [32]).1≠(Lib.cut s [32]).2.1 then z23
 else if (Lib.cut s [32]).1=qz then (2,(Lib.cut (Lib.cut s [32]).2.1 [32]).1,Dw (Lib.cut (Lib.cut s [32]).2.1 [32]).2.1,[],())
 else if (Lib.cut s [32]).1=vK then (3,(Lib.cut (Lib.cut s [32]).2.1 [32]).1,0,(Lib.cut (Lib.cut s [32]).2.1 [32]).2.1,())
 else if (Lib.cut s [32]).1=AW then (4,[],Dw (Lib.cut (Lib.cut s [32]).2.1 [32]).1,(Lib.cut (Lib.cut s [32]).2.1 [32]).2.1,())
 else z23
def fB (s:By):By×By:=((Lib.cut s [32]).1,(Lib.cut s [32]).2.1)
def uW (s:By):PhT :=
 if (fB s).1=rF then (1,[],(vO 0 (fB s).2:Int),[],())
 else if (fB s).1=qz then (2,(fB (fB s).2).1,(vO 0 (fB (fB s).2).2:Int),[],())
 else if (fB s).1=vK then (3,(fB (fB s).2).1,0,(fB (fB s).2).2,())
 else if (fB s).1=AW then (4,[],(vO 0 (fB (fB s).2).1:Int),(fB (fB s).2).2,())
 else z23
theorem rB {s:By} (h:nmP s=true) : ∀ b∈s,b≠32∧b≠59:=by
 unfold nmP at h
 simp only [Bool.and_eq_true] at h
 intro b hb
 have:=List.all_eq_true.1 h.1.1 b hb
 constructor <;> rintro rfl <;> exact absurd this (by decide)
theorem pW (n:Nat) : ∀ b∈itoa (n:Int),b≠32∧b≠59:=by
 intro b hb
 have:=wF n b hb
 constructor <;> rintro rfl <;> exact absurd this (by decide)
theorem AO {p:By} (hp : ∀ b∈p,b≠32) (t:By):(Lib.cut (p ++ nY t) [32]).1=p∧(Lib.cut (p ++ nY t) [32]).2.1=t:=by
 unfold nY
 by_cases ht:t = []
 ·rw [if_pos ht,List.append_nil,G9 hp,ht]
  exact ⟨rfl,rfl⟩
 ·rw [if_neg ht,Ey hp]
  exact ⟨rfl,rfl⟩
theorem Ir {p:By} (hp : ∀ b∈p,b≠32) (s:By):Lib.cut (p ++ 32 :: s) [32]=(p,s,true):=Ey hp s
theorem JM : ∀ b∈rF,b≠32:=by decide
theorem JG : ∀ b∈qz,b≠32:=by decide
theorem Kx : ∀ b∈vK,b≠32:=by decide
theorem Lc : ∀ b∈AW,b≠32:=by decide
theorem pk {p:PhT} (h:ee p=true) :
  (∃ n:Nat,p=(1,[],(n:Int),[],())∧1≤n∧n≤80)∨(∃ (nm:By) (n:Nat),p=(2,nm,(n:Int),[],())∧nmP nm=true∧1≤n∧n≤1073741824) ∨
  (∃ nm t,p=(3,nm,0,t,())∧nmP nm=true∧kN t=true) ∨ ∃ (n:Nat) (t:By),p=(4,[],(n:Int),t,())∧(n=200∨n=201)∧kN t=true:=by
 obtain ⟨k,nm,n,t,u⟩:=p
 unfold ee at h
 simp only at h
 split at h
 ·rename_i hk
  subst hk
  simp only [Bool.and_eq_true,decide_eq_true_eq] at h
  obtain ⟨⟨⟨h1,h2⟩,rfl⟩,rfl⟩:=h
  exact .inl ⟨n.toNat,by rw [show ((n.toNat:Nat):Int)=n by omega],by omega,by omega⟩
 split at h
 ·rename_i hk
  subst hk
  simp only [Bool.and_eq_true,decide_eq_true_eq] at h
  obtain ⟨⟨⟨h1,h2⟩,h3⟩,rfl⟩:=h
  exact .inr (.inl ⟨nm,n.toNat,by rw [show ((n.toNat:Nat):Int)=n by omega],h3,by omega,by omega⟩)
 split at h
 ·rename_i hk
  subst hk
  simp only [Bool.and_eq_true,decide_eq_true_eq] at h
  obtain ⟨⟨rfl,h2⟩,h3⟩:=h
  exact .inr (.inr (.inl ⟨nm,t,rfl,h2,h3⟩))
 split at h
 ·rename_i hk
  subst hk
  simp only [Bool.and_eq_true,Bool.or_eq_true,decide_eq_true_eq] at h
  obtain ⟨⟨h1,rfl⟩,h3⟩:=h
  exact .inr (.inr (.inr ⟨n.toNat,t,by rw [show ((n.toNat:Nat):Int)=n by omega],by omega,h3⟩))
 ·cases h
theorem xW (p:PhT) (h:ee p=true):fX (eU p)=p∧uW (eU p)=p:=by
 rcases pk h with ⟨n,rfl,h1,h2⟩ | ⟨nm,n,rfl,h3,h1,h2⟩ | ⟨nm,t,rfl,h2,h3⟩ | ⟨n,t,rfl,h1,h3⟩
 ·have e:eU (1,[],(n:Int),[],())=rF ++ 32 :: itoa (n:Int):=rfl
  rw [e]
  unfold fX uW fB
  rw [Ir JM]
  simp only
  rw [if_neg (by decide),if_pos trivial,if_pos trivial,s5 n h1 (by omega),re n (by omega)]
  exact ⟨rfl,rfl⟩
 ·have e:eU (2,nm,(n:Int),[],())=qz ++ 32 :: (nm ++ 32 :: itoa (n:Int)):=rfl
  rw [e]
  unfold fX uW fB
  rw [Ir JG]
  simp only
  rw [Ir fun b hb=>(rB h3 b hb).1]
  simp only
  rw [if_neg (by decide),if_neg (by decide),if_neg (fun hh=>D9 n hh.1),if_pos trivial,if_neg (by decide),if_pos trivial,s5 n h1 h2,re n h2]
  exact ⟨rfl,rfl⟩
 ·have e:eU (3,nm,0,t,())=vK ++ 32 :: (nm ++ nY t):=rfl
  obtain ⟨c1,c2⟩:=AO (fun b hb=>(rB h2 b hb).1) t
  rw [e]
  unfold fX uW fB
  rw [Ir Kx]
  simp only [c1,c2]
  rw [if_neg (by decide),if_neg (by decide),if_neg,if_neg (by decide),if_pos trivial,if_neg (by decide),if_neg (by decide),if_pos trivial]
  ·exact ⟨rfl,rfl⟩
  ·rintro ⟨rfl,hh⟩
   exact hh (by unfold nY; simp)
 ·have e:eU (4,[],(n:Int),t,())=AW ++ 32 :: (itoa (n:Int) ++ nY t):=rfl
  obtain ⟨c1,c2⟩:=AO (fun b hb=>(pW n b hb).1) t
  rw [e]
  unfold fX uW fB
  rw [Ir Lc]
  simp only [c1,c2]
  rw [if_neg (by decide),if_neg (by decide),if_neg,if_neg (by decide),if_neg (by decide),if_pos trivial,if_neg (by decide),if_neg (by decide),if_neg (by decide),if_pos trivial,s5 n (by omega) (by omega),re n (by omega)]
  ·exact ⟨rfl,rfl⟩
  ·rintro ⟨rfl,hh⟩
   exact hh (by unfold nY; simp)
end Go.Vm
/- Programs: printed and parsed, plainly; the document's parser on a printed one. No condition. -/
namespace Go.Vm
open Go.Lib (decDigits itoa)
set_option linter.unusedVariables false
set_option linter.unusedSimpArgs false
def qQ (l:List PhT):By:=Lib.join (l.map eU) [59,32]
def kH:List By→Option (List PhT)
 | []=>some []
 | x :: r=>match x with
  | 32 :: t=>(kH r).map (fX t :: ·)
  | _=>none
def D6 (s:By):Option (List PhT):=match kC 59 s with
 | x :: r=>(kH r).map (fX x :: ·)
 | []=>none
theorem yO (x:By) : ∀ r:List By,w7 59 (x :: r.map (fun t=>32 :: t))=x ++ Lib.joinTail [59,32] r
 | []=>by show x=x ++ []; rw [List.append_nil]
 | t :: r=>by
  rw [List.map_cons,uQ 59 x (by simp),yO (32 :: t) r]
  show x ++ 59 :: ((32 :: t) ++ Lib.joinTail [59,32] r)=x ++ ((59 :: 32 :: t) ++ Lib.joinTail [59,32] r)
  rfl
theorem Bt (p:PhT) (r:List PhT):qQ (p :: r)=eU p ++ Lib.joinTail [59,32] (r.map eU):=by
 unfold qQ
 rw [List.map_cons,Lib.join_cons]
theorem AG {d:UInt8} (hd:d≠32) {t:By} (h : ∀ b∈t,b≠d) : ∀ b∈nY t,b≠d:=by
 unfold nY
 split
 ·exact fun b hb=>by cases hb
 ·intro b hb
  rcases List.mem_cons.1 hb with rfl | hb
  ·exact fun e=>hd e.symm
  ·exact h b hb
theorem Bb {t:By} (h:kN t=true) : ∀ b∈t,b≠59:=by
 unfold kN at h
 rw [Bool.and_eq_true] at h
 intro b hb
 have:=List.all_eq_true.1 h.1 b hb
 simpa using this
theorem qV {d:UInt8} {a b:By} (ha : ∀ x∈a,x≠d) (hb : ∀ x∈b,x≠d) : ∀ x∈a ++ b,x≠d:=fun x hx=>(List.mem_append.1 hx).elim (ha x) (hb x)
theorem pX {d c:UInt8} {b:By} (hc:c≠d) (hb : ∀ x∈b,x≠d) : ∀ x∈c :: b,x≠d:=fun x hx=>(List.mem_cons.1 hx).elim (fun e=>e ▸ hc) (hb x)
theorem Eh {p:PhT} (h:ee p=true) : ∀ b∈eU p,b≠59:=by
 rcases pk h with ⟨n,rfl,h1,h2⟩ | ⟨nm,n,rfl,h3,h1,h2⟩ | ⟨nm,t,rfl,h2,h3⟩ | ⟨n,t,rfl,h1,h3⟩
 ·exact qV (a:=rF) (by decide) (pX (by decide) fun b hb=>(pW n b hb).2)
 ·exact qV (a:=qz) (by decide) (pX (by decide) (qV (fun b hb=>(rB h3 b hb).2) (pX (by decide) fun b hb=>(pW n b hb).2)))
 ·exact qV (a:=vK) (by decide) (pX (by decide) (qV (fun b hb=>(rB h2 b hb).2) (AG (by decide) (Bb h3))))
 ·exact qV (a:=AW) (by decide) (pX (by decide) (qV (fun b hb=>(pW n b hb).2) (AG (by decide) (Bb h3))))
theorem wY : ∀ l:List PhT,uu l=true → ∀ p∈l,ee p=true
 | [],h,p,hp=>by cases hp
 | q :: l,h,p,hp=>by
  unfold uu at h
  rw [Bool.and_eq_true,Bool.and_eq_true] at h
  rcases List.mem_cons.1 hp with rfl | hp
  ·exact h.1.1
  ·exact wY l h.2 p hp
theorem ym {l:List PhT} (h:oz l=true):(∀ p∈l,ee p=true)∧1≤l.length∧l.length≤5:=by
 unfold oz at h
 simp only [Bool.and_eq_true,decide_eq_true_eq] at h
 exact ⟨wY l h.2,h.1.1,h.1.2⟩
theorem xE : ∀ r:List PhT,(∀ p∈r,ee p=true)→kH (r.map fun p=>32 :: eU p)=some r
 | [],h=>rfl
 | p :: r,h=>by
  rw [List.map_cons]
  show (kH (r.map fun p=>32 :: eU p)).map (fX (eU p) :: ·) = _
  rw [xE r fun q hq=>h q (List.mem_cons_of_mem _ hq),(xW p (h p (List.mem_cons_self ..))).1]
  rfl
theorem Du (l:List PhT) (h:oz l=true):D6 (qQ l)=some l:=by
 obtain ⟨h1,h2,h3⟩:=ym h
 cases l with
 | nil=>simp at h2
 | cons p r =>
  have e:qQ (p :: r)=w7 59 (eU p :: r.map fun p=>32 :: eU p):=by
   rw [Bt, ← yO,List.map_map]
   rfl
  have hs:kC 59 (w7 59 (eU p :: r.map fun p=>32 :: eU p))=eU p :: r.map fun p=>32 :: eU p:=by
   refine yI _ (by simp) fun x hx => ?_
   rcases List.mem_cons.1 hx with rfl | hx
   ·exact Eh (h1 p (List.mem_cons_self ..))
   ·obtain ⟨q,hq,rfl⟩:=List.mem_map.1 hx
    exact pX (by decide) (Eh (h1 q (List.mem_cons_of_mem _ hq)))
  unfold D6
  rw [e,hs]
  show (kH (r.map fun p=>32 :: eU p)).map (fX (eU p) :: ·) = _
  rw [xE r fun q hq=>h1 q (List.mem_cons_of_mem _ hq),(xW p (h1 p (List.mem_cons_self ..))).1]
  rfl
def zi (s:By):List PhT×Int:=match D6 s with
 | some l=>if oz l=true then (l,0) else ([],3)
 | none=>([],3)
theorem Ao (l:List PhT) (h:oz l=true):zi (qQ l)=(l,0):=by
 unfold zi
 rw [Du l h]
 exact if_pos h
end Go.Vm
/- Phrases: gaps; the wake; the law of checks. No condition but on lengths. -/
namespace Go.Vm
open Go.Proofs
open Go.Lib (decodeL decodeN decodeL_N decode_N decodeN_shape decodeL_le)
set_option linter.unusedVariables false
set_option linter.unusedSimpArgs false
theorem tJ : ∀ s:By,(∀ b∈s,b.toNat<128)→(bX s).map (·.1)=s.map fun b=>(b.toNat:Int)
 | [],h=>by rw [fF]; rfl
 | c :: s,h=>by
  rw [Gb c (h c (List.mem_cons_self ..)),List.map_cons,List.map_cons,tJ s fun b hb=>h b (List.mem_cons_of_mem _ hb)]
abbrev wkB:By := [123,34,115,117,109,34,58,53,125]
theorem LZ:ur wkB = .ok (.obj [([115,117,109], .int 5,())]):=by kernel_rfl
theorem Kj:ur [53] = .ok (.int 5):=by kernel_rfl
theorem Lo:Go.Lib.itoa 5 = [53]:=by unfold Go.Lib.itoa; rw [if_neg (by decide)]; exact Go.Lib.decDigits_one (by decide)
theorem Lz:vY wkB [115,117,109] = [53]:=by
 have hv:vP wkB = .obj [([115,117,109], .int 5,())]:=by unfold vP; rw [LZ]
 have h5:vP [53] = .int 5:=by unfold vP; rw [Kj]
 have hl:bG 7 (.int 5) = [53]:=by rw [tv]; exact Lo
 have hf:firstM [115,117,109] [(([115,117,109], .int 5,()):Me)]=([53],true):=by
  unfold firstM
  rw [if_pos rfl,hl]
 have hf2:firstM [115,117,109] (iS (vP wkB))=([53],true):=by rw [hv]; exact hf
 unfold vY
 rw [hf2,if_pos rfl]
 show (if lF (vP [53])=4 then rC (vP [53]) else [53]) = _
 rw [h5]
 exact if_neg (by decide)
end Go.Vm
