/- JSON: the program's reader at its leaves is the plain one. No condition but on lengths. -/
import Derived.Test.YtcnigpigmhpakaaGreatDoorFjrd
import Derived.Test.YtcnigpigmhpakaaGreatDoorPj7
namespace Go.Vm
open Go.Lib (decodeL decodeN decodeL_N decode_N decodeN_shape decodeL_le)
set_option linter.unusedVariables false
set_option linter.unusedSimpArgs false
abbrev RS:=By×Int×Int×Int×Unit
def st (s r:By) (k e:Int):RS:=(s,((s.length - r.length:Nat):Int),k,e,())
theorem dS {r s:By} (h:r <:+ s):r.length≤s.length:=h.length_le
theorem iC {s q:By} {c:UInt8} (h:c :: q <:+ s):idx s ((s.length - (c :: q).length:Nat):Int)=some c:=by
 obtain ⟨t,rfl⟩:=h
 rw [idx_nat']
 have:(t ++ c :: q).length - (c :: q).length=t.length:=by simp
 rw [this]
 simp
where
 idx_nat' {α:Type} {l:List α} {k:Nat}:idx l (k:Int)=l[k]? := by
  unfold idx
  rw [if_pos (by omega)]
  simp
theorem ua {s r:By} (h:r <:+ s):sub s ((s.length - r.length:Nat):Int) (s.length:Int)=some r:=by
 rw [iH s _ (by omega)]
 obtain ⟨t,rfl⟩:=h
 simp
theorem dk {s q:By} {c:UInt8} (h:c :: q <:+ s) (hs:s.length≤1000):IntKind.i64.wrap (((s.length - (c :: q).length:Nat):Int)+1)=((s.length - q.length:Nat):Int):=by
 have:=dS h
 rw [List.length_cons] at this ⊢
 rw [wrap64 _ (by omega) (by omega)]
 omega
theorem Cc {s:By} : ¬ ((s.length - ([]:By).length:Nat):Int)<(s.length:Int):=by simp
theorem ox {s q:By} {c:UInt8} (h:c :: q <:+ s):((s.length - (c :: q).length:Nat):Int)<(s.length:Int):=by
 have:=dS h
 rw [List.length_cons] at this ⊢
 omega
theorem cr {s q:By} {c:UInt8} (h:c :: q <:+ s):q <:+ s:=(List.suffix_cons c q).trans h
theorem iE (F:Nat) (s:By) (p k e e':Int):aG F ((s,p,k,e,()),e')=some ((),s,p,k,(if e=0 then e' else e),()):=by
 unfold aG
 simp only
 split
 ·rename_i h
  rw [if_pos (of_decide_eq_true h)]
 ·rename_i h
  rw [if_neg (by simpa using h)]
theorem H6 : ∀ c:Fin 256,(ez 0 (([32,9,10,13]:By),((c.val:Nat):Int))).map (fun i=>decide (0≤i))=some (mD (UInt8.ofNat c.val)):=by decide +kernel
theorem F3 (F:Nat) (c:UInt8) : ∃ i,ez F (([32,9,10,13]:By),(c.toNat:Int))=some i∧decide (0≤i)=mD c:=by
 have h:=H6 ⟨c.toNat,c.toNat_lt⟩
 have h':(ez F (([32,9,10,13]:By),(c.toNat:Int))).map (fun i=>decide (0≤i))=some (mD (UInt8.ofNat c.toNat)):=h
 obtain ⟨i,h1,h2⟩:=Option.map_eq_some_iff.1 h'
 refine ⟨i,h1,?_⟩
 rw [h2]
 simp
theorem wT (s:By) (hs:s.length≤1000) (k e:Int) : ∀ r:By,r <:+ s→af dN ((),st s r k e,()) ((),st s (skp r) k e,())
 | [],h=>by
  refine af.fin (.of fun F => ?_)
  unfold dN st
  simp only
  rw [if_neg (by simp)]
  rfl
 | c :: q,h=>by
  have ih:=wT s hs k e q (cr h)
  by_cases hb:mD c=true
  ·rw [CU hb]
   refine af.step (.of fun F => ?_) ih
   obtain ⟨i,h1,h2⟩:=F3 F c
   unfold dN st
   simp only [ox h,decide_true,if_true,iC h,Option.bind_some,h1,h2,hb]
   rw [dk h hs]
  ·have hb:mD c=false:=by simpa using hb
   rw [fy hb]
   refine af.fin (.of fun F => ?_)
   obtain ⟨i,h1,h2⟩:=F3 F c
   unfold dN st
   simp only [ox h,decide_true,if_true,iC h,Option.bind_some,h1,h2,hb,Bool.false_eq_true,if_false]
def hd (r:By):Int:=match r with
 | []=>0
 | c :: _=>(c.toNat:Int)
theorem nr (s r:By) (h:r <:+ s) (hs:s.length≤1000) (k e:Int):ae (fun F=>bh F (st s r k e)) (if e=0 then hd (skp r) else 0,st s (skp r) k e):=by
 unfold bh
 refine (wT s hs k e r h).run.bind ?_
 have hsuf:skp r <:+ s:=(av r).trans h
 refine .of fun F => ?_
 unfold st
 simp only
 by_cases he:e=0
 ·simp only [he,decide_true,Bool.not_true,if_true,Bool.false_eq_true,if_false]
  cases hr:skp r with
  | nil=>simp [hd]
  | cons c q =>
   rw [hr] at hsuf
   have h1:=ox hsuf
   have h2 : ¬ (s.length:Int)≤((s.length - (c :: q).length:Nat):Int):=by omega
   simp only [h2,decide_false,Option.bind_some,Bool.false_eq_true,if_false,iC hsuf,hd]
 ·simp only [he,decide_false,Bool.not_false,if_false,Bool.true_eq_false,Option.bind_some,if_true]
/-! ### the end of a list, a comma -/
theorem ri (s r:By) (h:r <:+ s) (hs:s.length≤1000) (k e:Int) (z:UInt8) (hz:z≠0) (hk : -1000≤k∧k≤1000):ae (fun F=>b9 F (st s r k e,(z.toNat:Int)))
  (if e=0∧(skp r).head? = some z then (true,st s (skp r).tail (k - 1) e) else (false,st s (skp r) k e)):=by
 unfold b9
 refine (nr s r h hs k e).bind ?_
 have hsuf:skp r <:+ s:=(av r).trans h
 have hz0:(z.toNat:Int)≠0:=by
  intro hh
  apply hz
  apply UInt8.toNat_inj.1
  show z.toNat=0
  omega
 by_cases he:e=0
 ·subst he
  cases hr:skp r with
  | nil =>
   refine .of fun F => ?_
   unfold st
   have : ¬ (0:Int)=(z.toNat:Int):=fun hh=>hz0 hh.symm
   simp [hd,this]
  | cons c q =>
   rw [hr] at hsuf
   refine .of fun F => ?_
   by_cases hc:c=z
   ·subst hc
    unfold st
    simp only [hd,if_true,decide_true,Bool.not_true,Bool.false_eq_true,if_false,List.head?_cons,and_self,List.tail_cons]
    rw [dk hsuf hs,wrap64 _ (by omega) (by omega)]
   ·have : ¬ (c.toNat:Int)=(z.toNat:Int):=by
     intro hh
     exact hc (UInt8.toNat_inj.1 (by omega))
    unfold st
    simp [hd,this,hc]
 ·refine .of fun F => ?_
  unfold st
  have : ¬ (0:Int)=(z.toNat:Int):=fun hh=>hz0 hh.symm
  simp [he,this]
theorem zl (s r:By) (h:r <:+ s) (hs:s.length≤1000) (k e:Int) (z:UInt8) (hz:z≠0) (hk : -1000≤k∧k≤1000) (hzc:z≠44):ae (fun F=>bd F (st s r k e,(z.toNat:Int)))
  (if e=0∧(skp r).head? = some 44 then (true,st s (skp r).tail k e) else if e=0∧(skp r).head? = some z then (false,st s (skp r).tail (k - 1) e) else (false,st s (skp r) k (if e=0 then 3 else e))):=by
 unfold bd
 refine (nr s r h hs k e).bind ?_
 have hsuf:skp r <:+ s:=(av r).trans h
 have hl:=ri s (skp r) hsuf hs k e z hz hk
 rw [GH] at hl
 by_cases hc:e=0∧(skp r).head? = some 44
 ·rw [if_pos hc]
  obtain ⟨rfl,hc⟩:=hc
  cases hr:skp r with
  | nil=>rw [hr] at hc; cases hc
  | cons c q =>
   rw [hr] at hc hsuf
   injection hc with hc
   subst hc
   refine .of fun F => ?_
   unfold st
   have e44:hd ((44:UInt8) :: q)=44:=rfl
   simp only [if_true,e44,decide_true,List.tail_cons]
   rw [dk hsuf hs]
 ·rw [if_neg hc]
  have hne : ¬ (if e=0 then hd (skp r) else 0)=(44:Int):=by
   intro hh
   apply hc
   by_cases he:e=0
   ·rw [if_pos he] at hh
    refine ⟨he,?_⟩
    cases hr:skp r with
    | nil=>rw [hr] at hh; exact absurd hh (by decide)
    | cons c q =>
     rw [hr] at hh
     have h2:(c.toNat:Int)=44:=hh
     have:c=44:=UInt8.toNat_inj.1 (show c.toNat=44 by omega)
     rw [this]; rfl
   ·rw [if_neg he] at hh; exact absurd hh (by decide)
  refine ae.neg (by simpa using hne) ?_
  refine hl.bind ?_
  by_cases h2:e=0∧(skp r).head? = some z
  ·rw [if_pos h2,if_pos h2]
   exact .of fun F=>rfl
  ·rw [if_neg h2,if_neg h2]
   refine .of fun F => ?_
   unfold st
   simp only [Bool.not_false,if_true,iE,Option.bind_some]
theorem Dn (s q:By) (c:UInt8) (h:c :: q <:+ s) (hs:s.length≤1000) (k:Int) (hk:0≤k∧k≤100):ae (fun F=>cJ F (st s (c :: q) k 0)) ((),st s q (k+1) (if 8<k+1 then 10 else 0)):=by
 unfold cJ
 refine .of fun F => ?_
 unfold st
 simp only
 rw [wrap64 (k+1) (by omega) (by omega)]
 by_cases h8:8<k+1
 ·simp only [h8,decide_true,if_true,iE,Option.bind_some]
  rw [dk h hs]
 ·simp only [h8,decide_false,Bool.false_eq_true,if_false,Option.bind_some]
  rw [dk h hs]
/-! ### escapes -/
theorem tQ (n:Int) (h : -2147483648≤n) (h':n≤2147483647):IntKind.i32.wrap n=n:=by
 simp only [IntKind.wrap,IntKind.signed,IntKind.bits]
 simp
 omega
theorem Bg (n v:Nat) (hn:n<4096) (hv:v<16):ior .i32 (shl .i32 ((n:Nat):Int) 4) ((v:Nat):Int)=((n * 16+v:Nat):Int):=by
 have hb:IntKind.i32.bits=32:=rfl
 have e1:shl .i32 ((n:Nat):Int) 4=((n * 16:Nat):Int):=by
  unfold shl
  have:min (4:Int).toNat IntKind.i32.bits=4:=rfl
  rw [this,tQ _ (by omega) (by omega)]
  omega
 rw [e1]
 unfold ior
 rw [hb,BitVec.ofInt_natCast,BitVec.ofInt_natCast,BitVec.toNat_or,BitVec.toNat_ofNat,BitVec.toNat_ofNat,Nat.mod_eq_of_lt (by omega),Nat.mod_eq_of_lt (by omega)]
 have e2:n * 16 ||| v=n * 16+v:=by
  have:=Nat.shiftLeft_add_eq_or_of_lt (i:=4) (b:=v) hv n
  rw [Nat.shiftLeft_eq] at this
  exact this.symm
 rw [e2,tQ _ (by omega) (by omega)]
theorem GZ : ∀ c:Fin 256,(if 48≤c.val then decide (c.val≤57) else false)=true→lR (UInt8.ofNat c.val)=some (IntKind.i32.wrap (IntKind.u8.wrap (((c.val:Nat):Int) - 48))).toNat∧0≤IntKind.i32.wrap (IntKind.u8.wrap (((c.val:Nat):Int) - 48)):=by decide +kernel
theorem D4 : ∀ c:Fin 256,(if 48≤c.val then decide (c.val≤57) else false)=false→(if 97≤ior .u8 ((c.val:Nat):Int) 32 then decide (ior .u8 ((c.val:Nat):Int) 32≤102) else false)=true →
  lR (UInt8.ofNat c.val)=some (IntKind.i32.wrap (IntKind.u8.wrap (IntKind.u8.wrap (ior .u8 ((c.val:Nat):Int) 32 - 97)+10))).toNat∧0≤IntKind.i32.wrap (IntKind.u8.wrap (IntKind.u8.wrap (ior .u8 ((c.val:Nat):Int) 32 - 97)+10)):=by decide +kernel
theorem DI : ∀ c:Fin 256,(if 48≤c.val then decide (c.val≤57) else false)=false→(if 97≤ior .u8 ((c.val:Nat):Int) 32 then decide (ior .u8 ((c.val:Nat):Int) 32≤102) else false)=false→lR (UInt8.ofNat c.val)=none:=by decide +kernel
theorem r7 (F:Nat) (s:By) (n i:Nat) (c:UInt8) (hc:idx s (i:Int)=some c) (hn:n<4096) (hi:i<4):gd F (s,(n:Int),(i:Int),())=some (match lR c with
  | some v => .inl (s,((n * 16+v:Nat):Int),((i+1:Nat):Int),())
  | none => .inr (.inr (0,false,()))):=by
 have hb:=c.toNat_lt
 have hx:UInt8.ofNat c.toNat=c:=by simp
 have h1:=GZ ⟨c.toNat,hb⟩
 have h2:=D4 ⟨c.toNat,hb⟩
 have h3:=DI ⟨c.toNat,hb⟩
 simp only [hx] at h1 h2 h3
 have i4:(i:Int)<4:=by omega
 have iw:IntKind.i64.wrap ((i:Int)+1)=((i+1:Nat):Int):=by rw [wrap64 _ (by omega) (by omega)]; rfl
 unfold gd
 simp only [i4,decide_true,if_true,hc,Option.bind_some,aE,aZ,iw]
 by_cases d1:48≤c.toNat
 ·have d1':(48:Int)≤(c.toNat:Int):=by omega
  by_cases d2:c.toNat≤57
  ·have d2':(c.toNat:Int)≤57:=by omega
   obtain ⟨q1,q2⟩:=h1 (by simp [d1,d2])
   have q3:=Bg n _ hn (gp q1)
   simp only [d1',d2',decide_true,if_true,Option.bind_some,aE,aZ,iw,hc,q1] at q3 ⊢
   rw [Int.toNat_of_nonneg q2] at q3
   rw [q3]
  ·have d2' : ¬ (c.toNat:Int)≤57:=by omega
   by_cases d3:(if 97≤ior .u8 (c.toNat:Int) 32 then decide (ior .u8 (c.toNat:Int) 32≤102) else false)=true
   ·obtain ⟨q1,q2⟩:=h2 (by simp [d1,d2]) d3
    have q3:=Bg n _ hn (gp q1)
    have d4:97≤ior .u8 (c.toNat:Int) 32:=by by_cases hh:97≤ior .u8 (c.toNat:Int) 32; exact hh; rw [if_neg hh] at d3; cases d3
    rw [if_pos d4] at d3
    simp only [d1',d2',decide_true,decide_false,if_true,Bool.false_eq_true,if_false,Option.bind_some,aE,aZ,iw,hc,q1,d4,d3] at q3 ⊢
    rw [Int.toNat_of_nonneg q2] at q3
    rw [q3]
   ·have d3:(if 97≤ior .u8 (c.toNat:Int) 32 then decide (ior .u8 (c.toNat:Int) 32≤102) else false)=false:=by simpa using d3
    have q1:=h3 (by simp [d1,d2]) d3
    by_cases d4:97≤ior .u8 (c.toNat:Int) 32
    ·rw [if_pos d4] at d3
     simp only [d1',d2',decide_true,decide_false,if_true,Bool.false_eq_true,if_false,Option.bind_some,aE,aZ,iw,hc,q1,d4,d3]
    ·simp only [d1',d2',decide_true,decide_false,if_true,Bool.false_eq_true,if_false,Option.bind_some,aE,aZ,iw,hc,q1,d4]
 ·have d1' : ¬ (48:Int)≤(c.toNat:Int):=by omega
  by_cases d3:(if 97≤ior .u8 (c.toNat:Int) 32 then decide (ior .u8 (c.toNat:Int) 32≤102) else false)=true
  ·obtain ⟨q1,q2⟩:=h2 (by simp [d1]) d3
   have q3:=Bg n _ hn (gp q1)
   have d4:97≤ior .u8 (c.toNat:Int) 32:=by by_cases hh:97≤ior .u8 (c.toNat:Int) 32; exact hh; rw [if_neg hh] at d3; cases d3
   rw [if_pos d4] at d3
   simp only [d1',decide_true,decide_false,if_true,Bool.false_eq_true,if_false,Option.bind_some,aE,aZ,iw,hc,q1,d4,d3] at q3 ⊢
   rw [Int.toNat_of_nonneg q2] at q3
   rw [q3]
  ·have d3:(if 97≤ior .u8 (c.toNat:Int) 32 then decide (ior .u8 (c.toNat:Int) 32≤102) else false)=false:=by simpa using d3
   have q1:=h3 (by simp [d1]) d3
   by_cases d4:97≤ior .u8 (c.toNat:Int) 32
   ·rw [if_pos d4] at d3
    simp only [d1',decide_true,decide_false,if_true,Bool.false_eq_true,if_false,Option.bind_some,aE,aZ,iw,hc,q1,d4,d3]
   ·simp only [d1',decide_true,decide_false,if_true,Bool.false_eq_true,if_false,Option.bind_some,aE,aZ,iw,hc,q1,d4]
def FI (s:By):Int×Bool:=match lE s with
 | some n=>((n:Int),true)
 | none=>(0,false)
theorem vp {s:By} (h:s.length<4):lE s=none:=by
 unfold lE
 split
 ·simp at h; omega
 ·rfl
theorem eQ {α:Type} (l:List α) (k:Nat) (x:α) (h:l[k]? = some x):idx l (k:Int)=some x:=by
 unfold idx
 rw [if_pos (by omega),Int.toNat_natCast,h]
theorem yu {s:By} (h:4≤s.length) : ∃ a b c d r,s=a :: b :: c :: d :: r:=by
 rcases s with _ | ⟨a,_ | ⟨b,_ | ⟨c,_ | ⟨d,r⟩⟩⟩⟩
 ·simp at h
 ·simp at h
 ·simp at h
 ·simp at h
 ·exact ⟨a,b,c,d,r,rfl⟩
theorem I1 (s:By):ae (fun F=>gC F s) (FI s):=by
 unfold gC
 by_cases h4:s.length<4
 ·refine ae.pos (by have:(s.length:Int)<4:=by omega
                    simpa using this) ?_
  unfold FI
  rw [vp h4]
  exact .ret _
 ·refine ae.neg (by have : ¬ (s.length:Int)<4:=by omega
                    simpa using this) ?_
  obtain ⟨a,b,c,d,r,rfl⟩:=yu (by omega:4≤s.length)
  ·have key:af gd (a :: b :: c :: d :: r,0,0,()) (match lE (a :: b :: c :: d :: r) with
     | some n => .inl ((n:Int),())
     | none => .inr (0,false,())):=by
    have s0:=fun F=>r7 F (a :: b :: c :: d :: r) 0 0 a (eQ _ 0 _ rfl) (by omega) (by omega)
    show af gd (a :: b :: c :: d :: r,((0:Nat):Int),((0:Nat):Int),()) _
    unfold lE
    simp only
    cases ha:lR a with
    | none =>
     simp only [ha] at s0
     exact af.fin (.of s0)
    | some na =>
     have l1:=gp ha
     simp only [ha] at s0
     refine af.step (.of s0) ?_
     have s1:=fun F=>r7 F (a :: b :: c :: d :: r) (0 * 16+na) 1 b (eQ _ 1 _ rfl) (by omega) (by omega)
     simp only [Option.bind_some]
     cases hb:lR b with
     | none =>
      simp only [hb] at s1
      exact af.fin (.of s1)
     | some nb =>
      have l2:=gp hb
      simp only [hb] at s1
      refine af.step (.of s1) ?_
      have s2:=fun F=>r7 F (a :: b :: c :: d :: r) ((0 * 16+na) * 16+nb) 2 c (eQ _ 2 _ rfl) (by omega) (by omega)
      simp only [Option.bind_some]
      cases hc:lR c with
      | none =>
       simp only [hc] at s2
       exact af.fin (.of s2)
      | some nc =>
       have l3:=gp hc
       simp only [hc] at s2
       refine af.step (.of s2) ?_
       have s3:=fun F=>r7 F (a :: b :: c :: d :: r) (((0 * 16+na) * 16+nb) * 16+nc) 3 d (eQ _ 3 _ rfl) (by omega) (by omega)
       simp only [Option.bind_some]
       cases hd:lR d with
       | none =>
        simp only [hd] at s3
        exact af.fin (.of s3)
       | some nd =>
        simp only [hd] at s3
        refine af.step (.of s3) (af.fin (.of fun F => ?_))
        unfold gd
        have : ¬ ((3+1:Nat):Int)<4:=by decide
        simp only [this,decide_false,Bool.false_eq_true,if_false,Option.bind_some]
        congr 5
        omega
   refine key.run.bind ?_
   unfold FI
   cases lE (a :: b :: c :: d :: r) with
   | none=>exact .ret _
   | some n=>exact .ret _
theorem ub (F:Nat) (a p:By):aS F (a,p)=some (decide (a.take p.length=p)):=by
 unfold aS dF
 simp only
 by_cases h:p.length≤a.length
 ·have h':(p.length:Int)≤(a.length:Int):=by omega
  have e:=rY a 0 p.length (Nat.zero_le _) h
  simp only [Nat.sub_zero,List.drop_zero] at e
  have e2:sub a 0 (p.length:Int)=some (a.take p.length):=e
  simp only [h',decide_true,if_true,e2,Option.bind_some]
 ·have h' : ¬ (p.length:Int)≤(a.length:Int):=by omega
  have : ¬ a.take p.length=p:=by
   intro hh
   have:=congrArg List.length hh
   rw [List.length_take] at this
   omega
  simp only [h',decide_false,Bool.false_eq_true,if_false,Option.bind_some,this]
def GO (x:Option (Nat×Nat)):Int×Int:=match x with
 | some (c,k)=>((c:Int),(k:Int))
 | none=>(0,0)
theorem iN (c k:Nat):GO (some (c,k))=((c:Int),(k:Int)):=rfl
theorem iP:GO none=(0,0):=rfl
def ptR (r:By):Int×Int:=GO (sf r)
theorem Km : ∀ a:Fin 1024,shl .i32 ((a.val:Nat):Int) 10=((a.val * 1024:Nat):Int):=by decide +kernel
theorem IW {q:By} (h:q.take 2 = [92,117]) : ∃ q',q=92 :: 117 :: q':=by
 rcases q with _ | ⟨x,_ | ⟨y,q⟩⟩
 ·cases h
 ·cases h
 ·injection h with h1 h2
  injection h2 with h2 _
  exact ⟨q,by rw [h1,h2]⟩
theorem wK {n:Nat} {r:By} (h : ¬ r.take 2 = [92,117]):sF n r=none:=by
 unfold sF
 split
 ·exact absurd rfl h
 ·rfl
theorem FN (F n m:Nat) (h1 : ¬ n<55296) (h2 : ¬ 56320≤n) (h3:56320≤m∧m≤57343) :
  IntKind.i32.wrap (IntKind.i32.wrap (IntKind.i32.wrap (65536+shl .i32 (IntKind.i32.wrap ((n:Int) - 55296)) 10)+(m:Int)) - 56320)=(ru n m:Int):=by
 unfold ru
 have e9:IntKind.i32.wrap ((n:Int) - 55296)=((n - 55296:Nat):Int):=by rw [tQ _ (by omega) (by omega)]; omega
 have e10:=Km ⟨n - 55296,by omega⟩
 simp only at e10
 rw [e9,e10]
 simp (disch:=omega) only [tQ]
 omega
theorem JJ (lo hi be:Int) (x:By) (n:Int) (K:By→Int→Option (Int×Int)) :
  ((if decide (lo≤n)=true then some (x,n,decide (n<be),()) else some (x,n,false,()):Option (By×Int×Bool×Unit)).bind fun v2=>if v2.2.2.1=true then some (0,0) else
    (if decide (v2.2.1<hi)=false then some (v2.1,v2.2.1,decide (be≤v2.2.1),()) else some (v2.1,v2.2.1,true,()):Option (By×Int×Bool×Unit)).bind fun v3=>if v3.2.2.1=true then some (v3.2.1,6) else K v3.1 v3.2.1) =
  if lo≤n∧n<be then some (0,0) else if n<hi∨be≤n then some (n,6) else K x n:=by
 by_cases h1:lo≤n <;> by_cases h2:n<be <;> by_cases h3:n<hi <;> by_cases h4:be≤n <;> first
  | (exfalso; omega)
  | simp only [h1,h2,h3,h4,decide_true,decide_false,if_true,if_false,Bool.false_eq_true,Bool.true_eq_false,Option.bind_some,and_self,and_true,and_false,false_and,true_and,or_self,or_true,true_or,or_false,false_or]
theorem IQ (lo be n m:Int) (K:Int→Int→Int) :
  ((if (!true)=false then some (n,m,decide (m<lo),()) else some (n,m,true,()):Option (Int×Int×Bool×Unit)).bind fun v8 =>
    (if v8.2.2.1=false then some (v8.1,v8.2.1,decide (be≤v8.2.1),()) else some (v8.1,v8.2.1,true,()):Option (Int×Int×Bool×Unit)).bind fun v9=>if v9.2.2.1=true then some (0,0) else some (K v9.1 v9.2.1,12)) =
  if m<lo∨be≤m then some (0,0) else some (K n m,(12:Int)):=by
 by_cases h1:m<lo <;> by_cases h2:be≤m <;> simp [h1,h2]
noncomputable def ptK (F:Nat) (x:By) (n:Int):Option (Int×Int):=(sub x 6 (x.length:Int)).bind fun v4=>(aS F (v4,[92,117])).bind fun v5=>if (!v5)=true then some (0,0) else (sub x 8 (x.length:Int)).bind fun v6=>(gC F v6).bind fun v7=>(if (!v7.2)=false then some (n,v7.1,decide (v7.1<56320),()) else some (n,v7.1,true,())).bind fun v8=>(if v8.2.2.1=false then some (v8.1,v8.2.1,decide (57344≤v8.2.1),()) else some (v8.1,v8.2.1,true,())).bind fun v9=>if v9.2.2.1=true then some (0,0) else some (IntKind.i32.wrap (IntKind.i32.wrap (IntKind.i32.wrap (65536+shl IntKind.i32 (IntKind.i32.wrap (v9.1 - 55296)) 10)+v9.2.1) - 56320),12)
theorem G9 (F:Nat) (x:By):kK F x=(sub x 2 (x.length:Int)).bind fun v0=>(gC F v0).bind fun v1 =>
  (if (!v1.2)=false then if decide (56320≤v1.1)=true then some (x,v1.1,decide (v1.1<57344),()) else some (x,v1.1,false,()) else some (x,v1.1,true,())).bind fun v2 =>
   if v2.2.2.1=true then some (0,0)
   else (if decide (v2.2.1<55296)=false then some (v2.1,v2.2.1,decide (57344≤v2.2.1),()) else some (v2.1,v2.2.1,true,())).bind fun v3=>if v3.2.2.1=true then some (v3.2.1,6) else ptK F v3.1 v3.2.1:=rfl
theorem KH (a b:UInt8) (r:By) (hr:4≤r.length) (n:Nat) (c1 : ¬ n<55296) (c3 : ¬ 56320≤n):ae (fun F=>ptK F (a :: b :: r) (n:Int)) (GO (sF n (r.drop 4))):=by
 unfold ptK
 have e6:sub (a :: b :: r) 6 ((a :: b :: r).length:Int)=some (r.drop 4):=iH (a :: b :: r) 6 (by simp; omega)
 have hlen2:([92,117]:By).length=2:=rfl
 refine ae.congr (m:=fun F=>if (!decide ((r.drop 4).take 2 = [92,117]))=true then some (0,0) else (sub (a :: b :: r) 8 ((a :: b :: r).length:Int)).bind fun v6=>(gC F v6).bind fun v7 =>
      (if (!v7.2)=false then some ((n:Int),v7.1,decide (v7.1<56320),()) else some ((n:Int),v7.1,true,())).bind fun v8 =>
       (if v8.2.2.1=false then some (v8.1,v8.2.1,decide (57344≤v8.2.1),()) else some (v8.1,v8.2.1,true,())).bind fun v9 =>
        if v9.2.2.1=true then some (0,0)
        else
         some
          (IntKind.i32.wrap
            (IntKind.i32.wrap (IntKind.i32.wrap (65536+shl IntKind.i32 (IntKind.i32.wrap (v9.1 - 55296)) 10)+v9.2.1) - 56320),
           12)) ?_ fun F=>by rw [e6,Option.bind_some,ub,Option.bind_some]; rfl
 by_cases hp:(r.drop 4).take 2 = [92,117]
 ·obtain ⟨q,hq⟩:=IW hp
  have hl:=congrArg List.length hq
  simp at hl
  have e8:sub (a :: b :: r) 8 ((a :: b :: r).length:Int)=some q:=by
   have h8:=iH (a :: b :: r) 8 (by simp; omega)
   rw [show (a :: b :: r).drop 8=(r.drop 4).drop 2 by simp,hq] at h8
   exact h8
  refine ae.neg (by simp [hp]) ?_
  rw [e8]
  refine ae.bind (.ret q) ?_
  refine (I1 q).bind ?_
  rw [hq]
  unfold sF FI
  simp only
  cases hm:lE q with
  | none=>exact .of fun F=>by rw [Option.bind_none,iP]; rfl
  | some m =>
   obtain ⟨m1,m2⟩:=pw hm
   rw [Option.bind_some]
   refine ae.congr (m:=fun _ => _) ?_ fun F=>IQ 56320 57344 (n:Int) (m:Int) fun x y=>IntKind.i32.wrap (IntKind.i32.wrap (IntKind.i32.wrap (65536+shl IntKind.i32 (IntKind.i32.wrap (x - 55296)) 10)+y) - 56320)
   by_cases c5:56320≤m∧m≤57343
   ·have hv:=FN 0 n m c1 c3 c5
    refine ae.neg (by omega) ?_
    rw [if_pos c5,iN,hv]
    exact .ret _
   ·refine ae.pos (by omega) ?_
    rw [if_neg c5,iP]
    exact .ret _
 ·rw [wK hp,iP]
  exact ae.pos (by simp [hp]) (.ret _)
theorem IB (a b:UInt8) (r:By):ae (fun F=>kK F (a :: b :: r)) (ptR r):=by
 have e2:sub (a :: b :: r) 2 ((a :: b :: r).length:Int)=some r:=iH (a :: b :: r) 2 (by simp)
 refine ae.congr ?_ fun F=>G9 F _
 rw [e2]
 refine ae.bind (.ret r) ?_
 refine (I1 r).bind ?_
 unfold ptR sf FI
 cases hn:lE r with
 | none=>exact .of fun F=>by rw [Option.bind_none,iP]; rfl
 | some n =>
  obtain ⟨n1,n2⟩:=pw hn
  rw [Option.bind_some]
  refine ae.congr (m:=fun F => _) ?_ fun F=>JJ 56320 55296 57344 (a :: b :: r) (n:Int) (ptK F)
  by_cases c1:n<55296∨57343<n
  ·rw [if_pos c1,iN]
   exact ae.neg (by omega) (ae.pos (by omega) (.ret _))
  rw [if_neg c1]
  by_cases c3:56320≤n
  ·rw [if_pos c3,iP]
   exact ae.pos (by omega) (.ret _)
  ·rw [if_neg c3]
   exact ae.neg (by omega) (ae.neg (by omega) (KH a b r n2 n (by omega) c3))
def JH (r:By):Int×Int:=GO (lT r)
theorem Ff (r:By):ae (fun F=>jI F (92 :: r)) (JH r):=by
 unfold jI JH
 cases r with
 | nil=>exact .of fun F=>by simp [lT,iP]
 | cons c r =>
  have h2 : ¬ (((92:UInt8) :: c :: r).length:Int)<2:=by simp; omega
  have hi:idx ((92:UInt8) :: c :: r) 1=some c:=eQ _ 1 _ rfl
  have hp:=IB 92 c r
  have nv : ∀ k:UInt8,((c.toNat:Int)=(k.toNat:Int))=(c=k):=by
   intro k
   apply propext
   constructor
   ·intro hh; exact UInt8.toNat_inj.1 (by omega)
   ·intro hh; rw [hh]
  have n34:=nv 34; have n92:=nv 92; have n47:=nv 47; have n98:=nv 98; have n102:=nv 102; have n110:=nv 110; have n114:=nv 114; have n116:=nv 116; have n117:=nv 117
  have t34:((34:UInt8).toNat:Int)=34:=rfl
  have t92:((92:UInt8).toNat:Int)=92:=rfl
  have t47:((47:UInt8).toNat:Int)=47:=rfl
  have t98:((98:UInt8).toNat:Int)=98:=rfl
  have t102:((102:UInt8).toNat:Int)=102:=rfl
  have t110:((110:UInt8).toNat:Int)=110:=rfl
  have t114:((114:UInt8).toNat:Int)=114:=rfl
  have t116:((116:UInt8).toNat:Int)=116:=rfl
  have t117:((117:UInt8).toNat:Int)=117:=rfl
  rw [t34] at n34; rw [t92] at n92; rw [t47] at n47; rw [t98] at n98; rw [t102] at n102; rw [t110] at n110; rw [t114] at n114; rw [t116] at n116; rw [t117] at n117
  simp only [h2,decide_false,Bool.false_eq_true,if_false,hi,Option.bind_some,n34,n92,n47,n98,n102,n110,n114,n116,n117]
  unfold lT
  simp only
  by_cases c1:c=34∨c=92∨c=47
  ·refine .of fun F => ?_
   rcases c1 with rfl | rfl | rfl <;> rfl
  ·have a1 : ¬ c=34:=fun hh=>c1 (.inl hh)
   have a2 : ¬ c=92:=fun hh=>c1 (.inr (.inl hh))
   have a3 : ¬ c=47:=fun hh=>c1 (.inr (.inr hh))
   simp only [a1,a2,a3,decide_false,Bool.false_eq_true,if_false,Option.bind_some,or_self]
   by_cases b1:c=98
   ·refine .of fun F => ?_
    simp only [b1,decide_true,if_true,iN]
    rfl
   simp only [b1,decide_false,Bool.false_eq_true,if_false]
   by_cases b2:c=102
   ·refine .of fun F => ?_
    simp only [b2,decide_true,if_true,iN]
    rfl
   simp only [b2,decide_false,Bool.false_eq_true,if_false]
   by_cases b3:c=110
   ·refine .of fun F => ?_
    simp only [b3,decide_true,if_true,iN]
    rfl
   simp only [b3,decide_false,Bool.false_eq_true,if_false]
   by_cases b4:c=114
   ·refine .of fun F => ?_
    simp only [b4,decide_true,if_true,iN]
    rfl
   simp only [b4,decide_false,Bool.false_eq_true,if_false]
   by_cases b5:c=116
   ·refine .of fun F => ?_
    simp only [b5,decide_true,if_true,iN]
    rfl
   simp only [b5,decide_false,Bool.false_eq_true,if_false]
   by_cases b6:c=117
   ·simp only [n98,n102,n110,n114,n116,n117,b1,b2,b3,b4,b5,b6,decide_true,if_true,decide_false,Bool.false_eq_true,if_false]
    subst b6
    unfold ptR at hp
    exact hp.bind (.ret _)
   ·refine .of fun F => ?_
    simp only [n98,n102,n110,n114,n116,n117,b1,b2,b3,b4,b5,b6,decide_false,Bool.false_eq_true,if_false,iP]
end Go.Vm
