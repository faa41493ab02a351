/- JSON: the program's reader at its leaves is the plain one. No condition but on lengths. -/
import Derived.Test.YtihpjgcbmipdbaaGreatDoorFjrd
import Derived.Test.YtihpjgcbmipdbaaGreatDoorPj7
namespace Go.Vm
open Go.Lib (decodeL decodeN decodeL_N decode_N decodeN_shape decodeL_le)
set_option linter.unusedVariables false
set_option linter.unusedSimpArgs false
abbrev RS:=By×Int×Int×Int×Unit
def st (s r:By) (k e:Int):RS:=(s,((s.length - r.length:Nat):Int),k,e,())
theorem dW {r s:By} (h:r <:+ s):r.length≤s.length:=h.length_le
theorem iE {s q:By} {c:UInt8} (h:c :: q <:+ s):idx s ((s.length - (c :: q).length:Nat):Int)=some c:=by
 obtain ⟨t,rfl⟩:=h
 rw [idx_nat']
 have:(t ++ c :: q).length - (c :: q).length=t.length:=by simp
 rw [this]
 simp
where
 idx_nat' {α:Type} {l:List α} {k:Nat}:idx l (k:Int)=l[k]? := by
  unfold idx
  rw [if_pos (by omega)]
  simp
theorem uG {s r:By} (h:r <:+ s):sub s ((s.length - r.length:Nat):Int) (s.length:Int)=some r:=by
 rw [ek s _ (by omega)]
 obtain ⟨t,rfl⟩:=h
 simp
theorem dv {s q:By} {c:UInt8} (h:c :: q <:+ s) (hs:s.length≤1000):IntKind.i64.wrap (((s.length - (c :: q).length:Nat):Int)+1)=((s.length - q.length:Nat):Int):=by
 have:=dW h
 rw [List.length_cons] at this ⊢
 rw [wrap64 _ (by omega) (by omega)]
 omega
theorem Ch {s:By} : ¬ ((s.length - ([]:By).length:Nat):Int)<(s.length:Int):=by simp
theorem oJ {s q:By} {c:UInt8} (h:c :: q <:+ s):((s.length - (c :: q).length:Nat):Int)<(s.length:Int):=by
 have:=dW h
 rw [List.length_cons] at this ⊢
 omega
theorem cj {s q:By} {c:UInt8} (h:c :: q <:+ s):q <:+ s:=(List.suffix_cons c q).trans h
theorem iF (F:Nat) (s:By) (p k e e':Int):aF F ((s,p,k,e,()),e')=some ((),s,p,k,(if e=0 then e' else e),()):=by
 unfold aF
 simp only
 split
 ·rename_i h
  rw [if_pos (of_decide_eq_true h)]
 ·rename_i h
  rw [if_neg (by simpa using h)]
theorem Jl : ∀ c:Fin 256,(aR 0 (([32,9,10,13]:By),((c.val:Nat):Int))).map (fun i=>decide (0≤i))=some (mK (UInt8.ofNat c.val)):=by decide +kernel
theorem ID (F:Nat) (c:UInt8) : ∃ i,aR F (([32,9,10,13]:By),(c.toNat:Int))=some i∧decide (0≤i)=mK c:=by
 have h:=Jl ⟨c.toNat,c.toNat_lt⟩
 have h':(aR F (([32,9,10,13]:By),(c.toNat:Int))).map (fun i=>decide (0≤i))=some (mK (UInt8.ofNat c.toNat)):=h
 obtain ⟨i,h1,h2⟩:=Option.map_eq_some_iff.1 h'
 refine ⟨i,h1,?_⟩
 rw [h2]
 simp
theorem xL (s:By) (hs:s.length≤1000) (k e:Int) : ∀ r:By,r <:+ s→af dO ((),st s r k e,()) ((),st s (skp r) k e,())
 | [],h=>by
  refine af.fin (.of fun F => ?_)
  unfold dO st
  simp only
  rw [if_neg (by simp)]
  rfl
 | c :: q,h=>by
  have ih:=xL s hs k e q (cj h)
  by_cases hb:mK c=true
  ·rw [Ej hb]
   refine af.step (.of fun F => ?_) ih
   obtain ⟨i,h1,h2⟩:=ID F c
   unfold dO st
   simp only [oJ h,decide_true,if_true,iE h,Option.bind_some,h1,h2,hb]
   rw [dv h hs]
  ·have hb:mK c=false:=by simpa using hb
   rw [HX hb]
   refine af.fin (.of fun F => ?_)
   obtain ⟨i,h1,h2⟩:=ID F c
   unfold dO st
   simp only [oJ h,decide_true,if_true,iE h,Option.bind_some,h1,h2,hb,Bool.false_eq_true,if_false]
def hd (r:By):Int:=match r with
 | []=>0
 | c :: _=>(c.toNat:Int)
theorem ny (s r:By) (h:r <:+ s) (hs:s.length≤1000) (k e:Int):ae (fun F=>bf F (st s r k e)) (if e=0 then hd (skp r) else 0,st s (skp r) k e):=by
 unfold bf
 refine (xL s hs k e r h).run.bind ?_
 have hsuf:skp r <:+ s:=(av r).trans h
 refine .of fun F => ?_
 unfold st
 simp only
 by_cases he:e=0
 ·simp only [he,decide_true,Bool.not_true,if_true,Bool.false_eq_true,if_false]
  cases hr:skp r with
  | nil=>simp [hd]
  | cons c q =>
   rw [hr] at hsuf
   have h1:=oJ hsuf
   have h2 : ¬ (s.length:Int)≤((s.length - (c :: q).length:Nat):Int):=by omega
   simp only [h2,decide_false,Option.bind_some,Bool.false_eq_true,if_false,iE hsuf,hd]
 ·simp only [he,decide_false,Bool.not_false,if_false,Bool.true_eq_false,Option.bind_some,if_true]
/-! ### the end of a list, a comma -/
theorem rW (s r:By) (h:r <:+ s) (hs:s.length≤1000) (k e:Int) (z:UInt8) (hz:z≠0) (hk : -1000≤k∧k≤1000):ae (fun F=>bY F (st s r k e,(z.toNat:Int)))
  (if e=0∧(skp r).head? = some z then (true,st s (skp r).tail (k - 1) e) else (false,st s (skp r) k e)):=by
 unfold bY
 refine (ny s r h hs k e).bind ?_
 have hsuf:skp r <:+ s:=(av r).trans h
 have hz0:(z.toNat:Int)≠0:=by
  intro hh
  apply hz
  apply UInt8.toNat_inj.1
  show z.toNat=0
  omega
 by_cases he:e=0
 ·subst he
  cases hr:skp r with
  | nil =>
   refine .of fun F => ?_
   unfold st
   have : ¬ (0:Int)=(z.toNat:Int):=fun hh=>hz0 hh.symm
   simp [hd,this]
  | cons c q =>
   rw [hr] at hsuf
   refine .of fun F => ?_
   by_cases hc:c=z
   ·subst hc
    unfold st
    simp only [hd,if_true,decide_true,Bool.not_true,Bool.false_eq_true,if_false,List.head?_cons,and_self,List.tail_cons]
    rw [dv hsuf hs,wrap64 _ (by omega) (by omega)]
   ·have : ¬ (c.toNat:Int)=(z.toNat:Int):=by
     intro hh
     exact hc (UInt8.toNat_inj.1 (by omega))
    unfold st
    simp [hd,this,hc]
 ·refine .of fun F => ?_
  unfold st
  have : ¬ (0:Int)=(z.toNat:Int):=fun hh=>hz0 hh.symm
  simp [he,this]
theorem y9 (s r:By) (h:r <:+ s) (hs:s.length≤1000) (k e:Int) (z:UInt8) (hz:z≠0) (hk : -1000≤k∧k≤1000) (hzc:z≠44):ae (fun F=>a8 F (st s r k e,(z.toNat:Int)))
  (if e=0∧(skp r).head? = some 44 then (true,st s (skp r).tail k e) else if e=0∧(skp r).head? = some z then (false,st s (skp r).tail (k - 1) e) else (false,st s (skp r) k (if e=0 then 3 else e))):=by
 unfold a8
 refine (ny s r h hs k e).bind ?_
 have hsuf:skp r <:+ s:=(av r).trans h
 have hl:=rW s (skp r) hsuf hs k e z hz hk
 rw [HY] at hl
 by_cases hc:e=0∧(skp r).head? = some 44
 ·rw [if_pos hc]
  obtain ⟨rfl,hc⟩:=hc
  cases hr:skp r with
  | nil=>rw [hr] at hc; cases hc
  | cons c q =>
   rw [hr] at hc hsuf
   injection hc with hc
   subst hc
   refine .of fun F => ?_
   unfold st
   have e44:hd ((44:UInt8) :: q)=44:=rfl
   simp only [if_true,e44,decide_true,List.tail_cons]
   rw [dv hsuf hs]
 ·rw [if_neg hc]
  have hne : ¬ (if e=0 then hd (skp r) else 0)=(44:Int):=by
   intro hh
   apply hc
   by_cases he:e=0
   ·rw [if_pos he] at hh
    refine ⟨he,?_⟩
    cases hr:skp r with
    | nil=>rw [hr] at hh; exact absurd hh (by decide)
    | cons c q =>
     rw [hr] at hh
     have h2:(c.toNat:Int)=44:=hh
     have:c=44:=UInt8.toNat_inj.1 (show c.toNat=44 by omega)
     rw [this]; rfl
   ·rw [if_neg he] at hh; exact absurd hh (by decide)
  refine ae.neg (by simpa using hne) ?_
  refine hl.bind ?_
  by_cases h2:e=0∧(skp r).head? = some z
  ·rw [if_pos h2,if_pos h2]
   exact .of fun F=>rfl
  ·rw [if_neg h2,if_neg h2]
   refine .of fun F => ?_
   unfold st
   simp only [Bool.not_false,if_true,iF,Option.bind_some]
theorem Es (s q:By) (c:UInt8) (h:c :: q <:+ s) (hs:s.length≤1000) (k:Int) (hk:0≤k∧k≤100):ae (fun F=>cL F (st s (c :: q) k 0)) ((),st s q (k+1) (if 8<k+1 then 10 else 0)):=by
 unfold cL
 refine .of fun F => ?_
 unfold st
 simp only
 rw [wrap64 (k+1) (by omega) (by omega)]
 by_cases h8:8<k+1
 ·simp only [h8,decide_true,if_true,iF,Option.bind_some]
  rw [dv h hs]
 ·simp only [h8,decide_false,Bool.false_eq_true,if_false,Option.bind_some]
  rw [dv h hs]
/-! ### escapes -/
theorem uB (n:Int) (h : -2147483648≤n) (h':n≤2147483647):IntKind.i32.wrap n=n:=by
 simp only [IntKind.wrap,IntKind.signed,IntKind.bits]
 simp
 omega
theorem Cx (n v:Nat) (hn:n<4096) (hv:v<16):ior .i32 (shl .i32 ((n:Nat):Int) 4) ((v:Nat):Int)=((n * 16+v:Nat):Int):=by
 have hb:IntKind.i32.bits=32:=rfl
 have e1:shl .i32 ((n:Nat):Int) 4=((n * 16:Nat):Int):=by
  unfold shl
  have:min (4:Int).toNat IntKind.i32.bits=4:=rfl
  rw [this,uB _ (by omega) (by omega)]
  omega
 rw [e1]
 unfold ior
 rw [hb,BitVec.ofInt_natCast,BitVec.ofInt_natCast,BitVec.toNat_or,BitVec.toNat_ofNat,BitVec.toNat_ofNat,Nat.mod_eq_of_lt (by omega),Nat.mod_eq_of_lt (by omega)]
 have e2:n * 16 ||| v=n * 16+v:=by
  have:=Nat.shiftLeft_add_eq_or_of_lt (i:=4) (b:=v) hv n
  rw [Nat.shiftLeft_eq] at this
  exact this.symm
 rw [e2,uB _ (by omega) (by omega)]
theorem GK : ∀ c:Fin 256,(if 48≤c.val then decide (c.val≤57) else false)=true→lW (UInt8.ofNat c.val)=some (IntKind.i32.wrap (IntKind.u8.wrap (((c.val:Nat):Int) - 48))).toNat∧0≤IntKind.i32.wrap (IntKind.u8.wrap (((c.val:Nat):Int) - 48)):=by decide +kernel
theorem Fg : ∀ c:Fin 256,(if 48≤c.val then decide (c.val≤57) else false)=false→(if 97≤ior .u8 ((c.val:Nat):Int) 32 then decide (ior .u8 ((c.val:Nat):Int) 32≤102) else false)=true →
  lW (UInt8.ofNat c.val)=some (IntKind.i32.wrap (IntKind.u8.wrap (IntKind.u8.wrap (ior .u8 ((c.val:Nat):Int) 32 - 97)+10))).toNat∧0≤IntKind.i32.wrap (IntKind.u8.wrap (IntKind.u8.wrap (ior .u8 ((c.val:Nat):Int) 32 - 97)+10)):=by decide +kernel
theorem E3 : ∀ c:Fin 256,(if 48≤c.val then decide (c.val≤57) else false)=false→(if 97≤ior .u8 ((c.val:Nat):Int) 32 then decide (ior .u8 ((c.val:Nat):Int) 32≤102) else false)=false→lW (UInt8.ofNat c.val)=none:=by decide +kernel
theorem sJ (F:Nat) (s:By) (n i:Nat) (c:UInt8) (hc:idx s (i:Int)=some c) (hn:n<4096) (hi:i<4):gh F (s,(n:Int),(i:Int),())=some (match lW c with
  | some v => .inl (s,((n * 16+v:Nat):Int),((i+1:Nat):Int),())
  | none => .inr (.inr (0,false,()))):=by
 have hb:=c.toNat_lt
 have hx:UInt8.ofNat c.toNat=c:=by simp
 have h1:=GK ⟨c.toNat,hb⟩
 have h2:=Fg ⟨c.toNat,hb⟩
 have h3:=E3 ⟨c.toNat,hb⟩
 simp only [hx] at h1 h2 h3
 have i4:(i:Int)<4:=by omega
 have iw:IntKind.i64.wrap ((i:Int)+1)=((i+1:Nat):Int):=by rw [wrap64 _ (by omega) (by omega)]; rfl
 unfold gh
 simp only [i4,decide_true,if_true,hc,Option.bind_some,ax,aT,iw]
 by_cases d1:48≤c.toNat
 ·have d1':(48:Int)≤(c.toNat:Int):=by omega
  by_cases d2:c.toNat≤57
  ·have d2':(c.toNat:Int)≤57:=by omega
   obtain ⟨q1,q2⟩:=h1 (by simp [d1,d2])
   have q3:=Cx n _ hn (gq q1)
   simp only [d1',d2',decide_true,if_true,Option.bind_some,ax,aT,iw,hc,q1] at q3 ⊢
   rw [Int.toNat_of_nonneg q2] at q3
   rw [q3]
  ·have d2' : ¬ (c.toNat:Int)≤57:=by omega
   by_cases d3:(if 97≤ior .u8 (c.toNat:Int) 32 then decide (ior .u8 (c.toNat:Int) 32≤102) else false)=true
   ·obtain ⟨q1,q2⟩:=h2 (by simp [d1,d2]) d3
    have q3:=Cx n _ hn (gq q1)
    have d4:97≤ior .u8 (c.toNat:Int) 32:=by by_cases hh:97≤ior .u8 (c.toNat:Int) 32; exact hh; rw [if_neg hh] at d3; cases d3
    rw [if_pos d4] at d3
    simp only [d1',d2',decide_true,decide_false,if_true,Bool.false_eq_true,if_false,Option.bind_some,ax,aT,iw,hc,q1,d4,d3] at q3 ⊢
    rw [Int.toNat_of_nonneg q2] at q3
    rw [q3]
   ·have d3:(if 97≤ior .u8 (c.toNat:Int) 32 then decide (ior .u8 (c.toNat:Int) 32≤102) else false)=false:=by simpa using d3
    have q1:=h3 (by simp [d1,d2]) d3
    by_cases d4:97≤ior .u8 (c.toNat:Int) 32
    ·rw [if_pos d4] at d3
     simp only [d1',d2',decide_true,decide_false,if_true,Bool.false_eq_true,if_false,Option.bind_some,ax,aT,iw,hc,q1,d4,d3]
    ·simp only [d1',d2',decide_true,decide_false,if_true,Bool.false_eq_true,if_false,Option.bind_some,ax,aT,iw,hc,q1,d4]
 ·have d1' : ¬ (48:Int)≤(c.toNat:Int):=by omega
  by_cases d3:(if 97≤ior .u8 (c.toNat:Int) 32 then decide (ior .u8 (c.toNat:Int) 32≤102) else false)=true
  ·obtain ⟨q1,q2⟩:=h2 (by simp [d1]) d3
   have q3:=Cx n _ hn (gq q1)
   have d4:97≤ior .u8 (c.toNat:Int) 32:=by by_cases hh:97≤ior .u8 (c.toNat:Int) 32; exact hh; rw [if_neg hh] at d3; cases d3
   rw [if_pos d4] at d3
   simp only [d1',decide_true,decide_false,if_true,Bool.false_eq_true,if_false,Option.bind_some,ax,aT,iw,hc,q1,d4,d3] at q3 ⊢
   rw [Int.toNat_of_nonneg q2] at q3
   rw [q3]
  ·have d3:(if 97≤ior .u8 (c.toNat:Int) 32 then decide (ior .u8 (c.toNat:Int) 32≤102) else false)=false:=by simpa using d3
   have q1:=h3 (by simp [d1]) d3
   by_cases d4:97≤ior .u8 (c.toNat:Int) 32
   ·rw [if_pos d4] at d3
    simp only [d1',decide_true,decide_false,if_true,Bool.false_eq_true,if_false,Option.bind_some,ax,aT,iw,hc,q1,d4,d3]
   ·simp only [d1',decide_true,decide_false,if_true,Bool.false_eq_true,if_false,Option.bind_some,ax,aT,iw,hc,q1,d4]
def Hb (s:By):Int×Bool:=match mJ s with
 | some n=>((n:Int),true)
 | none=>(0,false)
theorem wz {s:By} (h:s.length<4):mJ s=none:=by
 unfold mJ
 split
 ·simp at h; omega
 ·rfl
theorem bn {α:Type} (l:List α) (k:Nat) (x:α) (h:l[k]? = some x):idx l (k:Int)=some x:=by
 unfold idx
 rw [if_pos (by omega),Int.toNat_natCast,h]
theorem zy {s:By} (h:4≤s.length) : ∃ a b c d r,s=a :: b :: c :: d :: r:=by
 rcases s with _ | ⟨a,_ | ⟨b,_ | ⟨c,_ | ⟨d,r⟩⟩⟩⟩
 ·simp at h
 ·simp at h
 ·simp at h
 ·simp at h
 ·exact ⟨a,b,c,d,r,rfl⟩
theorem Kz (s:By):ae (fun F=>gE F s) (Hb s):=by
 unfold gE
 by_cases h4:s.length<4
 ·refine ae.pos (by have:(s.length:Int)<4:=by omega
                    simpa using this) ?_
  unfold Hb
  rw [wz h4]
  exact .ret _
 ·refine ae.neg (by have : ¬ (s.length:Int)<4:=by omega
                    simpa using this) ?_
  obtain ⟨a,b,c,d,r,rfl⟩:=zy (by omega:4≤s.length)
  ·have key:af gh (a :: b :: c :: d :: r,0,0,()) (match mJ (a :: b :: c :: d :: r) with
     | some n => .inl ((n:Int),())
     | none => .inr (0,false,())):=by
    have s0:=fun F=>sJ F (a :: b :: c :: d :: r) 0 0 a (bn _ 0 _ rfl) (by omega) (by omega)
    show af gh (a :: b :: c :: d :: r,((0:Nat):Int),((0:Nat):Int),()) _
    unfold mJ
    simp only
    cases ha:lW a with
    | none =>
     simp only [ha] at s0
     exact af.fin (.of s0)
    | some na =>
     have l1:=gq ha
     simp only [ha] at s0
     refine af.step (.of s0) ?_
     have s1:=fun F=>sJ F (a :: b :: c :: d :: r) (0 * 16+na) 1 b (bn _ 1 _ rfl) (by omega) (by omega)
     simp only [Option.bind_some]
     cases hb:lW b with
     | none =>
      simp only [hb] at s1
      exact af.fin (.of s1)
     | some nb =>
      have l2:=gq hb
      simp only [hb] at s1
      refine af.step (.of s1) ?_
      have s2:=fun F=>sJ F (a :: b :: c :: d :: r) ((0 * 16+na) * 16+nb) 2 c (bn _ 2 _ rfl) (by omega) (by omega)
      simp only [Option.bind_some]
      cases hc:lW c with
      | none =>
       simp only [hc] at s2
       exact af.fin (.of s2)
      | some nc =>
       have l3:=gq hc
       simp only [hc] at s2
       refine af.step (.of s2) ?_
       have s3:=fun F=>sJ F (a :: b :: c :: d :: r) (((0 * 16+na) * 16+nb) * 16+nc) 3 d (bn _ 3 _ rfl) (by omega) (by omega)
       simp only [Option.bind_some]
       cases hd:lW d with
       | none =>
        simp only [hd] at s3
        exact af.fin (.of s3)
       | some nd =>
        simp only [hd] at s3
        refine af.step (.of s3) (af.fin (.of fun F => ?_))
        unfold gh
        have : ¬ ((3+1:Nat):Int)<4:=by decide
        simp only [this,decide_false,Bool.false_eq_true,if_false,Option.bind_some]
        congr 5
        omega
   refine key.run.bind ?_
   unfold Hb
   cases mJ (a :: b :: c :: d :: r) with
   | none=>exact .ret _
   | some n=>exact .ret _
theorem uE (F:Nat) (a p:By):aQ F (a,p)=some (decide (a.take p.length=p)):=by
 unfold aQ aY
 simp only
 by_cases h:p.length≤a.length
 ·have h':(p.length:Int)≤(a.length:Int):=by omega
  have e:=fE a 0 p.length (Nat.zero_le _) h
  simp only [Nat.sub_zero,List.drop_zero] at e
  have e2:sub a 0 (p.length:Int)=some (a.take p.length):=e
  simp only [h',decide_true,if_true,e2,Option.bind_some]
 ·have h' : ¬ (p.length:Int)≤(a.length:Int):=by omega
  have : ¬ a.take p.length=p:=by
   intro hh
   have:=congrArg List.length hh
   rw [List.length_take] at this
   omega
  simp only [h',decide_false,Bool.false_eq_true,if_false,Option.bind_some,this]
def G8 (x:Option (Nat×Nat)):Int×Int:=match x with
 | some (c,k)=>((c:Int),(k:Int))
 | none=>(0,0)
theorem iM (c k:Nat):G8 (some (c,k))=((c:Int),(k:Int)):=rfl
theorem iQ:G8 none=(0,0):=rfl
def ptR (r:By):Int×Int:=G8 (uw r)
theorem Mi : ∀ a:Fin 1024,shl .i32 ((a.val:Nat):Int) 10=((a.val * 1024:Nat):Int):=by decide +kernel
theorem KQ {q:By} (h:q.take 2 = [92,117]) : ∃ q',q=92 :: 117 :: q':=by
 rcases q with _ | ⟨x,_ | ⟨y,q⟩⟩
 ·cases h
 ·cases h
 ·injection h with h1 h2
  injection h2 with h2 _
  exact ⟨q,by rw [h1,h2]⟩
theorem yk {n:Nat} {r:By} (h : ¬ r.take 2 = [92,117]):tj n r=none:=by
 unfold tj
 split
 ·exact absurd rfl h
 ·rfl
theorem G0 (F n m:Nat) (h1 : ¬ n<55296) (h2 : ¬ 56320≤n) (h3:56320≤m∧m≤57343) :
  IntKind.i32.wrap (IntKind.i32.wrap (IntKind.i32.wrap (65536+shl .i32 (IntKind.i32.wrap ((n:Int) - 55296)) 10)+(m:Int)) - 56320)=(rT n m:Int):=by
 unfold rT
 have e9:IntKind.i32.wrap ((n:Int) - 55296)=((n - 55296:Nat):Int):=by rw [uB _ (by omega) (by omega)]; omega
 have e10:=Mi ⟨n - 55296,by omega⟩
 simp only at e10
 rw [e9,e10]
 simp (disch:=omega) only [uB]
 omega
theorem Lt (lo hi be:Int) (x:By) (n:Int) (K:By→Int→Option (Int×Int)) :
  ((if decide (lo≤n)=true then some (x,n,decide (n<be),()) else some (x,n,false,()):Option (By×Int×Bool×Unit)).bind fun v2=>if v2.2.2.1=true then some (0,0) else
    (if decide (v2.2.1<hi)=false then some (v2.1,v2.2.1,decide (be≤v2.2.1),()) else some (v2.1,v2.2.1,true,()):Option (By×Int×Bool×Unit)).bind fun v3=>if v3.2.2.1=true then some (v3.2.1,6) else K v3.1 v3.2.1) =
  if lo≤n∧n<be then some (0,0) else if n<hi∨be≤n then some (n,6) else K x n:=by
 by_cases h1:lo≤n <;> by_cases h2:n<be <;> by_cases h3:n<hi <;> by_cases h4:be≤n <;> first
  | (exfalso; omega)
  | simp only [h1,h2,h3,h4,decide_true,decide_false,if_true,if_false,Bool.false_eq_true,Bool.true_eq_false,Option.bind_some,and_self,and_true,and_false,false_and,true_and,or_self,or_true,true_or,or_false,false_or]
theorem I7 (lo be n m:Int) (K:Int→Int→Int) :
  ((if (!true)=false then some (n,m,decide (m<lo),()) else some (n,m,true,()):Option (Int×Int×Bool×Unit)).bind fun v8 =>
    (if v8.2.2.1=false then some (v8.1,v8.2.1,decide (be≤v8.2.1),()) else some (v8.1,v8.2.1,true,()):Option (Int×Int×Bool×Unit)).bind fun v9=>if v9.2.2.1=true then some (0,0) else some (K v9.1 v9.2.1,12)) =
  if m<lo∨be≤m then some (0,0) else some (K n m,(12:Int)):=by
 by_cases h1:m<lo <;> by_cases h2:be≤m <;> simp [h1,h2]
noncomputable def ptK (F:Nat) (x:By) (n:Int):Option (Int×Int):=(sub x 6 (x.length:Int)).bind fun v4=>(aQ F (v4,[92,117])).bind fun v5=>if (!v5)=true then some (0,0) else (sub x 8 (x.length:Int)).bind fun v6=>(gE F v6).bind fun v7=>(if (!v7.2)=false then some (n,v7.1,decide (v7.1<56320),()) else some (n,v7.1,true,())).bind fun v8=>(if v8.2.2.1=false then some (v8.1,v8.2.1,decide (57344≤v8.2.1),()) else some (v8.1,v8.2.1,true,())).bind fun v9=>if v9.2.2.1=true then some (0,0) else some (IntKind.i32.wrap (IntKind.i32.wrap (IntKind.i32.wrap (65536+shl IntKind.i32 (IntKind.i32.wrap (v9.1 - 55296)) 10)+v9.2.1) - 56320),12)
theorem H0 (F:Nat) (x:By):k7 F x=(sub x 2 (x.length:Int)).bind fun v0=>(gE F v0).bind fun v1 =>
  (if (!v1.2)=false then if decide (56320≤v1.1)=true then some (x,v1.1,decide (v1.1<57344),()) else some (x,v1.1,false,()) else some (x,v1.1,true,())).bind fun v2 =>
   if v2.2.2.1=true then some (0,0)
   else (if decide (v2.2.1<55296)=false then some (v2.1,v2.2.1,decide (57344≤v2.2.1),()) else some (v2.1,v2.2.1,true,())).bind fun v3=>if v3.2.2.1=true then some (v3.2.1,6) else ptK F v3.1 v3.2.1:=rfl
theorem Mn (a b:UInt8) (r:By) (hr:4≤r.length) (n:Nat) (c1 : ¬ n<55296) (c3 : ¬ 56320≤n):ae (fun F=>ptK F (a :: b :: r) (n:Int)) (G8 (tj n (r.drop 4))):=by
 unfold ptK
 have e6:sub (a :: b :: r) 6 ((a :: b :: r).length:Int)=some (r.drop 4):=ek (a :: b :: r) 6 (by simp; omega)
 have hlen2:([92,117]:By).length=2:=rfl
 refine ae.congr (m:=fun F=>if (!decide ((r.drop 4).take 2 = [92,117]))=true then some (0,0) else (sub (a :: b :: r) 8 ((a :: b :: r).length:Int)).bind fun v6=>(gE F v6).bind fun v7 =>
      (if (!v7.2)=false then some ((n:Int),v7.1,decide (v7.1<56320),()) else some ((n:Int),v7.1,true,())).bind fun v8 =>
       (if v8.2.2.1=false then some (v8.1,v8.2.1,decide (57344≤v8.2.1),()) else some (v8.1,v8.2.1,true,())).bind fun v9 =>
        if v9.2.2.1=true then some (0,0)
        else
         some
          (IntKind.i32.wrap
            (IntKind.i32.wrap (IntKind.i32.wrap (65536+shl IntKind.i32 (IntKind.i32.wrap (v9.1 - 55296)) 10)+v9.2.1) - 56320),
           12)) ?_ fun F=>by rw [e6,Option.bind_some,uE,Option.bind_some]; rfl
 by_cases hp:(r.drop 4).take 2 = [92,117]
 ·obtain ⟨q,hq⟩:=KQ hp
  have hl:=congrArg List.length hq
  simp at hl
  have e8:sub (a :: b :: r) 8 ((a :: b :: r).length:Int)=some q:=by
   have h8:=ek (a :: b :: r) 8 (by simp; omega)
   rw [show (a :: b :: r).drop 8=(r.drop 4).drop 2 by simp,hq] at h8
   exact h8
  refine ae.neg (by simp [hp]) ?_
  rw [e8]
  refine ae.bind (.ret q) ?_
  refine (Kz q).bind ?_
  rw [hq]
  unfold tj Hb
  simp only
  cases hm:mJ q with
  | none=>exact .of fun F=>by rw [Option.bind_none,iQ]; rfl
  | some m =>
   obtain ⟨m1,m2⟩:=pG hm
   rw [Option.bind_some]
   refine ae.congr (m:=fun _ => _) ?_ fun F=>I7 56320 57344 (n:Int) (m:Int) fun x y=>IntKind.i32.wrap (IntKind.i32.wrap (IntKind.i32.wrap (65536+shl IntKind.i32 (IntKind.i32.wrap (x - 55296)) 10)+y) - 56320)
   by_cases c5:56320≤m∧m≤57343
   ·have hv:=G0 0 n m c1 c3 c5
    refine ae.neg (by omega) ?_
    rw [if_pos c5,iM,hv]
    exact .ret _
   ·refine ae.pos (by omega) ?_
    rw [if_neg c5,iQ]
    exact .ret _
 ·rw [yk hp,iQ]
  exact ae.pos (by simp [hp]) (.ret _)
theorem Kb (a b:UInt8) (r:By):ae (fun F=>k7 F (a :: b :: r)) (ptR r):=by
 have e2:sub (a :: b :: r) 2 ((a :: b :: r).length:Int)=some r:=ek (a :: b :: r) 2 (by simp)
 refine ae.congr ?_ fun F=>H0 F _
 rw [e2]
 refine ae.bind (.ret r) ?_
 refine (Kz r).bind ?_
 unfold ptR uw Hb
 cases hn:mJ r with
 | none=>exact .of fun F=>by rw [Option.bind_none,iQ]; rfl
 | some n =>
  obtain ⟨n1,n2⟩:=pG hn
  rw [Option.bind_some]
  refine ae.congr (m:=fun F => _) ?_ fun F=>Lt 56320 55296 57344 (a :: b :: r) (n:Int) (ptK F)
  by_cases c1:n<55296∨57343<n
  ·rw [if_pos c1,iM]
   exact ae.neg (by omega) (ae.pos (by omega) (.ret _))
  rw [if_neg c1]
  by_cases c3:56320≤n
  ·rw [if_pos c3,iQ]
   exact ae.pos (by omega) (.ret _)
  ·rw [if_neg c3]
   exact ae.neg (by omega) (ae.neg (by omega) (Mn a b r n2 n (by omega) c3))
def LF (r:By):Int×Int:=G8 (ow r)
theorem HV (r:By):ae (fun F=>jR F (92 :: r)) (LF r):=by
 unfold jR LF
 cases r with
 | nil=>exact .of fun F=>by simp [ow,iQ]
 | cons c r =>
  have h2 : ¬ (((92:UInt8) :: c :: r).length:Int)<2:=by simp; omega
  have hi:idx ((92:UInt8) :: c :: r) 1=some c:=bn _ 1 _ rfl
  have hp:=Kb 92 c r
  have nv : ∀ k:UInt8,((c.toNat:Int)=(k.toNat:Int))=(c=k):=by
   intro k
   apply propext
   constructor
   ·intro hh; exact UInt8.toNat_inj.1 (by omega)
   ·intro hh; rw [hh]
  have n34:=nv 34; have n92:=nv 92; have n47:=nv 47; have n98:=nv 98; have n102:=nv 102; have n110:=nv 110; have n114:=nv 114; have n116:=nv 116; have n117:=nv 117
  have t34:((34:UInt8).toNat:Int)=34:=rfl
  have t92:((92:UInt8).toNat:Int)=92:=rfl
  have t47:((47:UInt8).toNat:Int)=47:=rfl
  have t98:((98:UInt8).toNat:Int)=98:=rfl
  have t102:((102:UInt8).toNat:Int)=102:=rfl
  have t110:((110:UInt8).toNat:Int)=110:=rfl
  have t114:((114:UInt8).toNat:Int)=114:=rfl
  have t116:((116:UInt8).toNat:Int)=116:=rfl
  have t117:((117:UInt8).toNat:Int)=117:=rfl
  rw [t34] at n34; rw [t92] at n92; rw [t47] at n47; rw [t98] at n98; rw [t102] at n102; rw [t110] at n110; rw [t114] at n114; rw [t116] at n116; rw [t117] at n117
  simp only [h2,decide_false,Bool.false_eq_true,if_false,hi,Option.bind_some,n34,n92,n47,n98,n102,n110,n114,n116,n117]
  unfold ow
  simp only
  by_cases c1:c=34∨c=92∨c=47
  ·refine .of fun F => ?_
   rcases c1 with rfl | rfl | rfl <;> rfl
  ·have a1 : ¬ c=34:=fun hh=>c1 (.inl hh)
   have a2 : ¬ c=92:=fun hh=>c1 (.inr (.inl hh))
   have a3 : ¬ c=47:=fun hh=>c1 (.inr (.inr hh))
   simp only [a1,a2,a3,decide_false,Bool.false_eq_true,if_false,Option.bind_some,or_self]
   by_cases b1:c=98
   ·refine .of fun F => ?_
    simp only [b1,decide_true,if_true,iM]
    rfl
   simp only [b1,decide_false,Bool.false_eq_true,if_false]
   by_cases b2:c=102
   ·refine .of fun F => ?_
    simp only [b2,decide_true,if_true,iM]
    rfl
   simp only [b2,decide_false,Bool.false_eq_true,if_false]
   by_cases b3:c=110
   ·refine .of fun F => ?_
    simp only [b3,decide_true,if_true,iM]
    rfl
   simp only [b3,decide_false,Bool.false_eq_true,if_false]
   by_cases b4:c=114
   ·refine .of fun F => ?_
    simp only [b4,decide_true,if_true,iM]
    rfl
   simp only [b4,decide_false,Bool.false_eq_true,if_false]
   by_cases b5:c=116
   ·refine .of fun F => ?_
    simp only [b5,decide_true,if_true,iM]
    rfl
   simp only [b5,decide_false,Bool.false_eq_true,if_false]
   by_cases b6:c=117
   ·simp only [n98,n102,n110,n114,n116,n117,b1,b2,b3,b4,b5,b6,decide_true,if_true,decide_false,Bool.false_eq_true,if_false]
    subst b6
    unfold ptR at hp
    exact hp.bind (.ret _)
   ·refine .of fun F => ?_
    simp only [n98,n102,n110,n114,n116,n117,b1,b2,b3,b4,b5,b6,decide_false,Bool.false_eq_true,if_false,iQ]
end Go.Vm
