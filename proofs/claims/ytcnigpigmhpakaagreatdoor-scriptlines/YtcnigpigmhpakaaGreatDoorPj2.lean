import Derived.Test.YtcnigpigmhpakaaGreatDoorPu1
import Derived.Lib.ItoaNum
/- JSON, plainly: which value a text is, and what a value's form is. No condition. -/
namespace Go.Vm
open Go.Lib (decodeL decodeN decodeL_N decode_N decodeN_shape decodeL_le)
set_option linter.unusedVariables false
set_option linter.unusedSimpArgs false
def mD (c:UInt8):Bool:=c == 32 || c == 9 || c == 10 || c == 13
def skp (s:By):By:=s.dropWhile mD
def lR (c:UInt8):Option Nat:=if 48≤c.toNat∧c.toNat≤57 then some (c.toNat - 48) else if 97≤c.toNat∧c.toNat≤102 then some (c.toNat - 87) else if 65≤c.toNat∧c.toNat≤70 then some (c.toNat - 55) else none
def lE (s:By):Option Nat:=match s with
 | a :: b :: c :: d :: _=>(lR a).bind fun a=>(lR b).bind fun b=>(lR c).bind fun c=>(lR d).bind fun d=>some (((a * 16+b) * 16+c) * 16+d)
 | _=>none
def ru (n m:Nat):Nat:=65536+(n - 55296) * 1024+(m - 56320)
def sF (n:Nat) (r:By):Option (Nat×Nat):=match r with
 | 92 :: 117 :: q=>(lE q).bind fun m=>if 56320≤m∧m≤57343 then some (ru n m,12) else none
 | _=>none
def sf (r:By):Option (Nat×Nat) :=
 (lE r).bind fun n=>if n<55296∨57343<n then some (n,6) else if 56320≤n then none else sF n (r.drop 4)
def lT (s:By):Option (Nat×Nat):=match s with
 | []=>none
 | c :: r=>if c=34∨c=92∨c=47 then some (c.toNat,2) else if c=98 then some (8,2) else if c=102 then some (12,2) else if c=110 then some (10,2) else if c=114 then some (13,2) else if c=116 then some (9,2) else if c=117 then sf r else none
def Ch:Nat→By→Option (By×By)
 | 0,_=>none
 | n+1,s=>match s with
  | []=>none
  | c :: r=>if c=34 then some ([],r) else if c=92 then (lT r).bind fun x=>(Ch n (s.drop x.2)).map fun y=>(cj x.1 ++ y.1,y.2)
   else if (decodeL s).1<32∨((decodeL s).1=65533∧(decodeL s).2=1) then none else (Ch n (s.drop (decodeL s).2)).map fun y=>(s.take (decodeL s).2 ++ y.1,y.2)
def txt (s:By):Option (By×By):=Ch s.length s
def bj (c:UInt8):Bool:=decide (48≤c.toNat) && decide (c.toNat≤57)
def cM (s:By):By:=match s with
 | [] => []
 | c :: _=>if c=48 then [48] else (s.takeWhile bj).take 15
def oe (ds:By):Nat:=ds.foldl (fun n c=>n * 10+(c.toNat - 48)) 0
def pM (s:By):Option (Int×By):=match s with
 | []=>none
 | c :: r=>if c=45 then (if cM r = [] then none else some (-(oe (cM r):Int),r.drop (cM r).length))
  else if cM s = [] then none else some ((oe (cM s):Int),s.drop (cM s).length)
def nM (V:By→Except Nat (JV×By)):Nat→By→Except Nat (List JV×By)
 | 0,_ => .error 3
 | n+1,s=>match V s with
  | .error e => .error e
  | .ok (v,r)=>match skp r with
   | 44 :: r'=>match nM V n r' with
    | .error e => .error e
    | .ok (l,r'') => .ok (v :: l,r'')
   | 93 :: r' => .ok ([v],r')
   | _ => .error 3
def nz (V:By→Except Nat (JV×By)):Nat→List Me→By→Except Nat (List Me×By)
 | 0,_,_ => .error 3
 | n+1,acc,s=>match skp s with
  | 34 :: r=>match txt r with
   | none => .error 3
   | some (name,r)=>if acc.any (fun m=>m.1 == name) then .error 7 else match skp r with
    | 58 :: r=>match V r with
     | .error e => .error e
     | .ok (v,r)=>match skp r with
      | 44 :: r=>nz V n (acc ++ [(name,v,())]) r
      | 125 :: r => .ok (acc ++ [(name,v,())],r)
      | _ => .error 3
    | _ => .error 3
  | _ => .error 3
def nL (V:Option (By→Except Nat (JV×By))) (s:By):Except Nat (JV×By) :=
 match skp s with
 | [] => .error 3
 | c :: r =>
  if c=123 then match V with
   | none => .error 10
   | some V=>match skp r with
    | 125 :: r => .ok (.obj [],r)
    | r=>match nz V (r.length+1) [] r with
     | .error e => .error e
     | .ok (l,r) => .ok (.obj (a8 l),r)
  else if c=91 then match V with
   | none => .error 10
   | some V=>match skp r with
    | 93 :: r => .ok (.list [],r)
    | r=>match nM V (r.length+1) r with
     | .error e => .error e
     | .ok (l,r) => .ok (.list l,r)
  else if c=34 then match txt r with
   | none => .error 3
   | some (t,r) => .ok (.str t,r)
  else if (c :: r).take 4 = [110,117,108,108] then .ok (.null,r.drop 3)
  else if (c :: r).take 4 = [116,114,117,101] then .ok (.bool true,r.drop 3)
  else if (c :: r).take 5 = [102,97,108,115,101] then .ok (.bool false,r.drop 4)
  else match pM (c :: r) with
   | none => .error 3
   | some (n,r) => .ok (.int n,r)
def fG:Nat→By→Except Nat (JV×By)
 | 0,s=>nL none s
 | d+1,s=>nL (some (fG d)) s
def ry (s:By):Except Nat JV:=if 400<s.length then .error 5 else match fG 8 s with
 | .error e => .error e
 | .ok (v,r)=>if skp r = [] then .ok v else .error 3
/-! ### forms -/
def oF (n:Nat):UInt8:=if n<10 then UInt8.ofNat (48+n) else UInt8.ofNat (87+n)
def kT (c:UInt8):By:=if c=34∨c=92 then [92,c] else if c=8 then [92,98] else if c=9 then [92,116] else if c=10 then [92,110] else if c=12 then [92,102] else if c=13 then [92,114] else if c.toNat<32 then [92,117,48,48,oF (c.toNat / 16),oF (c.toNat % 16)] else [c]
def fS (t:By):By:=t.flatMap kT
def quo (t:By):By:=34 :: (fS t ++ [34])
def bV:List By→By
 | [] => []
 | [x]=>x
 | x :: y :: l=>x ++ 44 :: bV (y :: l)
def su (L:Option (JV→By)):JV→By
 | .nil => [110,117,108,108]
 | .null => [110,117,108,108]
 | .bool true => [116,114,117,101]
 | .bool false => [102,97,108,115,101]
 | .int n=>Go.Lib.itoa n
 | .str t=>quo t
 | .list l=>match L with
  | none => []
  | some L=>91 :: (bV (l.map L) ++ [93])
 | .obj l=>match L with
  | none => []
  | some L=>123 :: (bV (l.map fun m=>quo m.1 ++ 58 :: L m.2.1) ++ [125])
def gE:Nat→JV→By
 | 0,v=>su none v
 | d+1,v=>su (some (gE d)) v
/-! ### what is behind is shorter -/
theorem dT (s:By):(skp s).length≤s.length:=by unfold skp; exact (List.dropWhile_suffix mD).length_le
theorem av (s:By):skp s <:+ s:=List.dropWhile_suffix mD
theorem GH (s:By):skp (skp s)=skp s:=by
 unfold skp
 induction s with
 | nil=>rfl
 | cons c s ih =>
  by_cases h:mD c=true
  ·rw [List.dropWhile_cons_of_pos h]; exact ih
  ·rw [List.dropWhile_cons_of_neg h,List.dropWhile_cons_of_neg h]
theorem Kc {n:Nat} {r:By} {x:Nat×Nat} (h:sF n r=some x):2≤x.2:=by
 unfold sF at h
 split at h
 ·obtain ⟨m,hm,h⟩:=Option.bind_eq_some_iff.1 h
  clear hm
  by_cases hc:56320≤m∧m≤57343
  ·rw [if_pos hc] at h
   injection h with h
   subst h
   exact Nat.le_of_ble_eq_true rfl
  ·rw [if_neg hc] at h
   cases h
 ·cases h
theorem JX {r:By} {x:Nat×Nat} (h:sf r=some x):2≤x.2:=by
 unfold sf at h
 obtain ⟨k,hk,h⟩:=Option.bind_eq_some_iff.1 h
 clear hk
 by_cases c1:k<55296∨57343<k
 ·rw [if_pos c1] at h; cases h; exact Nat.le_of_ble_eq_true rfl
 rw [if_neg c1] at h
 by_cases c2:56320≤k
 ·rw [if_pos c2] at h; cases h
 rw [if_neg c2] at h
 exact Kc h
theorem Fm {s:By} {x:Nat×Nat} (h:lT s=some x):2≤x.2:=by
 unfold lT at h
 split at h
 ·cases h
 ·repeat' split at h
  all_goals first | (cases h; done) | (cases h; exact Nat.le_of_ble_eq_true rfl) | exact JX h
theorem pD : ∀ (n m:Nat) (s:By),s.length≤n→s.length≤m→Ch n s=Ch m s
 | 0,0,s,h,h'=>rfl
 | 0,m+1,s,h,h'=>by
  obtain rfl:s = []:=List.length_eq_zero_iff.1 (by omega)
  rfl
 | n+1,0,s,h,h'=>by
  obtain rfl:s = []:=List.length_eq_zero_iff.1 (by omega)
  rfl
 | n+1,m+1,s,h,h'=>by
  cases s with
  | nil=>rfl
  | cons c r =>
   have hp:=fw (c :: r)
   simp only [List.length_cons] at h h'
   unfold Ch
   simp only
   split
   ·rfl
   split
   ·cases he:lT r with
    | none=>rfl
    | some x =>
     simp only [Option.bind_some]
     have hx:=Fm he
     rw [pD n m ((c :: r).drop x.2) (by simp; omega) (by simp; omega)]
   split
   ·rfl
   ·rw [pD n m ((c :: r).drop (decodeL (c :: r)).2) (by simp; omega) (by simp; omega)]
end Go.Vm
/- JSON, plainly: signs and their bytes; texts of right signs; what is printed is read. No condition. -/
namespace Go.Vm
open Go.Lib (decodeL decodeN decodeL_N decode_N decodeN_shape decodeL_le)
set_option linter.unusedVariables false
set_option linter.unusedSimpArgs false
instance (c:Nat):Decidable (okR c):=by unfold okR; infer_instance
theorem qZ (c:Nat) (h:okR c) (r:By):decodeL (cj c ++ r)=(c,(cj c).length):=by
 obtain ⟨h1,h2⟩:=h
 rw [decodeL_N]
 unfold cj
 by_cases c1:c<128
 ·simp only [c1,if_true]
  have a0:(UInt8.ofNat c).toNat=c:=by simp; omega
  simp only [List.cons_append,List.nil_append,List.getD_cons_zero,List.length_cons,List.length_nil,a0]
  unfold decodeN
  rw [if_pos c1]
 by_cases c2:c<2048
 ·simp only [c1,c2,if_true,if_false]
  have a0:(UInt8.ofNat (192+c / 64)).toNat=192+c / 64:=by simp; omega
  have a1:(UInt8.ofNat (128+c % 64)).toNat=128+c % 64:=by simp; omega
  simp only [List.cons_append,List.nil_append,List.getD_cons_zero,List.getD_cons_succ,List.length_cons,List.length_nil,a0,a1]
  unfold decodeN
  rw [if_neg (by omega),if_pos ⟨by omega,by omega,by omega⟩,if_pos (by omega)]
  congr 1
  omega
 by_cases c3:c<65536
 ·simp only [c1,c2,c3,if_true,if_false]
  have a0:(UInt8.ofNat (224+c / 4096)).toNat=224+c / 4096:=by simp; omega
  have a1:(UInt8.ofNat (128+c / 64 % 64)).toNat=128+c / 64 % 64:=by simp; omega
  have a2:(UInt8.ofNat (128+c % 64)).toNat=128+c % 64:=by simp; omega
  simp only [List.cons_append,List.nil_append,List.getD_cons_zero,List.getD_cons_succ,List.length_cons,List.length_nil,a0,a1,a2]
  unfold decodeN
  rw [if_neg (by omega),if_neg (by omega),if_pos ⟨by omega,⟨by omega,by omega⟩,by omega,by omega⟩,if_pos (by omega)]
  congr 1
  omega
 ·simp only [c1,c2,c3,if_false]
  have a0:(UInt8.ofNat (240+c / 262144)).toNat=240+c / 262144:=by simp; omega
  have a1:(UInt8.ofNat (128+c / 4096 % 64)).toNat=128+c / 4096 % 64:=by simp; omega
  have a2:(UInt8.ofNat (128+c / 64 % 64)).toNat=128+c / 64 % 64:=by simp; omega
  have a3:(UInt8.ofNat (128+c % 64)).toNat=128+c % 64:=by simp; omega
  simp only [List.cons_append,List.nil_append,List.getD_cons_zero,List.getD_cons_succ,List.length_cons,List.length_nil,a0,a1,a2,a3]
  unfold decodeN
  rw [if_neg (by omega),if_neg (by omega),if_neg (by omega),if_pos ⟨by omega,⟨by omega,by omega⟩,⟨by omega,by omega⟩,by omega,by omega⟩,if_pos (by omega)]
  congr 1
  omega
theorem JI (c:Nat) (h:okR c):Go.Lib.encodeRune (c:Int)=cj c:=by
 obtain ⟨h1,h2⟩:=h
 unfold Go.Lib.encodeRune cj
 have q : ∀ z:Int, ∀ n:Nat,z=(n:Int)→z.toNat.toUInt8=UInt8.ofNat n:=by intro z n e; subst e; rfl
 by_cases c1:c<128
 ·rw [if_pos c1,Go.Lib.encodeRuneZ_one (by omega) (by omega)]
  simp only [List.map_cons,List.map_nil]
  rw [q _ c rfl]
 by_cases c2:c<2048
 ·rw [if_neg c1,if_pos c2,Go.Lib.encodeRuneZ_two (by omega) (by omega)]
  simp only [List.map_cons,List.map_nil]
  rw [q _ (192+c / 64) (by omega),q _ (128+c % 64) (by omega)]
 by_cases c3:c<65536
 ·rw [if_neg c1,if_neg c2,if_pos c3,Go.Lib.encodeRuneZ_three (by omega)]
  simp only [List.map_cons,List.map_nil]
  rw [q _ (224+c / 4096) (by omega),q _ (128+c / 64 % 64) (by omega),q _ (128+c % 64) (by omega)]
 ·rw [if_neg c1,if_neg c2,if_neg c3,Go.Lib.encodeRuneZ_four (by omega) (by omega)]
  simp only [List.map_cons,List.map_nil]
  rw [q _ (240+c / 262144) (by omega),q _ (128+c / 4096 % 64) (by omega),q _ (128+c / 64 % 64) (by omega),q _ (128+c % 64) (by omega)]
theorem iO (l:By) (hne:l ≠ []) (hv : ¬ ((decodeL l).1=65533∧(decodeL l).2=1)):l.take (decodeL l).2=cj (decodeL l).1:=by
 rw [← Go.Lib.encode_decode l hne hv,JI _ (rU l)]
theorem CC (c:Nat):cj c ≠ []:=by unfold cj; repeat' split
                                 all_goals simp
theorem zN (c:Nat):1≤(cj c).length:=by have:=List.length_pos_iff.2 (CC c); omega
inductive OkT:By→Prop
 | nil:OkT []
 | cons (c:Nat) (t:By):okR c→OkT t→OkT (cj c ++ t)
theorem OkT.app {a b:By} (h:OkT a) (h':OkT b):OkT (a ++ b):=by
 induction h with
 | nil=>exact h'
 | cons c t hc _ ih=>rw [List.append_assoc]; exact .cons c _ hc ih
/-! ### what escapes tell is a sign -/
theorem gp {c:UInt8} {n:Nat} (h:lR c=some n):n<16:=by
 unfold lR at h
 repeat' split at h
 all_goals first | (cases h; done) | (cases h; omega)
theorem pw {s:By} {n:Nat} (h:lE s=some n):n<65536∧4≤s.length:=by
 unfold lE at h
 split at h
 ·obtain ⟨a,ha,h⟩:=Option.bind_eq_some_iff.1 h
  obtain ⟨b,hb,h⟩:=Option.bind_eq_some_iff.1 h
  obtain ⟨c,hc,h⟩:=Option.bind_eq_some_iff.1 h
  obtain ⟨d,hd,h⟩:=Option.bind_eq_some_iff.1 h
  cases h
  have:=gp ha; have:=gp hb; have:=gp hc; have:=gp hd
  refine ⟨by omega,by simp⟩
 ·cases h
theorem Hr {n:Nat} {r:By} {c k:Nat} (h:sF n r=some (c,k)) (h1 : ¬ (n<55296∨57343<n)) (h2 : ¬ 56320≤n):okR c∧k=12∧6≤r.length:=by
 unfold sF at h
 split at h
 ·rename_i q
  obtain ⟨m,hm,h⟩:=Option.bind_eq_some_iff.1 h
  have h3:=pw hm
  by_cases hc:56320≤m∧m≤57343
  ·rw [if_pos hc] at h
   injection h with h
   injection h with h4 h5
   subst h5
   unfold ru at h4
   unfold okR
   exact ⟨by omega,rfl,by simp; omega⟩
  ·rw [if_neg hc] at h
   cases h
 ·cases h
theorem HX {r:By} {c k:Nat} (h:sf r=some (c,k)):okR c∧(k=6∧c<65536∨k=12)∧k≤r.length+2:=by
 unfold sf at h
 obtain ⟨n,hn,h⟩:=Option.bind_eq_some_iff.1 h
 have h1:=pw hn
 by_cases c1:n<55296∨57343<n
 ·rw [if_pos c1] at h
  injection h with h
  injection h with h2 h3
  subst h3
  unfold okR
  exact ⟨by omega, .inl ⟨rfl,by omega⟩,by omega⟩
 rw [if_neg c1] at h
 by_cases c2:56320≤n
 ·rw [if_pos c2] at h; cases h
 rw [if_neg c2] at h
 obtain ⟨q1,q2,q3⟩:=Hr h c1 c2
 simp at q3
 exact ⟨q1, .inr q2,by omega⟩
theorem u9 (c:UInt8):(kT c).length≤6:=by
 unfold kT
 repeat' split
 all_goals simp
theorem jr (n:Nat) (h:128≤n) (h':n<256):kT (UInt8.ofNat n) = [UInt8.ofNat n]:=by
 have e:(UInt8.ofNat n).toNat=n:=by simp; omega
 have ne : ∀ k:UInt8,k.toNat<128→UInt8.ofNat n≠k:=by
  intro k hk hh
  rw [← hh,e] at hk
  omega
 unfold kT
 rw [if_neg (by rintro (hh | hh) <;> exact ne _ (by decide) hh),if_neg (ne _ (by decide)),if_neg (ne _ (by decide)),if_neg (ne _ (by decide)),if_neg (ne _ (by decide)),if_neg (ne _ (by decide)),if_neg (by omega)]
theorem qV (c:Nat) (h:c<128):fS (cj c)=kT (UInt8.ofNat c):=by
 unfold cj fS
 rw [if_pos h]
 simp
theorem r8 (c:Nat) (h : ¬ c<128) (h':c≤1114111):fS (cj c)=cj c:=by
 unfold cj fS
 rw [if_neg h]
 split
 ·simp only [List.flatMap_cons,List.flatMap_nil]
  rw [jr _ (by omega) (by omega),jr _ (by omega) (by omega)]
  rfl
 split
 ·simp only [List.flatMap_cons,List.flatMap_nil]
  rw [jr _ (by omega) (by omega),jr _ (by omega) (by omega),jr _ (by omega) (by omega)]
  rfl
 ·simp only [List.flatMap_cons,List.flatMap_nil]
  rw [jr _ (by omega) (by omega),jr _ (by omega) (by omega),jr _ (by omega) (by omega),jr _ (by omega) (by omega)]
  rfl
theorem Ez (c:Nat) (h:c≤1114111):(fS (cj c)).length≤6:=by
 by_cases h1:c<128
 ·rw [qV c h1]; exact u9 _
 ·rw [r8 c h1 h]; have:=qT c; omega
theorem yv {s:By} {c k:Nat} (h:lT s=some (c,k)):okR c∧2≤k∧k≤s.length+1∧(fS (cj c)).length≤k:=by
 unfold lT at h
 split at h
 ·cases h
 ·rename_i x r
  by_cases h1:x=34∨x=92∨x=47
  ·rw [if_pos h1] at h
   cases h
   rcases h1 with rfl | rfl | rfl <;> exact ⟨by decide,by decide,by simp,by decide⟩
  rw [if_neg h1] at h
  by_cases h2:x=98
  ·rw [if_pos h2] at h; cases h; exact ⟨by decide,by decide,by simp,by decide⟩
  rw [if_neg h2] at h
  by_cases h3:x=102
  ·rw [if_pos h3] at h; cases h; exact ⟨by decide,by decide,by simp,by decide⟩
  rw [if_neg h3] at h
  by_cases h4:x=110
  ·rw [if_pos h4] at h; cases h; exact ⟨by decide,by decide,by simp,by decide⟩
  rw [if_neg h4] at h
  by_cases h5:x=114
  ·rw [if_pos h5] at h; cases h; exact ⟨by decide,by decide,by simp,by decide⟩
  rw [if_neg h5] at h
  by_cases h6:x=116
  ·rw [if_pos h6] at h; cases h; exact ⟨by decide,by decide,by simp,by decide⟩
  rw [if_neg h6] at h
  by_cases h7:x=117
  ·rw [if_pos h7] at h
   obtain ⟨q1,q2,q3⟩:=HX h
   have q4:=Ez c q1.1
   refine ⟨q1,by omega,by simp; omega,by omega⟩
  ·rw [if_neg h7] at h; cases h
end Go.Vm
