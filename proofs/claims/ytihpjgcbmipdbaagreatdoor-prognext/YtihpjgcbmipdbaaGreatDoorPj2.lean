import Derived.Test.YtihpjgcbmipdbaaGreatDoorV4
import Derived.Lib.MapLaws
import Derived.Lib.ItoaNum
/- Parts of lists, plainly. No condition. -/
namespace Go.Vm
set_option linter.unusedVariables false
open Go
end Go.Vm
/- Signs and their bytes, plainly, with no model in sight. No condition but on lengths. -/
namespace Go.Vm
open Go.Lib (decodeL decodeN decodeL_N decode_N decodeN_shape decodeL_le)
set_option linter.unusedVariables false
set_option linter.unusedSimpArgs false
theorem bC (l:List UInt8):1≤(decodeL l).2:=by
 rw [decodeL_N]
 rcases decodeN_shape l.length (l.getD 0 0).toNat (l.getD 1 0).toNat (l.getD 2 0).toNat (l.getD 3 0).toNat with ⟨_,e⟩ | ⟨_,_,_,_,e⟩ | ⟨_,_,_,_,_,_,e⟩ | ⟨_,_,_,_,_,_,_,e⟩ | e <;> rw [e] <;> simp
theorem EW (s:List UInt8) (i k:Nat):(s.drop i).getD k 0=s.getD (i+k) 0:=by simp [List.getD]
theorem Gx (s:List UInt8) (i:Nat):Utf8.decode ⟨s.toArray⟩ i=decodeL (s.drop i):=by
 rw [decode_N,decodeL_N]
 simp only [List.length_drop,EW,Nat.add_zero]
theorem lh (s:List UInt8) (i:Nat):dB s i=((decodeL (s.drop i)).1:Int):=by unfold dB; rw [Gx]; rfl
theorem fU (s:List UInt8) (i:Nat):runeLen s i=(decodeL (s.drop i)).2:=by unfold runeLen; rw [Gx]
def bX (l:List UInt8):List (Int×List UInt8) :=
 if h:l = [] then [] else (((decodeL l).1:Int),l.take (decodeL l).2) :: bX (l.drop (decodeL l).2)
termination_by l.length
decreasing_by
 have:=bC l
 have:0<l.length:=List.length_pos_iff.2 h
 simp only [List.length_drop]
 omega
theorem fF:bX [] = []:=by rw [bX]; simp
theorem gN {l:List UInt8} (h:l ≠ []):bX l=(((decodeL l).1:Int),l.take (decodeL l).2) :: bX (l.drop (decodeL l).2):=by
 conv=>lhs; rw [bX]
 simp [h]
theorem xP {p:List UInt8→Prop} (h0:p []) (h1 : ∀ l,l ≠ []→p (l.drop (decodeL l).2)→p l) (l:List UInt8):p l:=by
 have : ∀ n (l:List UInt8),l.length≤n→p l:=by
  intro n
  induction n with
  | zero=>intro l hl; rw [List.length_eq_zero_iff.1 (by omega:l.length=0)]; exact h0
  | succ n ih =>
   intro l hl
   by_cases hn:l = []
   ·rw [hn]; exact h0
   ·refine h1 l hn (ih _ ?_)
    have:=bC l
    have:0<l.length:=List.length_pos_iff.2 hn
    simp only [List.length_drop]
    omega
 exact this l.length l (Nat.le_refl _)
theorem s8 (l:List UInt8):(bX l).length≤l.length:=by
 induction l using xP with
 | h0=>rw [fF]; simp
 | h1 l hn ih =>
  rw [gN hn]
  have:=bC l
  have:0<l.length:=List.length_pos_iff.2 hn
  simp only [List.length_drop,List.length_cons] at ih ⊢
  omega
theorem pV (l:List UInt8) (k:Nat):idx l (k:Int)=if k<l.length then some (l.getD k 0) else none:=by
 unfold idx
 rw [if_pos (by omega)]
 split
 ·rename_i h; simp [h]
 ·rename_i h; simp; omega
theorem cT {α β γ:Type} (c:Prop) [Decidable c] (s t:α ⊕ β) (f:α→γ) (g:β→γ):fc (if c then s else t) f g=if c then fc s f g else fc t f g:=by split <;> rfl
theorem ax {α β γ:Type} (a:α) (f:α→γ) (g:β→γ):fc (.inl a) f g=f a:=rfl
theorem aT {α β γ:Type} (b:β) (f:α→γ) (g:β→γ):fc (.inr b) f g=g b:=rfl
theorem fE {α:Type} (s:List α) (a b:Nat) (h:a≤b) (h':b≤s.length):sub s (a:Int) (b:Int)=some ((s.drop a).take (b - a)):=by
 unfold sub
 rw [if_pos (by omega)]
 simp
theorem ek {α:Type} (s:List α) (a:Nat) (h:a≤s.length):sub s (a:Int) (s.length:Int)=some (s.drop a):=by
 rw [fE s a s.length h (Nat.le_refl _),List.take_of_length_le (by simp)]
def ats (p:Nat):List (Int×List UInt8)→List Int
 | [] => []
 | x :: t=>(p:Int) :: ats (p+x.2.length) t
theorem nU {s:List UInt8} {p:Nat} (h:p<s.length):s.drop p ≠ []:=by
 intro e
 have:=congrArg List.length e
 simp at this
 omega
theorem sP (s:List UInt8) (p:Nat):(s.drop p).drop (decodeL (s.drop p)).2=s.drop (p+(decodeL (s.drop p)).2):=by rw [List.drop_drop]
theorem Gr {s:List UInt8} {p:Nat} (h:p<s.length):((s.drop p).take (decodeL (s.drop p)).2).length=(decodeL (s.drop p)).2:=by
 have:=decodeL_le (s.drop p) (nU h)
 simp only [List.length_take]
 omega
theorem uM {s:List UInt8} {p:Nat} (h:p<s.length):p+(decodeL (s.drop p)).2≤s.length:=by
 have:=decodeL_le (s.drop p) (nU h)
 simp only [List.length_drop] at this
 omega
def okR (c:Nat):Prop:=c≤1114111∧(c<55296∨57343<c)
def bw (c:Nat):List UInt8:=if c<128 then [UInt8.ofNat c] else if c<2048 then [UInt8.ofNat (192+c / 64),UInt8.ofNat (128+c % 64)] else if c<65536 then [UInt8.ofNat (224+c / 4096),UInt8.ofNat (128+c / 64 % 64),UInt8.ofNat (128+c % 64)] else [UInt8.ofNat (240+c / 262144),UInt8.ofNat (128+c / 4096 % 64),UInt8.ofNat (128+c / 64 % 64),UInt8.ofNat (128+c % 64)]
def Lw (c:Nat):ByteArray:=if c<0x80 then ⟨#[UInt8.ofNat c]⟩
 else if c<0x800 then ⟨#[UInt8.ofNat (0xC0+c / 64),UInt8.ofNat (0x80+c % 64)]⟩
 else if c<0x10000 then ⟨#[UInt8.ofNat (0xE0+c / 4096),UInt8.ofNat (0x80+c / 64 % 64),UInt8.ofNat (0x80+c % 64)]⟩
 else ⟨#[UInt8.ofNat (0xF0+c / 262144),UInt8.ofNat (0x80+c / 4096 % 64),UInt8.ofNat (0x80+c / 64 % 64),UInt8.ofNat (0x80+c % 64)]⟩
theorem MC (r:Int):Utf8.encode r=Lw (if Utf8.valid r=true then r.toNat else Utf8.runeError):=rfl
theorem B_N (c:Nat):(Lw c).data.toList=bw c:=by
 unfold Lw bw
 split
 ·rfl
 split
 ·rfl
 split
 ·rfl
 ·rfl
theorem e1 (n:Int):nF n=(Utf8.encode n).data.toList:=by unfold nF; rfl
theorem e3 (n:Int):nF n=bw (if Utf8.valid n=true then n.toNat else Utf8.runeError):=(e1 n).trans ((congrArg (fun b:ByteArray=>b.data.toList) (MC n)).trans (B_N _))
theorem e2 (n:Int) (c:Nat) (hn:n=(c:Int)) (hv:Utf8.valid n=true):(if Utf8.valid n=true then n.toNat else Utf8.runeError)=c:=by rw [if_pos hv]; omega
theorem LJ (n:Int) (c:Nat) (hn:n=(c:Int)) (hv:Utf8.valid n=true):nF n=bw c:=by rw [e3,e2 n c hn hv]
theorem GO (n:Int) (c:Nat) (hn:n=(c:Int)) (h:okR c):Utf8.valid n=true:=by
 obtain ⟨h1,h2⟩:=h
 unfold Utf8.valid
 rcases h2 with h2 | h2
 ·have a:(0:Int)≤n:=by omega
  have b:n<0xD800:=by omega
  simp only [a,b,decide_true,Bool.and_true,Bool.true_or]
 ·have a:(0xE000:Int)≤n:=by omega
  have b:n≤0x10FFFF:=by omega
  simp only [a,b,decide_true,Bool.and_true,Bool.or_true]
theorem iZ (c:Nat) (h:okR c):nF (c:Int)=bw c:=LJ _ c rfl (GO _ c rfl h)
theorem jl (n:Int) (h:0≤n) (h':n≤255):IntKind.u8.wrap n=n:=by
 have hb:IntKind.u8.bits=8:=rfl
 have hs:IntKind.u8.signed=false:=rfl
 unfold IntKind.wrap
 simp only [hb,hs]
 simp
 omega
theorem Ds (n:Int) (h:0≤n):IntKind.u8.wrap n=n % 256:=by
 have hb:IntKind.u8.bits=8:=rfl
 have hs:IntKind.u8.signed=false:=rfl
 unfold IntKind.wrap
 simp only [hb,hs]
 simp
theorem Jz (n:Int) (h:0≤n) (h':n≤4294967295):IntKind.u32.wrap n=n:=by
 have hb:IntKind.u32.bits=32:=rfl
 have hs:IntKind.u32.signed=false:=rfl
 unfold IntKind.wrap
 simp only [hb,hs]
 simp
 omega
theorem mf (l:List UInt8):okR (decodeL l).1:=by
 unfold okR
 rw [decodeL_N]
 rcases decodeN_shape l.length (l.getD 0 0).toNat (l.getD 1 0).toNat (l.getD 2 0).toNat (l.getD 3 0).toNat with ⟨p,e⟩ | ⟨_,_,_,_,e⟩ | ⟨_,_,_,_,_,_,e⟩ | ⟨_,_,_,_,_,_,_,e⟩ | e <;> rw [e] <;> simp only <;> omega
theorem Lu : ∀ k:Fin 32,ior .u8 192 ((k.val:Nat):Int)=((192+k.val:Nat):Int):=by decide
theorem Lr : ∀ k:Fin 16,ior .u8 224 ((k.val:Nat):Int)=((224+k.val:Nat):Int):=by decide
theorem K8 : ∀ k:Fin 8,ior .u8 240 ((k.val:Nat):Int)=((240+k.val:Nat):Int):=by decide
theorem K5 : ∀ k:Fin 64,ior .u8 128 ((k.val:Nat):Int)=((128+k.val:Nat):Int):=by decide
theorem LW : ∀ k:Fin 256,nx .u8 ((k.val:Nat):Int) 63=((k.val % 64:Nat):Int):=by decide +kernel
theorem My (k:Nat) (h:k<32):ior .u8 192 (k:Int)=((192+k:Nat):Int):=Lu ⟨k,h⟩
theorem L7 (k:Nat) (h:k<16):ior .u8 224 (k:Int)=((224+k:Nat):Int):=Lr ⟨k,h⟩
theorem Ml (k:Nat) (h:k<8):ior .u8 240 (k:Int)=((240+k:Nat):Int):=K8 ⟨k,h⟩
theorem Mr (k:Nat) (h:k<64):ior .u8 128 (k:Int)=((128+k:Nat):Int):=K5 ⟨k,h⟩
theorem Jx (d:Nat):ior .u8 128 (nx .u8 (IntKind.u8.wrap (d:Int)) 63)=((128+d % 64:Nat):Int):=by
 rw [Ds _ (by omega),show (d:Int) % 256=((d % 256:Nat):Int) by omega,show nx .u8 ((d % 256:Nat):Int) 63=((d % 256 % 64:Nat):Int) from LW ⟨d % 256,by omega⟩,Mr _ (by omega)]
 congr 2
 omega
theorem Ab (c:Nat) (j:Nat) (hj:j≤32):shr .i32 (c:Int) (j:Int)=((c / 2 ^ j:Nat):Int):=by
 have hb:IntKind.i32.bits=32:=rfl
 unfold shr
 rw [hb,Int.toNat_natCast,Nat.min_eq_left hj,Int.fdiv_eq_ediv_of_nonneg _ (Int.pow_nonneg (by decide)),Int.natCast_ediv,Int.natCast_pow]
 rfl
theorem mP (c:Nat):(bw c).length≤4:=by unfold bw; repeat' split
                                       all_goals simp
end Go.Vm
/- JSON, plainly: which value a text is, and what a value's form is. No condition. -/
namespace Go.Vm
open Go.Lib (decodeL decodeN decodeL_N decode_N decodeN_shape decodeL_le)
set_option linter.unusedVariables false
set_option linter.unusedSimpArgs false
def mK (c:UInt8):Bool:=c == 32 || c == 9 || c == 10 || c == 13
def skp (s:By):By:=s.dropWhile mK
def lW (c:UInt8):Option Nat:=if 48≤c.toNat∧c.toNat≤57 then some (c.toNat - 48) else if 97≤c.toNat∧c.toNat≤102 then some (c.toNat - 87) else if 65≤c.toNat∧c.toNat≤70 then some (c.toNat - 55) else none
def mJ (s:By):Option Nat:=match s with
 | a :: b :: c :: d :: _=>(lW a).bind fun a=>(lW b).bind fun b=>(lW c).bind fun c=>(lW d).bind fun d=>some (((a * 16+b) * 16+c) * 16+d)
 | _=>none
def rT (n m:Nat):Nat:=65536+(n - 55296) * 1024+(m - 56320)
def tj (n:Nat) (r:By):Option (Nat×Nat):=match r with
 | 92 :: 117 :: q=>(mJ q).bind fun m=>if 56320≤m∧m≤57343 then some (rT n m,12) else none
 | _=>none
def uw (r:By):Option (Nat×Nat) :=
 (mJ r).bind fun n=>if n<55296∨57343<n then some (n,6) else if 56320≤n then none else tj n (r.drop 4)
def ow (s:By):Option (Nat×Nat):=match s with
 | []=>none
 | c :: r=>if c=34∨c=92∨c=47 then some (c.toNat,2) else if c=98 then some (8,2) else if c=102 then some (12,2) else if c=110 then some (10,2) else if c=114 then some (13,2) else if c=116 then some (9,2) else if c=117 then uw r else none
def DL:Nat→By→Option (By×By)
 | 0,_=>none
 | n+1,s=>match s with
  | []=>none
  | c :: r=>if c=34 then some ([],r) else if c=92 then (ow r).bind fun x=>(DL n (s.drop x.2)).map fun y=>(bw x.1 ++ y.1,y.2)
   else if (decodeL s).1<32∨((decodeL s).1=65533∧(decodeL s).2=1) then none else (DL n (s.drop (decodeL s).2)).map fun y=>(s.take (decodeL s).2 ++ y.1,y.2)
def txt (s:By):Option (By×By):=DL s.length s
def bd (c:UInt8):Bool:=decide (48≤c.toNat) && decide (c.toNat≤57)
def di (s:By):By:=match s with
 | [] => []
 | c :: _=>if c=48 then [48] else (s.takeWhile bd).take 15
def lD (ds:By):Nat:=ds.foldl (fun n c=>n * 10+(c.toNat - 48)) 0
def s4 (s:By):Option (Int×By):=match s with
 | []=>none
 | c :: r=>if c=45 then (if di r = [] then none else some (-(lD (di r):Int),r.drop (di r).length))
  else if di s = [] then none else some ((lD (di s):Int),s.drop (di s).length)
def qj (V:By→Except Nat (JV×By)):Nat→By→Except Nat (List JV×By)
 | 0,_ => .error 3
 | n+1,s=>match V s with
  | .error e => .error e
  | .ok (v,r)=>match skp r with
   | 44 :: r'=>match qj V n r' with
    | .error e => .error e
    | .ok (l,r'') => .ok (v :: l,r'')
   | 93 :: r' => .ok ([v],r')
   | _ => .error 3
def qL (V:By→Except Nat (JV×By)):Nat→List Me→By→Except Nat (List Me×By)
 | 0,_,_ => .error 3
 | n+1,acc,s=>match skp s with
  | 34 :: r=>match txt r with
   | none => .error 3
   | some (name,r)=>if acc.any (fun m=>m.1 == name) then .error 7 else match skp r with
    | 58 :: r=>match V r with
     | .error e => .error e
     | .ok (v,r)=>match skp r with
      | 44 :: r=>qL V n (acc ++ [(name,v,())]) r
      | 125 :: r => .ok (acc ++ [(name,v,())],r)
      | _ => .error 3
    | _ => .error 3
  | _ => .error 3
def BU (V:Option (By→Except Nat (JV×By))) (s:By):Except Nat (JV×By) :=
 match skp s with
 | [] => .error 3
 | c :: r =>
  if c=123 then match V with
   | none => .error 10
   | some V=>match skp r with
    | 125 :: r => .ok (.obj [],r)
    | r=>match qL V (r.length+1) [] r with
     | .error e => .error e
     | .ok (l,r) => .ok (.obj (a7 l),r)
  else if c=91 then match V with
   | none => .error 10
   | some V=>match skp r with
    | 93 :: r => .ok (.list [],r)
    | r=>match qj V (r.length+1) r with
     | .error e => .error e
     | .ok (l,r) => .ok (.list l,r)
  else if c=34 then match txt r with
   | none => .error 3
   | some (t,r) => .ok (.str t,r)
  else if (c :: r).take 4 = [110,117,108,108] then .ok (.null,r.drop 3)
  else if (c :: r).take 4 = [116,114,117,101] then .ok (.bool true,r.drop 3)
  else if (c :: r).take 5 = [102,97,108,115,101] then .ok (.bool false,r.drop 4)
  else match s4 (c :: r) with
   | none => .error 3
   | some (n,r) => .ok (.int n,r)
def gT:Nat→By→Except Nat (JV×By)
 | 0,s=>BU none s
 | d+1,s=>BU (some (gT d)) s
def ur (s:By):Except Nat JV:=if 400<s.length then .error 5 else match gT 8 s with
 | .error e => .error e
 | .ok (v,r)=>if skp r = [] then .ok v else .error 3
/-! ### forms -/
def Az (n:Nat):UInt8:=if n<10 then UInt8.ofNat (48+n) else UInt8.ofNat (87+n)
def qu (c:UInt8):By:=if c=34∨c=92 then [92,c] else if c=8 then [92,98] else if c=9 then [92,116] else if c=10 then [92,110] else if c=12 then [92,102] else if c=13 then [92,114] else if c.toNat<32 then [92,117,48,48,Az (c.toNat / 16),Az (c.toNat % 16)] else [c]
def iU (t:By):By:=t.flatMap qu
def quo (t:By):By:=34 :: (iU t ++ [34])
def dq:List By→By
 | [] => []
 | [x]=>x
 | x :: y :: l=>x ++ 44 :: dq (y :: l)
def wT (L:Option (JV→By)):JV→By
 | .nil => [110,117,108,108]
 | .null => [110,117,108,108]
 | .bool true => [116,114,117,101]
 | .bool false => [102,97,108,115,101]
 | .int n=>Go.Lib.itoa n
 | .str t=>quo t
 | .list l=>match L with
  | none => []
  | some L=>91 :: (dq (l.map L) ++ [93])
 | .obj l=>match L with
  | none => []
  | some L=>123 :: (dq (l.map fun m=>quo m.1 ++ 58 :: L m.2.1) ++ [125])
def bG:Nat→JV→By
 | 0,v=>wT none v
 | d+1,v=>wT (some (bG d)) v
/-! ### what is behind is shorter -/
theorem dV (s:By):(skp s).length≤s.length:=by unfold skp; exact (List.dropWhile_suffix mK).length_le
theorem av (s:By):skp s <:+ s:=List.dropWhile_suffix mK
theorem HY (s:By):skp (skp s)=skp s:=by
 unfold skp
 induction s with
 | nil=>rfl
 | cons c s ih =>
  by_cases h:mK c=true
  ·rw [List.dropWhile_cons_of_pos h]; exact ih
  ·rw [List.dropWhile_cons_of_neg h,List.dropWhile_cons_of_neg h]
theorem Lv {n:Nat} {r:By} {x:Nat×Nat} (h:tj n r=some x):2≤x.2:=by
 unfold tj at h
 split at h
 ·obtain ⟨m,hm,h⟩:=Option.bind_eq_some_iff.1 h
  clear hm
  by_cases hc:56320≤m∧m≤57343
  ·rw [if_pos hc] at h
   injection h with h
   subst h
   exact Nat.le_of_ble_eq_true rfl
  ·rw [if_neg hc] at h
   cases h
 ·cases h
theorem KU {r:By} {x:Nat×Nat} (h:uw r=some x):2≤x.2:=by
 unfold uw at h
 obtain ⟨k,hk,h⟩:=Option.bind_eq_some_iff.1 h
 clear hk
 by_cases c1:k<55296∨57343<k
 ·rw [if_pos c1] at h; cases h; exact Nat.le_of_ble_eq_true rfl
 rw [if_neg c1] at h
 by_cases c2:56320≤k
 ·rw [if_pos c2] at h; cases h
 rw [if_neg c2] at h
 exact Lv h
theorem G3 {s:By} {x:Nat×Nat} (h:ow s=some x):2≤x.2:=by
 unfold ow at h
 split at h
 ·cases h
 ·repeat' split at h
  all_goals first | (cases h; done) | (cases h; exact Nat.le_of_ble_eq_true rfl) | exact KU h
theorem pJ : ∀ (n m:Nat) (s:By),s.length≤n→s.length≤m→DL n s=DL m s
 | 0,0,s,h,h'=>rfl
 | 0,m+1,s,h,h'=>by
  obtain rfl:s = []:=List.length_eq_zero_iff.1 (by omega)
  rfl
 | n+1,0,s,h,h'=>by
  obtain rfl:s = []:=List.length_eq_zero_iff.1 (by omega)
  rfl
 | n+1,m+1,s,h,h'=>by
  cases s with
  | nil=>rfl
  | cons c r =>
   have hp:=bC (c :: r)
   simp only [List.length_cons] at h h'
   unfold DL
   simp only
   split
   ·rfl
   split
   ·cases he:ow r with
    | none=>rfl
    | some x =>
     simp only [Option.bind_some]
     have hx:=G3 he
     rw [pJ n m ((c :: r).drop x.2) (by simp; omega) (by simp; omega)]
   split
   ·rfl
   ·rw [pJ n m ((c :: r).drop (decodeL (c :: r)).2) (by simp; omega) (by simp; omega)]
end Go.Vm
/- JSON, plainly: signs and their bytes; texts of right signs; what is printed is read. No condition. -/
namespace Go.Vm
open Go.Lib (decodeL decodeN decodeL_N decode_N decodeN_shape decodeL_le)
set_option linter.unusedVariables false
set_option linter.unusedSimpArgs false
instance (c:Nat):Decidable (okR c):=by unfold okR; infer_instance
theorem we (c:Nat) (h:okR c) (r:By):decodeL (bw c ++ r)=(c,(bw c).length):=by
 obtain ⟨h1,h2⟩:=h
 rw [decodeL_N]
 unfold bw
 by_cases c1:c<128
 ·simp only [c1,if_true]
  have a0:(UInt8.ofNat c).toNat=c:=by simp; omega
  simp only [List.cons_append,List.nil_append,List.getD_cons_zero,List.length_cons,List.length_nil,a0]
  unfold decodeN
  rw [if_pos c1]
 by_cases c2:c<2048
 ·simp only [c1,c2,if_true,if_false]
  have a0:(UInt8.ofNat (192+c / 64)).toNat=192+c / 64:=by simp; omega
  have a1:(UInt8.ofNat (128+c % 64)).toNat=128+c % 64:=by simp; omega
  simp only [List.cons_append,List.nil_append,List.getD_cons_zero,List.getD_cons_succ,List.length_cons,List.length_nil,a0,a1]
  unfold decodeN
  rw [if_neg (by omega),if_pos ⟨by omega,by omega,by omega⟩,if_pos (by omega)]
  congr 1
  omega
 by_cases c3:c<65536
 ·simp only [c1,c2,c3,if_true,if_false]
  have a0:(UInt8.ofNat (224+c / 4096)).toNat=224+c / 4096:=by simp; omega
  have a1:(UInt8.ofNat (128+c / 64 % 64)).toNat=128+c / 64 % 64:=by simp; omega
  have a2:(UInt8.ofNat (128+c % 64)).toNat=128+c % 64:=by simp; omega
  simp only [List.cons_append,List.nil_append,List.getD_cons_zero,List.getD_cons_succ,List.length_cons,List.length_nil,a0,a1,a2]
  unfold decodeN
  rw [if_neg (by omega),if_neg (by omega),if_pos ⟨by omega,⟨by omega,by omega⟩,by omega,by omega⟩,if_pos (by omega)]
  congr 1
  omega
 ·simp only [c1,c2,c3,if_false]
  have a0:(UInt8.ofNat (240+c / 262144)).toNat=240+c / 262144:=by simp; omega
  have a1:(UInt8.ofNat (128+c / 4096 % 64)).toNat=128+c / 4096 % 64:=by simp; omega
  have a2:(UInt8.ofNat (128+c / 64 % 64)).toNat=128+c / 64 % 64:=by simp; omega
  have a3:(UInt8.ofNat (128+c % 64)).toNat=128+c % 64:=by simp; omega
  simp only [List.cons_append,List.nil_append,List.getD_cons_zero,List.getD_cons_succ,List.length_cons,List.length_nil,a0,a1,a2,a3]
  unfold decodeN
  rw [if_neg (by omega),if_neg (by omega),if_neg (by omega),if_pos ⟨by omega,⟨by omega,by omega⟩,⟨by omega,by omega⟩,by omega,by omega⟩,if_pos (by omega)]
  congr 1
  omega
theorem Lk (c:Nat) (h:okR c):Go.Lib.encodeRune (c:Int)=bw c:=by
 obtain ⟨h1,h2⟩:=h
 unfold Go.Lib.encodeRune bw
 have q : ∀ z:Int, ∀ n:Nat,z=(n:Int)→z.toNat.toUInt8=UInt8.ofNat n:=by intro z n e; subst e; rfl
 by_cases c1:c<128
 ·rw [if_pos c1,Go.Lib.encodeRuneZ_one (by omega) (by omega)]
  simp only [List.map_cons,List.map_nil]
  rw [q _ c rfl]
 by_cases c2:c<2048
 ·rw [if_neg c1,if_pos c2,Go.Lib.encodeRuneZ_two (by omega) (by omega)]
  simp only [List.map_cons,List.map_nil]
  rw [q _ (192+c / 64) (by omega),q _ (128+c % 64) (by omega)]
 by_cases c3:c<65536
 ·rw [if_neg c1,if_neg c2,if_pos c3,Go.Lib.encodeRuneZ_three (by omega)]
  simp only [List.map_cons,List.map_nil]
  rw [q _ (224+c / 4096) (by omega),q _ (128+c / 64 % 64) (by omega),q _ (128+c % 64) (by omega)]
 ·rw [if_neg c1,if_neg c2,if_neg c3,Go.Lib.encodeRuneZ_four (by omega) (by omega)]
  simp only [List.map_cons,List.map_nil]
  rw [q _ (240+c / 262144) (by omega),q _ (128+c / 4096 % 64) (by omega),q _ (128+c / 64 % 64) (by omega),q _ (128+c % 64) (by omega)]
theorem gV (l:By) (hne:l ≠ []) (hv : ¬ ((decodeL l).1=65533∧(decodeL l).2=1)):l.take (decodeL l).2=bw (decodeL l).1:=by
 rw [← Go.Lib.encode_decode l hne hv,Lk _ (mf l)]
theorem Ko (c:Nat):bw c ≠ []:=by unfold bw; repeat' split
                                 all_goals simp
theorem rH (c:Nat):1≤(bw c).length:=by have:=List.length_pos_iff.2 (Ko c); omega
inductive OkT:By→Prop
 | nil:OkT []
 | cons (c:Nat) (t:By):okR c→OkT t→OkT (bw c ++ t)
theorem OkT.app {a b:By} (h:OkT a) (h':OkT b):OkT (a ++ b):=by
 induction h with
 | nil=>exact h'
 | cons c t hc _ ih=>rw [List.append_assoc]; exact .cons c _ hc ih
/-! ### what escapes tell is a sign -/
theorem gq {c:UInt8} {n:Nat} (h:lW c=some n):n<16:=by
 unfold lW at h
 repeat' split at h
 all_goals first | (cases h; done) | (cases h; omega)
theorem pG {s:By} {n:Nat} (h:mJ s=some n):n<65536∧4≤s.length:=by
 unfold mJ at h
 split at h
 ·obtain ⟨a,ha,h⟩:=Option.bind_eq_some_iff.1 h
  obtain ⟨b,hb,h⟩:=Option.bind_eq_some_iff.1 h
  obtain ⟨c,hc,h⟩:=Option.bind_eq_some_iff.1 h
  obtain ⟨d,hd,h⟩:=Option.bind_eq_some_iff.1 h
  cases h
  have:=gq ha; have:=gq hb; have:=gq hc; have:=gq hd
  refine ⟨by omega,by simp⟩
 ·cases h
theorem Kp {n:Nat} {r:By} {c k:Nat} (h:tj n r=some (c,k)) (h1 : ¬ (n<55296∨57343<n)) (h2 : ¬ 56320≤n):okR c∧k=12∧6≤r.length:=by
 unfold tj at h
 split at h
 ·rename_i q
  obtain ⟨m,hm,h⟩:=Option.bind_eq_some_iff.1 h
  have h3:=pG hm
  by_cases hc:56320≤m∧m≤57343
  ·rw [if_pos hc] at h
   injection h with h
   injection h with h4 h5
   subst h5
   unfold rT at h4
   unfold okR
   exact ⟨by omega,rfl,by simp; omega⟩
  ·rw [if_neg hc] at h
   cases h
 ·cases h
theorem Jr {r:By} {c k:Nat} (h:uw r=some (c,k)):okR c∧(k=6∧c<65536∨k=12)∧k≤r.length+2:=by
 unfold uw at h
 obtain ⟨n,hn,h⟩:=Option.bind_eq_some_iff.1 h
 have h1:=pG hn
 by_cases c1:n<55296∨57343<n
 ·rw [if_pos c1] at h
  injection h with h
  injection h with h2 h3
  subst h3
  unfold okR
  exact ⟨by omega, .inl ⟨rfl,by omega⟩,by omega⟩
 rw [if_neg c1] at h
 by_cases c2:56320≤n
 ·rw [if_pos c2] at h; cases h
 rw [if_neg c2] at h
 obtain ⟨q1,q2,q3⟩:=Kp h c1 c2
 simp at q3
 exact ⟨q1, .inr q2,by omega⟩
theorem wu (c:UInt8):(qu c).length≤6:=by
 unfold qu
 repeat' split
 all_goals simp
theorem ja (n:Nat) (h:128≤n) (h':n<256):qu (UInt8.ofNat n) = [UInt8.ofNat n]:=by
 have e:(UInt8.ofNat n).toNat=n:=by simp; omega
 have ne : ∀ k:UInt8,k.toNat<128→UInt8.ofNat n≠k:=by
  intro k hk hh
  rw [← hh,e] at hk
  omega
 unfold qu
 rw [if_neg (by rintro (hh | hh) <;> exact ne _ (by decide) hh),if_neg (ne _ (by decide)),if_neg (ne _ (by decide)),if_neg (ne _ (by decide)),if_neg (ne _ (by decide)),if_neg (ne _ (by decide)),if_neg (by omega)]
theorem wq (c:Nat) (h:c<128):iU (bw c)=qu (UInt8.ofNat c):=by
 unfold bw iU
 rw [if_pos h]
 simp
theorem wm (c:Nat) (h : ¬ c<128) (h':c≤1114111):iU (bw c)=bw c:=by
 unfold bw iU
 rw [if_neg h]
 split
 ·simp only [List.flatMap_cons,List.flatMap_nil]
  rw [ja _ (by omega) (by omega),ja _ (by omega) (by omega)]
  rfl
 split
 ·simp only [List.flatMap_cons,List.flatMap_nil]
  rw [ja _ (by omega) (by omega),ja _ (by omega) (by omega),ja _ (by omega) (by omega)]
  rfl
 ·simp only [List.flatMap_cons,List.flatMap_nil]
  rw [ja _ (by omega) (by omega),ja _ (by omega) (by omega),ja _ (by omega) (by omega),ja _ (by omega) (by omega)]
  rfl
theorem Fo (c:Nat) (h:c≤1114111):(iU (bw c)).length≤6:=by
 by_cases h1:c<128
 ·rw [wq c h1]; exact wu _
 ·rw [wm c h1 h]; have:=mP c; omega
theorem y7 {s:By} {c k:Nat} (h:ow s=some (c,k)):okR c∧2≤k∧k≤s.length+1∧(iU (bw c)).length≤k:=by
 unfold ow at h
 split at h
 ·cases h
 ·rename_i x r
  by_cases h1:x=34∨x=92∨x=47
  ·rw [if_pos h1] at h
   cases h
   rcases h1 with rfl | rfl | rfl <;> exact ⟨by decide,by decide,by simp,by decide⟩
  rw [if_neg h1] at h
  by_cases h2:x=98
  ·rw [if_pos h2] at h; cases h; exact ⟨by decide,by decide,by simp,by decide⟩
  rw [if_neg h2] at h
  by_cases h3:x=102
  ·rw [if_pos h3] at h; cases h; exact ⟨by decide,by decide,by simp,by decide⟩
  rw [if_neg h3] at h
  by_cases h4:x=110
  ·rw [if_pos h4] at h; cases h; exact ⟨by decide,by decide,by simp,by decide⟩
  rw [if_neg h4] at h
  by_cases h5:x=114
  ·rw [if_pos h5] at h; cases h; exact ⟨by decide,by decide,by simp,by decide⟩
  rw [if_neg h5] at h
  by_cases h6:x=116
  ·rw [if_pos h6] at h; cases h; exact ⟨by decide,by decide,by simp,by decide⟩
  rw [if_neg h6] at h
  by_cases h7:x=117
  ·rw [if_pos h7] at h
   obtain ⟨q1,q2,q3⟩:=Jr h
   have q4:=Fo c q1.1
   refine ⟨q1,by omega,by simp; omega,by omega⟩
  ·rw [if_neg h7] at h; cases h
end Go.Vm
