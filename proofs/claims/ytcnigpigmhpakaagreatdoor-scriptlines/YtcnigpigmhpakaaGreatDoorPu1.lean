import Derived.Test.YtcnigpigmhpakaaGreatDoorV4
import Derived.Lib.MapLaws
/- Parts of lists, plainly. No condition. -/
namespace Go.Vm
set_option linter.unusedVariables false
open Go
theorem E4 {α:Type} (s:List α) (a b:Nat) (h:a≤b) (h':b≤s.length):sub s (a:Int) (b:Int)=some ((s.drop a).take (b - a)):=by
 unfold sub
 rw [if_pos (by omega)]
 simp
theorem H3 {α:Type} (s:List α) (a:Nat) (h:a≤s.length):sub s (a:Int) (s.length:Int)=some (s.drop a):=by
 rw [E4 s a s.length h (Nat.le_refl _),List.take_of_length_le (by simp)]
theorem uU {α:Type} (l:List α) (i:Nat) (n:Int) (hn:n=(i:Int)) (h:i<l.length):idx l n=some l[i]:=by
 subst hn
 unfold idx
 rw [if_pos (by omega)]
 simp [h]
theorem dn (i:Nat) (h:i<9000000000000000):IntKind.i64.wrap ((i:Int)+1)=((i+1:Nat):Int):=by rw [wrap64] <;> omega
end Go.Vm
/- Signs and their bytes, plainly, with no model in sight. No condition but on lengths. -/
namespace Go.Vm
open Go.Lib (decodeL decodeN decodeL_N decode_N decodeN_shape decodeL_le)
set_option linter.unusedVariables false
set_option linter.unusedSimpArgs false
theorem fw (l:List UInt8):1≤(decodeL l).2:=by
 rw [decodeL_N]
 rcases decodeN_shape l.length (l.getD 0 0).toNat (l.getD 1 0).toNat (l.getD 2 0).toNat (l.getD 3 0).toNat with ⟨_,e⟩ | ⟨_,_,_,_,e⟩ | ⟨_,_,_,_,_,_,e⟩ | ⟨_,_,_,_,_,_,_,e⟩ | e <;> rw [e] <;> simp
theorem Ds (s:List UInt8) (i k:Nat):(s.drop i).getD k 0=s.getD (i+k) 0:=by simp [List.getD]
theorem E7 (s:List UInt8) (i:Nat):Utf8.decode ⟨s.toArray⟩ i=decodeL (s.drop i):=by
 rw [decode_N,decodeL_N]
 simp only [List.length_drop,Ds,Nat.add_zero]
theorem xU (s:List UInt8) (i:Nat):eY s i=((decodeL (s.drop i)).1:Int):=by unfold eY; rw [E7]; rfl
theorem qq (s:List UInt8) (i:Nat):runeLen s i=(decodeL (s.drop i)).2:=by unfold runeLen; rw [E7]
def fT (l:List UInt8):List (Int×List UInt8) :=
 if h:l = [] then [] else (((decodeL l).1:Int),l.take (decodeL l).2) :: fT (l.drop (decodeL l).2)
termination_by l.length
decreasing_by
 have:=fw l
 have:0<l.length:=List.length_pos_iff.2 h
 simp only [List.length_drop]
 omega
theorem mL:fT [] = []:=by rw [fT]; simp
theorem mQ {l:List UInt8} (h:l ≠ []):fT l=(((decodeL l).1:Int),l.take (decodeL l).2) :: fT (l.drop (decodeL l).2):=by
 conv=>lhs; rw [fT]
 simp [h]
theorem pC {p:List UInt8→Prop} (h0:p []) (h1 : ∀ l,l ≠ []→p (l.drop (decodeL l).2)→p l) (l:List UInt8):p l:=by
 have : ∀ n (l:List UInt8),l.length≤n→p l:=by
  intro n
  induction n with
  | zero=>intro l hl; rw [List.length_eq_zero_iff.1 (by omega:l.length=0)]; exact h0
  | succ n ih =>
   intro l hl
   by_cases hn:l = []
   ·rw [hn]; exact h0
   ·refine h1 l hn (ih _ ?_)
    have:=fw l
    have:0<l.length:=List.length_pos_iff.2 hn
    simp only [List.length_drop]
    omega
 exact this l.length l (Nat.le_refl _)
theorem zV (l:List UInt8):(fT l).flatMap (·.2)=l:=by
 induction l using pC with
 | h0=>rw [mL]; rfl
 | h1 l hn ih=>rw [mQ hn,List.flatMap_cons,ih]; exact List.take_append_drop _ _
theorem EB (l:List UInt8):(fT l).length≤l.length:=by
 induction l using pC with
 | h0=>rw [mL]; simp
 | h1 l hn ih =>
  rw [mQ hn]
  have:=fw l
  have:0<l.length:=List.length_pos_iff.2 hn
  simp only [List.length_drop,List.length_cons] at ih ⊢
  omega
theorem pI (l:List UInt8) (k:Nat):idx l (k:Int)=if k<l.length then some (l.getD k 0) else none:=by
 unfold idx
 rw [if_pos (by omega)]
 split
 ·rename_i h; simp [h]
 ·rename_i h; simp; omega
theorem cQ {α β γ:Type} (c:Prop) [Decidable c] (s t:α ⊕ β) (f:α→γ) (g:β→γ):eW (if c then s else t) f g=if c then eW s f g else eW t f g:=by split <;> rfl
theorem aE {α β γ:Type} (a:α) (f:α→γ) (g:β→γ):eW (.inl a) f g=f a:=rfl
theorem aZ {α β γ:Type} (b:β) (f:α→γ) (g:β→γ):eW (.inr b) f g=g b:=rfl
theorem rY {α:Type} (s:List α) (a b:Nat) (h:a≤b) (h':b≤s.length):sub s (a:Int) (b:Int)=some ((s.drop a).take (b - a)):=by
 unfold sub
 rw [if_pos (by omega)]
 simp
theorem iH {α:Type} (s:List α) (a:Nat) (h:a≤s.length):sub s (a:Int) (s.length:Int)=some (s.drop a):=by
 rw [rY s a s.length h (Nat.le_refl _),List.take_of_length_le (by simp)]
def ats (p:Nat):List (Int×List UInt8)→List Int
 | [] => []
 | x :: t=>(p:Int) :: ats (p+x.2.length) t
theorem tT {s:List UInt8} {p:Nat} (h:p<s.length):s.drop p ≠ []:=by
 intro e
 have:=congrArg List.length e
 simp at this
 omega
theorem D9 (s:List UInt8) (p:Nat):(s.drop p).drop (decodeL (s.drop p)).2=s.drop (p+(decodeL (s.drop p)).2):=by rw [List.drop_drop]
theorem Gw {s:List UInt8} {p:Nat} (h:p<s.length):((s.drop p).take (decodeL (s.drop p)).2).length=(decodeL (s.drop p)).2:=by
 have:=decodeL_le (s.drop p) (tT h)
 simp only [List.length_take]
 omega
theorem ID {s:List UInt8} {p:Nat} (h:p<s.length):p+(decodeL (s.drop p)).2≤s.length:=by
 have:=decodeL_le (s.drop p) (tT h)
 simp only [List.length_drop] at this
 omega
def okR (c:Nat):Prop:=c≤1114111∧(c<55296∨57343<c)
def cj (c:Nat):List UInt8:=if c<128 then [UInt8.ofNat c] else if c<2048 then [UInt8.ofNat (192+c / 64),UInt8.ofNat (128+c % 64)] else if c<65536 then [UInt8.ofNat (224+c / 4096),UInt8.ofNat (128+c / 64 % 64),UInt8.ofNat (128+c % 64)] else [UInt8.ofNat (240+c / 262144),UInt8.ofNat (128+c / 4096 % 64),UInt8.ofNat (128+c / 64 % 64),UInt8.ofNat (128+c % 64)]
def Jl (c:Nat):ByteArray:=if c<0x80 then ⟨#[UInt8.ofNat c]⟩
 else if c<0x800 then ⟨#[UInt8.ofNat (0xC0+c / 64),UInt8.ofNat (0x80+c % 64)]⟩
 else if c<0x10000 then ⟨#[UInt8.ofNat (0xE0+c / 4096),UInt8.ofNat (0x80+c / 64 % 64),UInt8.ofNat (0x80+c % 64)]⟩
 else ⟨#[UInt8.ofNat (0xF0+c / 262144),UInt8.ofNat (0x80+c / 4096 % 64),UInt8.ofNat (0x80+c / 64 % 64),UInt8.ofNat (0x80+c % 64)]⟩
theorem Kg (r:Int):Utf8.encode r=Jl (if Utf8.valid r=true then r.toNat else Utf8.runeError):=rfl
theorem B_N (c:Nat):(Jl c).data.toList=cj c:=by
 unfold Jl cj
 split
 ·rfl
 split
 ·rfl
 split
 ·rfl
 ·rfl
theorem e1 (n:Int):pN n=(Utf8.encode n).data.toList:=by unfold pN; rfl
theorem e3 (n:Int):pN n=cj (if Utf8.valid n=true then n.toNat else Utf8.runeError):=(e1 n).trans ((congrArg (fun b:ByteArray=>b.data.toList) (Kg n)).trans (B_N _))
theorem e2 (n:Int) (c:Nat) (hn:n=(c:Int)) (hv:Utf8.valid n=true):(if Utf8.valid n=true then n.toNat else Utf8.runeError)=c:=by rw [if_pos hv]; omega
theorem Js (n:Int) (c:Nat) (hn:n=(c:Int)) (hv:Utf8.valid n=true):pN n=cj c:=by rw [e3,e2 n c hn hv]
theorem GF (n:Int) (c:Nat) (hn:n=(c:Int)) (h:okR c):Utf8.valid n=true:=by
 obtain ⟨h1,h2⟩:=h
 unfold Utf8.valid
 rcases h2 with h2 | h2
 ·have a:(0:Int)≤n:=by omega
  have b:n<0xD800:=by omega
  simp only [a,b,decide_true,Bool.and_true,Bool.true_or]
 ·have a:(0xE000:Int)≤n:=by omega
  have b:n≤0x10FFFF:=by omega
  simp only [a,b,decide_true,Bool.and_true,Bool.or_true]
theorem lI (c:Nat) (h:okR c):pN (c:Int)=cj c:=Js _ c rfl (GF _ c rfl h)
theorem jf (n:Int) (h:0≤n) (h':n≤255):IntKind.u8.wrap n=n:=by
 have hb:IntKind.u8.bits=8:=rfl
 have hs:IntKind.u8.signed=false:=rfl
 unfold IntKind.wrap
 simp only [hb,hs]
 simp
 omega
theorem BI (n:Int) (h:0≤n):IntKind.u8.wrap n=n % 256:=by
 have hb:IntKind.u8.bits=8:=rfl
 have hs:IntKind.u8.signed=false:=rfl
 unfold IntKind.wrap
 simp only [hb,hs]
 simp
theorem Iu (n:Int) (h:0≤n) (h':n≤4294967295):IntKind.u32.wrap n=n:=by
 have hb:IntKind.u32.bits=32:=rfl
 have hs:IntKind.u32.signed=false:=rfl
 unfold IntKind.wrap
 simp only [hb,hs]
 simp
 omega
theorem rU (l:List UInt8):okR (decodeL l).1:=by
 unfold okR
 rw [decodeL_N]
 rcases decodeN_shape l.length (l.getD 0 0).toNat (l.getD 1 0).toNat (l.getD 2 0).toNat (l.getD 3 0).toNat with ⟨p,e⟩ | ⟨_,_,_,_,e⟩ | ⟨_,_,_,_,_,_,e⟩ | ⟨_,_,_,_,_,_,_,e⟩ | e <;> rw [e] <;> simp only <;> omega
theorem JD : ∀ k:Fin 32,ior .u8 192 ((k.val:Nat):Int)=((192+k.val:Nat):Int):=by decide
theorem JR : ∀ k:Fin 16,ior .u8 224 ((k.val:Nat):Int)=((224+k.val:Nat):Int):=by decide
theorem JU : ∀ k:Fin 8,ior .u8 240 ((k.val:Nat):Int)=((240+k.val:Nat):Int):=by decide
theorem J7 : ∀ k:Fin 64,ior .u8 128 ((k.val:Nat):Int)=((128+k.val:Nat):Int):=by decide
theorem JE : ∀ k:Fin 256,mZ .u8 ((k.val:Nat):Int) 63=((k.val % 64:Nat):Int):=by decide +kernel
theorem Kf (k:Nat) (h:k<32):ior .u8 192 (k:Int)=((192+k:Nat):Int):=JD ⟨k,h⟩
theorem KA (k:Nat) (h:k<16):ior .u8 224 (k:Int)=((224+k:Nat):Int):=JR ⟨k,h⟩
theorem Kz (k:Nat) (h:k<8):ior .u8 240 (k:Int)=((240+k:Nat):Int):=JU ⟨k,h⟩
theorem KD (k:Nat) (h:k<64):ior .u8 128 (k:Int)=((128+k:Nat):Int):=J7 ⟨k,h⟩
theorem Ir (d:Nat):ior .u8 128 (mZ .u8 (IntKind.u8.wrap (d:Int)) 63)=((128+d % 64:Nat):Int):=by
 rw [BI _ (by omega),show (d:Int) % 256=((d % 256:Nat):Int) by omega,show mZ .u8 ((d % 256:Nat):Int) 63=((d % 256 % 64:Nat):Int) from JE ⟨d % 256,by omega⟩,KD _ (by omega)]
 congr 2
 omega
theorem za (c:Nat) (j:Nat) (hj:j≤32):shr .i32 (c:Int) (j:Int)=((c / 2 ^ j:Nat):Int):=by
 have hb:IntKind.i32.bits=32:=rfl
 unfold shr
 rw [hb,Int.toNat_natCast,Nat.min_eq_left hj,Int.fdiv_eq_ediv_of_nonneg _ (Int.pow_nonneg (by decide)),Int.natCast_ediv,Int.natCast_pow]
 rfl
theorem qT (c:Nat):(cj c).length≤4:=by unfold cj; repeat' split
                                       all_goals simp
end Go.Vm
