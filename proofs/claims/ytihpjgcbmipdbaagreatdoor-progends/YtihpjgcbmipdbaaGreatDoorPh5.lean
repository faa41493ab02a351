import Derived.Test.YtihpjgcbmipdbaaGreatDoorFjlay
import Derived.Test.YtihpjgcbmipdbaaGreatDoorPj10
import Derived.Test.YtihpjgcbmipdbaaGreatDoorFr9
import Derived.Test.YtihpjgcbmipdbaaGreatDoorPu5
import Derived.Test.YtihpjgcbmipdbaaGreatDoorFr9v
import Derived.Test.YtihpjgcbmipdbaaGreatDoorFlaw22
/- JSON: the program's forms are the plain ones. No condition but on lengths. -/
namespace Go.Vm
open Go.Lib (decodeL itoa)
set_option linter.unusedVariables false
set_option linter.unusedSimpArgs false
theorem idx_hex : ∀ c : Fin 32, idx ([48, 49, 50, 51, 52, 53, 54, 55, 56, 57, 97, 98, 99, 100, 101, 102] : List UInt8) (shr .i32 ((c.val : Nat) : Int) 4) = some (hexC (c.val / 16)) ∧ idx ([48, 49, 50, 51, 52, 53, 54, 55, 56, 57, 97, 98, 99, 100, 101, 102] : List UInt8) (iand .i32 ((c.val : Nat) : Int) 15) = some (hexC (c.val % 16)) := by decide +kernel
theorem quo_small : ∀ c : Fin 32, c.val ≠ 8 → c.val ≠ 9 → c.val ≠ 10 → c.val ≠ 12 → c.val ≠ 13 → quoL (encN c.val) = [92, 117, 48, 48, hexC (c.val / 16), hexC (c.val % 16)] := by decide +kernel
theorem byte_id (b : UInt8) : UInt8.ofNat ((b.toNat : Nat) : Int).toNat = b := by simp
theorem quoL_plain (c : Nat) (h : okR c) (h32 : ¬ c < 32) (h34 : c ≠ 34) (h92 : c ≠ 92) : quoL (encN c) = encN c := by
 by_cases h1 : c < 128
 ·rw [quoL_one c h1]
  have e4 : (UInt8.ofNat c).toNat = c := by simp; omega
  have ne : ∀ k : UInt8, k.toNat ≠ c → UInt8.ofNat c ≠ k := by
   intro k hk hh
   rw [← hh, e4] at hk
   exact hk rfl
  have e3 : encN c = [UInt8.ofNat c] := by unfold encN; rw [if_pos h1]
  unfold quoB
  have n8 : (8 : UInt8).toNat = 8 := rfl
  have n9 : (9 : UInt8).toNat = 9 := rfl
  have n10 : (10 : UInt8).toNat = 10 := rfl
  have n12 : (12 : UInt8).toNat = 12 := rfl
  have n13 : (13 : UInt8).toNat = 13 := rfl
  have n34 : (34 : UInt8).toNat = 34 := rfl
  have n92 : (92 : UInt8).toNat = 92 := rfl
  rw [if_neg (fun hh => hh.elim (ne 34 (by omega)) (ne 92 (by omega))), if_neg (ne 8 (by omega)), if_neg (ne 9 (by omega)), if_neg (ne 10 (by omega)), if_neg (ne 12 (by omega)), if_neg (ne 13 (by omega)), if_neg (by omega), e3]
 ·exact quoL_big c h1 h.1
theorem quote_step (F : Nat) (T out : By) (i c : Nat) (hc : okR c) (hi : i < T.length) (hra : runeAt T i = (c : Int)) (ho : out.length ≤ 1000000) :
  M_json_quote_l0 F ((), (), (T, i), out, ()) = some (.inl ((), (), (T, i + runeLen T i), out ++ quoL (encN c), ())) := by
 unfold M_json_quote_l0
 have L2 : ∀ a b : UInt8, decide ((out.length + [a, b].length) * 1 ≤ 140737488355328) = true := by intro a b; simp; omega
 have L4 : ∀ a b c d : UInt8, decide ((out.length + [a, b, c, d].length) * 1 ≤ 140737488355328) = true := by intro a b c d; simp; omega
 have L6 : ∀ a b c d e f : UInt8, decide (((out ++ [a, b, c, d]).length + [e, f].length) * 1 ≤ 140737488355328) = true := by intro a b c d e f; simp; omega
 simp only [hi, decide_true, if_true, hra]
 by_cases k34 : c = 34
 ·subst k34
  have : ((34 : Nat) : Int) = 34 := rfl
  simp only [this, decide_true, Bool.true_eq_false, if_false, Option.bind_some, if_true, L2]
  rfl
 have i34 : ¬ (c : Int) = 34 := by omega
 by_cases k92 : c = 92
 ·subst k92
  have : ((92 : Nat) : Int) = 92 := rfl
  have : ¬ ((92 : Nat) : Int) = 34 := by decide
  simp only [this, decide_false, if_true, Option.bind_some]
  have : ((92 : Nat) : Int) = 92 := rfl
  simp only [this, decide_true, if_true, L2]
  rfl
 have i92 : ¬ (c : Int) = 92 := by omega
 simp only [i34, i92, decide_false, if_true, Option.bind_some, Bool.false_eq_true, if_false]
 by_cases k8 : c = 8
 ·subst k8
  have : ((8 : Nat) : Int) = 8 := rfl
  simp only [this, decide_true, if_true]
  exact (if_pos (L2 92 98)).trans rfl
 have i8 : ¬ (c : Int) = 8 := by omega
 simp only [i8, decide_false, Bool.false_eq_true, if_false]
 by_cases k12 : c = 12
 ·subst k12
  have : ((12 : Nat) : Int) = 12 := rfl
  simp only [this, decide_true, if_true]
  exact (if_pos (L2 92 102)).trans rfl
 have i12 : ¬ (c : Int) = 12 := by omega
 simp only [i12, decide_false, Bool.false_eq_true, if_false]
 by_cases k10 : c = 10
 ·subst k10
  have : ((10 : Nat) : Int) = 10 := rfl
  simp only [this, decide_true, if_true]
  exact (if_pos (L2 92 110)).trans rfl
 have i10 : ¬ (c : Int) = 10 := by omega
 simp only [i10, decide_false, Bool.false_eq_true, if_false]
 by_cases k13 : c = 13
 ·subst k13
  have : ((13 : Nat) : Int) = 13 := rfl
  simp only [this, decide_true, if_true]
  exact (if_pos (L2 92 114)).trans rfl
 have i13 : ¬ (c : Int) = 13 := by omega
 simp only [i13, decide_false, Bool.false_eq_true, if_false]
 by_cases k9 : c = 9
 ·subst k9
  have : ((9 : Nat) : Int) = 9 := rfl
  simp only [this, decide_true, if_true]
  exact (if_pos (L2 92 116)).trans rfl
 have i9 : ¬ (c : Int) = 9 := by omega
 simp only [i9, decide_false, Bool.false_eq_true, if_false]
 by_cases k32 : c < 32
 ·have i32 : (c : Int) < 32 := by omega
  obtain ⟨h1, h2⟩ := idx_hex ⟨c, k32⟩
  have h3 := quo_small ⟨c, k32⟩ k8 k9 k10 k12 k13
  simp only at h1 h2 h3
  simp only [i32, decide_true, if_true, h1, h2, Option.bind_some, byte_id, h3]
  refine (if_pos (L4 92 117 48 48)).trans ((if_pos (L6 92 117 48 48 _ _)).trans ?_)
  rw [List.append_assoc]
  rfl
 have i32 : ¬ (c : Int) < 32 := by omega
 simp only [i32, decide_false, Bool.false_eq_true, if_false, append_eq F c hc out (by omega), Option.bind_some, enc8_val c hc, quoL_plain c hc k32 k34 k92]
theorem quote_loop (T : By) : ∀ (t : By), OkT t → ∀ (i : Nat) (out : By), T.drop i = t → i ≤ T.length → out.length + (quoL t).length ≤ 1000000 → TendsL M_json_quote_l0 ((), (), (T, i), out, ()) ((), out ++ quoL t, ()) := by
 intro t ht
 induction ht with
 | nil =>
  intro i out hd hi ho
  refine TendsL.fin (.of fun F => ?_)
  have : ¬ i < T.length := by
   have := congrArg List.length hd
   simp at this
   omega
  unfold M_json_quote_l0
  simp only [this, decide_false, Bool.false_eq_true, if_false]
  have e : quoL [] = [] := rfl
  rw [e, List.append_nil]
 | cons c t hc _ ih =>
  intro i out hd hi ho
  have hp := encN_pos c
  have hlt : i < T.length := by
   have := congrArg List.length hd
   rw [List.length_drop, List.length_append] at this
   omega
  have hdec := dec_encN c hc t
  have hra : runeAt T i = (c : Int) := by rw [runeAt_eq, hd, hdec]
  have hrl : runeLen T i = (encN c).length := by rw [runeLen_eq, hd, hdec]
  rw [quoL_app, ← List.append_assoc]
  rw [quoL_app, List.length_append] at ho
  refine TendsL.step (.of fun F => quote_step F T out i c hc hlt hra (by omega)) ?_
  rw [hrl]
  refine ih (i + (encN c).length) (out ++ quoL (encN c)) ?_ ?_ (by rw [List.length_append]; omega)
  ·rw [← List.drop_drop, hd, List.drop_left' rfl]
  ·have := congrArg List.length hd
   rw [List.length_drop, List.length_append] at this
   omega
theorem quote_t (b t : By) (ht : OkT t) (hb : b.length + (quo t).length ≤ 1000000) : Tends (fun F => M_json_quote F (b, t)) (b ++ quo t) := by
 unfold quo at hb
 simp only [List.length_cons, List.length_append, List.length_nil] at hb
 unfold M_json_quote
 refine Tends.pos (by simp; omega) ?_
 refine Tends.bind (quote_loop t t ht 0 (b ++ [UInt8.ofNat 34]) rfl (by omega) (by simp; omega)).run ?_
 refine Tends.pos (by simp; omega) ?_
 refine (Tends.ret _).eq ?_
 unfold quo
 simp
/-! ### values -/
def LT (d : Nat) (R : Nat → By × JV → Option By) : Prop := ∀ v b, okV d v → b.length + (layP d v).length ≤ 1000000 → Tends (fun F => R F (b, v)) (b ++ layP d v)
def jrest {α : Type} (f : α → By) (l : List α) : By := l.flatMap fun x => 44 :: f x
theorem join_cons {α : Type} (f : α → By) (x : α) : ∀ l : List α, joinB ((x :: l).map f) = f x ++ jrest f l
 | [] => by simp [joinB, jrest]
 | y :: l => by
  have := join_cons f y l
  simp only [List.map_cons, joinB, jrest, List.flatMap_cons, List.cons_append] at this ⊢
  rw [this]
def jfrom {α : Type} (f : α → By) (i : Nat) (l : List α) : By := if i = 0 then joinB (l.map f) else jrest f l
theorem jfrom_cons {α : Type} (f : α → By) (i : Nat) (x : α) (l : List α) : jfrom f i (x :: l) = (if i = 0 then [] else [44]) ++ (f x ++ jfrom f (i + 1) l) := by
 unfold jfrom
 rw [if_neg (by omega : ¬ i + 1 = 0)]
 split
 ·rw [join_cons]; rfl
 ·rfl
theorem lay_list_loop (d : Nat) (R : Nat → By × JV → Option By) (hR : LT d R) (l : List JV) (hl : ∀ v ∈ l, okV d v) (hll : l.length ≤ 1000000) : ∀ (n i : Nat) (out : By), i + n = l.length → out.length + (jfrom (layP d) i (l.drop i)).length ≤ 1000000 →
  TendsL (fun F => Mb_json_lay_l0 F (R F)) ((), l, (l.length : Int), (i : Int), out, ()) ((), out ++ jfrom (layP d) i (l.drop i), ())
 | 0, i, out, h, ho => by
  have : i = l.length := by omega
  subst this
  refine TendsL.fin (.of fun F => ?_)
  unfold Mb_json_lay_l0
  rw [List.drop_length]
  have e : jfrom (layP d) l.length [] = [] := by unfold jfrom; split <;> rfl
  simp [e]
 | n + 1, i, out, h, ho => by
  have hi : i < l.length := by omega
  have h' : (i : Int) < (l.length : Int) := by omega
  have hx : idx l (i : Int) = some l[i] := idx_at _ _ _ (by simp [hi])
  rw [List.drop_eq_getElem_cons hi, jfrom_cons] at ho ⊢
  rw [List.length_append, List.length_append] at ho
  have hv := hl l[i] (List.getElem_mem hi)
  have hstep : Tends (fun F => Mb_json_lay_l0 F (R F) ((), l, (l.length : Int), (i : Int), out, ())) (.inl ((), l, (l.length : Int), ((i + 1 : Nat) : Int), out ++ (if i = 0 then [] else [44]) ++ layP d l[i], ())) := by
   unfold Mb_json_lay_l0
   refine Tends.pos (by simpa using h') ?_
   refine Tends.bind (.of fun F => hx) ?_
   refine Tends.bind (r := (((), l[i], l, (l.length : Int), (i : Int), out ++ (if i = 0 then [] else [44]), ()) : Unit × JV × List JV × Int × Int × By × Unit)) ?_ ?_
   ·by_cases h0 : i = 0
    ·subst h0
     refine Tends.neg (by simp) ?_
     rw [if_pos rfl, List.append_nil]
     exact .ret _
    ·refine Tends.pos (by simp; omega) ?_
     rw [if_neg h0] at ho ⊢
     refine Tends.pos (by simp at ho ⊢; omega) ?_
     exact .ret _
   ·refine Tends.bind (hR l[i] (out ++ (if i = 0 then [] else [44])) hv (by rw [List.length_append]; omega)) ?_
    refine .of fun F => ?_
    simp only
    rw [wrap64 _ (by omega) (by omega)]
    rfl
  have ih := lay_list_loop d R hR l hl hll n (i + 1) (out ++ (if i = 0 then [] else [44]) ++ layP d l[i]) (by omega) (by rw [List.length_append, List.length_append]; omega)
  have := TendsL.step hstep ih
  simpa only [List.append_assoc] using this
theorem lay_obj_loop (d : Nat) (R : Nat → By × JV → Option By) (hR : LT d R) (l : List Me) (hl : ∀ m ∈ l, OkT m.1 ∧ okV d m.2.1) (hll : l.length ≤ 1000000) : ∀ (n i : Nat) (out : By), i + n = l.length → out.length + (jfrom (fun m : Me => quo m.1 ++ 58 :: layP d m.2.1) i (l.drop i)).length ≤ 1000000 →
  TendsL (fun F => Mb_json_lay_l1 F (R F)) ((), l, (l.length : Int), (i : Int), out, ()) ((), out ++ jfrom (fun m : Me => quo m.1 ++ 58 :: layP d m.2.1) i (l.drop i), ())
 | 0, i, out, h, ho => by
  have : i = l.length := by omega
  subst this
  refine TendsL.fin (.of fun F => ?_)
  unfold Mb_json_lay_l1
  rw [List.drop_length]
  have e : jfrom (fun m : Me => quo m.1 ++ 58 :: layP d m.2.1) l.length [] = [] := by unfold jfrom; split <;> rfl
  simp [e]
 | n + 1, i, out, h, ho => by
  have hi : i < l.length := by omega
  have h' : (i : Int) < (l.length : Int) := by omega
  have hx : idx l (i : Int) = some l[i] := idx_at _ _ _ (by simp [hi])
  rw [List.drop_eq_getElem_cons hi, jfrom_cons] at ho ⊢
  simp only [List.length_append, List.length_cons] at ho
  obtain ⟨hv1, hv2⟩ := hl l[i] (List.getElem_mem hi)
  have hstep : Tends (fun F => Mb_json_lay_l1 F (R F) ((), l, (l.length : Int), (i : Int), out, ())) (.inl ((), l, (l.length : Int), ((i + 1 : Nat) : Int), out ++ (if i = 0 then [] else [44]) ++ quo l[i].1 ++ [58] ++ layP d l[i].2.1, ())) := by
   unfold Mb_json_lay_l1
   refine Tends.pos (by simpa using h') ?_
   refine Tends.bind (.of fun F => hx) ?_
   refine Tends.bind (r := (((), (), l, (l.length : Int), (i : Int), out ++ (if i = 0 then [] else [44]), (l[i].1, l[i].2.1, ()), ()) : Unit × Unit × List Me × Int × Int × By × Me × Unit)) ?_ ?_
   ·by_cases h0 : i = 0
    ·subst h0
     refine Tends.neg (by simp) ?_
     rw [if_pos rfl, List.append_nil]
     exact .ret _
    ·refine Tends.pos (by simp; omega) ?_
     rw [if_neg h0] at ho ⊢
     refine Tends.pos (by simp at ho ⊢; omega) ?_
     exact .ret _
   ·refine Tends.bind (quote_t (out ++ (if i = 0 then [] else [44])) l[i].1 hv1 (by rw [List.length_append]; omega)) ?_
    refine Tends.pos (by simp only [List.length_append, List.length_cons, List.length_nil, decide_eq_true_eq]; omega) ?_
    refine Tends.bind (hR l[i].2.1 (out ++ (if i = 0 then [] else [44]) ++ quo l[i].1 ++ [UInt8.ofNat 58]) hv2 (by simp only [List.length_append, List.length_cons, List.length_nil]; omega)) ?_
    refine .of fun F => ?_
    simp only
    rw [wrap64 _ (by omega) (by omega)]
    rfl
  have ih := lay_obj_loop d R hR l hl hll n (i + 1) (out ++ (if i = 0 then [] else [44]) ++ quo l[i].1 ++ [58] ++ layP d l[i].2.1) (by omega) (by simp only [List.length_append, List.length_cons, List.length_nil]; omega)
  have := TendsL.step hstep ih
  simpa only [List.append_assoc, List.singleton_append, List.cons_append, List.nil_append] using this
theorem appInt_t (F : Nat) (b : By) (n : Int) (hn : okN n) (hb : b.length ≤ 1000000) : M_strconv_AppendInt F (b, n, 10) = some (b ++ itoa n) := by
 obtain ⟨h1, h2⟩ := hn
 unfold M_strconv_AppendInt MAppInt
 rw [if_pos (decide_eq_true rfl), if_pos (decide_eq_true (show b.length ≤ 140737488355000 by omega)), if_pos (decide_eq_true (show -9223372036854775808 ≤ n by omega)), if_pos (decide_eq_true (show n ≤ 9223372036854775807 by omega))]
theorem join_items {α : Type} (f : α → By) (l : List α) (h : ∀ v ∈ l, f v ≠ []) {n : Nat} (hn : (joinB (l.map f)).length ≤ n) : l.length ≤ n := Nat.le_trans (join_len f l h) hn
theorem lay_body (d : Nat) (R : Nat → By × JV → Option By) (hR : ∀ d', d = d' + 1 → LT d' R) : LT d (fun F => Mb_json_lay F (R F)) := by
 intro v b hv hb
 cases v with
 | nil => cases d <;> exact hv.elim
 | null =>
  have e : layP d .null = [110, 117, 108, 108] := by cases d <;> rfl
  rw [e] at hb ⊢
  refine .of fun F => ?_
  show (if decide ((b.length + [110, 117, 108, 108].length) * 1 ≤ 140737488355328) = true then some (b ++ [110, 117, 108, 108]) else none) = _
  rw [if_pos (by simp at hb ⊢; omega)]
 | bool x =>
  cases x with
  | true =>
   have e : layP d (.bool true) = [116, 114, 117, 101] := by cases d <;> rfl
   rw [e] at hb ⊢
   refine .of fun F => ?_
   show (M_strconv_AppendBool F (b, true)).bind (fun v5 => some v5) = _
   unfold M_strconv_AppendBool M_internal_strconv_AppendBool
   simp only [if_true]
   rw [if_pos (by simp at hb ⊢; omega)]
   rfl
  | false =>
   have e : layP d (.bool false) = [102, 97, 108, 115, 101] := by cases d <;> rfl
   rw [e] at hb ⊢
   refine .of fun F => ?_
   show (M_strconv_AppendBool F (b, false)).bind (fun v5 => some v5) = _
   unfold M_strconv_AppendBool M_internal_strconv_AppendBool
   simp only [Bool.false_eq_true, if_false]
   rw [if_pos (by simp at hb ⊢; omega)]
   rfl
 | int n =>
  have hn : okN n := by cases d <;> exact hv
  have e : layP d (.int n) = itoa n := by cases d <;> rfl
  rw [e] at hb ⊢
  refine .of fun F => ?_
  show (M_strconv_AppendInt F (b, n, 10)).bind (fun v1 => some v1) = _
  rw [appInt_t F b n hn (by omega)]
  rfl
 | str t =>
  have ht : OkT t := by cases d <;> exact hv
  have e : layP d (.str t) = quo t := by cases d <;> rfl
  rw [e] at hb ⊢
  have := quote_t b t ht hb
  show Tends (fun F => (M_json_quote F (b, t)).bind fun v3 => some v3) _
  exact this.bind (.ret _)
 | list l =>
  cases d with
  | zero => exact hv.elim
  | succ d =>
   have hl : ∀ v ∈ l, okV d v := hv
   have e : layP (d + 1) (.list l) = 91 :: (joinB (l.map (layP d)) ++ [93]) := rfl
   rw [e] at hb ⊢
   simp only [List.length_cons, List.length_append, List.length_nil] at hb
   have hne : ∀ v ∈ l, layP d v ≠ [] := by
    intro v hv hh
    obtain ⟨c, q, e, _⟩ := lay_head d v (hl v hv)
    rw [hh] at e; cases e
   have hloop := lay_list_loop d R (hR d rfl) l hl (join_items (layP d) l hne (by omega)) l.length 0 (b ++ [UInt8.ofNat 91]) (by omega) (by
    rw [List.drop_zero, List.length_append]
    show b.length + 1 + (joinB (l.map (layP d))).length ≤ 1000000
    omega)
   rw [List.drop_zero] at hloop
   show Tends (fun F => if decide ((b.length + [UInt8.ofNat 91].length) * 1 ≤ 140737488355328) = true then
    (loopM (Mb_json_lay_l0 F (R F)) F ((), l, (l.length : Int), 0, b ++ [UInt8.ofNat 91], ())).bind fun v11 => if decide ((v11.2.1.length + [UInt8.ofNat 93].length) * 1 ≤ 140737488355328) = true then some (v11.2.1 ++ [UInt8.ofNat 93]) else none else none) _
   refine Tends.pos (by simp; omega) ?_
   refine Tends.bind hloop.run ?_
   have ej : jfrom (layP d) 0 l = joinB (l.map (layP d)) := rfl
   rw [ej]
   refine Tends.pos (by simp; omega) ?_
   refine (Tends.ret _).eq ?_
   simp
 | obj l =>
  cases d with
  | zero => exact hv.elim
  | succ d =>
   obtain ⟨_, hl⟩ : Ris l ∧ ∀ m ∈ l, OkT m.1 ∧ okV d m.2.1 := hv
   have e : layP (d + 1) (.obj l) = 123 :: (joinB (l.map fun m => quo m.1 ++ 58 :: layP d m.2.1) ++ [125]) := rfl
   rw [e] at hb ⊢
   simp only [List.length_cons, List.length_append, List.length_nil] at hb
   have hloop := lay_obj_loop d R (hR d rfl) l hl (join_items (fun m : Me => quo m.1 ++ 58 :: layP d m.2.1) l (fun m _ => by unfold quo; simp) (n := 1000000) (Nat.le_trans (Nat.le_add_left _ (b.length)) (Nat.le_trans (Nat.le_add_right _ 2) (by have := hb; rw [Nat.add_assoc]; exact Nat.le_trans (Nat.le_of_eq (by simp only [Nat.add_assoc, Nat.zero_add])) this)))) l.length 0 (b ++ [UInt8.ofNat 123]) (by omega) (by
    rw [List.drop_zero, List.length_append]
    show b.length + 1 + (joinB (l.map fun m => quo m.1 ++ 58 :: layP d m.2.1)).length ≤ 1000000
    omega)
   rw [List.drop_zero] at hloop
   show Tends (fun F => if decide ((b.length + [UInt8.ofNat 123].length) * 1 ≤ 140737488355328) = true then
    (loopM (Mb_json_lay_l1 F (R F)) F ((), l, (l.length : Int), 0, b ++ [UInt8.ofNat 123], ())).bind fun v11 => if decide ((v11.2.1.length + [UInt8.ofNat 125].length) * 1 ≤ 140737488355328) = true then some (v11.2.1 ++ [UInt8.ofNat 125]) else none else none) _
   refine Tends.pos (by simp; omega) ?_
   refine Tends.bind hloop.run ?_
   have ej : jfrom (fun m : Me => quo m.1 ++ 58 :: layP d m.2.1) 0 l = joinB (l.map fun m => quo m.1 ++ 58 :: layP d m.2.1) := rfl
   rw [ej]
   refine Tends.pos (by simp only [List.length_append, List.length_cons, List.length_nil, decide_eq_true_eq]; omega) ?_
   refine (Tends.ret _).eq ?_
   simp
theorem lay_r : ∀ (d j : Nat), LT d (fun F => Mr_json_lay F (F - j)) := by
 intro d
 induction d with
 | zero =>
  intro j v b hv hb
  refine (lay_body 0 (fun F => Mr_json_lay F (F - (j + 1))) (fun d' h => by omega) v b hv hb).evt (j + 1) fun F hF => ?_
  show Mr_json_lay F (F - j) _ = _
  rw [show F - j = (F - (j + 1)) + 1 by omega]
  rfl
 | succ d ih =>
  intro j v b hv hb
  refine (lay_body (d + 1) (fun F => Mr_json_lay F (F - (j + 1))) (fun d' h => (Nat.succ.inj h) ▸ ih (j + 1)) v b hv hb).evt (j + 1) fun F hF => ?_
  show Mr_json_lay F (F - j) _ = _
  rw [show F - j = (F - (j + 1)) + 1 by omega]
  rfl
theorem lay_t (d : Nat) (v : JV) (b : By) (hv : okV d v) (hb : b.length + (layP d v).length ≤ 1000000) : Tends (fun F => M_json_lay F (b, v)) (b ++ layP d v) := lay_r d 0 v b hv hb
/-! ### what the program tells of a text -/
theorem all_ok {s : By} {v : JV} (h : allP s = .ok v) : okV 8 v ∧ (layP 8 v).length ≤ s.length ∧ s.length ≤ 400 := by
 unfold allP at h
 split at h
 ·cases h
 ·rename_i h4
  cases hv : valP 8 s with
  | error e => rw [hv] at h; cases h
  | ok w =>
   obtain ⟨v', r⟩ := w
   rw [hv] at h
   simp only at h
   split at h
   ·cases h
    obtain ⟨o1, _, _, o4⟩ := val_ok 8 s v r hv
    exact ⟨o1, by omega, by omega⟩
   ·cases h
end Go.Vm
/- JSON: the document's reader at its leaves is the plain one. No condition but on lengths. -/
namespace Go.Vm
open Go.Lib (decodeL decodeN decodeL_N decode_N decodeN_shape decodeL_le decDigits itoa)
set_option linter.unusedVariables false
set_option linter.unusedSimpArgs false
theorem nvB (c k : UInt8) : ((c.toNat : Int) = (k.toNat : Int)) = (c = k) := by
 apply propext
 constructor
 ·intro hh; exact UInt8.toNat_inj.1 (by omega)
 ·intro hh; rw [hh]
end Go.Vm
/- JSON: the document's strings, numbers, quotes, places are the plain ones. No condition but on lengths. -/
namespace Go.Vm
open Go.Lib (decodeL decodeN decodeL_N decode_N decodeN_shape decodeL_le decDigits itoa)
set_option linter.unusedVariables false
set_option linter.unusedSimpArgs false
/-! ### escapes -/
end Go.Vm
/- JSON: the document's numbers, quotes, places, ends are the plain ones. No condition but on lengths. -/
namespace Go.Vm
open Go.Lib (decodeL decodeN decodeL_N decode_N decodeN_shape decodeL_le decDigits itoa)
set_option linter.unusedVariables false
set_option linter.unusedSimpArgs false
/-! ### decimals -/
abbrev V9 := Int × By × By × Int × List By × List By × Unit
def z9 : V9 := (0, [], [], 0, [], [], ())
end Go.Vm
/- JSON: the document's quotes, places, ends are the plain ones. No condition but on lengths. -/
namespace Go.Vm
open Go.Lib (decodeL decodeN decodeL_N decode_N decodeN_shape decodeL_le decDigits itoa)
set_option linter.unusedVariables false
set_option linter.unusedSimpArgs false
/-! ### quotes -/
end Go.Vm
/- JSON: the document's lists and objects are the plain ones. No condition but on lengths. -/
namespace Go.Vm
open Go.Lib (decodeL decDigits itoa)
set_option linter.unusedVariables false
set_option linter.unusedSimpArgs false
/-! ### what is told -/
def kindP : JV → Int
 | .nil => 0
 | .null => 1
 | .bool _ => 2
 | .int _ => 3
 | .str _ => 4
 | .list _ => 5
 | .obj _ => 6
def textP : JV → By
 | .str t => t
 | _ => []
def numV : JV → Int
 | .int n => n
 | _ => 0
def namesP : JV → List By
 | .obj l => l.map (·.1)
 | _ => []
def itmP (d : Nat) (v : JV) : By := match d with
 | 0 => []
 | d + 1 => layP d v
def itemsP (d : Nat) : JV → List By
 | .list l => l.map (itmP d)
 | .obj l => l.map fun m => itmP d m.2.1
 | _ => []
def refV (d : Nat) (v : JV) : V9 := (kindP v, layP d v, textP v, numV v, namesP v, itemsP d v, ())
end Go.Vm
/- JSON: the document's objects are the plain ones. No condition but on lengths. -/
namespace Go.Vm
open Go.Lib (decodeL decDigits itoa)
set_option linter.unusedVariables false
set_option linter.unusedSimpArgs false
theorem quoB_pos (c : UInt8) : 1 ≤ (quoB c).length := by
 unfold quoB
 repeat' split
 all_goals exact Nat.le_of_ble_eq_true rfl
theorem quoL_ge (t : By) : t.length ≤ (quoL t).length := by
 induction t with
 | nil => exact Nat.le_refl _
 | cons c t ih =>
  have := quoB_pos c
  show _ ≤ (quoB c ++ quoL t).length
  rw [List.length_append, List.length_cons]
  omega
end Go.Vm
/- JSON: the document's objects and values are the plain ones. No condition but on lengths. -/
namespace Go.Vm
open Go.Lib (decodeL decDigits itoa)
set_option linter.unusedVariables false
set_option linter.unusedSimpArgs false
end Go.Vm
/- JSON: the document's values are the plain ones. No condition but on lengths. -/
namespace Go.Vm
open Go.Lib (decodeL decDigits itoa)
set_option linter.unusedVariables false
set_option linter.unusedSimpArgs false
theorem layP_B (d : Nat) (v : JV) : layP d v = layB (match d with | 0 => none | d + 1 => some (layP d)) v := by cases d <;> rfl
def ofP (s : By) : V9 × Int := match allP s with
 | .ok v => (refV 8 v, 0)
 | .error e => (z9, (e : Int))
end Go.Vm
/- JSON: what the program tells of a text's parts, for those that ask it. No condition but on lengths. -/
namespace Go.Vm
open Go.Proofs
open Go.Lib (decodeL decDigits itoa)
set_option linter.unusedVariables false
set_option linter.unusedSimpArgs false
def vP (s : By) : JV := match allP s with
 | .ok v => v
 | .error _ => .nil
theorem parse_v (s : By) (hs : s.length ≤ 1000) : Tends (fun F => M_json_parse F s) (vP s, (ofP s).2) := by
 refine Tends.eq (parse_t s hs) ?_
 unfold vP ofP
 cases allP s <;> rfl
theorem text_v (s : By) (hs : s.length ≤ 1000) : Tends (fun F => M_json_Text F s) (textP (vP s), decide (kindP (vP s) = 4)) := by
 unfold M_json_Text
 refine Tends.bind (parse_v s hs) ?_
 cases vP s <;> exact .ret _
theorem number_v (s : By) (hs : s.length ≤ 1000) : Tends (fun F => M_json_Number F s) (numV (vP s), decide (kindP (vP s) = 3)) := by
 unfold M_json_Number
 refine Tends.bind (parse_v s hs) ?_
 cases vP s <;> exact .ret _
def objL : JV → List Me
 | .obj l => l
 | _ => []
theorem vP_ok (s : By) : vP s = .nil ∨ (okV 8 (vP s) ∧ (layP 8 (vP s)).length ≤ 400) := by
 unfold vP
 cases h : allP s with
 | error e => exact .inl rfl
 | ok v =>
  obtain ⟨o1, o2, o3⟩ := all_ok h
  exact .inr ⟨o1, Nat.le_trans o2 o3⟩
theorem obj_facts {v : JV} {l : List Me} (h : v = .nil ∨ (okV 8 v ∧ (layP 8 v).length ≤ 400)) (hv : v = .obj l) : Uni l ∧ l.length ≤ 400 ∧ ∀ m ∈ l, okV 7 m.2.1 ∧ (layP 7 m.2.1).length ≤ 400 := by
 subst hv
 rcases h with h | ⟨h1, h2⟩
 ·cases h
 obtain ⟨h3, h4⟩ : Ris l ∧ ∀ m ∈ l, OkT m.1 ∧ okV 7 m.2.1 := h1
 have e : layP 8 (.obj l) = 123 :: (joinB (l.map fun m => quo m.1 ++ 58 :: layP 7 m.2.1) ++ [125]) := rfl
 rw [e] at h2
 simp only [List.length_cons, List.length_append, List.length_nil] at h2
 have hj := join_len (fun m : Me => quo m.1 ++ 58 :: layP 7 m.2.1) l (fun m _ => by unfold quo; simp)
 refine ⟨ris_uni h3, by omega, fun m hm => ⟨(h4 m hm).2, ?_⟩⟩
 have := piece (fun m : Me => quo m.1 ++ 58 :: layP 7 m.2.1) l m hm
 simp only [List.length_append, List.length_cons] at this
 omega
where
 piece {α : Type} (f : α → By) : ∀ (l : List α) (x : α), x ∈ l → (f x).length ≤ (joinB (l.map f)).length
  | [], x, h => by cases h
  | [y], x, h => by
   rw [List.mem_singleton] at h
   subst h
   exact Nat.le_refl _
  | y :: z :: l, x, h => by
   have ih := piece f (z :: l)
   rw [List.map_cons] at ih
   simp only [List.map_cons, joinB, List.length_append, List.length_cons] at ih ⊢
   rcases List.mem_cons.1 h with rfl | h
   ·omega
   ·have := ih x h
    omega
def firstM (name : By) : List Me → By × Bool
 | [] => ([], false)
 | m :: l => if m.1 = name then (layP 7 m.2.1, true) else firstM name l
theorem first_find (name : By) : ∀ l : List Me, match l.findIdx? (fun m => m.1 == name) with
  | some i => ∃ m, l[i]? = some m ∧ firstM name l = (layP 7 m.2.1, true)
  | none => firstM name l = ([], false)
 | [] => rfl
 | m :: l => by
  have ih := first_find name l
  rw [List.findIdx?_cons]
  by_cases hc : m.1 = name
  ·rw [if_pos (beq_iff_eq.2 hc)]
   exact ⟨m, rfl, by unfold firstM; rw [if_pos hc]⟩
  ·rw [if_neg (by simpa using hc)]
   cases hf : l.findIdx? (fun m => m.1 == name) with
   | none =>
    rw [hf] at ih
    simp only [Option.map_none]
    unfold firstM
    rw [if_neg hc]
    exact ih
   | some i =>
    rw [hf] at ih
    obtain ⟨m', h1, h2⟩ := ih
    simp only [Option.map_some]
    refine ⟨m', by simpa using h1, ?_⟩
    unfold firstM
    rw [if_neg hc]
    exact h2
theorem field_v (s name : By) (hs : s.length ≤ 1000) : Tends (fun F => M_json_Field F (s, name)) (firstM name (objL (vP s))) := by
 have hv := vP_ok s
 unfold M_json_Field
 refine Tends.bind (parse_v s hs) ?_
 have none : Tends (fun F => (M_json_object_find F ([], name)).bind fun v5 => if decide (v5 < 0) = true then some ([], false) else (idx ([] : List Me) v5).bind fun v6 => (M_json_lay F ([], v6.2.1)).bind fun v7 => some (v7, true)) (([], false) : By × Bool) := by
  refine Tends.bind (find_t [] name (by simp)) ?_
  exact Tends.pos rfl (.ret _)
 cases hc : vP s with
 | obj l =>
  obtain ⟨h1, h2, h3⟩ := obj_facts hv hc
  refine Tends.pos rfl ?_
  refine Tends.bind (.of fun F => (rfl : (JV.obj l).obj? = some l)) ?_
  refine Tends.bind (find_t l name (by omega)) ?_
  have hff := first_find name l
  unfold findI
  cases hf : l.findIdx? (fun m => m.1 == name) with
  | none =>
   rw [hf] at hff
   refine Tends.pos (by decide) ?_
   show Tends _ (firstM name l)
   rw [hff]
   exact .ret _
  | some i =>
   rw [hf] at hff
   obtain ⟨m, q1, q2⟩ := hff
   refine Tends.neg (by show ¬ decide ((i : Int) < 0) = true; rw [decide_eq_true_eq]; omega) ?_
   refine Tends.bind (.of fun F => idx_at l i m q1) ?_
   obtain ⟨o1, o2⟩ := h3 m (List.mem_of_getElem? q1)
   show Tends _ (firstM name l)
   rw [q2]
   exact Tends.bind (lay_t 7 m.2.1 [] o1 (by simp; omega)) (.ret _)
 | _ => exact Tends.neg Bool.false_ne_true none
end Go.Vm
/- Phrases: what the program fills is the plain text. No condition but on lengths. -/
namespace Go.Vm
open Go.Lib (decodeL decodeN decodeL_N decode_N decodeN_shape decodeL_le)
set_option linter.unusedVariables false
set_option linter.unusedSimpArgs false
/-! ### values -/
abbrev EnT := Int × By × Int × Int × Int × Int × By × Int × Int × Int × By × By × By × By × Unit
abbrev EnT.key (e : EnT) : By := e.2.1
abbrev EnT.method (e : EnT) : By := e.2.2.2.2.2.2.2.2.2.2.2.1
abbrev EnT.path (e : EnT) : By := e.2.2.2.2.2.2.2.2.2.2.2.2.1
abbrev EnT.body (e : EnT) : By := e.2.2.2.2.2.2.2.2.2.2.2.2.2.1
def memT (body name : By) : By := if (firstM name (objL (vP body))).2 = true then (if kindP (vP (firstM name (objL (vP body))).1) = 4 then textP (vP (firstM name (objL (vP body))).1) else (firstM name (objL (vP body))).1) else []
def valT (e : EnT) (g : By) : By := match g with
 | _ :: b :: q => if b = 98 then e.body else if b = 107 then e.key else if b = 109 then e.method else if b = 112 then e.path else if b = 37 then [37] else memT e.body (q.take (q.length - 1))
 | _ => []
theorem first_len (name : By) : ∀ l : List Me, (∀ m ∈ l, (layP 7 m.2.1).length ≤ 400) → (firstM name l).1.length ≤ 400
 | [], h => Nat.zero_le _
 | m :: l, h => by
  unfold firstM
  split
  ·exact h m (List.mem_cons_self ..)
  ·exact first_len name l fun x hx => h x (List.mem_cons_of_mem _ hx)
theorem first_ok (body name : By) : (firstM name (objL (vP body))).1.length ≤ 400 := by
 have hv := vP_ok body
 cases hc : vP body with
 | obj l => exact first_len name l fun m hm => ((obj_facts hv hc).2.2 m hm).2
 | _ => exact Nat.zero_le _
theorem text_len (s : By) : (textP (vP s)).length ≤ 400 := by
 have hv := vP_ok s
 cases hc : vP s with
 | str t =>
  rw [hc] at hv
  rcases hv with h | ⟨_, h2⟩
  ·cases h
  ·have e : layP 8 (.str t) = quo t := rfl
   rw [e] at h2
   have := quoL_ge t
   unfold quo at h2
   simp only [List.length_cons, List.length_append, List.length_nil] at h2
   show t.length ≤ 400
   omega
 | _ => exact Nat.zero_le _
theorem mem_len (body name : By) : (memT body name).length ≤ 400 := by
 unfold memT
 split
 ·split
  ·exact text_len _
  ·exact first_ok body name
 ·exact Nat.zero_le _
theorem member_v (body name : By) (hb : body.length ≤ 1000) : Tends (fun F => M_phrase_member F (body, name)) (memT body name) := by
 unfold M_phrase_member
 refine Tends.bind (field_v body name hb) ?_
 have h4 := first_ok body name
 unfold memT
 generalize firstM name (objL (vP body)) = v at h4
 cases hv : v.2 with
 | false => exact Tends.pos rfl (.ret _)
 | true =>
  refine Tends.neg (by decide) ?_
  refine Tends.bind (text_v v.1 (by omega)) ?_
  rw [if_pos rfl]
  by_cases hk : kindP (vP v.1) = 4
  ·rw [if_pos hk]
   exact Tends.pos (decide_eq_true hk) (.ret _)
  ·rw [if_neg hk]
   exact Tends.neg (by rw [decide_eq_true_eq]; exact hk) (.ret _)
def gapT (g : By) : Prop := ∃ b q, g = 37 :: b :: q ∧ (b = 37 ∨ b = 98 ∨ b = 107 ∨ b = 109 ∨ b = 112 ∨ (b = 123 ∧ q ≠ []))
theorem value_v (p : Pc) (e : EnT) (hp : p.1 = true → gapT p.2.1) (hpl : p.2.1.length ≤ 1000) (he : e.body.length ≤ 1000) : Tends (fun F => M_phrase_value F (p, e)) (if p.1 = true then valT e p.2.1 else p.2.1) := by
 obtain ⟨g, t, u⟩ := p
 unfold M_phrase_value
 cases g with
 | false => exact Tends.pos rfl (.ret _)
 | true =>
  obtain ⟨b, q, hq, hb⟩ := hp rfl
  simp only at hq hpl
  subst hq
  have hi : idx (37 :: b :: q : By) 1 = some b := idx_at _ 1 _ rfl
  have nv : ∀ k : UInt8, ((b.toNat : Int) = (k.toNat : Int)) = (b = k) := fun k => nvB b k
  have n98 : ((b.toNat : Int) = 98) = (b = 98) := nv 98
  have n107 : ((b.toNat : Int) = 107) = (b = 107) := nv 107
  have n109 : ((b.toNat : Int) = 109) = (b = 109) := nv 109
  have n112 : ((b.toNat : Int) = 112) = (b = 112) := nv 112
  have n37 : ((b.toNat : Int) = 37) = (b = 37) := nv 37
  refine Tends.neg (by show ¬ (!true) = true; decide) ?_
  refine Tends.bind (.of fun F => hi) ?_
  rw [if_pos rfl]
  unfold valT
  simp only [n98, n107, n109, n112, n37]
  by_cases c1 : b = 98
  ·rw [if_pos c1]; exact Tends.pos (decide_eq_true c1) (.ret _)
  rw [if_neg c1]
  refine Tends.neg (by rw [decide_eq_true_eq]; exact c1) ?_
  by_cases c2 : b = 107
  ·rw [if_pos c2]; exact Tends.pos (decide_eq_true c2) (.ret _)
  rw [if_neg c2]
  refine Tends.neg (by rw [decide_eq_true_eq]; exact c2) ?_
  by_cases c3 : b = 109
  ·rw [if_pos c3]; exact Tends.pos (decide_eq_true c3) (.ret _)
  rw [if_neg c3]
  refine Tends.neg (by rw [decide_eq_true_eq]; exact c3) ?_
  by_cases c4 : b = 112
  ·rw [if_pos c4]; exact Tends.pos (decide_eq_true c4) (.ret _)
  rw [if_neg c4]
  refine Tends.neg (by rw [decide_eq_true_eq]; exact c4) ?_
  by_cases c5 : b = 37
  ·rw [if_pos c5]; exact Tends.pos (decide_eq_true c5) (.ret _)
  rw [if_neg c5]
  refine Tends.neg (by rw [decide_eq_true_eq]; exact c5) ?_
  have hqn : q ≠ [] := by
   rcases hb with h | h | h | h | h | h
   ·exact absurd h c5
   ·exact absurd h c1
   ·exact absurd h c2
   ·exact absurd h c3
   ·exact absurd h c4
   ·exact h.2
  have hql := List.length_pos_iff.2 hqn
  simp only [List.length_cons] at hpl
  have hs : sub (37 :: b :: q : By) 2 (IntKind.i64.wrap (((37 :: b :: q : By).length : Int) - 1)) = some (q.take (q.length - 1)) := by
   have hw : IntKind.i64.wrap (((37 :: b :: q : By).length : Int) - 1) = ((q.length + 1 : Nat) : Int) := by
    simp only [List.length_cons]
    rw [wrap64 _ (by omega) (by omega)]
    omega
   rw [hw]
   have := sub_nat (37 :: b :: q : By) 2 (q.length + 1) (by omega) (by simp)
   rw [show (37 :: b :: q : By).drop 2 = q from rfl, show q.length + 1 - 2 = q.length - 1 by omega] at this
   exact this
  refine Tends.bind (r := ((memT e.body (q.take (q.length - 1)), ()) : By × Unit)) (Tends.bind (.of fun F => hs) (Tends.bind (member_v _ _ he) (.ret _))) (.ret _)
theorem gap_isT (r : By) (h : gapN (37 :: r) ≠ 0) : gapT ((37 :: r : By).take (gapN (37 :: r))) := by
 unfold gapN at h ⊢
 cases r with
 | nil => exact absurd rfl h
 | cons b q =>
  simp only at h ⊢
  by_cases hc : b = 37 ∨ b = 98 ∨ b = 107 ∨ b = 109 ∨ b = 112
  ·rw [if_pos hc]
   refine ⟨b, [], rfl, ?_⟩
   rcases hc with h | h | h | h | h <;> simp [h]
  ·rw [if_neg hc] at h ⊢
   by_cases hb : b = 123
   ·rw [if_pos hb] at h ⊢
    by_cases hk : (q.takeWhile (fun c => c != 125)).length < q.length ∧ nmP (q.takeWhile (fun c => c != 125)) = true
    ·rw [if_pos hk]
     refine ⟨b, q.take ((q.takeWhile (fun c => c != 125)).length + 1), ?_, ?_⟩
     ·rw [show (q.takeWhile (fun c => c != 125)).length + 3 = ((q.takeWhile (fun c => c != 125)).length + 1) + 1 + 1 by omega, List.take_succ_cons, List.take_succ_cons]
     ·refine .inr (.inr (.inr (.inr (.inr ⟨hb, ?_⟩))))
      intro hh
      have := congrArg List.length hh
      rw [List.length_take] at this
      simp only [List.length_nil] at this
      omega
    ·rw [if_neg hk] at h; exact absurd rfl h
   ·rw [if_neg hb] at h; exact absurd rfl h
theorem cut_gaps : ∀ (n : Nat) (s : By), s.length ≤ n → ∀ l, cutP s = some l → l.length ≤ s.length ∧ ∀ p ∈ l, (p.1 = true → gapT p.2.1) ∧ p.2.1.length ≤ s.length
 | 0, s, h, l, hl => by
  obtain rfl : s = [] := List.length_eq_zero_iff.1 (by omega)
  rw [cutP_nil] at hl
  cases hl
  exact ⟨Nat.le_refl _, fun p hp => by cases hp⟩
 | n + 1, s, h, l, hl => by
  cases s with
  | nil =>
   rw [cutP_nil] at hl
   cases hl
   exact ⟨Nat.le_refl _, fun p hp => by cases hp⟩
  | cons c r =>
   have hp := decodeL_pos (c :: r)
   have hgl := gapN_le (c :: r)
   simp only [List.length_cons] at h hgl ⊢
   rw [cutP_cons] at hl
   split at hl
   ·cases hl
   split at hl
   ·rename_i h37
    subst h37
    split at hl
    ·cases hl
    ·rename_i hg
     obtain ⟨l', h1, rfl⟩ := Option.map_eq_some_iff.1 hl
     obtain ⟨i1, i2⟩ := cut_gaps n ((37 :: r : By).drop (gapN (37 :: r))) (by rw [List.length_drop, List.length_cons]; omega) l' h1
     rw [List.length_drop, List.length_cons] at i1 i2
     refine ⟨by rw [List.length_cons]; omega, fun p hp => ?_⟩
     rcases List.mem_cons.1 hp with rfl | hp
     ·exact ⟨fun _ => gap_isT r hg, by simp only [List.length_take, List.length_cons]; omega⟩
     ·exact ⟨(i2 p hp).1, by have := (i2 p hp).2; omega⟩
   ·obtain ⟨l', h1, rfl⟩ := Option.map_eq_some_iff.1 hl
    obtain ⟨i1, i2⟩ := cut_gaps n ((c :: r).drop (decodeL (c :: r)).2) (by rw [List.length_drop, List.length_cons]; omega) l' h1
    rw [List.length_drop, List.length_cons] at i1 i2
    refine ⟨by rw [List.length_cons]; omega, fun p hp => ?_⟩
    rcases List.mem_cons.1 hp with rfl | hp
    ·exact ⟨fun hh => absurd hh Bool.false_ne_true, by simp only [List.length_take, List.length_cons]; omega⟩
    ·exact ⟨(i2 p hp).1, by have := (i2 p hp).2; omega⟩
/-! ### filling -/
theorem valT_len (e : EnT) (g : By) (h : e.key.length ≤ 1000 ∧ e.method.length ≤ 1000 ∧ e.path.length ≤ 1000 ∧ e.body.length ≤ 1000) : (valT e g).length ≤ 1000 := by
 unfold valT
 split
 ·repeat' split
  ·exact h.2.2.2
  ·exact h.1
  ·exact h.2.1
  ·exact h.2.2.1
  ·exact Nat.le_of_ble_eq_true rfl
  ·exact Nat.le_trans (mem_len _ _) (by decide)
 ·exact Nat.zero_le _
theorem flat_cons (val : By → By) (p : Pc) (l : List Pc) : flatL val (p :: l) = (if p.1 = true then val p.2.1 else p.2.1) ++ flatL val l := by unfold flatL; rw [List.flatMap_cons]
theorem fill0_loop (l : List Pc) (e : EnT) (hll : l.length ≤ 1000) (hl : ∀ p ∈ l, (p.1 = true → gapT p.2.1) ∧ p.2.1.length ≤ 1000) (he : e.key.length ≤ 1000 ∧ e.method.length ≤ 1000 ∧ e.path.length ≤ 1000 ∧ e.body.length ≤ 1000) : ∀ (n i : Nat) (out : By), i + n = l.length → out.length ≤ 1000 * i →
  TendsL M_phrase_Fill_l0 ((), (), l, (l.length : Int), (i : Int), e, ((), (), ()), out, ()) ((), ((), (), ()), out ++ flatL (valT e) (l.drop i), ())
 | 0, i, out, h, ho => by
  refine TendsL.fin (.of fun F => ?_)
  unfold M_phrase_Fill_l0
  rw [if_neg (by rw [decide_eq_true_eq]; simp only; omega), List.drop_eq_nil_of_le (by omega)]
  show some (Sum.inr ((), ((), (), ()), out, ())) = some (Sum.inr ((), ((), (), ()), out ++ [], ()))
  rw [List.append_nil]
 | n + 1, i, out, h, ho => by
  have hi : i < l.length := by omega
  have hx : idx l (i : Int) = some l[i] := idx_at _ _ _ (List.getElem?_eq_getElem hi)
  obtain ⟨p1, p2⟩ := hl l[i] (List.getElem_mem hi)
  have hv := value_v l[i] e p1 p2 he.2.2.2
  have hvl : (if l[i].1 = true then valT e l[i].2.1 else l[i].2.1).length ≤ 1000 := by
   split
   ·exact valT_len e _ he
   ·exact p2
  have hw : IntKind.i64.wrap ((i : Int) + 1) = ((i + 1 : Nat) : Int) := by rw [wrap64 _ (by omega) (by omega)]; omega
  rw [List.drop_eq_getElem_cons hi, flat_cons]
  generalize (if l[i].1 = true then valT e l[i].2.1 else l[i].2.1) = v at hv hvl
  refine TendsL.step (x' := ((), (), l, (l.length : Int), ((i + 1 : Nat) : Int), e, ((), (), ()), out ++ v, ())) ?_ ?_
  ·unfold M_phrase_Fill_l0
   refine Tends.pos (by rw [decide_eq_true_eq]; simp only; omega) ?_
   refine Tends.bind (.of fun F => hx) ?_
   refine Tends.bind hv ?_
   refine Tends.bind (r := (((v.length : Int), ()), (), out ++ v, ())) (.of fun F => ?_) (.of fun F => ?_)
   ·unfold M_strings_Builder_WriteString
    have : M_strings_Builder_copyCheck F ((), out, ()) = some ((), (), out, ()) := rfl
    simp only [this, Option.bind_some]
    rw [if_pos (by rw [decide_eq_true_eq]; omega)]
    rfl
   ·simp only [hw]
  ·have := fill0_loop l e hll hl he n (i + 1) (out ++ v) (by omega) (by rw [List.length_append]; omega)
   rw [List.append_assoc] at this
   exact this
def outL : List Int → By → By
 | [], acc => acc
 | n :: l, acc => if 40 < acc.length + (if sortI n = 0 then [63] else encN n.toNat).length then acc else outL l (acc ++ (if sortI n = 0 then [63] else encN n.toNat))
theorem runes_snoc (l : List Int) (n : Int) : runes8 (l ++ [n]) = runes8 l ++ enc8 n := by
 unfold runes8
 simp
theorem fill1_loop (T : By) : ∀ (n p : Nat) (R : List Int) (acc : By), p ≤ T.length → T.length - p ≤ n → runes8 R = acc → acc.length ≤ 40 → R.length ≤ 40 →
  ∃ R', TendsL M_phrase_Fill_l1 ((), (acc.length : Int), (), (T, p), R, ()) ((), R', ()) ∧ runes8 R' = outL ((signs (T.drop p)).map (·.1)) acc := by
 intro n
 induction n with
 | zero =>
  intro p R acc hp hn hR ha hr
  rw [List.drop_eq_nil_of_le (by omega), signs_nil]
  refine ⟨R, TendsL.fin (.of fun F => ?_), hR⟩
  unfold M_phrase_Fill_l1
  rw [if_neg (by rw [decide_eq_true_eq]; simp only; omega)]
 | succ n ih =>
  intro p R acc hp hn hR ha hr
  by_cases hlt : p < T.length
  case neg =>
   rw [List.drop_eq_nil_of_le (by omega), signs_nil]
   refine ⟨R, TendsL.fin (.of fun F => ?_), hR⟩
   unfold M_phrase_Fill_l1
   rw [if_neg (by rw [decide_eq_true_eq]; exact hlt)]
  have hne := drop_ne hlt
  have hra := runeAt_eq T p
  have hrl := runeLen_eq T p
  have hok := rune_ok (T.drop p)
  have hnx := next_le hlt
  have hpos := decodeL_pos (T.drop p)
  rw [signs_cons hne, List.drop_drop, List.map_cons]
  generalize (decodeL (T.drop p)).1 = c at *
  generalize (decodeL (T.drop p)).2 = k at *
  unfold outL
  simp only [Int.toNat_natCast]
  -- the sign that is let out
  obtain ⟨d, hd1, hd2, hd3⟩ : ∃ d : Nat, okR d ∧ (if sortI (c : Int) = 0 then [63] else encN c) = encN d ∧ (if sortI (c : Int) = 0 then (63 : Int) else (c : Int)) = (d : Int) := by
   by_cases h0 : sortI (c : Int) = 0
   ·exact ⟨63, by unfold okR; omega, by rw [if_pos h0]; rfl, by rw [if_pos h0]; rfl⟩
   ·exact ⟨c, hok, by rw [if_neg h0], by rw [if_neg h0]⟩
  have hrn := fun F => runeLen_N F d hd1
  have hel := encN_len d
  have hep := encN_pos d
  rw [hd2]
  have hw : IntKind.i64.wrap ((acc.length : Int) + ((encN d).length : Int)) = ((acc.length + (encN d).length : Nat) : Int) := by rw [wrap64 _ (by omega) (by omega)]; omega
  have hbody : ∀ (z : (Unit × Int × Unit × (By × Nat) × List Int × Unit) ⊕ (Unit × List Int × Unit)), (∀ F : Nat, (if decide (40 < ((acc.length + (encN d).length : Nat) : Int)) = true then some (Sum.inr ((), R, ())) else if decide ((R.length + [(d : Int)].length) * 4 ≤ 140737488355328) = true then some (Sum.inl ((), ((acc.length + (encN d).length : Nat) : Int), (), (T, p + k), R ++ [(d : Int)], ())) else none : Option ((Unit × Int × Unit × (By × Nat) × List Int × Unit) ⊕ (Unit × List Int × Unit))) = some z) → ∀ F, M_phrase_Fill_l1 F ((), (acc.length : Int), (), (T, p), R, ()) = some z := by
   intro z hz F
   have hz := hz F
   unfold M_phrase_Fill_l1
   rw [if_pos (by rw [decide_eq_true_eq]; exact hlt)]
   simp only [hra, hrl, sort_eq, Option.bind_some]
   have h9 : (if decide (sortI (c : Int) = 0) = true then some ((), (acc.length : Int), 63, (), (T, p + k), R, ()) else some ((), (acc.length : Int), (c : Int), (), (T, p + k), R, ()) : Option (Unit × Int × Int × Unit × (By × Nat) × List Int × Unit)) = some ((), (acc.length : Int), (d : Int), (), (T, p + k), R, ()) := by
    by_cases h0 : sortI (c : Int) = 0
    ·rw [if_pos (decide_eq_true h0)]
     rw [if_pos h0] at hd3
     rw [← hd3]
    ·rw [if_neg (by rw [decide_eq_true_eq]; exact h0)]
     rw [if_neg h0] at hd3
     rw [← hd3]
   rw [h9]
   simp only [Option.bind_some, hrn F, hw]
   exact hz
  by_cases h40 : 40 < acc.length + (encN d).length
  ·rw [if_pos h40]
   refine ⟨R, TendsL.fin (.of (hbody _ fun F => ?_)), hR⟩
   rw [if_pos (by rw [decide_eq_true_eq]; omega)]
  ·rw [if_neg h40]
   -- as many signs as bytes at most
   have hlen : ∀ l : List Int, (∀ n ∈ l, 1 ≤ (enc8 n).length) → l.length ≤ (runes8 l).length := by
    intro l
    induction l using list_snoc_ind with
    | h0 => intro _; exact Nat.zero_le _
    | h1 l a ih2 =>
     intro h
     have h1 := ih2 fun n hn => h n (List.mem_append_left _ hn)
     have h2 := h a (by simp)
     rw [runes_snoc, List.length_append, List.length_append, List.length_singleton]
     omega
   have henc : ∀ n : Int, 1 ≤ (enc8 n).length := fun n => by rw [e3]; exact encN_pos _
   have hRd : runes8 (R ++ [(d : Int)]) = acc ++ encN d := by rw [runes_snoc, hR, enc8_val d hd1]
   have hRl : (R ++ [(d : Int)]).length ≤ 40 := by
    have h3 := hlen (R ++ [(d : Int)]) (fun n _ => henc n)
    rw [hRd] at h3
    have h4 : (acc ++ encN d).length = acc.length + (encN d).length := List.length_append
    omega
   have hal : (acc ++ encN d).length = acc.length + (encN d).length := List.length_append
   obtain ⟨R', i1, i2⟩ := ih (p + k) (R ++ [(d : Int)]) (acc ++ encN d) hnx (by omega) hRd (by omega) hRl
   refine ⟨R', TendsL.step (.of (hbody _ fun F => ?_)) i1, i2⟩
   rw [if_neg (by rw [decide_eq_true_eq]; omega), if_pos (by rw [decide_eq_true_eq]; simp only [List.length_singleton]; omega), hal]
def fillT (s : By) (e : EnT) : By := if 60 < s.length then [] else match cutP s with
 | none => []
 | some l => outL ((signs (flatL (valT e) l)).map (·.1)) []
theorem fill_t (s : By) (e : EnT) (hs : s.length ≤ 1000) (he : e.key.length ≤ 1000 ∧ e.method.length ≤ 1000 ∧ e.path.length ≤ 1000 ∧ e.body.length ≤ 1000) : Tends (fun F => M_phrase_Fill F (s, e)) (fillT s e) := by
 unfold M_phrase_Fill fillT
 refine Tends.bind (cut_t s hs) ?_
 unfold cutT
 by_cases h6 : 60 < s.length
 ·rw [if_pos h6, if_pos h6]
  exact Tends.pos rfl (.ret _)
 rw [if_neg h6, if_neg h6]
 cases hc : cutP s with
 | none => exact Tends.pos rfl (.ret _)
 | some l =>
  obtain ⟨g1, g2⟩ := cut_gaps s.length s (Nat.le_refl _) l hc
  refine Tends.neg (by show ¬ (!true) = true; decide) ?_
  have h0 := fill0_loop l e (by omega) (fun p hp => ⟨(g2 p hp).1, by have := (g2 p hp).2; omega⟩) he l.length 0 [] (by omega) (by simp)
  rw [List.drop_zero, List.nil_append] at h0
  refine Tends.bind h0.run ?_
  refine Tends.bind (r := (flatL (valT e) l, ((), (), ()))) (.ret _) ?_
  obtain ⟨R', i1, i2⟩ := fill1_loop (flatL (valT e) l) (flatL (valT e) l).length 0 [] [] (Nat.zero_le _) (by omega) rfl (by decide) (by decide)
  rw [List.drop_zero] at i2
  show Tends _ (outL ((signs (flatL (valT e) l)).map (·.1)) [])
  rw [← i2]
  exact Tends.bind i1.run (.ret _)
end Go.Vm
/- The document's signs of a text, plainly. No condition but on lengths. -/
namespace Go.Vm
open Go.Lib (decodeL decodeN decodeL_N decode_N decodeN_shape decodeL_le)
set_option linter.unusedVariables false
set_option linter.unusedSimpArgs false
theorem signsLoop (s : List UInt8) (hs : s.length ≤ 1000000000000) (p : Nat) (hp : p ≤ s.length) (out at' : List Int) (ho : out.length + (s.length - p) ≤ 1000000000000) (ha : at'.length + (s.length - p) ≤ 1000000000000) :
  TendsL M_conciergeref04_Signs_l0 (s, (), (), (p : Int), out, at', ()) ((), (), out ++ (signs (s.drop p)).map (·.1), at' ++ ats p (signs (s.drop p)), ()) := by
 have main : ∀ n p out at', s.length - p ≤ n → p ≤ s.length → out.length + (s.length - p) ≤ 1000000000000 → at'.length + (s.length - p) ≤ 1000000000000 →
   TendsL M_conciergeref04_Signs_l0 (s, (), (), (p : Int), out, at', ()) ((), (), out ++ (signs (s.drop p)).map (·.1), at' ++ ats p (signs (s.drop p)), ()) := by
  intro n
  induction n with
  | zero =>
   intro p out at' hn hp ho ha
   have : p = s.length := by omega
   subst this
   refine TendsL.fin (Tends.of fun F => ?_)
   unfold M_conciergeref04_Signs_l0
   have h : ¬ ((s.length : Nat) : Int) < (s.length : Int) := by omega
   simp [h, signs_nil, ats]
  | succ n ih =>
   intro p out at' hn hp ho ha
   by_cases hlt : p < s.length
   ·have hpos := decodeL_pos (s.drop p)
    have hnx := next_le hlt
    have h : (p : Int) < (s.length : Int) := by omega
    have e1 : ((out.length : Int) + 1) * 8 ≤ 140737488355328 := by omega
    have e2 : ((at'.length : Int) + 1) * 8 ≤ 140737488355328 := by omega
    rw [signs_cons (drop_ne hlt), drop_next]
    refine TendsL.step (x' := (s, (), (), ((p + (decodeL (s.drop p)).2 : Nat) : Int), out ++ [((decodeL (s.drop p)).1 : Int)], at' ++ [(p : Int)], ())) (Tends.of fun F => ?_) ?_
    ·unfold M_conciergeref04_Signs_l0
     have e1' : (out.length + 1) * 8 ≤ 140737488355328 := by omega
     have e2' : (at'.length + 1) * 8 ≤ 140737488355328 := by omega
     simp only [h, decide_true, if_true, sub_to_end s p hp, Option.bind_some, first_eq F _ (drop_ne hlt), List.length_cons, List.length_nil, Nat.zero_add, e1', e2']
     rw [wrap64 _ (by omega) (by omega)]
     rfl
    ·have := ih (p + (decodeL (s.drop p)).2) (out ++ [((decodeL (s.drop p)).1 : Int)]) (at' ++ [(p : Int)]) (by omega) hnx (by simp; omega) (by simp; omega)
     simpa [ats, take_len hlt] using this
   ·have : p = s.length := by omega
    subst this
    refine TendsL.fin (Tends.of fun F => ?_)
    unfold M_conciergeref04_Signs_l0
    have h : ¬ ((s.length : Nat) : Int) < (s.length : Int) := by omega
    simp [h, signs_nil, ats]
 exact main _ p out at' (Nat.le_refl _) hp ho ha
theorem signs_tends (s : List UInt8) (hs : s.length ≤ 1000000000000) : Tends (fun F => M_conciergeref04_Signs F s) ((signs s).map (·.1), ats 0 (signs s)) := by
 unfold M_conciergeref04_Signs
 have := signsLoop s hs 0 (by omega) [] [] (by simp; omega) (by simp; omega)
 refine this.run.bind ?_
 exact Tends.of fun F => by simp
end Go.Vm
/- Phrases: the document's names, gaps and checks are the plain ones; the wake; the law of checks. No condition but on lengths. -/
namespace Go.Vm
open Go.Proofs
open Go.Lib (decodeL decodeN decodeL_N decode_N decodeN_shape decodeL_le)
set_option linter.unusedVariables false
set_option linter.unusedSimpArgs false
/-! ### names and gaps -/
theorem name22_loop (x : By) (hx : x.length ≤ 1000000) : ∀ (n i : Nat), i + n = x.length → TendsL M_conciergeref22_Name_l0 (x, (i : Int), ()) (if (x.drop i).all isNm = true then .inl (x, ()) else .inr (false, ()))
 | 0, i, h => by
  refine TendsL.fin (.of fun F => ?_)
  unfold M_conciergeref22_Name_l0
  rw [if_neg (by rw [decide_eq_true_eq]; simp only; omega), List.drop_eq_nil_of_le (by omega)]
  rfl
 | n + 1, i, h => by
  have hi : i < x.length := by omega
  have hx0 : idx x (i : Int) = some x[i] := idx_at _ _ _ (List.getElem?_eq_getElem hi)
  have hw : IntKind.i64.wrap ((i : Int) + 1) = ((i + 1 : Nat) : Int) := by rw [wrap64 _ (by omega) (by omega)]; omega
  rw [List.drop_eq_getElem_cons hi, List.all_cons]
  have ih := name22_loop x hx n (i + 1) (by omega)
  generalize x[i] = c at *
  have body : ∀ F, M_conciergeref22_Name_l0 F (x, (i : Int), ()) = some (if isNm c = true then .inl (x, ((i + 1 : Nat) : Int), ()) else .inr (.inr (false, ()))) := by
   intro F
   unfold M_conciergeref22_Name_l0
   rw [if_pos (by rw [decide_eq_true_eq]; simp only; omega)]
   simp only [hx0, Option.bind_some]
   unfold isNm
   by_cases a1 : 97 ≤ c.toNat
   ·have a1' : (97 : Int) ≤ (c.toNat : Int) := by omega
    by_cases a2 : c.toNat ≤ 122
    ·have a2' : (c.toNat : Int) ≤ 122 := by omega
     simp only [a1', a2', a1, a2, decide_true, if_true, Option.bind_some, Bool.true_eq_false, if_false, Bool.and_self, Bool.true_or, Bool.not_true, Bool.false_eq_true, hw]
    ·have a2' : ¬ (c.toNat : Int) ≤ 122 := by omega
     have a3 : (48 : Int) ≤ (c.toNat : Int) := by omega
     have a4 : ¬ (c.toNat : Int) ≤ 57 := by omega
     have a5 : ¬ c.toNat ≤ 57 := by omega
     simp only [a1', a2', a1, a2, a3, a4, a5, hx0, decide_true, decide_false, if_true, Option.bind_some, Bool.and_false, Bool.or_false, Bool.not_false, Bool.false_eq_true, if_false]
   ·have a1' : ¬ (97 : Int) ≤ (c.toNat : Int) := by omega
    by_cases a3 : 48 ≤ c.toNat
    ·have a3' : (48 : Int) ≤ (c.toNat : Int) := by omega
     by_cases a4 : c.toNat ≤ 57
     ·have a4' : (c.toNat : Int) ≤ 57 := by omega
      simp only [a1', a1, a3', a3, a4', a4, hx0, decide_true, decide_false, if_true, Option.bind_some, Bool.false_and, Bool.and_self, Bool.or_true, Bool.not_true, Bool.false_eq_true, if_false, hw]
     ·have a4' : ¬ (c.toNat : Int) ≤ 57 := by omega
      simp only [a1', a1, a3', a3, a4', a4, hx0, decide_true, decide_false, if_true, Option.bind_some, Bool.false_and, Bool.and_false, Bool.or_false, Bool.not_false, Bool.false_eq_true, if_false]
    ·have a3' : ¬ (48 : Int) ≤ (c.toNat : Int) := by omega
     simp only [a1', a1, a3', a3, hx0, decide_true, decide_false, if_true, Option.bind_some, Bool.false_and, Bool.or_false, Bool.not_false, Bool.false_eq_true, if_false]
  by_cases hc : isNm c = true
  ·rw [hc, Bool.true_and]
   exact TendsL.step (.of fun F => (body F).trans (by rw [if_pos hc])) ih
  ·have hc' : isNm c = false := by simpa using hc
   rw [hc', Bool.false_and]
   exact TendsL.fin (.of fun F => (body F).trans (by rw [if_neg hc]; rfl))
theorem name22_t (x : By) (hx : x.length ≤ 1000000) : Tends (fun F => M_conciergeref22_Name F x) (nmP x) := by
 unfold M_conciergeref22_Name nmP
 have h := name22_loop x hx x.length 0 (by omega)
 rw [List.drop_zero] at h
 refine Tends.bind h.run ?_
 by_cases ha : x.all isNm = true
 ·rw [if_pos ha, ha, Bool.true_and]
  simp only [sumC_inl]
  by_cases h1 : 1 ≤ x.length
  ·have h1' : (1 : Int) ≤ (x.length : Int) := by omega
   refine .of fun F => ?_
   rw [if_pos (decide_eq_true h1'), decide_eq_true h1, Bool.true_and]
   simp only [Option.bind_some]
   congr 1
   rw [Bool.eq_iff_iff, decide_eq_true_eq, decide_eq_true_eq]
   omega
  ·have h1' : ¬ (1 : Int) ≤ (x.length : Int) := by omega
   refine .of fun F => ?_
   rw [if_neg (by rw [decide_eq_true_eq]; exact h1'), decide_eq_false h1]
   rfl
 ·have ha' : x.all isNm = false := by simpa using ha
  rw [if_neg ha, ha']
  exact .of fun F => rfl
theorem gap22_loop (x : By) (hx : x.length ≤ 1000000) : ∀ (n i : Nat), i + n = x.length → TendsL M_conciergeref22_gap_l0 (x, (i : Int), ()) (x, ((i + ((x.drop i).takeWhile (fun c => c != 125)).length : Nat) : Int), ())
 | 0, i, h => by
  refine TendsL.fin (.of fun F => ?_)
  unfold M_conciergeref22_gap_l0
  rw [if_neg (by rw [decide_eq_true_eq]; simp only; omega), List.drop_eq_nil_of_le (by omega)]
  rfl
 | n + 1, i, h => by
  have hi : i < x.length := by omega
  have hx0 : idx x (i : Int) = some x[i] := idx_at _ _ _ (List.getElem?_eq_getElem hi)
  have hw : IntKind.i64.wrap ((i : Int) + 1) = ((i + 1 : Nat) : Int) := by rw [wrap64 _ (by omega) (by omega)]; omega
  have ih := gap22_loop x hx n (i + 1) (by omega)
  rw [List.drop_eq_getElem_cons hi]
  generalize x[i] = c at *
  have n125 : ((c.toNat : Int) = 125) = (c = 125) := nvB c 125
  by_cases hc : c = 125
  ·rw [List.takeWhile_cons_of_neg (by simpa using hc)]
   refine TendsL.fin (.of fun F => ?_)
   unfold M_conciergeref22_gap_l0
   rw [if_pos (by rw [decide_eq_true_eq]; simp only; omega)]
   simp only [hx0, Option.bind_some, n125, decide_eq_true hc]
   rfl
  ·rw [List.takeWhile_cons_of_pos (by simpa using hc), List.length_cons, show i + (((x.drop (i + 1)).takeWhile (fun c => c != 125)).length + 1) = i + 1 + ((x.drop (i + 1)).takeWhile (fun c => c != 125)).length by omega]
   refine TendsL.step (.of fun F => ?_) ih
   unfold M_conciergeref22_gap_l0
   rw [if_pos (by rw [decide_eq_true_eq]; simp only; omega)]
   simp only [hx0, Option.bind_some, n125, decide_eq_false hc, Bool.not_false, if_true, hw]
theorem gap22_t (a : UInt8) (r : By) (hr : r.length ≤ 1000) : Tends (fun F => M_conciergeref22_gap F (a :: r)) (gapN (a :: r) : Int) := by
 unfold M_conciergeref22_gap
 cases r with
 | nil => exact Tends.pos rfl (.ret _)
 | cons b q =>
  have h2 : ¬ (((a :: b :: q : By).length : Nat) : Int) < 2 := by simp; omega
  have hi : idx (a :: b :: q : By) 1 = some b := idx_at _ 1 _ rfl
  have n37 : ((b.toNat : Int) = 37) = (b = 37) := nvB b 37
  have n98 : ((b.toNat : Int) = 98) = (b = 98) := nvB b 98
  have n107 : ((b.toNat : Int) = 107) = (b = 107) := nvB b 107
  have n109 : ((b.toNat : Int) = 109) = (b = 109) := nvB b 109
  have n112 : ((b.toNat : Int) = 112) = (b = 112) := nvB b 112
  have n123 : ((b.toNat : Int) = 123) = (b = 123) := nvB b 123
  refine Tends.neg (by rw [decide_eq_true_eq]; exact h2) ?_
  simp only [hi, Option.bind_some, n37, n98, n107, n109, n112, n123]
  unfold gapN
  simp only
  have step : ∀ (p q' : Prop) [Decidable p] [Decidable q'], (if decide p = false then some ((a :: b :: q : By), decide q', ()) else some ((a :: b :: q : By), true, ()) : Option (By × Bool × Unit)) = some ((a :: b :: q : By), decide (p ∨ q'), ()) := by
   intro p q' _ _
   by_cases hp : p
   ·rw [decide_eq_true hp, if_neg (by decide), decide_eq_true (.inl hp)]
   ·rw [decide_eq_false hp, if_pos rfl]
    by_cases hq : q'
    ·rw [decide_eq_true hq, decide_eq_true (.inr hq)]
    ·rw [decide_eq_false hq, decide_eq_false (fun hh => hh.elim hp hq)]
  simp only [step, Option.bind_some, hi, n107, n109, n112]
  by_cases hc : b = 37 ∨ b = 98 ∨ b = 107 ∨ b = 109 ∨ b = 112
  ·have hc' : (((b = 37 ∨ b = 98) ∨ b = 107) ∨ b = 109) ∨ b = 112 := by
    rcases hc with h | h | h | h | h <;> simp [h]
   rw [if_pos hc]
   exact Tends.pos (decide_eq_true hc') (.ret _)
  ·have hc' : ¬ ((((b = 37 ∨ b = 98) ∨ b = 107) ∨ b = 109) ∨ b = 112) := by
    rintro ((((h | h) | h) | h) | h) <;> exact hc (by simp [h])
   rw [if_neg hc]
   refine Tends.neg (by rw [decide_eq_true_eq]; exact hc') ?_
   by_cases hb : b = 123
   ·rw [if_pos hb]
    refine Tends.neg (by simp only [n123, decide_eq_true hb]; decide) ?_
    simp only [List.length_cons] at hr
    have hl := gap22_loop (a :: b :: q) (by simp; omega) (q.length) 2 (by simp; omega)
    rw [show (a :: b :: q : By).drop 2 = q from rfl] at hl
    have h2' : (((2 : Nat) : Nat) : Int) = 2 := rfl
    refine Tends.bind hl.run ?_
    have htl : (q.takeWhile (fun c => c != 125)).length ≤ q.length := (List.takeWhile_prefix _).length_le
    by_cases hk : (q.takeWhile (fun c => c != 125)).length < q.length
    ·have hne : ¬ (((2 + (q.takeWhile (fun c => c != 125)).length : Nat) : Int) = ((a :: b :: q : By).length : Int)) := by simp only [List.length_cons]; omega
     have hs : sub (a :: b :: q : By) 2 ((2 + (q.takeWhile (fun c => c != 125)).length : Nat) : Int) = some (q.takeWhile (fun c => c != 125)) := by
      have := sub_nat (a :: b :: q : By) 2 (2 + (q.takeWhile (fun c => c != 125)).length) (by omega) (by simp only [List.length_cons]; omega)
      refine (this : _ = _).trans ?_
      rw [show (a :: b :: q : By).drop 2 = q from rfl, Nat.add_sub_cancel_left]
      congr 1
      conv => rhs; rw [← List.take_length (l := q.takeWhile (fun c => c != 125))]
      exact (congrArg (List.take _) (List.takeWhile_append_dropWhile (p := fun c => c != 125) (l := q)).symm).trans (List.take_append_of_le_length (Nat.le_refl _))
     have hn := name22_t (q.takeWhile (fun c => c != 125)) (by omega)
     refine Tends.bind (r := ((((2 + (q.takeWhile (fun c => c != 125)).length : Nat) : Int), !(nmP (q.takeWhile (fun c => c != 125))), ()) : Int × Bool × Unit)) (Tends.pos (decide_eq_false hne) (Tends.bind (.of fun F => hs) (Tends.bind hn (.ret _)))) ?_
     by_cases hnm : nmP (q.takeWhile (fun c => c != 125)) = true
     ·have hg : (if (q.takeWhile (fun c => c != 125)).length < q.length ∧ nmP (q.takeWhile (fun c => c != 125)) = true then (q.takeWhile (fun c => c != 125)).length + 3 else 0) = (q.takeWhile (fun c => c != 125)).length + 3 := if_pos ⟨hk, hnm⟩
      rw [hg, hnm]
      refine Tends.neg (by show ¬ (!true) = true; decide) (.of fun F => ?_)
      simp only
      rw [wrap64 _ (by omega) (by omega)]
      congr 1
      omega
     ·have hnm' : nmP (q.takeWhile (fun c => c != 125)) = false := by simpa using hnm
      have hg : (if (q.takeWhile (fun c => c != 125)).length < q.length ∧ nmP (q.takeWhile (fun c => c != 125)) = true then (q.takeWhile (fun c => c != 125)).length + 3 else 0) = 0 := if_neg (fun hh => hnm hh.2)
      rw [hg, hnm']
      exact Tends.pos rfl (.ret _)
    ·have he : (((2 + (q.takeWhile (fun c => c != 125)).length : Nat) : Int) = ((a :: b :: q : By).length : Int)) := by simp only [List.length_cons]; omega
     have hg : (if (q.takeWhile (fun c => c != 125)).length < q.length ∧ nmP (q.takeWhile (fun c => c != 125)) = true then (q.takeWhile (fun c => c != 125)).length + 3 else 0) = 0 := if_neg (fun hh => hk hh.1)
     rw [hg]
     refine Tends.bind (r := ((((2 + (q.takeWhile (fun c => c != 125)).length : Nat) : Int), true, ()) : Int × Bool × Unit)) (Tends.neg (by rw [decide_eq_true he]; decide) (.ret _)) ?_
     exact Tends.pos rfl (.ret _)
   ·rw [if_neg hb]
    exact Tends.pos (by simp only [n123, decide_eq_false hb]; rfl) (.ret _)
/-! ### checks -/
theorem sorts22_loop (s : By) (l : List Int) (hl : l.length ≤ 1000000) : ∀ (n i : Nat), i + n = l.length → TendsL M_conciergeref22_Check_l0 (s, l, (i : Int), ()) (if (l.drop i).all (fun x => decide (sortI x ≠ 0)) = true then .inl (s, ()) else .inr (false, ()))
 | 0, i, h => by
  refine TendsL.fin (.of fun F => ?_)
  unfold M_conciergeref22_Check_l0
  rw [if_neg (by rw [decide_eq_true_eq]; simp only; omega), List.drop_eq_nil_of_le (by omega)]
  rfl
 | n + 1, i, h => by
  have hi : i < l.length := by omega
  have hx0 : idx l (i : Int) = some l[i] := idx_at _ _ _ (List.getElem?_eq_getElem hi)
  have hw : IntKind.i64.wrap ((i : Int) + 1) = ((i + 1 : Nat) : Int) := by rw [wrap64 _ (by omega) (by omega)]; omega
  have ih := sorts22_loop s l hl n (i + 1) (by omega)
  rw [List.drop_eq_getElem_cons hi, List.all_cons]
  generalize l[i] = c at *
  by_cases h0 : sortI c = 0
  ·rw [decide_eq_false (fun hh => hh h0), Bool.false_and]
   refine TendsL.fin (.of fun F => ?_)
   unfold M_conciergeref22_Check_l0
   rw [if_pos (by rw [decide_eq_true_eq]; simp only; omega)]
   simp only [hx0, Option.bind_some, refSort_eq, decide_eq_true h0]
   rfl
  ·rw [decide_eq_true h0, Bool.true_and]
   refine TendsL.step (.of fun F => ?_) ih
   unfold M_conciergeref22_Check_l0
   rw [if_pos (by rw [decide_eq_true_eq]; simp only; omega)]
   simp only [hx0, Option.bind_some, refSort_eq, decide_eq_false h0, Bool.false_eq_true, if_false, hw]
theorem toks22_loop (s : By) (hs : s.length ≤ 1000) : ∀ (n p : Nat), s.length - p ≤ n → p ≤ s.length → TendsL M_conciergeref22_Check_l1 (s, (p : Int), ()) (match tokP (s.drop p) with
  | some _ => .inl (s, ())
  | none => .inr (false, ())) := by
 intro n
 induction n with
 | zero =>
  intro p hn hp
  refine TendsL.fin (.of fun F => ?_)
  unfold M_conciergeref22_Check_l1
  rw [if_neg (by rw [decide_eq_true_eq]; simp only; omega), List.drop_eq_nil_of_le (by omega), tokP_nil]
 | succ n ih =>
  intro p hn hp
  by_cases hlt : p < s.length
  case neg =>
   refine TendsL.fin (.of fun F => ?_)
   unfold M_conciergeref22_Check_l1
   rw [if_neg (by rw [decide_eq_true_eq]; simp only; omega), List.drop_eq_nil_of_le (by omega), tokP_nil]
  have hd : s.drop p = s[p] :: s.drop (p + 1) := List.drop_eq_getElem_cons hlt
  have hx0 : idx s (p : Int) = some s[p] := idx_at _ _ _ (List.getElem?_eq_getElem hlt)
  have hse := sub_to_end s p (by omega)
  have hlen : (s.drop p).length = s.length - p := List.length_drop
  have hw1 : IntKind.i64.wrap ((p : Int) + 1) = ((p + 1 : Nat) : Int) := by rw [wrap64 _ (by omega) (by omega)]; omega
  have ih1 := ih (p + 1) (by omega) (by omega)
  have hdd : ∀ m, (s.drop p).drop m = s.drop (p + m) := fun m => List.drop_drop
  rw [hd] at hse hlen hdd ⊢
  rw [tokP_cons]
  generalize hr : s.drop (p + 1) = r at *
  generalize s[p] = c at *
  have n37 : ((c.toNat : Int) = 37) = (c = 37) := nvB c 37
  by_cases h37 : c = 37
  ·rw [if_pos h37]
   have hgle := gapN_le (c :: r)
   have h1 := gapN_one (c :: r)
   have hgt := gap22_t c r (by simp only [List.length_cons] at hlen; omega)
   have hbody : ∀ z, Tends (fun F => (if decide ((gapN (c :: r) : Int) = 0) = true then some (Sum.inr (Sum.inr (false, ()))) else some (Sum.inl (s, IntKind.i64.wrap ((p : Int) + (gapN (c :: r) : Int)), ())) : Option ((By × Int × Unit) ⊕ (By × Unit ⊕ Bool × Unit)))) z → Tends (fun F => M_conciergeref22_Check_l1 F (s, (p : Int), ())) z := by
    intro z hz
    unfold M_conciergeref22_Check_l1
    refine Tends.pos (by rw [decide_eq_true_eq]; simp only; omega) ?_
    refine Tends.bind (.of fun F => hx0) ?_
    refine Tends.neg (by simp only [n37, decide_eq_true h37]; decide) ?_
    refine Tends.bind (.of fun F => hse) ?_
    exact Tends.bind hgt hz
   by_cases hg : gapN (c :: r) = 0
   ·rw [if_pos hg]
    exact TendsL.fin (hbody _ (Tends.pos (by rw [decide_eq_true_eq]; omega) (.ret _)))
   ·rw [if_neg hg]
    have hw : IntKind.i64.wrap ((p : Int) + (gapN (c :: r) : Int)) = ((p + gapN (c :: r) : Nat) : Int) := by rw [wrap64 _ (by omega) (by omega)]; omega
    have ihg := ih (p + gapN (c :: r)) (by omega) (by omega)
    rw [← hdd] at ihg
    refine TendsL.step (hbody (.inl (s, ((p + gapN (c :: r) : Nat) : Int), ())) (Tends.neg (by rw [decide_eq_true_eq]; omega) (.of fun F => by rw [hw]))) ?_
    cases hx : tokP ((c :: r).drop (gapN (c :: r))) with
    | none => rw [hx] at ihg; exact ihg
    | some l => rw [hx] at ihg; exact ihg
  ·rw [if_neg h37]
   refine TendsL.step (x' := (s, ((p + 1 : Nat) : Int), ())) (.of fun F => ?_) ?_
   ·unfold M_conciergeref22_Check_l1
    rw [if_pos (by rw [decide_eq_true_eq]; simp only; omega)]
    simp only [hx0, Option.bind_some, n37, decide_eq_false h37, Bool.not_false, if_true, hw1]
   ·cases hx : tokP r with
    | none => rw [hx] at ih1; exact ih1
    | some l => rw [hx] at ih1; exact ih1
theorem allS_map (s : By) : allS s = ((signs s).map (·.1)).all (fun x => decide (sortI x ≠ 0)) := by unfold allS; rw [List.all_map]; rfl
def checkT (s : By) : Bool := decide (s.length ≤ 60) && (cutP s).isSome
theorem check_tok (s : By) : (allS s && (tokP s).isSome) = (cutP s).isSome := by
 have h := cut_tok s.length s (Nat.le_refl _)
 cases hc : cutP s with
 | none =>
  rw [hc] at h
  rcases h with h | h
  ·rw [h]; rfl
  ·rw [h]; simp
 | some l =>
  rw [hc] at h
  obtain ⟨h1, m, h2, _⟩ := h
  rw [h1, h2]
  rfl
theorem check22_t (s : By) (hs : s.length ≤ 1000) : Tends (fun F => M_conciergeref22_Check F s) (checkT s) := by
 unfold M_conciergeref22_Check
 have hsl := signs_len s
 refine Tends.bind (signs_tends s (by omega)) ?_
 have h0 := sorts22_loop s ((signs s).map (·.1)) (by rw [List.length_map]; omega) ((signs s).map (·.1)).length 0 (by omega)
 rw [List.drop_zero, ← allS_map] at h0
 refine Tends.bind h0.run ?_
 have hct := check_tok s
 unfold checkT
 rw [← hct]
 by_cases ha : allS s = true
 ·rw [if_pos ha, ha, Bool.true_and]
  simp only [sumC_inl]
  have h1 := toks22_loop s hs s.length 0 (by omega) (by omega)
  rw [List.drop_zero] at h1
  refine Tends.bind h1.run ?_
  cases tokP s with
  | none => exact .of fun F => by simp [sumC_inr]
  | some m =>
   refine .of fun F => ?_
   simp only [sumC_inl, Option.isSome_some, Bool.and_true]
   congr 1
   rw [Bool.eq_iff_iff, decide_eq_true_eq, decide_eq_true_eq]
   omega
 ·have ha' : allS s = false := by simpa using ha
  rw [if_neg ha, ha', Bool.false_and, Bool.and_false]
  exact .of fun F => rfl
theorem check_v (s : By) (hs : s.length ≤ 1000) : Tends (fun F => M_phrase_Check F s) (checkT s) := by
 unfold M_phrase_Check
 refine Tends.bind (cut_t s hs) (.of fun F => ?_)
 unfold cutT checkT
 by_cases h6 : 60 < s.length
 ·rw [if_pos h6, decide_eq_false (by omega)]; rfl
 ·rw [if_neg h6, decide_eq_true (by omega)]
  cases cutP s <;> rfl
end Go.Vm
