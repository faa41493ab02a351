/- Part 2 of an abstract value machine: a framework of this session's own, in which functions of the program are run once and for all inputs. No condition. -/
import Derived.Test.YtblbmkhlnaaopaaV1
import Derived.Below
import Derived.WideShapes
/- The abstract value machine: eff is sound. -/
namespace Go.Vm
open Go.Lib
set_option linter.unusedVariables false
variable {K : Type} {E : K → Type}
variable {T : Tab E} {P : Program} {w0 : World} {G : GP} {st : St E} {a : Act} {w : World} {g : Gh}

theorem rangeB_ok (dst : Option Nat) {t : TypeId} {x : DV E} {v : Value} (h : Inv T w0 G st a w g) (hx : RepT T w (free st.mem g) g x v) (out : Out E) (hh : (rangeB P t x dst st.mem).has out) :
    Good2 T P w0 G st a w g dst out (do pure (.value (← Instr.range t v))) := by
  unfold rangeB at hh
  split at hh
  case h_2 => exact (not_bad hh).elim
  rename_i s d
  split at hh
  case isFalse => exact (not_bad hh).elim
  rename_i ht
  obtain ⟨_, _, rfl⟩ := hh
  obtain rfl := repT_str hx
  have hu := isStrT_spec ht
  refine .inl ⟨_, _, upd g (64 * d) (.pointer (some ⟨w.heap.size, 0, none⟩)), ?_, h.alloc (64 * d) (.siter s 0) (.stringIter ⟨s.toArray⟩ 0) _ _ rfl ?_⟩
  · simp [Instr.range, run_underlying hu]
  · intro X' _
    exact ⟨w.heap.size, rfl, heap_alloc_new w _⟩

theorem heap_set_other (w : World) (r k : Nat) (o : Obj) (h : k ≠ r) : ({ w with heap := w.heap.setIfInBounds r o } : World).heap[k]? = w.heap[k]? := by
  simp [Array.getElem?_setIfInBounds_ne (Ne.symm h)]

theorem nextB_ok (dst : Option Nat) {ty : TypeId} {x : DV E} {s : Bool} {v : Value} (h : Inv T w0 G st a w g) (hx : RepT T w (free st.mem g) g x v) (out : Out E) (hh : (nextB x s st.mem).has out) :
    Good2 T P w0 G st a w g dst out (do pure (.value (← Instr.next v s ty))) := by
  unfold nextB at hh
  split at hh
  case h_2 => exact (not_bad hh).elim
  rename_i n
  split at hh
  case h_2 => exact (not_bad hh).elim
  rename_i s' pos hlook
  obtain ⟨b, hg, rfl⟩ := repT_ptr hx
  obtain ⟨b', h1, h2⟩ := h.mm n _ (look_mem hlook)
  rw [hg] at h1
  cases h1
  have hss : (⟨s'.toArray⟩ : ByteArray).size = s'.length := rfl
  by_cases hp : pos < s'.length
  · have hh : (Cal.one ⟨.tup [.bool true, .int .i64 pos, .int .i32 (runeAt s' pos)], [], some (setB st.mem n (.siter s' (pos + runeLen s' pos)))⟩ : Cal E).has out := by
      simpa [Cal.has, hp] using hh
    obtain ⟨_, _, rfl⟩ := hh
    have hrun : (Instr.next (.pointer (some ⟨b, 0, none⟩)) true ty).run P w = .ok (.tuple #[.bool true, .int .i64 pos, .int .i32 (runeAt s' pos)]) { w with heap := w.heap.setIfInBounds b (.stringIter ⟨s'.toArray⟩ (pos + runeLen s' pos)) } := by
      have hget : (getObj b).run P w = .ok (.stringIter ⟨s'.toArray⟩ pos) w := by simp [getObj, Sem.run, h2]
      have hset : ∀ o : Obj, (setObj b o).run P w = .ok () { w with heap := w.heap.setIfInBounds b o } := by intro o; simp [setObj, Sem.run, h2]
      simp only [Instr.next, Sem.run_bind, hget, Result.andThen_ok, hss, hp, if_true, hset, Sem.run_pure]
      rfl
    have hblk : blk (g n) = some b := by rw [hg]; rfl
    refine .inl ⟨_, _, g, by simp only [Sem.run_bind, hrun, Result.andThen_ok, Sem.run_pure]; rfl, ?_⟩
    refine h.write n (.siter s' (pos + runeLen s' pos)) (look_names hlook) ?_ ?_ (no_rptr h hg) dst _ _ ?_ (fun _ _ _ _ e => by cases e)
    · rw [hblk]
      exact ⟨rfl, rfl, rfl, by simp, fun k hk hne => heap_set_other w b k _ fun e => hne (by rw [e])⟩
    · exact ⟨b, hg, by simp only [Array.getElem?_setIfInBounds, if_true, if_pos (heap_lt h2)]⟩
    · refine ⟨_, rfl, rfl, ?_⟩
      intro i hi hi'
      have : i = 0 ∨ i = 1 ∨ i = 2 := by simp at hi; omega
      rcases this with rfl | rfl | rfl
      · exact ⟨Rep.bool true, rfl⟩
      · exact ⟨Rep.int rfl, rfl⟩
      · exact ⟨Rep.int rfl, rfl⟩
  · have hh : (Cal.v (.tup [.bool false]) : Cal E).has out := by simpa [Cal.has, hp] using hh
    rw [has_v hh]
    have hrun : (Instr.next (.pointer (some ⟨b, 0, none⟩)) true ty).run P w = .ok (.tuple #[.bool false]) w := by
      have hget : (getObj b).run P w = .ok (.stringIter ⟨s'.toArray⟩ pos) w := by simp [getObj, Sem.run, h2]
      simp only [Instr.next, Sem.run_bind, hget, Result.andThen_ok, hss, hp, if_false, Sem.run_pure]
    refine .inl ⟨.tuple #[.bool false], w, g, by simp only [Sem.run_bind, hrun, Result.andThen_ok, Sem.run_pure], h.put dst ?_ (fun _ _ _ _ e => by cases e)⟩
    refine ⟨_, rfl, rfl, ?_⟩
    intro i hi hi'
    have : i = 0 := by simp at hi; omega
    subst this
    exact ⟨Rep.bool false, rfl⟩

theorem isU8_spec {e : TypeId} (h : isU8 P e = true) : P.underlying e = some (.int .u8) := by
  unfold isU8 at h; split at h <;> simp_all

theorem convB_ok (dst : Option Nat) {src ds : TypeId} {x : DV E} {v : Value} (h : Inv T w0 G st a w g) (hx : RepT T w (free st.mem g) g x v) (out : Out E) (hh : (convB T P src ds x st.mem).has out) :
    Good2 T P w0 G st a w g dst out (do pure (.value (← convert src ds v))) := by
  unfold convB at hh
  split at hh
  case h_2 => exact (not_bad hh).elim
  rename_i n k l e hl he
  split at hh
  case isFalse => exact (not_bad hh).elim
  rename_i hc
  simp only [Bool.and_eq_true] at hc
  split at hh
  case h_2 => exact (not_bad hh).elim
  rename_i s hs
  rw [has_v hh]
  obtain ⟨_, rfl, hn, e', hr⟩ := rowL_spec h hl hx
  have hrep := rep_of_row (Y := fun _ => True) (hr.mono (fun b hb hlt => ⟨trivial, hlt, rfl⟩) fun _ _ => rfl) (fun _ _ => trivial)
  have := bytes_conv (P := P) (g := g) (elemT_spec he) (isU8_spec hc.1) (isStrT_spec hc.2) hs (Rep.toT hrep)
  exact .inl ⟨_, w, g, by simp only [Sem.run_bind, this, Result.andThen_ok, Sem.run_pure], h.put dst (rStr s) (fun _ _ _ _ e => by cases e)⟩

theorem nilRow_ok (orc : Orc) (dst : Option Nat) {t : TypeId} {x : DV E} {v : Value} (h : Inv T w0 G st a w g) (hx : RepT T w (free st.mem g) g x v) (out : Out E) (hh : (nilRow T P orc t x dst st.mem).has out) :
    Good2 T P w0 G st a w g dst out (pure (.value v)) := by
  unfold nilRow at hh
  split at hh
  case h_2 => exact (not_bad hh).elim
  rename_i e d he
  split at hh
  case h_2 => exact (not_bad hh).elim
  rename_i k hk
  obtain ⟨_, _, rfl⟩ := hh
  obtain rfl := repT_nils hx
  refine .inl ⟨_, w, upd g (64 * d) (.slice none 0 0), rfl, ?_⟩
  exact h.renew (64 * d) (.row e k []) _ none (Kept.refl w) (fun _ h => by cases h) (fun b hb => by cases hb) (RepRow.mk' (World.ownsRow_nil w 0 e (T.sz k)) (.nil k)) _ (.rowp (64 * d)) _
    (by show _ = upd g (64 * d) _ (64 * d); rw [upd_same]) (fun _ _ _ _ h => by cases h)

theorem eff_ok (env : Env E) (henv : ∀ f, Ctr T P f (env f)) (orc : Orc) (h : Inv T w0 G st a w g) (o : Oper) (out : Out E) (hh : (eff T P env orc o st.ev st.mem).has out) (next : Act → World → Prop) (Q : Exit → Act → World → Prop)
    (hnext : ∀ v w' g', Inv T w0 G (st.app o.dst out) (a.put o.dst v) w' g' → next (a.put o.dst v) w') : o.wp P a w next Q := by
  unfold eff at hh
  split at hh
  · rename_i c he
    obtain ⟨h1, h2, v, hr, hrep⟩ := eff1_ok o st.ev a.eval h.ev c he out hh
    have ho : out = val out.v := by
      obtain ⟨v', ks, m⟩ := out
      simp only at h1 h2
      subst h1; subst h2
      rfl
    refine Good2.wp (g := g) (dst := o.dst) (.inl ⟨v, w, g, hr, ?_⟩) next Q hnext
    rw [ho]
    exact h.put o.dst hrep (eff1_noR h he hh)
  · rename_i he
    by_cases hcall : ∃ f as ats, o.op = .call { callee := .value f, args := as, argTypes := ats }
    · obtain ⟨f, as, ats, ho⟩ := hcall
      unfold eff2 at hh
      simp only [ho] at hh
      exact callD_ok env henv orc h o f as ats _ ho out hh next Q hnext
    · refine Good2.wp (g := g) (dst := o.dst) ?_ next Q hnext
      obtain ⟨dst, op, ty, pos, aft, guard⟩ := o
      cases op <;> simp only [eff2] at hh <;> try (exact (not_bad hh).elim)
      case move x => exact nilRow_ok orc dst h (h.ev x) out hh
      case assign x => exact nilRow_ok orc dst h (h.ev x) out hh
      case alloc t =>
        split at hh
        case h_2 => exact (not_bad hh).elim
        rename_i z hz
        obtain ⟨i, hi, hiz⟩ := Option.bind_eq_some_iff.1 hz
        refine newCells_ok dst h z (zero_cells z) out hh (Instr.alloc t true (.tuple #[])) ?_
        simp only [Instr.alloc, Sem.run_bind, zeroValue, typeInfo, run_program, hi, hiz, Sem.run_pure, Result.andThen_ok, newVar_run]
      case box t x =>
        split at hh
        case isFalse => exact (not_bad hh).elim
        rename_i hs
        refine newCells_ok dst h (a.eval x) (cells_of (h.ev x) hs) out hh (Instr.box t (a.eval x)) ?_
        simp only [Instr.box, Sem.run_bind, newVar_run, Result.andThen_ok, Sem.run_pure]
      case load t x => exact loadB_ok dst h (h.ev x) out hh
      case store t x y =>
        split at hh
        case isFalse => exact (not_bad hh).elim
        rename_i hc
        simp only [Bool.and_eq_true, Option.isNone_iff_eq_none] at hc
        obtain ⟨rfl, hk⟩ := hc
        exact storeB_ok h (h.ev x) (h.ev y) out (by rw [if_pos hk]; exact hh)
      case buildSlice t len parts => exact litD_ok orc dst len parts st.ev a.eval h.ev h out hh
      case indexAddr t x i => exact indexB_ok dst h (h.ev x) (h.ev i) out hh
      case slice t x lo hi mx =>
        cases mx with
        | some m => exact (not_bad hh).elim
        | none => exact sliceB_ok dst st.ev a.eval h.ev lo hi h (h.ev x) out hh
      case convert src ds x => exact convB_ok dst h (h.ev x) out hh
      case range t x => exact rangeB_ok dst h (h.ev x) out hh
      case next x s => exact nextB_ok dst h (h.ev x) out hh
      case call cl =>
        obtain ⟨callee, args, argTypes⟩ := cl
        cases callee with
        | value f => exact absurd ⟨f, args, argTypes, rfl⟩ hcall
        | invoke r m => exact (not_bad hh).elim
        | builtin b =>
          cases b <;> simp only at hh <;> try (exact (not_bad hh).elim)
          case append =>
            split at hh
            · rename_i s x t xt ha hat
              have e1 : args = #[s, x] := by apply Array.ext'; simpa using ha
              have e2 : argTypes = #[t, xt] := by apply Array.ext'; simpa using hat
              subst e1; subst e2
              have := appendD_ok (T := T) (P := P) (ty := ty) dst h (h.ev s) (h.ev x) out hh
              simpa [execOp, resolve, invoke, builtin] using this
            · exact (not_bad hh).elim
          case len =>
            split at hh
            · rename_i x t ha hat
              split at hh
              case isFalse => exact (not_bad hh).elim
              rename_i ht
              obtain ⟨e, het⟩ := Option.isSome_iff_exists.1 ht
              have e1 : args = #[x] := by apply Array.ext'; simpa using ha
              have e2 : argTypes = #[t] := by apply Array.ext'; simpa using hat
              subst e1; subst e2
              have := lenB_ok (T := T) (P := P) (ty := ty) dst (elemT_spec het) h (h.ev x) out hh
              simpa [execOp, resolve, invoke, builtin] using this
            · exact (not_bad hh).elim

end Go.Vm

/- The abstract value machine: regions, in every order that Go leaves open. -/
namespace Go.Vm
open Go.Lib
set_option linter.unusedVariables false
variable {K : Type} {E : K → Type}

/-- One operation, as it went in the text's order. -/
structure Rec (E : K → Type) where
  i : Nat
  o : Oper
  out : Out E
  free : Bool
  reads : List (DV E)

def dstOf (ops : Array Oper) (j : Nat) : Option Nat := (ops[j]?).bind (·.dst)

def isJunk : DV E → Bool
  | .junk => true
  | _ => false

def Rec.pure (r : Rec E) : Bool := r.out.kills.isEmpty && r.out.mem.isNone
/-- Does nothing of it die with these names? -/
def Rec.calm (r : Rec E) (ns : List Nat) : Bool := r.pure && !r.out.v.touch' ns && r.reads.all fun d => !d.touch' ns && !isJunk d

def commB (ops : Array Oper) (a b : Rec E) : Bool :=
  a.o.apart ops b.o && ((a.pure && b.pure) || (a.free && a.calm b.out.kills) || (b.free && b.calm a.out.kills))

def mask1 (prev : List Nat) (o : Oper) : Nat := o.after.toList.foldl (fun s e => if Region.binds .any e then s ||| (1 <<< e.on) ||| prev.getD e.on 0 else s) 0
def masksGo : List Nat → List Oper → List Nat
  | prev, [] => prev
  | prev, o :: r => masksGo (prev ++ [mask1 prev o]) r
def masks (ops : Array Oper) : List Nat := masksGo [] ops.toList

def okPair (ms : List Nat) (ops : Array Oper) (b a : Rec E) : Bool := (ms.getD b.i 0).testBit a.i || commB ops a b

/-- Pairs whose places are apart, reckoned once for a region. -/
def apB (ops : Array Oper) (i j : Nat) : Bool := match ops[i]?, ops[j]? with
  | some a, some b => a.apart ops b
  | _, _ => false
def apMask (ops : Array Oper) (j : Nat) : Nat := (List.range j).foldl (fun s i => if apB ops i j = true then s ||| (1 <<< i) else s) 0
def apMasks (ops : Array Oper) : List Nat := (List.range ops.size).map (apMask ops)
def okFast (ms ap : List Nat) (ops : Array Oper) (b a : Rec E) : Bool := (ms.getD b.i 0).testBit a.i || ((ap.getD b.i 0).testBit a.i && (a.pure && b.pure)) || commB ops a b

/-- Do all edges lead back? -/
def edgesBack (ops : Array Oper) : Bool := ops.toList.zipIdx.all fun x => x.1.after.toList.all fun e => !Region.binds .any e || decide (e.on < x.2)

/-- What is passed over leaves: nothing, told by the tuple of nothing. -/
def skipO : Out E := val (.tup [])

section
variable (T : Tab E) (P : Program) (env : Env E) (orc : Orc) (ops : Array Oper)

/-- One operation of a region, from its place on. -/
def stepK {β : Type} (st : St E) (i : Nat) (K : Rec E → St E → Option β) : Option β :=
  match ops[i]? with
  | none => none
  | some o =>
    match o.guard with
    | none =>
      (eff T P env orc o st.ev st.mem).run fun out => K ⟨i, o, out, (eff1 T P orc o st.ev).isSome, o.op.operands.toList.map st.ev⟩ (st.app o.dst out)
    | some (j, w) =>
      match dstOf ops j with
      | none => none
      | some d =>
        match st.tmps.getD d .junk with
        | .bool b =>
          if b = w then
            (eff T P env orc o (st.set d (.bool w)).ev st.mem).run fun out =>
              K ⟨i, o, out, (eff1 T P orc o (st.set d (.bool w)).ev).isSome, o.op.operands.toList.map (st.set d (.bool w)).ev⟩ ((st.set d (.bool w)).app o.dst out)
          else K ⟨i, o, skipO, true, []⟩ ((st.set d (.bool (!w))).app o.dst skipO)
        | .tup [] => K ⟨i, o, skipO, true, []⟩ (st.app o.dst skipO)
        | _ => none

def runOps {β : Type} (ms : Option (List Nat)) : List Nat → List (Rec E) → St E → (St E → Option β) → Option β
  | [], _, st, K => K st
  | i :: rest, acc, st, K => stepK T P env orc ops st i fun r st' =>
      match ms with
      | none => runOps ms rest [] st' K
      | some m => if acc.all (okFast m (apMasks ops) ops r) then runOps ms rest (r :: acc) st' K else none

/-- It goes so at this state. -/
def act (st : St E) (r : Rec E) : Prop :=
  ((r.free = true ∧ ∃ c, eff1 T P orc r.o st.ev = some c ∧ c.has r.out) ∨ (r.free = false ∧ eff1 T P orc r.o st.ev = none ∧ (eff2 T P env orc r.o st.ev st.mem).has r.out)) ∧ r.reads = r.o.op.operands.toList.map st.ev

def Fire (st : St E) (r : Rec E) : Prop :=
  ops[r.i]? = some r.o ∧ match r.o.guard with
    | none => act T P env orc st r
    | some (j, w) => ∃ d, dstOf ops j = some d ∧ ((∃ b, st.tmps[d]? = some (.bool b) ∧ if b = w then act T P env orc st r else (r.out = skipO ∧ r.free = true ∧ r.reads = [])) ∨ (st.tmps[d]? = some (.tup []) ∧ r.out = skipO ∧ r.free = true ∧ r.reads = []))

def Tr : List (Rec E) → St E → St E → Prop
  | [], st, st' => st = st'
  | r :: rs, st, st' => Fire T P env orc ops st r ∧ Tr rs (st.app r.o.dst r.out) st'
end

variable {T : Tab E} {P : Program} {env : Env E} {orc : Orc} {ops : Array Oper}

theorem set_same {st : St E} {d : Nat} {v : DV E} (h : st.tmps[d]? = some v) : st.set d v = st := by
  obtain ⟨hlt, he⟩ := List.getElem?_eq_some_iff.1 h
  unfold St.set
  have : st.tmps.set d v = st.tmps := by rw [← he]; exact List.set_getElem_self hlt
  rw [this]

theorem getD_bool {st : St E} {d : Nat} {b : Bool} (h : st.tmps.getD d .junk = .bool b) : st.tmps[d]? = some (.bool b) := by
  by_cases hd : d < st.tmps.length
  · rw [getD_lt _ _ _ hd] at h; rw [List.getElem?_eq_getElem hd, h]
  · rw [List.getD_eq_getElem?_getD, List.getElem?_eq_none (Nat.le_of_not_lt hd)] at h; cases h

theorem getD_tup {st : St E} {d : Nat} (h : st.tmps.getD d .junk = .tup []) : st.tmps[d]? = some (.tup []) := by
  by_cases hd : d < st.tmps.length
  · rw [getD_lt _ _ _ hd] at h; rw [List.getElem?_eq_getElem hd, h]
  · rw [List.getD_eq_getElem?_getD, List.getElem?_eq_none (Nat.le_of_not_lt hd)] at h; cases h

theorem eff_has {o : Oper} {ρ : Operand → DV E} {mem : Mem E} {out : Out E} (h : (eff T P env orc o ρ mem).has out) :
    ((eff1 T P orc o ρ).isSome = true ∧ ∃ c, eff1 T P orc o ρ = some c ∧ c.has out) ∨ ((eff1 T P orc o ρ).isSome = false ∧ eff1 T P orc o ρ = none ∧ (eff2 T P env orc o ρ mem).has out) := by
  unfold eff at h
  split at h
  · rename_i c hc; exact .inl ⟨by rw [hc]; rfl, c, hc, h⟩
  · rename_i hc; exact .inr ⟨by rw [hc]; rfl, hc, h⟩

theorem stepK_spec {β : Type} {st : St E} {i : Nat} {K : Rec E → St E → Option β} {x : β} (h : stepK T P env orc ops st i K = some x) : ∃ r, r.i = i ∧ Fire T P env orc ops st r ∧ K r (st.app r.o.dst r.out) = some x := by
  unfold stepK at h
  split at h
  · cases h
  · rename_i o ho
    split at h
    · rename_i hg
      obtain ⟨out, hh, hk⟩ := Cal.run_has _ _ _ h
      refine ⟨⟨i, o, out, (eff1 T P orc o st.ev).isSome, o.op.operands.toList.map st.ev⟩, rfl, ⟨ho, ?_⟩, hk⟩
      rw [hg]
      exact ⟨eff_has hh, rfl⟩
    · rename_i j w hg
      split at h
      · cases h
      · rename_i d hd
        split at h
        · rename_i b hb
          have hb' := getD_bool hb
          split at h
          · rename_i hbw
            subst hbw
            rw [set_same hb'] at h
            obtain ⟨out, hh, hk⟩ := Cal.run_has _ _ _ h
            refine ⟨⟨i, o, out, (eff1 T P orc o st.ev).isSome, o.op.operands.toList.map st.ev⟩, rfl, ⟨ho, ?_⟩, hk⟩
            rw [hg]
            refine ⟨d, hd, .inl ⟨b, hb', ?_⟩⟩
            rw [if_pos rfl]
            exact ⟨eff_has hh, rfl⟩
          · rename_i hbw
            have hb2 : (!w) = b := by cases b <;> cases w <;> simp_all
            rw [hb2, set_same hb'] at h
            refine ⟨⟨i, o, skipO, true, []⟩, rfl, ⟨ho, ?_⟩, h⟩
            rw [hg]
            exact ⟨d, hd, .inl ⟨b, hb', by rw [if_neg hbw]; exact ⟨rfl, rfl, rfl⟩⟩⟩
        · rename_i hb
          refine ⟨⟨i, o, skipO, true, []⟩, rfl, ⟨ho, ?_⟩, h⟩
          rw [hg]
          exact ⟨d, hd, .inr ⟨getD_tup hb, rfl, rfl, rfl⟩⟩
        · cases h

theorem fold_bits (f : Nat → Bool) (i : Nat) : ∀ (l : List Nat) (s : Nat), (l.foldl (fun s i => if f i = true then s ||| (1 <<< i) else s) s).testBit i = true → s.testBit i = true ∨ f i = true
  | [], s, h => .inl h
  | x :: l, s, h => by
    rcases fold_bits f i l _ h with h | h
    · change (if f x = true then s ||| (1 <<< x) else s).testBit i = true at h
      split at h
      · rename_i hx
        simp only [Nat.testBit_or, Bool.or_eq_true] at h
        rcases h with h | h
        · exact .inl h
        · rw [Nat.one_shiftLeft, Nat.testBit_two_pow] at h
          have : x = i := by simpa using h
          subst this
          exact .inr hx
      · exact .inl h
    · exact .inr h

theorem apMasks_spec {i j : Nat} (h : ((apMasks ops).getD j 0).testBit i = true) {a b : Oper} (ha : ops[i]? = some a) (hb : ops[j]? = some b) : a.apart ops b = true := by
  unfold apMasks at h
  have hlt : j < ops.size := (Array.getElem?_eq_some_iff.1 hb).1
  have e : ((List.range ops.size).map (apMask ops)).getD j 0 = apMask ops j := by simp [List.getD, hlt]
  rw [e] at h
  rcases fold_bits (fun i => apB ops i j) i _ _ h with h | h
  · simp at h
  · unfold apB at h
    rw [ha, hb] at h
    exact h

theorem okFast_spec {m : List Nat} {a b : Rec E} (ha : ops[a.i]? = some a.o) (hb : ops[b.i]? = some b.o) (h : okFast m (apMasks ops) ops b a = true) : okPair m ops b a = true := by
  unfold okFast at h
  unfold okPair
  simp only [Bool.or_eq_true, Bool.and_eq_true] at h ⊢
  rcases h with (h | ⟨h, h1, h2⟩) | h
  · exact .inl h
  · refine .inr ?_
    unfold commB
    rw [apMasks_spec h ha hb, h1, h2]
    rfl
  · exact .inr h

/-- The text's order, with the pairs that were looked at. -/
theorem runOps_spec {β : Type} {ms : Option (List Nat)} : ∀ (l : List Nat) (acc : List (Rec E)) (st : St E) (K : St E → Option β) (x : β) (hacc : ∀ a ∈ acc, ops[a.i]? = some a.o), runOps T P env orc ops ms l acc st K = some x →
    ∃ (rs : List (Rec E)) (st' : St E), rs.map (·.i) = l ∧ Tr T P env orc ops rs st st' ∧ K st' = some x ∧
      ∀ m, ms = some m → (∀ a ∈ acc, ∀ b ∈ rs, okPair m ops b a = true) ∧ rs.Pairwise fun a b => okPair m ops b a = true
  | [], acc, st, K, x, hacc, h => ⟨[], st, rfl, rfl, h, fun m _ => ⟨(fun a _ b hb => by cases hb), List.Pairwise.nil⟩⟩
  | i :: l, acc, st, K, x, hacc, h => by
    obtain ⟨r, hr, hf, hk⟩ := stepK_spec h
    cases ms with
    | none =>
      simp only at hk
      obtain ⟨rs, st', h1, h2, h3, h4⟩ := runOps_spec l [] _ K x (fun a ha => by cases ha) hk
      exact ⟨r :: rs, st', by simp [hr, h1], ⟨hf, h2⟩, h3, fun m hm => by cases hm⟩
    | some m =>
      simp only at hk
      split at hk
      · rename_i hall
        obtain ⟨rs, st', h1, h2, h3, h4⟩ := runOps_spec l (r :: acc) _ K x (fun a ha => by
          rcases List.mem_cons.1 ha with rfl | ha
          · exact hf.1
          · exact hacc a ha) hk
        refine ⟨r :: rs, st', by simp [hr, h1], ⟨hf, h2⟩, h3, fun m' hm => ?_⟩
        cases hm
        obtain ⟨q1, q2⟩ := h4 m rfl
        refine ⟨fun a ha b hb => ?_, ?_⟩
        · rcases List.mem_cons.1 hb with rfl | hb
          · exact okFast_spec (hacc a ha) hf.1 (List.all_eq_true.1 hall a ha)
          · exact q1 a (List.mem_cons_of_mem _ ha) b hb
        · exact List.pairwise_cons.2 ⟨fun b hb => q1 r (List.mem_cons_self ..) b hb, q2⟩
      · cases hk

end Go.Vm

/- The abstract value machine: what one operation looks at, and operations that may change places. -/
namespace Go.Vm
open Go.Lib
set_option linter.unusedVariables false
variable {K : Type} {E : K → Type}
variable {T : Tab E} {P : Program} {env : Env E} {orc : Orc} {ops : Array Oper}

theorem buildD_congr {fs : Array Field} {ρ ρ' : Operand → DV E} : ∀ (ps : List (Nat × Operand)) (cs : List (DV E)), (∀ x ∈ ps.map (·.2), ρ x = ρ' x) → buildD P fs ρ ps cs = buildD P fs ρ' ps cs
  | [], cs, _ => rfl
  | (i, x) :: r, cs, h => by
    have hx := h x (by simp)
    unfold buildD
    simp only [hx]
    split
    · split
      · exact buildD_congr r _ fun y hy => h y (by simp at hy ⊢; exact .inr hy)
      · rfl
    · rfl

theorem litCells_congr {sz : Nat} {ρ ρ' : Operand → DV E} : ∀ (ps : List (Nat × Operand)) (j : Nat), (∀ x ∈ ps.map (·.2), ρ x = ρ' x) → litCells P sz ρ j ps = litCells P sz ρ' j ps
  | [], j, _ => rfl
  | (i, x) :: r, j, h => by
    have hx := h x (by simp)
    unfold litCells
    simp only [hx, litCells_congr r (j + 1) fun y hy => h y (by simp at hy ⊢; exact .inr hy)]

theorem eff1_congr {ρ ρ' : Operand → DV E} (o : Oper) (h : ∀ x ∈ o.op.operands, ρ x = ρ' x) : eff1 T P orc o ρ = eff1 T P orc o ρ' := by
  obtain ⟨dst, op, type, pos, after, guard⟩ := o
  cases op <;> simp only [Op.operands] at h <;> simp only [eff1]
  case build t ps => simp only [buildD_congr ps.toList _ (fun x hx => h x (by simpa using hx))]
  case slice t x lo hi mx => cases lo <;> cases hi <;> cases mx <;> simp_all [optInt]
  case call c =>
    have hargs : ∀ x ∈ c.args, ρ x = ρ' x := fun x hx => h x (by simp [Call.operands, hx])
    obtain ⟨callee, args, ats⟩ := c
    cases callee <;> simp only []
    rw [List.map_congr_left fun x hx => hargs x (by simpa using hx)]
  all_goals (first | rfl | (simp_all; done))

theorem eff2_congr {ρ ρ' : Operand → DV E} (o : Oper) (mem : Mem E) (h : ∀ x ∈ o.op.operands, ρ x = ρ' x) : eff2 T P env orc o ρ mem = eff2 T P env orc o ρ' mem := by
  obtain ⟨dst, op, type, pos, after, guard⟩ := o
  cases op <;> simp only [Op.operands] at h <;> simp only [eff2]
  case buildSlice t n ps => simp only [litD, litCells_congr ps.toList 0 (fun x hx => h x (by simpa using hx))]
  case slice t x lo hi mx => cases lo <;> cases hi <;> cases mx <;> simp_all
  case call c =>
    have hargs : ∀ x ∈ c.args, ρ x = ρ' x := fun x hx => h x (by simp [Call.operands, hx])
    obtain ⟨callee, args, ats⟩ := c
    cases callee with
    | value f =>
      have hf : ρ f = ρ' f := h f (by simp [Call.operands])
      have hm : (args.toList.map fun x => (ρ x, gives orc x)) = args.toList.map fun x => (ρ' x, gives orc x) := List.map_congr_left fun x hx => by rw [hargs x (by simpa using hx)]
      simp only [hf, hm]
    | invoke r m => rfl
    | builtin b =>
      cases b <;> simp only []
      case append =>
        split
        · rename_i s x st xt h1 h2
          have : ρ s = ρ' s := hargs s (by have : s ∈ args.toList := by rw [h1]; simp
                                           simpa using this)
          have h3 : ρ x = ρ' x := hargs x (by have : x ∈ args.toList := by rw [h1]; simp
                                              simpa using this)
          rw [this, h3]
        · rfl
      case len =>
        split
        · rename_i x t h1 h2
          have h3 : ρ x = ρ' x := hargs x (by have : x ∈ args.toList := by rw [h1]; simp
                                              simpa using this)
          rw [h3]
        · rfl
  all_goals (first | rfl | (simp_all; done))

end Go.Vm

/- The abstract value machine: operations that may change places. -/
namespace Go.Vm
open Go.Lib
set_option linter.unusedVariables false
variable {K : Type} {E : K → Type}
variable {T : Tab E} {P : Program} {env : Env E} {orc : Orc} {ops : Array Oper}

theorem touch_nil (d : DV E) : d.touch [] = false := by cases d <;> rfl
theorem touch'_nil (d : DV E) : d.touch' [] = false := by
  cases d <;> first | rfl | skip
  simp [DV.touch', touch_nil]
theorem kill_nil1 (d : DV E) : d.kill [] = d := by unfold DV.kill; rw [touch'_nil]; rfl
theorem kill_of {ns : List Nat} {d : DV E} (h : d.touch' ns = false) : d.kill ns = d := by unfold DV.kill; rw [h]; rfl
theorem kill_junk {ns : List Nat} {d : DV E} (h : isJunk (d.kill ns) = false) : d.kill ns = d := by
  unfold DV.kill at h ⊢
  split
  · rename_i hh; rw [if_pos hh] at h; cases h
  · rfl
theorem kill_bool {ns : List Nat} {d : DV E} {b : Bool} (h : d.kill ns = .bool b) : d = .bool b := by
  unfold DV.kill at h
  split at h
  · cases h
  · exact h
theorem kill_back {ns : List Nat} {d b : DV E} (hb : b = .tup [] ∨ ∃ c, b = .bool c) (h : d.kill ns = b) : d = b := by
  unfold DV.kill at h
  split at h
  · rcases hb with rfl | ⟨c, rfl⟩ <;> cases h
  · exact h
theorem kill_const (ns : List Nat) (v : Value) : (ofConst v : DV E).kill ns = ofConst v := kill_of (by unfold ofConst; (repeat' split) <;> rfl)

theorem app_eq (st : St E) (dst : Option Nat) (o : Out E) : st.app dst o = St.mk (match dst with
      | some d => (st.tmps.map (DV.kill o.kills)).set d o.v
      | none => st.tmps.map (DV.kill o.kills)) (o.mem.getD st.mem) := by
  obtain ⟨v, ks, m⟩ := o
  have hid : DV.kill ([] : List Nat) = (id : DV E → DV E) := funext kill_nil1
  unfold St.app
  cases ks <;> cases m <;> cases dst <;> simp [hid]

theorem tmps_app {st : St E} {dst : Option Nat} {o : Out E} {d : Nat} (h : dst ≠ some d) : (st.app dst o).tmps[d]? = (st.tmps[d]?).map (DV.kill o.kills) := by
  rw [app_eq]
  cases dst with
  | none => simp
  | some i =>
    have : i ≠ d := fun e => h (by rw [e])
    simp [List.getElem?_set_ne this]

theorem ev_app {st : St E} {dst : Option Nat} {o : Out E} {x : Operand} (h : ∀ t, x = .tmp t → dst ≠ some t) : (st.app dst o).ev x = (st.ev x).kill o.kills := by
  cases x with
  | tmp t =>
    simp only [St.ev, List.getD_eq_getElem?_getD, tmps_app (h t rfl)]
    cases st.tmps[t]? with
    | none => exact (kill_of rfl).symm
    | some d => rfl
  | const v => exact (kill_const _ v).symm
  | global g => exact (kill_of rfl).symm
  | func f => exact (kill_of rfl).symm

theorem fire_congr {st st' : St E} {r : Rec E} (he : r.reads = r.o.op.operands.toList.map st.ev → ∀ x ∈ r.o.op.operands, st'.ev x = st.ev x)
    (hg : ∀ j w d b, r.o.guard = some (j, w) → dstOf ops j = some d → (b = .tup [] ∨ ∃ c, b = .bool c) → st.tmps[d]? = some b → st'.tmps[d]? = some b) (hm : r.free = true ∨ st'.mem = st.mem)
    (h : Fire T P env orc ops st r) : Fire T P env orc ops st' r := by
  have hact : act T P env orc st r → act T P env orc st' r := by
    rintro ⟨h1, h2⟩
    have he := he h2
    refine ⟨?_, by rw [h2]; exact List.map_congr_left fun x hx => (he x (by simpa using hx)).symm⟩
    rcases h1 with ⟨hf, c, hc, ho⟩ | ⟨hf, hc, ho⟩
    · exact .inl ⟨hf, c, by rw [eff1_congr r.o he]; exact hc, ho⟩
    · have hm : st'.mem = st.mem := hm.resolve_left (by rw [hf]; simp)
      exact .inr ⟨hf, by rw [eff1_congr r.o he]; exact hc, by rw [hm, eff2_congr r.o _ he]; exact ho⟩
  obtain ⟨h0, h⟩ := h
  refine ⟨h0, ?_⟩
  split at h
  · exact hact h
  · rename_i j w hjw
    obtain ⟨d, h1, h⟩ := h
    refine ⟨d, h1, ?_⟩
    rcases h with ⟨b, h2, h3⟩ | ⟨h2, h3⟩
    · refine .inl ⟨b, hg j w d _ hjw h1 (.inr ⟨b, rfl⟩) h2, ?_⟩
      split
      · rename_i hb; rw [if_pos hb] at h3; exact hact h3
      · rename_i hb; rw [if_neg hb] at h3; exact h3
    · exact .inr ⟨hg j w d _ hjw h1 (.inl rfl) h2, h3⟩

theorem looks_op {o : Oper} {t : Nat} (h : Operand.tmp t ∈ o.op.operands) : t ∈ o.looksAt ops :=
  List.mem_append_left _ (List.mem_filterMap.2 ⟨.tmp t, by simpa using h, rfl⟩)
theorem looks_guard {o : Oper} {j d : Nat} {w : Bool} (hg : o.guard = some (j, w)) (hd : dstOf ops j = some d) : d ∈ o.looksAt ops := by
  refine List.mem_append_right _ ?_
  rw [hg]
  simp only
  unfold dstOf at hd
  rw [hd]
  simp

theorem fire_fwd {st : St E} {r : Rec E} {dst : Option Nat} {o : Out E} (hl : ∀ t ∈ r.o.looksAt ops, dst ≠ some t) (hr : ∀ d ∈ r.reads, d.touch' o.kills = false) (hm : r.free = true ∨ o.mem = none)
    (h : Fire T P env orc ops st r) : Fire T P env orc ops (st.app dst o) r := by
  refine fire_congr (fun hre x hx => ?_) (fun j w d b hg hd hbb hb => ?_) ?_ h
  · rw [ev_app fun t ht => hl t (looks_op (ht ▸ hx))]
    exact kill_of (hr _ (by rw [hre]; exact List.mem_map.2 ⟨x, by simpa using hx, rfl⟩))
  · rw [tmps_app (hl d (looks_guard hg hd)), hb]
    rcases hbb with rfl | ⟨c, rfl⟩ <;> rfl
  · exact hm.imp_right fun hm => by rw [app_eq, hm]; rfl

theorem fire_back {st : St E} {r : Rec E} {dst : Option Nat} {o : Out E} (hl : ∀ t ∈ r.o.looksAt ops, dst ≠ some t) (hr : o.kills = [] ∨ ∀ d ∈ r.reads, isJunk d = false) (hm : r.free = true ∨ o.mem = none)
    (h : Fire T P env orc ops (st.app dst o) r) : Fire T P env orc ops st r := by
  refine fire_congr (fun hre x hx => ?_) (fun j w d b hg hd hbb hb => ?_) ?_ h
  · have hev := ev_app (st := st) (o := o) (x := x) (dst := dst) fun t ht => hl t (looks_op (ht ▸ hx))
    rw [hev]
    rcases hr with hr | hr
    · rw [hr, kill_nil1]
    · refine (kill_junk ?_).symm
      rw [← hev]
      exact hr _ (by rw [hre]; exact List.mem_map.2 ⟨x, by simpa using hx, rfl⟩)
  · rw [tmps_app (hl d (looks_guard hg hd))] at hb
    obtain ⟨y, hy, hyb⟩ := Option.map_eq_some_iff.1 hb
    rw [hy, kill_back hbb hyb]
  · exact hm.imp_right fun hm => by rw [app_eq, hm]; rfl

theorem app_comm (st : St E) (da db : Option Nat) (oa ob : Out E) (hd : ∀ d, da = some d → db ≠ some d) (hk : oa.kills = []) (hm : oa.mem = none) (hv : oa.v.touch' ob.kills = false) :
    (st.app da oa).app db ob = (st.app db ob).app da oa := by
  simp only [app_eq, hk, hm]
  have hid : DV.kill ([] : List Nat) = (id : DV E → DV E) := funext kill_nil1
  simp only [hid, List.map_id, Option.getD_none, St.mk.injEq, and_true]
  cases da with
  | none => cases db <;> simp
  | some i =>
    cases db with
    | none => simp [List.map_set, kill_of hv]
    | some j =>
      have : i ≠ j := fun e => hd i rfl (by rw [e])
      simp only [List.map_set, kill_of hv]
      rw [List.set_comm _ _ this]

theorem pure_spec {r : Rec E} (h : r.pure = true) : r.out.kills = [] ∧ r.out.mem = none := by
  unfold Rec.pure at h
  simpa using h

theorem swap {st : St E} {a b : Rec E} (hc : commB ops a b = true) (ha : Fire T P env orc ops st a) (hb : Fire T P env orc ops (st.app a.o.dst a.out) b) :
    Fire T P env orc ops st b ∧ Fire T P env orc ops (st.app b.o.dst b.out) a ∧ (st.app a.o.dst a.out).app b.o.dst b.out = (st.app b.o.dst b.out).app a.o.dst a.out := by
  unfold commB at hc
  simp only [Bool.and_eq_true, Bool.or_eq_true] at hc
  obtain ⟨hap, hc⟩ := hc
  obtain ⟨l1, l2, l3⟩ := Oper.apart_spec hap
  have hla : ∀ t ∈ a.o.looksAt ops, b.o.dst ≠ some t := fun t ht e => l3 t e ht
  have hlb : ∀ t ∈ b.o.looksAt ops, a.o.dst ≠ some t := fun t ht e => l1 t e ht
  rcases hc with (⟨pa, pb⟩ | ⟨fa, ca⟩) | ⟨fb, cb⟩
  · obtain ⟨ka, ma⟩ := pure_spec pa
    obtain ⟨kb, mb⟩ := pure_spec pb
    exact ⟨fire_back hlb (.inl ka) (.inr ma) hb, fire_fwd hla (fun d _ => by rw [kb]; exact touch'_nil d) (.inr mb) ha, app_comm _ _ _ _ _ l2 ka ma (by rw [kb]; exact touch'_nil _)⟩
  · unfold Rec.calm at ca
    simp only [Bool.and_eq_true, Bool.not_eq_true', List.all_eq_true] at ca
    obtain ⟨⟨pa, va⟩, ra⟩ := ca
    obtain ⟨ka, ma⟩ := pure_spec pa
    exact ⟨fire_back hlb (.inl ka) (.inr ma) hb, fire_fwd hla (fun d hd => (ra d hd).1) (.inl fa) ha, app_comm _ _ _ _ _ l2 ka ma va⟩
  · unfold Rec.calm at cb
    simp only [Bool.and_eq_true, Bool.not_eq_true', List.all_eq_true] at cb
    obtain ⟨⟨pb, vb⟩, rb⟩ := cb
    obtain ⟨kb, mb⟩ := pure_spec pb
    refine ⟨fire_back hlb (.inr fun d hd => (rb d hd).2) (.inl fb) hb, fire_fwd hla (fun d _ => by rw [kb]; exact touch'_nil d) (.inr mb) ha, ?_⟩
    exact (app_comm _ _ _ _ _ (fun d h1 h2 => l2 d h2 h1) kb mb vb).symm

theorem front {r : Rec E} {post : List (Rec E)} {st' : St E} : ∀ (pre : List (Rec E)) (st : St E), Tr T P env orc ops (pre ++ r :: post) st st' → (∀ a ∈ pre, commB ops a r = true) →
    Fire T P env orc ops st r ∧ Tr T P env orc ops (pre ++ post) (st.app r.o.dst r.out) st'
  | [], st, h, _ => h
  | a :: pre, st, h, hc => by
    obtain ⟨h1, h2⟩ := h
    obtain ⟨h3, h4⟩ := front pre _ h2 fun x hx => hc x (List.mem_cons_of_mem _ hx)
    obtain ⟨q1, q2, q3⟩ := swap (hc a (List.mem_cons_self ..)) h1 h3
    exact ⟨q1, q2, by rw [← q3]; exact h4⟩

end Go.Vm

/- The abstract value machine: regions are sound. -/
namespace Go.Vm
open Go.Lib
set_option linter.unusedVariables false
variable {K : Type} {E : K → Type}
variable {T : Tab E} {P : Program} {env : Env E} {orc : Orc} {ops : Array Oper}

/-- One must come ahead of the other. -/
inductive Anc (ops : Array Oper) : Nat → Nat → Prop
  | edge {i : Nat} {o : Oper} {e : Edge} (ho : ops[i]? = some o) (he : e ∈ o.after) (hb : Region.binds .any e = true) : Anc ops e.on i
  | step {j i : Nat} {o : Oper} {e : Edge} (ho : ops[i]? = some o) (he : e ∈ o.after) (hb : Region.binds .any e = true) (h : Anc ops j e.on) : Anc ops j i

theorem mask1_spec {prev : List Nat} {o : Oper} {j : Nat} (h : (mask1 prev o).testBit j = true) : ∃ e ∈ o.after, Region.binds .any e = true ∧ (e.on = j ∨ (prev.getD e.on 0).testBit j = true) := by
  unfold mask1 at h
  have key : ∀ (l : List Edge) (s : Nat), (l.foldl (fun s e => if Region.binds .any e then s ||| (1 <<< e.on) ||| prev.getD e.on 0 else s) s).testBit j = true →
      s.testBit j = true ∨ ∃ e ∈ l, Region.binds .any e = true ∧ (e.on = j ∨ (prev.getD e.on 0).testBit j = true) := by
    intro l
    induction l with
    | nil => intro s h; exact .inl h
    | cons e l ih =>
      intro s h
      rw [List.foldl_cons] at h
      rcases ih _ h with h1 | ⟨e', he', hh⟩
      · split at h1
        · rename_i hb
          rw [Nat.testBit_or, Nat.testBit_or, Bool.or_eq_true, Bool.or_eq_true] at h1
          rcases h1 with (h1 | h1) | h1
          · exact .inl h1
          · refine .inr ⟨e, List.mem_cons_self .., hb, .inl ?_⟩
            rw [Nat.one_shiftLeft, Nat.testBit_two_pow] at h1
            simpa using h1
          · exact .inr ⟨e, List.mem_cons_self .., hb, .inr h1⟩
        · exact .inl h1
      · exact .inr ⟨e', List.mem_cons_of_mem _ he', hh⟩
  rcases key _ 0 h with h0 | ⟨e, he, hh⟩
  · simp at h0
  · exact ⟨e, by simpa using he, hh⟩

theorem masksGo_spec : ∀ (l : List Oper) (prev : List Nat), (∀ q, l[q]? = ops[prev.length + q]?) → (∀ b a, (prev.getD b 0).testBit a = true → Anc ops a b) →
    ∀ b a, ((masksGo prev l).getD b 0).testBit a = true → Anc ops a b
  | [], prev, _, h, b, a, hh => h b a hh
  | o :: l, prev, hl, h, b, a, hh => by
    have h0 : ops[prev.length]? = some o := by have := hl 0; simp at this; exact this.symm
    refine masksGo_spec l (prev ++ [mask1 prev o]) (fun q => ?_) (fun b a hb => ?_) b a hh
    · have := hl (q + 1)
      rw [List.length_append, List.length_singleton, Nat.add_assoc, Nat.add_comm 1 q]
      simpa using this
    · rw [List.getD_eq_getElem?_getD] at hb
      by_cases hlt : b < prev.length
      · rw [List.getElem?_append_left hlt, ← List.getD_eq_getElem?_getD] at hb
        exact h b a hb
      · by_cases he : b = prev.length
        · subst he
          rw [List.getElem?_append_right (Nat.le_refl _)] at hb
          simp only [Nat.sub_self, List.getElem?_cons_zero, Option.getD_some] at hb
          obtain ⟨e, he, hbi, hh⟩ := mask1_spec hb
          rcases hh with hh | hh
          · subst hh; exact .edge h0 he hbi
          · exact .step h0 he hbi (h _ _ hh)
        · rw [List.getElem?_eq_none (by simp; omega)] at hb
          simp at hb

theorem masks_spec {a b : Nat} (h : ((masks ops).getD b 0).testBit a = true) : Anc ops a b :=
  masksGo_spec ops.toList [] (fun q => by simp) (fun b a h => by simp at h) b a h

theorem edgesBack_spec (h : edgesBack ops = true) {i : Nat} {o : Oper} {e : Edge} (ho : ops[i]? = some o) (he : e ∈ o.after) (hb : Region.binds .any e = true) : e.on < i := by
  unfold edgesBack at h
  rw [List.all_eq_true] at h
  have hm : (o, i) ∈ ops.toList.zipIdx := by
    rw [List.mem_zipIdx_iff_getElem?]
    simpa using ho
  have := h _ hm
  simp only [List.all_eq_true] at this
  have := this e (by simpa using he)
  simpa [hb] using this

section
variable {w0 : World} {G : GP} {Q : Exit → Act → World → Prop}

/-- One operation of a region, as it fires. -/
theorem fire_wpOp (henv : ∀ f, Ctr T P f (env f)) {st : St E} {a : Act} {w : World} {g : Gh} (h : Inv T w0 G st a w g) {r : Rec E} (hf : Fire T P env orc ops st r)
    (next : Act → World → Prop) (hnext : ∀ v w' g', Inv T w0 G (st.app r.o.dst r.out) (a.put r.o.dst v) w' g' → next (a.put r.o.dst v) w') : wpOp P ops Q r.i next a w := by
  obtain ⟨ho, hf⟩ := hf
  have hgo : act T P env orc st r → r.o.wp P a w next Q := by
    rintro ⟨h1, _⟩
    refine eff_ok env henv orc h r.o r.out ?_ next Q hnext
    unfold eff
    rcases h1 with ⟨_, c, hc, hh⟩ | ⟨_, hc, hh⟩
    · rw [hc]; exact hh
    · rw [hc]; exact hh
  unfold wpOp
  simp only [ho]
  split at hf
  · rename_i hg
    rw [if_pos (by simp [Region.wanted, hg])]
    exact .inl (hgo hf)
  · rename_i j wt hg
    obtain ⟨d, hd, hf⟩ := hf
    have skip : r.out = skipO → next (a.put r.o.dst undef) w := by
      intro hout
      refine hnext _ _ g ?_
      rw [hout]
      exact h.put r.o.dst (d := .tup []) ⟨#[], rfl, rfl, fun i hi => absurd hi (by simp)⟩ (fun _ _ _ _ e => by cases e)
    rcases hf with ⟨b, hb, hh⟩ | ⟨hb, hout, _, _⟩
    case inr =>
      obtain ⟨hlt, hbe⟩ := List.getElem?_eq_some_iff.1 hb
      have hr := h.tm d hlt
      rw [hbe] at hr
      have hlt' : d < a.tmps.size := by rw [h.tl]; exact hlt
      have hg2 : a.tmps.getD d undef = a.tmps[d] := by simp [hlt']
      rw [hg2] at hr
      obtain ⟨vs, hv, _⟩ := hr
      have hy : yielded ops a.tmps j = none := by
        unfold yielded
        unfold dstOf at hd
        rw [hd]
        simp [Array.getElem?_eq_getElem hlt', hv]
      have hw : Region.wanted r.o (yielded ops a.tmps) = false := by
        unfold Region.wanted
        rw [hg]
        simp only [hy]
        rfl
      rw [hw, if_neg (by simp)]
      exact skip hout
    obtain ⟨hlt, hbe⟩ := List.getElem?_eq_some_iff.1 hb
    have hv : a.tmps[d]? = some (.bool b) := by
      have hr := h.tm d hlt
      rw [hbe] at hr
      have hlt' : d < a.tmps.size := by rw [h.tl]; exact hlt
      have : a.tmps.getD d undef = a.tmps[d] := by simp [hlt']
      rw [this] at hr
      have h2 := repT_bool hr
      rw [Array.getElem?_eq_getElem hlt', h2]
    have hy : yielded ops a.tmps j = some b := by
      unfold yielded
      unfold dstOf at hd
      rw [hd]
      simp [hv]
    have hw : Region.wanted r.o (yielded ops a.tmps) = (b == wt) := by
      unfold Region.wanted
      rw [hg]
      simp only [hy]
      cases b <;> cases wt <;> rfl
    rw [hw]
    split at hh
    · rename_i hbw
      subst hbw
      rw [if_pos (by simp)]
      exact .inl (hgo hh)
    · rename_i hbw
      rw [if_neg (by simpa using hbw)]
      exact skip hh.1

/-- These temporaries stay. -/
def Keep (J : List Nat) (a a' : Act) : Prop := ∀ j ∈ J, a'.tmps.getD j undef = a.tmps.getD j undef

theorem Keep.refl (J : List Nat) (a : Act) : Keep J a a := fun _ _ => rfl
theorem Keep.trans {J : List Nat} {a b c : Act} (h : Keep J a b) (h' : Keep J b c) : Keep J a c := fun j hj => (h' j hj).trans (h j hj)
theorem Keep.put {J : List Nat} {a : Act} {dst : Option Nat} (v : Value) (h : ∀ d, dst = some d → d ∉ J) : Keep J a (a.put dst v) := by
  intro j hj
  cases dst with
  | none => rfl
  | some d =>
    have : d ≠ j := fun e => h d rfl (e ▸ hj)
    simp [Act.put, Array.getElem?_setIfInBounds_ne this]

/-- In the text's order. -/
theorem text_ok (henv : ∀ f, Ctr T P f (env f)) {J : List Nat} (hJ : ∀ (i : Nat) (o : Oper), ops[i]? = some o → ∀ d, o.dst = some d → d ∉ J) : ∀ (rs : List (Rec E)) (st st' : St E) (a : Act) (w : World) (g : Gh), Inv T w0 G st a w g → Tr T P env orc ops rs st st' →
    ∀ rest : List Nat, (∀ a' w g, Inv T w0 G st' a' w g → Keep J a a' → wpOps P ops Q rest a' w) → wpOps P ops Q (rs.map (·.i) ++ rest) a w
  | [], st, st', a, w, g, h, ht, rest, hn => by cases ht; simpa using hn a w g h (Keep.refl J a)
  | r :: rs, st, st', a, w, g, h, ht, rest, hn => by
    obtain ⟨h1, h2⟩ := ht
    rw [List.map_cons, List.cons_append, wpOps_cons]
    exact fire_wpOp henv h h1 _ fun v w' g' h' => text_ok henv hJ rs _ _ _ w' g' h' h2 rest fun a'' w'' g'' hi hk => hn a'' w'' g'' hi ((Keep.put v (hJ r.i r.o h1.1)).trans hk)

theorem filter_head {p q : Nat → Bool} {i : Nat} : ∀ (l : List Nat), l.Nodup → (∀ j, j ≠ i → q j = p j) → q i = false → l.filter q = (l.filter p).filter (fun j => j != i)
  | [], _, _, _ => rfl
  | x :: l, hn, h1, h2 => by
    have ih := filter_head l (List.nodup_cons.1 hn).2 h1 h2
    by_cases hx : x = i
    · subst hx
      rw [List.filter_cons_of_neg (by simp [h2]), ih]
      cases hp : p x
      · rw [List.filter_cons_of_neg (by simp [hp])]
      · rw [List.filter_cons_of_pos (by simp [hp]), List.filter_cons_of_neg (by simp)]
    · cases hp : p x
      · rw [List.filter_cons_of_neg (by simp [h1 x hx, hp]), List.filter_cons_of_neg (by simp [hp]), ih]
      · rw [List.filter_cons_of_pos (by simp [h1 x hx, hp]), List.filter_cons_of_pos (by simp [hp]), List.filter_cons_of_pos (by simpa using hx), ih]

/-- In every order. -/
theorem any_ok (henv : ∀ f, Ctr T P f (env f)) (hback : edgesBack ops = true) {J : List Nat} (hJ : ∀ (i : Nat) (o : Oper), ops[i]? = some o → ∀ d, o.dst = some d → d ∉ J) {st' : St E} {a0 : Act} (hn : ∀ a w g, Inv T w0 G st' a w g → Keep J a0 a → Q .normal a w) :
    ∀ (fuel : Nat) (listed : Array Bool) (rs : List (Rec E)) (st : St E) (a : Act) (w : World) (g : Gh), Inv T w0 G st a w g → Keep J a0 a → Tr T P env orc ops rs st st' →
      rs.map (·.i) = (List.range ops.size).filter (fun j => !listed.getD j true) → listed.size = ops.size →
      (∀ i o e, ops[i]? = some o → e ∈ o.after → Region.binds .any e = true → listed.getD i false = true → listed.getD e.on false = true) →
      (rs.Pairwise fun x y => okPair (masks ops) ops y x = true) → rs.length ≤ fuel → wpAny P .any ops Q fuel listed a w := by
  intro fuel
  have lt_of : ∀ (listed : Array Bool) j, listed.getD j true = false → j < listed.size := by
    intro listed j hj
    rcases Nat.lt_or_ge j listed.size with h | h
    · exact h
    · simp [Array.getElem?_eq_none h] at hj
  have empty : ∀ (listed : Array Bool) (rs : List (Rec E)), rs.map (·.i) = (List.range ops.size).filter (fun j => !listed.getD j true) → listed.size = ops.size → Region.ready .any ops listed = [] → rs = [] := by
    intro listed rs hrs hsz hr
    cases rs with
    | nil => rfl
    | cons r rs =>
      exfalso
      rw [List.map_cons] at hrs
      have hmin : ∀ j ∈ (List.range ops.size).filter (fun j => !listed.getD j true), r.i ≤ j := by
        intro j hj
        have hs : ((List.range ops.size).filter (fun j => !listed.getD j true)).Pairwise (· < ·) := List.Pairwise.filter _ List.pairwise_lt_range
        rw [← hrs] at hs hj
        rcases List.mem_cons.1 hj with rfl | hj
        · exact Nat.le_refl _
        · exact Nat.le_of_lt ((List.pairwise_cons.1 hs).1 j hj)
      have hri : r.i ∈ (List.range ops.size).filter (fun j => !listed.getD j true) := by rw [← hrs]; exact List.mem_cons_self ..
      rw [List.mem_filter, List.mem_range] at hri
      obtain ⟨hlt, hun⟩ := hri
      have : r.i ∈ Region.ready .any ops listed := by
        rw [mem_ready]
        refine ⟨by simpa using hun, ops[r.i], Array.getElem?_eq_getElem hlt, fun e he hb => ?_⟩
        have hel := edgesBack_spec hback (Array.getElem?_eq_getElem hlt) he hb
        have hes : e.on < listed.size := by rw [hsz]; omega
        cases hl : listed.getD e.on false with
        | true => rfl
        | false =>
          have hq : listed.getD e.on true = false := by simpa [hes] using hl
          have := hmin e.on (List.mem_filter.2 ⟨List.mem_range.2 (by omega), by rw [hq]; rfl⟩)
          omega
      rw [hr] at this
      cases this
  induction fuel with
  | zero =>
    intro listed rs st a w g h hka ht hrs hsz hdc hpw hlen
    have : rs = [] := List.eq_nil_of_length_eq_zero (by omega)
    subst this
    cases ht
    refine ⟨?_, hn a w g h hka⟩
    cases hr : Region.ready .any ops listed with
    | nil => rfl
    | cons x xs =>
      exfalso
      have hx : x ∈ Region.ready .any ops listed := by rw [hr]; exact List.mem_cons_self ..
      obtain ⟨h1, o, h2, _⟩ := mem_ready.1 hx
      have : x ∈ (List.range ops.size).filter (fun j => !listed.getD j true) := List.mem_filter.2 ⟨List.mem_range.2 (Array.getElem?_eq_some_iff.1 h2).1, by rw [h1]; rfl⟩
      rw [← hrs] at this
      cases this
  | succ fuel ih =>
    intro listed rs st a w g h hka ht hrs hsz hdc hpw hlen
    refine ⟨fun hr => ?_, fun i hi => ?_⟩
    · have := empty listed rs hrs hsz hr
      subst this
      cases ht
      exact hn a w g h hka
    · obtain ⟨h1, o, h2, h3⟩ := mem_ready.1 hi
      have hilt := (Array.getElem?_eq_some_iff.1 h2).1
      have hmem : i ∈ rs.map (·.i) := by rw [hrs]; exact List.mem_filter.2 ⟨List.mem_range.2 hilt, by rw [h1]; rfl⟩
      obtain ⟨r, hr, rfl⟩ := List.mem_map.1 hmem
      obtain ⟨pre, post, rfl⟩ := List.append_of_mem hr
      have hanc : ∀ j, Anc ops j r.i → listed.getD j false = true := by
        have base : ∀ j i, Anc ops j i → listed.getD i false = true → listed.getD j false = true := by
          intro j i ha
          induction ha with
          | edge ho he hb => intro hl; exact hdc _ _ _ ho he hb hl
          | step ho he hb _ ih => intro hl; exact ih (hdc _ _ _ ho he hb hl)
        intro j ha
        cases ha with
        | edge ho he hb => rw [h2] at ho; cases ho; exact h3 _ he hb
        | step ho he hb ha => rw [h2] at ho; cases ho; exact base _ _ ha (h3 _ he hb)
      have hcomm : ∀ x ∈ pre, commB ops x r = true := by
        intro x hx
        have hp := (List.pairwise_append.1 hpw).2.2 x hx r (List.mem_cons_self ..)
        unfold okPair at hp
        rw [Bool.or_eq_true] at hp
        rcases hp with hp | hp
        · have hl := hanc _ (masks_spec hp)
          have hxm : x.i ∈ (List.range ops.size).filter (fun j => !listed.getD j true) := by rw [← hrs]; exact List.mem_map.2 ⟨x, List.mem_append_left _ hx, rfl⟩
          rw [List.mem_filter] at hxm
          have hun : listed.getD x.i true = false := by simpa using hxm.2
          have hlt := lt_of _ _ hun
          simp [hlt] at hun hl
          rw [hl] at hun
          cases hun
        · exact hp
      obtain ⟨hf, hrest⟩ := front pre st ht hcomm
      have hlt : r.i < listed.size := lt_of _ _ h1
      have hget : ∀ j (d : Bool), j ≠ r.i → (listed.setIfInBounds r.i true).getD j d = listed.getD j d := fun j d hj => getD_set_ne d (Ne.symm hj)
      refine fire_wpOp henv h hf _ fun v w' g' h' => ih _ (pre ++ post) _ _ w' g' h' (hka.trans (Keep.put v (hJ r.i r.o hf.1))) hrest ?_ (by simpa using hsz) ?_ ?_ (by simp at hlen ⊢; omega)
      · rw [filter_head (p := fun j => !listed.getD j true) (i := r.i) _ List.nodup_range (fun j hj => by simp only [hget j true hj]) (by simp [hlt]), ← hrs]
        have hnd : ((pre ++ r :: post).map (·.i)).Nodup := by rw [hrs]; exact List.Nodup.sublist List.filter_sublist List.nodup_range
        rw [List.map_append, List.map_cons] at hnd
        rw [List.map_append, List.map_append, List.map_cons, List.filter_append, List.filter_cons_of_neg (by simp)]
        have hnd := List.nodup_append.1 hnd
        congr 1
        · symm; rw [List.filter_eq_self]
          intro x hx
          have := hnd.2.2 x hx r.i (List.mem_cons_self ..)
          simpa using this
        · symm; rw [List.filter_eq_self]
          intro x hx
          have := (List.nodup_cons.1 hnd.2.1).1
          have : x ≠ r.i := fun e => this (e ▸ hx)
          simpa using this
      · intro i o e ho he hb hl
        by_cases hir : i = r.i
        · subst hir
          rw [h2] at ho; cases ho
          exact getD_set_true (h3 _ he hb)
        · rw [hget i false hir] at hl
          exact getD_set_true (hdc i o e ho he hb hl)
      · exact List.Pairwise.sublist ((List.Sublist.refl pre).append (List.sublist_cons_self r post)) hpw

end
end Go.Vm

/- The abstract value machine: less is known: names are forgotten, rows become shared slices. -/
namespace Go.Vm
open Go.Lib
set_option linter.unusedVariables false
variable {K : Type} {E : K → Type}
variable {T : Tab E} {P : Program}

/-- What a value may become. -/
inductive WD (m : Mem E) (ns : List Nat) : DV E → DV E → Prop
  | junk (d : DV E) : WD m ns d .junk
  | same (d : DV E) (h : ∀ n i cs off, d = .rptr n i cs off → n ∈ ns) : WD m ns d d
  | rowp {n : Nat} {e : TypeId} {k : K} {l : List (E k)} (h : (n, Box.row e k l) ∈ m) (hn : n ∉ ns) : WD m ns (.rowp n) (.slc k l)
  | rowv {n b : Nat} {e : TypeId} {k : K} {l : List (E k)} (h : (n, Box.row e k l) ∈ m) (hn : n ∉ ns) : WD m ns (.rowv n b) (.slc k (l.take b))

inductive WB (m : Mem E) (ns : List Nat) : Box E → Box E → Prop
  | same (b : Box E) : WB m ns b b
  | cells (t : TypeId) {cs cs' : List (DV E)} (hl : cs'.length = cs.length) (h : ∀ i (hi : i < cs.length) (hi' : i < cs'.length), WD m ns cs[i] cs'[i]) : WB m ns (.cells t cs) (.cells t cs')

structure Weak (st st' : St E) : Prop where
  len : st'.tmps.length = st.tmps.length
  nn : (names st'.mem).Nodup
  tm : ∀ i (hi : i < st.tmps.length) (hi' : i < st'.tmps.length), WD st.mem (names st'.mem) st.tmps[i] st'.tmps[i]
  mm : ∀ n bx, (n, bx) ∈ st'.mem → ∃ b0, (n, b0) ∈ st.mem ∧ WB st.mem (names st'.mem) b0 bx

theorem els_slc {w : World} {X X' : Nat → Prop} {k : K} {l : List (E k)} {xs : List Value} {gg cap : Nat} (hX : ∀ b, X b → X' b) (hg : X' gg ∧ gg < w.heap.size) (hl : l.length ≤ cap)
    (hc : ∀ j u, xs[j]? = some u → w.cell? ⟨gg, j, none⟩ = some u) (h : Els T w X k l xs) : Rep T w X' (.slc k l) (.slice (some ⟨gg, 0, none⟩) l.length cap) := by
  refine Rep.slc cap (fun j => xs.getD j undef) hl (fun _ => hg) ?_ ?_ h.pl
  · intro j hj
    have hlt : j < xs.length := by rw [h.len]; exact hj
    rw [getD_lt _ _ _ hlt, Nat.zero_add]
    exact hc j _ (List.getElem?_eq_getElem hlt)
  · intro i hi c hcc
    obtain ⟨u, h1, h2⟩ := h.rep i hi c hcc
    have : xs.getD (i * T.sz k + c) undef = u := by rw [List.getD_eq_getElem?_getD, h1]; rfl
    rw [this]
    exact h2.mono fun b hb hlt => ⟨hX b hb, hlt, rfl⟩

theorem row_slc {w : World} {X X' : Nat → Prop} {e : TypeId} {k : K} {l : List (E k)} {v : Value} (hX : ∀ b, X b → X' b) (h : RepRow T w X e k l v) (hb : ∀ b, blk v = some b → X' b) (b : Nat) :
    (∃ a len cap, v = .slice a len cap ∧ l.length = len) ∧ ∀ (a : Option Addr) (len cap : Nat), v = .slice a len cap → b ≤ len → Rep T w X' (.slc k (l.take b)) (.slice a b cap) := by
  rcases rowv_shape h with ⟨rfl, rfl⟩ | ⟨gg, cap, xs, rfl, hc, hlt, hcell, hels⟩
  · refine ⟨⟨_, _, _, rfl, rfl⟩, fun a len cap e hb => ?_⟩
    cases e
    have : b = 0 := by omega
    subst this
    exact Rep.slcn k
  · refine ⟨⟨_, _, _, rfl, rfl⟩, fun a len cap' e hble => ?_⟩
    cases e
    have := els_slc (T := T) (w := w) (X := X) (X' := X') (cap := cap) (gg := gg) (l := l.take b) hX ⟨hb gg rfl, hlt⟩ (by simp; omega) (xs := xs.take (b * T.sz k)) (fun j u hj => hcell j u (by
        rw [List.getElem?_take] at hj
        split at hj
        · exact hj
        · cases hj)) (hels.take b hble)
    rw [show (l.take b).length = b by simp; omega] at this
    exact this

theorem RepT.monoX {w : World} {X X' : Nat → Prop} {g : Gh} {d : DV E} {v : Value} (h : RepT T w X g d v) (hX : ∀ b, X b → X' b) : RepT T w X' g d v := by
  have base : ∀ (d1 : DV E) (v1 : Value), RepT1 T w X g d1 v1 → RepT1 T w X' g d1 v1 := fun d1 v1 h1 =>
    h1.mono (fun b hb hlt => ⟨hX b hb, hlt, rfl⟩) (fun _ _ => rfl) (fun _ _ _ _ _ _ _ _ _ => rfl)
  cases d with
  | tup ds =>
    obtain ⟨vs, h1, h2, h3⟩ := h
    exact ⟨vs, h1, h2, fun i hi hi' => ⟨base _ _ (h3 i hi hi').1, (h3 i hi hi').2⟩⟩
  | junk => exact .of1 (base .junk v h)
  | int k n => exact .of1 (base (.int k n) v h)
  | bool b => exact .of1 (base (.bool b) v h)
  | str s => exact .of1 (base (.str s) v h)
  | nilp => exact .of1 (base .nilp v h)
  | nili => exact .of1 (base .nili v h)
  | nils => exact .of1 (base .nils v h)
  | slc k l => exact .of1 (base (.slc k l) v h)
  | agg cs => exact .of1 (base (.agg cs) v h)
  | ifc t d => exact .of1 (base (.ifc t d) v h)
  | fn f c => exact .of1 (base (.fn f c) v h)
  | ptr n o => exact .of1 (base (.ptr n o) v h)
  | rowp n => exact .of1 (base (.rowp n) v h)
  | rowv n b => exact .of1 (base (.rowv n b) v h)
  | eptr cs o => exact .of1 (base (.eptr cs o) v h)
  | rptr n i cs o => exact .of1 (base (.rptr n i cs o) v h)
  | row e k l => exact .of1 (base (.row e k l) v h)
  | pin t cs => exact .of1 (base (.pin t cs) v h)
  | newb t cs => exact .of1 (base (.newb t cs) v h)
  | argp j => exact .of1 (base (.argp j) v h)

theorem WD.rep {w0 : World} {G : GP} {st st' : St E} {a : Act} {w : World} {g : Gh} (h : Inv T w0 G st a w g) (hw : Weak st st') {d d' : DV E} {v : Value} (hd : WD st.mem (names st'.mem) d d')
    (hr : RepT T w (free st.mem g) g d v) : RepT T w (free st'.mem g) g d' v := by
  have hsub : ∀ n, n ∈ names st'.mem → n ∈ names st.mem := by
    intro n hn
    obtain ⟨x, hx, rfl⟩ := List.mem_map.1 hn
    obtain ⟨b0, hb0, _⟩ := hw.mm x.1 x.2 hx
    exact List.mem_map.2 ⟨_, hb0, rfl⟩
  have hX : ∀ b, free st.mem g b → free st'.mem g b := by
    intro b hb
    refine ⟨fun hb' => ?_, hb.2⟩
    obtain ⟨n, h1, h2⟩ := mem_blks.1 hb'
    exact hb.1 (mem_blks.2 ⟨n, hsub n h1, h2⟩)
  have hbl : ∀ n b, n ∈ names st.mem → n ∉ names st'.mem → blk (g n) = some b → free st'.mem g b := by
    intro n b hn hn' hb
    refine ⟨fun hb' => ?_, fun hb' => ?_⟩
    case refine_2 =>
      have h0 := h.hz.2 b hb'
      rcases (h.bo b (mem_blks.2 ⟨n, hn, hb⟩)).2 with h1 | h1
      · omega
      · exact h0.2 h1
    obtain ⟨n', h1, h2⟩ := mem_blks.1 hb'
    have := blk_inj h.nd h.nn hn (hsub n' h1) hb h2
    exact hn' (this ▸ h1)
  cases hd with
  | junk d => exact (Rep.junk _).toT
  | same d hr' =>
    exact RepT.monoX hr hX
  | @rowp n e k l hm hn =>
    have hrow : RepRow T w (free st.mem g) e k l (g n) := h.mm n _ hm
    have hmn : n ∈ names st.mem := List.mem_map.2 ⟨_, hm, rfl⟩
    obtain ⟨⟨ad, len, cap, hv, hlen⟩, hq⟩ := row_slc hX hrow (fun b hb => hbl n b hmn hn hb) l.length
    have : v = g n := hr
    rw [this, hv]
    subst hlen
    have := hq ad l.length cap hv (Nat.le_refl _)
    rw [List.take_length] at this
    exact this
  | @rowv n b e k l hm hn =>
    have hrow : RepRow T w (free st.mem g) e k l (g n) := h.mm n _ hm
    have hmn : n ∈ names st.mem := List.mem_map.2 ⟨_, hm, rfl⟩
    obtain ⟨⟨ad, len, cap, hv, hlen⟩, hq⟩ := row_slc hX hrow (fun b hb => hbl n b hmn hn hb) b
    obtain ⟨a', len', cap', h1, h2, h3⟩ := hr
    rw [hv] at h1
    cases h1
    rw [h2]
    exact hq ad len cap hv h3

theorem WD.t1 {m : Mem E} {ns : List Nat} {d d' : DV E} (h : WD m ns d d') (hc : d.cellOk = true) : d'.cellOk = true := by
  cases h <;> first | rfl | exact hc

theorem Inv.weak {w0 : World} {G : GP} {st st' : St E} {a : Act} {w : World} {g : Gh} (h : Inv T w0 G st a w g) (hw : Weak st st') : Inv T w0 G st' a w g := by
  have hsub : ∀ n, n ∈ names st'.mem → n ∈ names st.mem := by
    intro n hn
    obtain ⟨x, hx, rfl⟩ := List.mem_map.1 hn
    obtain ⟨b0, hb0, _⟩ := hw.mm x.1 x.2 hx
    exact List.mem_map.2 ⟨_, hb0, rfl⟩
  have hX : ∀ b, free st.mem g b → free st'.mem g b := by
    intro b hb
    refine ⟨fun hb' => ?_, hb.2⟩
    obtain ⟨n, h1, h2⟩ := mem_blks.1 hb'
    exact hb.1 (mem_blks.2 ⟨n, hsub n h1, h2⟩)
  refine ⟨h.df, by rw [hw.len]; exact h.tl, ?_, hw.nn, ?_, ?_, ?_, h.fr, ?_, h.hz⟩
  · intro i hi
    have hi0 : i < st.tmps.length := by rw [← hw.len]; exact hi
    exact (hw.tm i hi0 hi).rep h hw (h.tm i hi0)
  · have : ∀ (m : Mem E), (names m).Nodup → (∀ n, n ∈ names m → n ∈ names st.mem) → (blks m g).Nodup := by
      intro m
      induction m with
      | nil => intro _ _; simp [blks]
      | cons x m ih =>
        intro hn hs
        simp only [names, List.map_cons, List.nodup_cons] at hn
        simp only [blks, List.flatMap_cons]
        rw [List.nodup_append]
        refine ⟨by cases blk (g x.1) <;> simp, ih hn.2 (fun n hm => hs n (List.mem_cons_of_mem _ hm)), ?_⟩
        rintro b hb b' hb' rfl
        simp only [Option.mem_toList] at hb
        obtain ⟨n, h1, h2⟩ := mem_blks.1 (show b ∈ blks m g from hb')
        have := blk_inj h.nd h.nn (hs x.1 (List.mem_cons_self ..)) (hs n (List.mem_cons_of_mem _ h1)) hb h2
        exact hn.1 (this ▸ h1)
    exact this _ hw.nn hsub
  · intro n bx hm
    obtain ⟨b0, hb0, hwb⟩ := hw.mm n bx hm
    have hr := h.mm n b0 hb0
    cases hwb with
    | same b =>
      cases bx with
      | cells t cs =>
        obtain ⟨b, vs, h1, h2, h3, h4⟩ := hr
        refine ⟨b, vs, h1, h2, h3, fun i hi hi' => ?_⟩
        obtain ⟨p1, p2, p3⟩ := h4 i hi hi'
        refine ⟨p1.mono (fun b hb hlt => ⟨hX b hb, hlt, rfl⟩) (fun _ _ => rfl) (fun _ _ _ _ _ _ _ _ _ => rfl), p2, p3⟩
      | row e k l =>
        obtain ⟨xs, p1, p2⟩ := RepRow.els hr
        exact RepRow.mk' p1 (p2.mono fun b hb hlt => ⟨hX b hb, hlt, rfl⟩)
      | siter s pos => exact hr
    | @cells t cs cs' hl hh =>
      obtain ⟨b, vs, h1, h2, h3, h4⟩ := hr
      refine ⟨b, vs, h1, h2, by rw [hl]; exact h3, fun i hi hi' => ?_⟩
      have hi0 : i < cs.length := by rw [← hl]; exact hi
      obtain ⟨p1, p2, p3⟩ := h4 i hi0 hi'
      have hd := hh i hi0 hi
      have hk := hd.t1 p3
      have hq := hd.rep h hw (.of1 p1)
      refine ⟨?_, p2, hk⟩
      generalize cs'[i] = dd at hq hk
      cases dd <;> first | exact hq | (simp [DV.cellOk] at hk; done)
  · intro b hb
    obtain ⟨n, h1, h2⟩ := mem_blks.1 hb
    exact h.bo b (mem_blks.2 ⟨n, hsub n h1, h2⟩)
  · intro i hi n j cs off he
    have hi0 : i < st.tmps.length := by rw [← hw.len]; exact hi
    have := hw.tm i hi0 hi
    rw [he] at this
    generalize hdd : st.tmps[i] = dd at this
    cases this with
    | same d hr => exact hr n j cs off rfl

/-! ### names are forgotten -/

def fz (m : Mem E) (ns : List Nat) (d : DV E) : DV E :=
  match d with
  | .rowp n => if ns.contains n then
      match look m n with
      | some (.row _ k l) => .slc k l
      | _ => .junk
    else .rowp n
  | .rowv n b => if ns.contains n then
      match look m n with
      | some (.row _ k l) => .slc k (l.take b)
      | _ => .junk
    else .rowv n b
  | d => if d.touch' ns then .junk else d

def fzB (m : Mem E) (ns : List Nat) : Box E → Box E
  | .cells t cs => .cells t (cs.map (fz m ns))
  | b => b

def forget (ns : List Nat) (st : St E) : St E :=
  if ns.isEmpty = true then st else ⟨st.tmps.map (fz st.mem ns), (st.mem.filter fun x => !ns.contains x.1).map fun x => (x.1, fzB st.mem ns x.2)⟩

theorem names_forget (m : Mem E) (ns : List Nat) (f : Nat × Box E → Box E) : names ((m.filter fun x => !ns.contains x.1).map fun x => (x.1, f x)) = (names m).filter fun n => !ns.contains n := by
  induction m with
  | nil => rfl
  | cons x m ih =>
    simp only [names, List.map_cons, List.filter_cons] at ih ⊢
    split
    · rw [List.map_cons, List.map_cons]; exact congrArg _ ih
    · exact ih

theorem fz_wd {m : Mem E} {ns ns' : List Nat} {d : DV E} (hn : ∀ n ∈ ns, n ∉ ns') (hr : ∀ n i cs off, d = .rptr n i cs off → n ∉ ns → n ∈ ns') : WD m ns' d (fz m ns d) := by
  unfold fz
  split
  · rename_i n
    split
    · rename_i hc
      split
      · rename_i e k l hl
        exact .rowp (look_mem hl) (hn n (by simpa using hc))
      · exact .junk _
    · exact .same _ (fun _ _ _ _ e => by cases e)
  · rename_i n b
    split
    · rename_i hc
      split
      · rename_i e k l hl
        exact .rowv (look_mem hl) (hn n (by simpa using hc))
      · exact .junk _
    · exact .same _ (fun _ _ _ _ e => by cases e)
  · split
    · exact .junk _
    · rename_i ht
      refine .same _ fun n i cs off e => hr n i cs off e fun hin => ht ?_
      rw [e]
      simpa [DV.touch', DV.touch] using hin

theorem forget_weak {w0 : World} {G : GP} {st : St E} {a : Act} {w : World} {g : Gh} (h : Inv T w0 G st a w g) (ns : List Nat) : Inv T w0 G (forget ns st) a w g := by
  unfold forget
  split
  · exact h
  · have hnm := names_forget st.mem ns fun x => fzB st.mem ns x.2
    have hn : ∀ n ∈ ns, n ∉ (names st.mem).filter fun n => !ns.contains n := by intro n hn hm; simp [hn] at hm
    refine h.weak ⟨by simp, ?_, ?_, ?_⟩
    · show (names _).Nodup
      rw [hnm]
      exact List.Nodup.sublist List.filter_sublist h.nn
    · intro i hi hi'
      simp only [List.getElem_map]
      refine fz_wd (by rw [hnm]; exact hn) fun n j cs off e hnn => ?_
      rw [hnm]
      exact List.mem_filter.2 ⟨h.rl i hi n j cs off e, by simpa using hnn⟩
    · intro n bx hm
      obtain ⟨⟨n0, b0⟩, hx, he⟩ := List.mem_map.1 hm
      cases he
      have hx' := (List.mem_filter.1 hx).1
      refine ⟨b0, hx', ?_⟩
      cases b0 with
      | cells t cs =>
        refine .cells t (by simp) fun i hi hi' => ?_
        simp only [List.getElem_map]
        refine fz_wd (by rw [hnm]; exact hn) fun n j cs' off e hnn => ?_
        obtain ⟨b, vs, h1, h2, h3, h4⟩ := h.mm n0 _ hx'
        have := (h4 i hi (by omega)).2.2
        rw [e] at this
        simp [DV.cellOk] at this
      | row e k l => exact .same _
      | siter s pos => exact .same _

end Go.Vm

/- The abstract value machine: values that are seen anew: a nil slice as a row of one's own, a nil pointer as 'nothing or the box itself'. -/
namespace Go.Vm
open Go.Lib
set_option linter.unusedVariables false
variable {K : Type} {E : K → Type}

inductive Co (K : Type) where
  | tmpRow (t m : Nat) (e : TypeId) (k : K)
  | cellRow (n c m : Nat) (e : TypeId) (k : K)
  | cellSelf (n c : Nat)
  | cellSlc (n c : Nat) (k : K)
  | tmpSlc (t : Nat) (k : K)

/-- A cell of a box is seen anew. -/
def seeCell (n c : Nat) (f : DV E → Option (DV E)) (st : St E) : St E :=
  match look st.mem n with
  | some (.cells t cs) => match f (cs.getD c .junk) with
    | some d => st.app none ⟨.junk, [], some (setB st.mem n (.cells t (cs.set c d)))⟩
    | none => st
  | _ => st
def nilsTo (d' : DV E) : DV E → Option (DV E)
  | .nils => some d'
  | _ => none
def toSelf (n : Nat) : DV E → Option (DV E)
  | .nilp => some (.argp n)
  | .ptr m 0 => if m = n then some (.argp n) else none
  | _ => none
def isNils : DV E → Bool
  | .nils => true
  | _ => false
def cellAt (n c : Nat) (mem : Mem E) : DV E := match look mem n with
  | some (.cells _ cs) => cs.getD c .junk
  | _ => .junk
/-- A row under another name; who else names it is dead. -/
def renMem (x m : Nat) (b : Box E) (mem : Mem E) : Mem E := (m, b) :: killM [x, m] (dropL mem [x, m])
def rowAt (d : DV E) (mem : Mem E) : Option (Nat × Box E) := match d with
  | .rowp x => match look mem x with
    | some (.row e k l) => some (x, .row e k l)
    | _ => none
  | _ => none
def renTmp (t m : Nat) (st : St E) : St E :=
  match rowAt (st.tmps.getD t .junk) st.mem with
  | some (x, b) => if x = m then st else st.app (some t) ⟨.rowp m, [x, m], some (renMem x m b st.mem)⟩
  | none => st
def junkTo (d' : DV E) : DV E → Option (DV E)
  | .junk => some d'
  | _ => none
def renCell (n c m : Nat) (st : St E) : St E :=
  match rowAt (cellAt n c st.mem) st.mem with
  | some (x, b) => if x = m ∨ n = x ∨ n = m then st else seeCell n c (junkTo (.rowp m)) (st.app none ⟨.junk, [x, m], some (renMem x m b st.mem)⟩)
  | none => st
def coe1 (c : Co K) (st : St E) : St E :=
  match c with
  | .tmpRow t m e k => if isNils (st.tmps.getD t .junk) = true then st.app (some t) ⟨.rowp m, [m], some (addB st.mem m (.row e k []))⟩ else renTmp t m st
  | .cellRow n c m e k => if isNils (cellAt n c st.mem) = true ∧ n ≠ m then seeCell n c (nilsTo (.rowp m)) (st.app none ⟨.junk, [m], some (addB st.mem m (.row e k []))⟩) else renCell n c m st
  | .cellSelf n c => seeCell n c (toSelf n) st
  | .cellSlc n c k => seeCell n c (nilsTo (.slc k [])) st
  | .tmpSlc t k => if isNils (st.tmps.getD t .junk) = true then st.set t (.slc k []) else st
def coes : List (Co K) → St E → St E
  | [], st => st
  | c :: cs, st => coes cs (coe1 c st)

variable {T : Tab E} {P : Program} {w0 : World} {G : GP} {st : St E} {a : Act} {w : World} {g : Gh}

theorem isNils_spec {d : DV E} (h : isNils d = true) : d = .nils := by
  unfold isNils at h; split at h
  · rfl
  · cases h

theorem keptAny (w : World) (row : Option Nat) : Kept w w row := ⟨rfl, rfl, rfl, Nat.le_refl _, fun _ _ _ => rfl⟩

theorem seeCell_ok (h : Inv T w0 G st a w g) (n c : Nat) (f : DV E → Option (DV E))
    (hf : ∀ b d d' v, g n = .pointer (some ⟨b, 0, none⟩) → f d = some d' → RepT1 T w (free st.mem g) g d v → RepT1 T w (free st.mem g) g d' v ∧ d'.cellOk = true) :
    Inv T w0 G (seeCell n c f st) a w g := by
  unfold seeCell
  split
  · rename_i t cs hl
    split
    · rename_i d hd
      obtain ⟨b, vs, h1, h2, h3, h4⟩ := h.mm n _ (look_mem hl)
      refine h.write n (.cells t (cs.set c d)) (look_names hl) (keptAny w _) ?_ (no_rptr h h1) none .junk undef (Rep.junk _).toT (fun _ _ _ _ e => by cases e)
      refine ⟨b, vs, h1, h2, by simpa using h3, fun i hi hi' => ?_⟩
      have hi0 : i < cs.length := by simpa using hi
      obtain ⟨p1, p2, p3⟩ := h4 i hi0 hi'
      by_cases hic : c = i
      · subst hic
        simp only [List.getElem_set_self]
        rw [getD_lt _ _ _ hi0] at hd
        obtain ⟨q1, q2⟩ := hf b _ _ _ h1 hd p1
        exact ⟨q1, p2, q2⟩
      · simp only [List.getElem_set_ne hic]
        exact ⟨p1, p2, p3⟩
    · exact h
  · exact h

theorem put_same (a : Act) (t : Nat) (h : t < a.tmps.size) : a.put (some t) (a.tmps.getD t undef) = a := by
  have : a.tmps.setIfInBounds t (a.tmps.getD t undef) = a.tmps := by
    apply Array.ext
    · simp
    · intro i h1 h2
      by_cases e : t = i
      · subst e; simp [h]
      · exact Array.getElem_setIfInBounds_ne h2 e
  cases a
  exact congrArg (fun q => Act.mk q _) this

theorem ren_ok (h : Inv T w0 G st a w g) {x m : Nat} {e : TypeId} {k : K} {l : List (E k)} (hl : look st.mem x = some (.row e k l)) (dst : Option Nat) (d : DV E) (v : Value)
    (hd : ∀ g' X, g'.f m = g x → RepT T w X g' d v) (hdl : ∀ k j cs off, d ≠ .rptr k j cs off) :
    Inv T w0 G (st.app dst ⟨d, [x, m], some (renMem x m (.row e k l) st.mem)⟩) (a.put dst v) w (updL g [(m, .row e k l, g x)]) := by
  have hr : RepRow T w (free st.mem g) e k l (g x) := h.mm x _ (look_mem hl)
  have hm : Multi st w g w [(m, .row e k l, g x)] [x, m] [x, m] (blk (g x)).toList := by
    refine ⟨by simp [entNames], fun n hn => ?_, ?_, fun b hb => ?_, fun b hb => ⟨x, by simp, look_names hl, by simpa using hb⟩, fun y hy => .inr ?_, fun n hn => .inl hn, fun n hn => .inl hn, Frame0.refl _ w⟩
    · simp [entNames] at hn; simp [hn]
    · simp only [entBlks, List.flatMap_cons, List.flatMap_nil, List.append_nil]
      cases blk (g x) <;> simp
    · simp only [entBlks, List.flatMap_cons, List.flatMap_nil, List.append_nil] at hb
      exact ⟨(h.bo b (mem_blks.2 ⟨x, look_names hl, by simpa using hb⟩)).1, .inr hb⟩
    · simp at hy; simp [hy]
  have hg : updL g [(m, .row e k l, g x)] m = g x := by simp [updL, updF]
  have hX := hm.X h
  have := Inv.multi hm h (fun y hy => by
    simp only [List.mem_singleton] at hy
    subst hy
    exact (show RepRow T w _ e k l (g x) from hr.mono (fun b hb hlt => ⟨(hX b hb hlt).1, hlt, rfl⟩) fun _ _ => rfl)) dst d v (hd _ _ hg) hdl
  exact this

theorem coe1_ok (c : Co K) (h : Inv T w0 G st a w g) : ∃ g', Inv T w0 G (coe1 c st) a w g' := by
  have hren : ∀ (n : Nat) (e : TypeId) (k : K) (dst : Option Nat) (d : DV E) (v : Value) (hd : RepT T w (free (addB st.mem n (.row e k [])) (upd g n (.slice none 0 0))) (upd g n (.slice none 0 0)) d v) (hdl : ∀ k j cs off, d ≠ .rptr k j cs off),
      Inv T w0 G (st.app dst ⟨d, [n], some (addB st.mem n (.row e k []))⟩) (a.put dst v) w (upd g n (.slice none 0 0)) := by
    intro n e k dst d v hd hdl
    exact h.renew n (.row e k []) _ none (Kept.refl w) (fun _ h => by cases h) (fun b hb => by cases hb) (RepRow.mk' (World.ownsRow_nil w 0 e (T.sz k)) (.nil k)) dst d v hd (fun a b c d e => absurd e (hdl a b c d))
  cases c with
  | tmpRow t m e k =>
    simp only [coe1]
    split
    · rename_i hn
      have hd := isNils_spec hn
      have hlt : t < st.tmps.length := by
        rcases Nat.lt_or_ge t st.tmps.length with h' | h'
        · exact h'
        · rw [List.getD_eq_getElem?_getD, List.getElem?_eq_none h'] at hd; cases hd
      have hr := h.tm t hlt
      rw [getD_lt _ _ _ hlt] at hd
      rw [hd] at hr
      have hv := repT_nils hr
      have := hren m e k (some t) (.rowp m) (.slice none 0 0) (by show _ = upd g m _ m; rw [upd_same]) (fun _ _ _ _ e => by cases e)
      rw [← hv, put_same a t (by rw [h.tl]; exact hlt)] at this
      exact ⟨_, this⟩
    · unfold renTmp
      split
      · rename_i x b hb
        split
        · exact ⟨g, h⟩
        · unfold rowAt at hb
          split at hb
          · rename_i x' hd
            split at hb
            · rename_i e' k' l' hl
              cases hb
              have hlt : t < st.tmps.length := by
                rcases Nat.lt_or_ge t st.tmps.length with h' | h'
                · exact h'
                · rw [List.getD_eq_getElem?_getD, List.getElem?_eq_none h'] at hd; cases hd
              have hr := h.tm t hlt
              rw [getD_lt _ _ _ hlt] at hd
              rw [hd] at hr
              have hv : a.tmps.getD t undef = g x := hr
              have := ren_ok (m := m) h hl (some t) (.rowp m) (a.tmps.getD t undef) (fun g' X e => by show _ = g'.f m; rw [e]; exact hv) (fun _ _ _ _ e => by cases e)
              rw [put_same a t (by rw [h.tl]; exact hlt)] at this
              exact ⟨_, this⟩
            · cases hb
          · cases hb
      · exact ⟨g, h⟩
  | cellRow n c m e k =>
    simp only [coe1]
    split
    · rename_i hc
      have h1 := hren m e k none .junk undef (Rep.junk _).toT (fun _ _ _ _ e => by cases e)
      refine ⟨_, seeCell_ok (a := a) h1 n c _ ?_⟩
      intro b d d' v hg hf hr
      unfold nilsTo at hf
      split at hf
      · cases hf
        have hv := repT_nils (RepT.of1 hr)
        refine ⟨?_, rfl⟩
        show v = upd g m _ m
        rw [upd_same]; exact hv
      · cases hf
    · unfold renCell
      split
      · rename_i x b hb
        split
        · exact ⟨g, h⟩
        · rename_i hne
          simp only [not_or] at hne
          unfold rowAt at hb
          split at hb
          · rename_i x' hd
            split at hb
            · rename_i e' k' l' hl
              cases hb
              have h1 := ren_ok (m := m) h hl none .junk undef (fun g' X e => (Rep.junk _).toT) (fun _ _ _ _ e => by cases e)
              -- what the cell holds
              unfold cellAt at hd
              split at hd
              · rename_i t cs hln
                obtain ⟨b, vs, p1, p2, p3, p4⟩ := h.mm n _ (look_mem hln)
                have hlt : c < cs.length := by
                  rcases Nat.lt_or_ge c cs.length with h' | h'
                  · exact h'
                  · rw [List.getD_eq_getElem?_getD, List.getElem?_eq_none h'] at hd; cases hd
                have hv : vs[c]'(by omega) = g x := by
                  have := (p4 c hlt (by omega)).1
                  rw [getD_lt _ _ _ hlt] at hd
                  rw [hd] at this
                  exact this
                have hgn : updL g [(m, .row e' k' l', g x)] n = g n := updL_not (by simp [entNames, hne.2.2])
                unfold seeCell
                split
                · rename_i t2 cs2 hl2
                  split
                  · rename_i d2 hd2
                    refine ⟨_, Inv.write (a := a) (dst := none) (d := .junk) (v := undef) h1 n _ (look_names hl2) (keptAny w _) ?_ (no_rptr h1 (by rw [hgn]; exact p1)) (Rep.junk _).toT (fun _ _ _ _ e => by cases e)⟩
                    obtain ⟨b', vs', q1, q2, q3, q4⟩ := h1.mm n _ (look_mem hl2)
                    rw [hgn, p1] at q1
                    cases q1
                    rw [p2] at q2
                    cases q2
                    refine ⟨b, vs, by rw [hgn]; exact p1, p2, by simpa using q3, fun i hi hi' => ?_⟩
                    have hi0 : i < cs2.length := by simpa using hi
                    obtain ⟨r1, r2, r3⟩ := q4 i hi0 hi'
                    by_cases hic : c = i
                    · subst hic
                      simp only [List.getElem_set_self]
                      unfold junkTo at hd2
                      split at hd2
                      · cases hd2
                        refine ⟨?_, r2, rfl⟩
                        show vs[c] = updL g _ m
                        rw [hv]; simp [updL, updF]
                      · cases hd2
                    · simp only [List.getElem_set_ne hic]
                      exact ⟨r1, r2, r3⟩
                  · exact ⟨_, h1⟩
                · exact ⟨_, h1⟩
              · cases hd
            · cases hb
          · cases hb
      · exact ⟨g, h⟩
  | cellSelf n c =>
    refine ⟨g, seeCell_ok h n c _ ?_⟩
    intro b d d' v hg hf hr
    unfold toSelf at hf
    split at hf
    · cases hf
      exact ⟨⟨b, hg, .inl (repT_nilp (RepT.of1 hr))⟩, rfl⟩
    · split at hf
      · rename_i e
        subst e
        cases hf
        obtain ⟨b', h1, h2⟩ := hr
        exact ⟨⟨b', h1, .inr h2⟩, rfl⟩
      · cases hf
    · cases hf
  | cellSlc n c k =>
    refine ⟨g, seeCell_ok h n c _ ?_⟩
    intro b d d' v hg hf hr
    unfold nilsTo at hf
    split at hf
    · cases hf
      have hv := repT_nils (RepT.of1 hr)
      rw [hv]
      exact ⟨Rep.slcn k, rfl⟩
    · cases hf
  | tmpSlc t k =>
    simp only [coe1]
    split
    · rename_i hn
      have hd := isNils_spec hn
      have hlt : t < st.tmps.length := by
        rcases Nat.lt_or_ge t st.tmps.length with h' | h'
        · exact h'
        · rw [List.getD_eq_getElem?_getD, List.getElem?_eq_none h'] at hd; cases hd
      have hr := h.tm t hlt
      rw [getD_lt _ _ _ hlt] at hd
      rw [hd] at hr
      have hv := repT_nils hr
      have := h.put (some t) (d := .slc k []) (v := .slice none 0 0) (Rep.slcn k) (fun _ _ _ _ e => by cases e)
      rw [← hv, put_same a t (by rw [h.tl]; exact hlt)] at this
      exact ⟨g, this⟩
    · exact ⟨g, h⟩

theorem coes_ok : ∀ (cs : List (Co K)) {st : St E} {g : Gh}, Inv T w0 G st a w g → ∃ g', Inv T w0 G (coes cs st) a w g'
  | [], st, g, h => ⟨g, h⟩
  | c :: cs, st, g, h => by
    obtain ⟨g1, h1⟩ := coe1_ok c h
    exact coes_ok cs h1

theorem coe1_len (c : Co K) (st : St E) : (coe1 c st).tmps.length = st.tmps.length := by
  have hs : ∀ n c f (st : St E), (seeCell n c f st).tmps.length = st.tmps.length := by
    intro n c f st
    unfold seeCell
    split
    · split
      · simp [St.app]
      · rfl
    · rfl
  have hr : ∀ t m (st : St E), (renTmp t m st).tmps.length = st.tmps.length := by
    intro t m st
    unfold renTmp
    split
    · split
      · rfl
      · simp [St.app]
    · rfl
  have hc : ∀ n c m (st : St E), (renCell n c m st).tmps.length = st.tmps.length := by
    intro n c m st
    unfold renCell
    split
    · split
      · rfl
      · rw [hs]; simp [St.app]
    · rfl
  cases c <;> simp only [coe1] <;> (try split) <;> simp [hs, hr, hc, St.app, St.set]
theorem coes_len : ∀ (cs : List (Co K)) (st : St E), (coes cs st).tmps.length = st.tmps.length
  | [], st => rfl
  | c :: cs, st => by rw [coes, coes_len cs, coe1_len]

end Go.Vm

/- The abstract value machine: shapes of states; the run of a body. -/
namespace Go.Vm
open Go.Lib
set_option linter.unusedVariables false
variable {K : Type} {E : K → Type}

/-! ### shapes -/

inductive S0 (K : Type) where
  | int (k : IntKind) | bool | str | slc (k : K) | nilp | nili | nils | fn (f : FuncId) | ptr (n off : Nat) | rowp (n : Nat) | rowv (n : Nat) | row (e : TypeId) (k : K) | argp (j : Nat) | junk

inductive S1 (K : Type) where
  | a (s : S0 K) | agg (ss : List (S0 K)) | elt (k : K) | eptr (k : K) (off : Nat) | pin (t : TypeId) (ss : List (S0 K)) | newb (t : TypeId) (ss : List (S0 K)) | ifc (t : TypeId) (s : S0 K) | ifcA (t : TypeId) (ss : List (S0 K))

inductive SB (K : Type) where
  | cells (t : TypeId) (ss : List (S0 K)) | row (e : TypeId) (k : K) | siter

inductive It (K : Type) where
  | tmp (t : Nat) (s : S1 K) | box (n : Nat) (b : SB K)

structure SS (K : Type) where
  its : List (It K)
  frz : List Nat := []
  co : List (Co K) := []

variable (E) in
def S0.ty : S0 K → Type
  | .int _ => Int
  | .bool => Bool
  | .str => List UInt8
  | .slc k => List (E k)
  | .rowv _ => Nat
  | .row _ k => List (E k)
  | _ => Unit
variable (E) in
def tyL : List (S0 K) → Type
  | [] => Unit
  | s :: r => s.ty E × tyL r
variable (E) in
def S1.ty : S1 K → Type
  | .a s => s.ty E
  | .agg ss | .pin _ ss | .newb _ ss | .ifcA _ ss => tyL E ss
  | .elt k | .eptr k _ => E k
  | .ifc _ s => s.ty E
variable (E) in
def SB.ty : SB K → Type
  | .cells _ ss => tyL E ss
  | .row _ k => List (E k)
  | .siter => List UInt8 × Nat
variable (E) in
def It.ty : It K → Type
  | .tmp _ s => s.ty E
  | .box _ b => b.ty E
variable (E) in
def tyI : List (It K) → Type
  | [] => Unit
  | i :: r => i.ty E × tyI r

def S0.abs : (s : S0 K) → s.ty E → DV E
  | .int k, n => .int k n
  | .bool, b => .bool b
  | .str, s => .str s
  | .slc k, l => .slc k l
  | .nilp, _ => .nilp
  | .nili, _ => .nili
  | .nils, _ => .nils
  | .fn f, _ => .fn f []
  | .ptr n off, _ => .ptr n off
  | .rowp n, _ => .rowp n
  | .rowv n, b => .rowv n b
  | .row e k, l => .row e k l
  | .argp j, _ => .argp j
  | .junk, _ => .junk
def absL : (ss : List (S0 K)) → tyL E ss → List (DV E)
  | [], _ => []
  | s :: r, x => s.abs x.1 :: absL r x.2
section
variable (T : Tab E)
def S1.abs : (s : S1 K) → s.ty E → DV E
  | .a s, x => s.abs x
  | .agg ss, x => .agg (absL ss x)
  | .elt k, x => .agg (T.enc k x)
  | .eptr k off, x => .eptr (T.enc k x) off
  | .pin t ss, x => .pin t (absL ss x)
  | .newb t ss, x => .newb t (absL ss x)
  | .ifc t s, x => .ifc t (s.abs x)
  | .ifcA t ss, x => .ifc t (.agg (absL ss x))
def SB.abs : (s : SB K) → s.ty E → Box E
  | .cells t ss, x => .cells t (absL ss x)
  | .row e k, l => .row e k l
  | .siter, x => .siter x.1 x.2
def It.abs : (i : It K) → i.ty E → St E → St E
  | .tmp t s, x, st => ⟨st.tmps.set t (s.abs T x), st.mem⟩
  | .box n b, x, st => ⟨st.tmps, (n, b.abs x) :: st.mem⟩
def absI (nt : Nat) : (its : List (It K)) → tyI E its → St E
  | [], _ => ⟨List.replicate nt .junk, []⟩
  | i :: r, x => i.abs T x.1 (absI nt r x.2)

def gInt (k : IntKind) (d : DV E) : Option (Int) := match d with
  | .int k' n => if k' = k then some n else none
  | _ => none
def gBool (d : DV E) : Option (Bool) := match d with
  | .bool b => some b
  | _ => none
def gStr (d : DV E) : Option (List UInt8) := match d with
  | .str s => some s
  | _ => none
def gSlc (k : K) (d : DV E) : Option (List (E k)) := match d with
  | .slc k' l => castL T k k' l
  | _ => none
def gNilp (d : DV E) : Option (Unit) := match d with
  | .nilp => some ()
  | _ => none
def gNili (d : DV E) : Option (Unit) := match d with
  | .nili => some ()
  | _ => none
def gNils (d : DV E) : Option (Unit) := match d with
  | .nils => some ()
  | _ => none
def gFn (f : FuncId) (d : DV E) : Option (Unit) := match d with
  | .fn f' [] => if f' = f then some () else none
  | _ => none
def gPtr (n off : Nat) (d : DV E) : Option (Unit) := match d with
  | .ptr n' off' => if n' = n ∧ off' = off then some () else none
  | _ => none
def gRowp (n : Nat) (d : DV E) : Option (Unit) := match d with
  | .rowp n' => if n' = n then some () else none
  | _ => none
def gRowv (n : Nat) (d : DV E) : Option (Nat) := match d with
  | .rowv n' b => if n' = n then some b else none
  | _ => none
def gRow (e : TypeId) (k : K) (d : DV E) : Option (List (E k)) := match d with
  | .row e' k' l => if e' = e then castL T k k' l else none
  | _ => none
def gArgp (j : Nat) (d : DV E) : Option (Unit) := match d with
  | .argp j' => if j' = j then some () else none
  | _ => none
def gJunk (d : DV E) : Option (Unit) := match d with
  | .junk => some ()
  | _ => none
def S0.rd (s : S0 K) (d : DV E) : Option (s.ty E) :=
  match s with
  | .int k => gInt k d
  | .bool => gBool d
  | .str => gStr d
  | .slc k => gSlc T k d
  | .nilp => gNilp d
  | .nili => gNili d
  | .nils => gNils d
  | .fn f => gFn f d
  | .ptr n off => gPtr n off d
  | .rowp n => gRowp n d
  | .rowv n => gRowv n d
  | .row e k => gRow T e k d
  | .argp j => gArgp j d
  | .junk => gJunk d
def rdL : (ss : List (S0 K)) → List (DV E) → Option (tyL E ss)
  | [], [] => some ()
  | s :: r, d :: ds => (s.rd T d).bind fun x => (rdL r ds).bind fun y => some (x, y)
  | _, _ => none
/-- Cells that are an element: (the cells' ranges are looked at.) -/
def inrB (d : DV E) : Bool := match d with
  | .int k n => okInt k n
  | _ => true
def gAgg (d : DV E) : Option (List (DV E)) := match d with
  | .agg cs => some cs
  | _ => none
def gPin (t : TypeId) (d : DV E) : Option (List (DV E)) := match d with
  | .pin t' cs => if t' = t then some cs else none
  | _ => none
def gNewb (t : TypeId) (d : DV E) : Option (List (DV E)) := match d with
  | .newb t' cs => if t' = t then some cs else none
  | _ => none
def gIfc (t : TypeId) (d : DV E) : Option (DV E) := match d with
  | .ifc t' d => if t' = t then some d else none
  | _ => none
def S1.rd (s : S1 K) (d : DV E) : Option (s.ty E) :=
  match s with
  | .a s => s.rd T d
  | .agg ss => (gAgg d).bind (rdL T ss)
  | .pin t ss => (gPin t d).bind (rdL T ss)
  | .newb t ss => (gNewb t d).bind (rdL T ss)
  | .ifc t s => (gIfc t d).bind (s.rd T)
  | .ifcA t ss => (gIfc t d).bind fun d => (gAgg d).bind (rdL T ss)
  | _ => none
def SB.rd : (s : SB K) → Box E → Option (s.ty E)
  | .cells t ss, .cells t' cs => if t' = t then rdL T ss cs else none
  | .row e k, .row e' k' l => if e' = e then castL T k k' l else none
  | .siter, .siter s pos => some (s, pos)
  | _, _ => none
def It.rd (st : St E) : (i : It K) → Option (i.ty E)
  | .tmp t s => s.rd T (st.tmps.getD t .junk)
  | .box n b => (look st.mem n).bind (b.rd T)
def rdI (st : St E) : (its : List (It K)) → Option (tyI E its)
  | [] => some ()
  | i :: r => (i.rd T st).bind fun x => (rdI st r).bind fun y => some (x, y)
def boxNames : List (It K) → List Nat
  | [] => []
  | .tmp .. :: r => boxNames r
  | .box n _ :: r => n :: boxNames r
def rdS (nt : Nat) (ss : SS K) (st : St E) : Option (tyI E ss.its) :=
  if st.tmps.length = nt ∧ nodupB (boxNames ss.its) = true then rdI T (coes ss.co (forget ss.frz st)) ss.its else none

inductive Ex where
  | norm | exit (i : Nat) | ret
  deriving DecidableEq

variable (E) in
def sumT : Ex × SS K → List (Ex × SS K) → Type
  | x, [] => tyI E x.2.its
  | x, y :: r => tyI E x.2.its ⊕ sumT y r
def rdSum (nt : Nat) : (x : Ex × SS K) → (l : List (Ex × SS K)) → Ex → St E → Option (sumT E x l)
  | x, [], e, st => if x.1 = e then rdS T nt x.2 st else none
  | x, y :: r, e, st => if x.1 = e then (rdS T nt x.2 st).bind fun v => some (.inl v) else (rdSum nt y r e st).bind fun v => some (.inr v)
def absSum {γ : Type} (nt : Nat) : (x : Ex × SS K) → (l : List (Ex × SS K)) → sumT E x l → (Ex → St E → γ) → γ
  | x, [], v, k => k x.1 (absI T nt x.2.its v)
  | x, y :: r, v, k => match v with
    | .inl v => k x.1 (absI T nt x.2.its v)
    | .inr v => absSum nt y r v k

end

def assoc {α : Type} : List (Nat × α) → Nat → Option α
  | [], _ => none
  | (k, a) :: r, n => if k = n then some a else assoc r n

structure Plan (K : Type) where
  orc : Orc := {}
  nt : Nat
  joins : List (Nat × (Ex × SS K) × List (Ex × SS K)) := []
  loops : List (Nat × SS K × (Ex × SS K) × List (Ex × SS K)) := []
  frz : List (Nat × List Nat) := []
  cuts : List (Nat × List (Nat × SS K)) := []
  bjoins : List (Nat × (Ex × SS K) × List (Ex × SS K)) := []
  ends : List (Nat × SS K) := []

/-- How a block is left. -/
def exOut (id : Nat) (e : Ex) : Ex := match e with
  | .exit j => if j = id then .norm else .exit j
  | e => e

/-- The first region in it (and 1): so conditions are told apart. -/
def firstReg : Code → Nat
  | .region id _ _ => id + 1
  | .seq x y => if firstReg x = 0 then firstReg y else firstReg x
  | .cond _ x y => if firstReg x = 0 then firstReg y else firstReg x
  | .block _ b => firstReg b
  | .loop b => firstReg b
  | _ => 0

def loopM {X Y : Type} (f : X → Option (X ⊕ Y)) : Nat → X → Option Y
  | 0, _ => none
  | n + 1, x => (f x).bind fun r => match r with
    | .inl x' => loopM f n x'
    | .inr y => some y

section
variable (T : Tab E) (P : Program) (env : Env E) (pl : Plan K) (F : Nat)

def joinOf (q : Nat) : Operand → Option ((Ex × SS K) × List (Ex × SS K))
  | .tmp t => assoc pl.joins (t + 100000 * q)
  | _ => none

/-- A region in the text's order, with cuts at which the ways meet. -/
def runCuts (ops : Array Oper) {β : Type} : List (Nat × SS K) → List Nat → St E → (St E → Option β) → Option β
  | [], l, st, k => runOps T P env pl.orc ops none l [] st k
  | (c, ss) :: r, l, st, k => (runOps T P env pl.orc ops none (l.take c) [] st (rdS T pl.nt ss)).bind fun x => runCuts ops r (l.drop c) (absI T pl.nt ss.its x) k

def runC : Code → Nat → St E → {β : Type} → (Ex → St E → Option β) → Option β
  | .skip, _, st, _, k => k .norm st
  | .region id ops draw, _, st, _, k =>
    if draw = true then
      if edgesBack ops = true then
        match assoc pl.ends id with
        | none => runOps T P env pl.orc ops (some (masks ops)) (List.range ops.size) [] (forget ((assoc pl.frz id).getD []) st) (k .norm)
        | some ss => (runOps T P env pl.orc ops (some (masks ops)) (List.range ops.size) [] (forget ((assoc pl.frz id).getD []) st) (rdS T pl.nt ss)).bind fun x => k .norm (absI T pl.nt ss.its x)
      else none
    else runCuts T P env pl ops ((assoc pl.cuts id).getD []) (List.range ops.size) (forget ((assoc pl.frz id).getD []) st) (k .norm)
  | .seq x y, l, st, _, k => runC x l st fun e st' => match e with
    | .norm => runC y l st' k
    | e => k e st'
  | .cond c x y, l, st, _, k =>
    match st.ev c with
    | .bool b =>
      match joinOf pl (firstReg (.seq x y)) c with
      | none => if b = true then runC x l st k else runC y l st k
      | some (h, r) => (if b = true then runC x l st (rdSum T pl.nt h r) else runC y l st (rdSum T pl.nt h r)).bind fun t => absSum T pl.nt h r t k
    | _ => none
  | .block id body, _, st, _, k =>
    match assoc pl.bjoins id with
    | none => runC body id st fun e st' => k (exOut id e) st'
    | some (h, r) => (runC body id st fun e st' => rdSum T pl.nt h r (exOut id e) st').bind fun t => absSum T pl.nt h r t k
  | .loop body, l, st, _, k =>
    match assoc pl.loops l with
    | none => none
    | some (ss, h, r) => (rdS T pl.nt ss st).bind fun x =>
      (loopM (fun x => runC body l (absI T pl.nt ss.its x) fun e st' => match e with
        | .norm => (rdS T pl.nt ss st').bind fun v => some (Sum.inl v)
        | e => (rdSum T pl.nt h r e st').bind fun v => some (Sum.inr v)) F x).bind fun y => absSum T pl.nt h r y k
  | .exit id, _, st, _, k => k (.exit id) st
  | .ret, _, st, _, k => k .ret st
  | _, _, _, _, _ => none
end

end Go.Vm

/- The abstract value machine: the run of a body is sound. -/
namespace Go.Vm
open Go.Lib
set_option linter.unusedVariables false
variable {K : Type} {E : K → Type}
variable {T : Tab E} {P : Program}

/-! ### shapes are true -/

theorem ite_some {α : Type} {c : Prop} [Decidable c] {m : Option α} {x : α} (h : (if c then m else none) = some x) : c ∧ m = some x := by
  by_cases hc : c
  · rw [if_pos hc] at h; exact ⟨hc, h⟩
  · rw [if_neg hc] at h; cases h

theorem gInt_ok {k : IntKind} {d : DV E} {x : Int} (h : gInt k d = some x) : DV.int k x = d := by
  unfold gInt at h
  split at h
  · obtain ⟨e, h⟩ := ite_some h; cases h; subst e; rfl
  · cases h
theorem gBool_ok {d : DV E} {x : Bool} (h : gBool d = some x) : DV.bool x = d := by
  unfold gBool at h
  split at h
  · cases h; rfl
  · cases h
theorem gStr_ok {d : DV E} {x : List UInt8} (h : gStr d = some x) : DV.str x = d := by
  unfold gStr at h
  split at h
  · cases h; rfl
  · cases h
theorem gSlc_ok {k : K} {d : DV E} {x : List (E k)} (h : gSlc T k d = some x) : DV.slc k x = d := by
  unfold gSlc at h
  split at h
  · obtain ⟨e, he⟩ := castL_spec h; subst e; rw [he]
  · cases h
theorem gNilp_ok {d : DV E} {x : Unit} (h : gNilp d = some x) : DV.nilp = d := by
  unfold gNilp at h
  split at h
  · cases h; rfl
  · cases h
theorem gNili_ok {d : DV E} {x : Unit} (h : gNili d = some x) : DV.nili = d := by
  unfold gNili at h
  split at h
  · cases h; rfl
  · cases h
theorem gNils_ok {d : DV E} {x : Unit} (h : gNils d = some x) : DV.nils = d := by
  unfold gNils at h
  split at h
  · cases h; rfl
  · cases h
theorem gFn_ok {f : FuncId} {d : DV E} {x : Unit} (h : gFn f d = some x) : DV.fn f [] = d := by
  unfold gFn at h
  split at h
  · obtain ⟨e, h⟩ := ite_some h; cases h; subst e; rfl
  · cases h
theorem gPtr_ok {n off : Nat} {d : DV E} {x : Unit} (h : gPtr n off d = some x) : DV.ptr n off = d := by
  unfold gPtr at h
  split at h
  · obtain ⟨⟨e, e'⟩, h⟩ := ite_some h; subst e; subst e'; rfl
  · cases h
theorem gRowp_ok {n : Nat} {d : DV E} {x : Unit} (h : gRowp n d = some x) : DV.rowp n = d := by
  unfold gRowp at h
  split at h
  · obtain ⟨e, h⟩ := ite_some h; cases h; subst e; rfl
  · cases h
theorem gRowv_ok {n : Nat} {d : DV E} {x : Nat} (h : gRowv n d = some x) : DV.rowv n x = d := by
  unfold gRowv at h
  split at h
  · obtain ⟨e, h⟩ := ite_some h; cases h; subst e; rfl
  · cases h
theorem gRow_ok {e : TypeId} {k : K} {d : DV E} {x : List (E k)} (h : gRow T e k d = some x) : DV.row e k x = d := by
  unfold gRow at h
  split at h
  · obtain ⟨e, h2⟩ := ite_some h; obtain ⟨e', he⟩ := castL_spec h2; subst e; subst e'; rw [he]
  · cases h
theorem gArgp_ok {j : Nat} {d : DV E} {x : Unit} (h : gArgp j d = some x) : DV.argp j = d := by
  unfold gArgp at h
  split at h
  · obtain ⟨e, h⟩ := ite_some h; cases h; subst e; rfl
  · cases h
theorem gJunk_ok {d : DV E} {x : Unit} (h : gJunk d = some x) : DV.junk = d := by
  unfold gJunk at h
  split at h
  · cases h; rfl
  · cases h
theorem S0.rd_ok {s : S0 K} {d : DV E} {x : s.ty E} (h : s.rd T d = some x) : s.abs x = d := by
  cases s with
  | int k => exact gInt_ok h
  | bool => exact gBool_ok h
  | str => exact gStr_ok h
  | slc k => exact gSlc_ok h
  | nilp => exact gNilp_ok h
  | nili => exact gNili_ok h
  | nils => exact gNils_ok h
  | fn f => exact gFn_ok h
  | ptr n off => exact gPtr_ok h
  | rowp n => exact gRowp_ok h
  | rowv n => exact gRowv_ok h
  | row e k => exact gRow_ok h
  | argp j => exact gArgp_ok h
  | junk => exact gJunk_ok h

theorem rdL_ok : ∀ {ss : List (S0 K)} {ds : List (DV E)} {x : tyL E ss}, rdL T ss ds = some x → absL ss x = ds
  | [], [], x, h => rfl
  | [], d :: ds, x, h => by simp [rdL] at h
  | s :: r, [], x, h => by simp [rdL] at h
  | s :: r, d :: ds, x, h => by
    simp only [rdL] at h
    obtain ⟨y, hy, h⟩ := Option.bind_eq_some_iff.1 h
    obtain ⟨z, hz, h⟩ := Option.bind_eq_some_iff.1 h
    cases h
    simp only [absL, S0.rd_ok hy, rdL_ok hz]

theorem gAgg_ok {d : DV E} {x : List (DV E)} (h : gAgg d = some x) : DV.agg x = d := by
  unfold gAgg at h
  split at h
  · cases h; rfl
  · cases h
theorem gPin_ok {t : TypeId} {d : DV E} {x : List (DV E)} (h : gPin t d = some x) : DV.pin t x = d := by
  unfold gPin at h
  split at h
  · obtain ⟨e, h⟩ := ite_some h; cases h; subst e; rfl
  · cases h
theorem gNewb_ok {t : TypeId} {d : DV E} {x : List (DV E)} (h : gNewb t d = some x) : DV.newb t x = d := by
  unfold gNewb at h
  split at h
  · obtain ⟨e, h⟩ := ite_some h; cases h; subst e; rfl
  · cases h
theorem gIfc_ok {t : TypeId} {d x : DV E} (h : gIfc t d = some x) : DV.ifc t x = d := by
  unfold gIfc at h
  split at h
  · obtain ⟨e, h⟩ := ite_some h; cases h; subst e; rfl
  · cases h

theorem S1.rd_ok {s : S1 K} {d : DV E} {x : s.ty E} (h : s.rd T d = some x) : s.abs T x = d := by
  cases s with
  | a s => exact S0.rd_ok h
  | elt k => cases h
  | eptr k off => cases h
  | agg ss => obtain ⟨cs, h1, h⟩ := Option.bind_eq_some_iff.1 h; rw [← gAgg_ok h1]; exact congrArg _ (rdL_ok h)
  | pin t ss => obtain ⟨cs, h1, h⟩ := Option.bind_eq_some_iff.1 h; rw [← gPin_ok h1]; exact congrArg _ (rdL_ok h)
  | newb t ss => obtain ⟨cs, h1, h⟩ := Option.bind_eq_some_iff.1 h; rw [← gNewb_ok h1]; exact congrArg _ (rdL_ok h)
  | ifc t s => obtain ⟨cs, h1, h⟩ := Option.bind_eq_some_iff.1 h; rw [← gIfc_ok h1]; exact congrArg _ (S0.rd_ok h)
  | ifcA t ss =>
    obtain ⟨d', h1, h⟩ := Option.bind_eq_some_iff.1 h
    obtain ⟨cs, h2, h⟩ := Option.bind_eq_some_iff.1 h
    rw [← gIfc_ok h1, ← gAgg_ok h2]
    exact congrArg (fun q => DV.ifc _ (.agg q)) (rdL_ok h)

theorem SB.rd_ok {s : SB K} {b : Box E} {x : s.ty E} (h : s.rd T b = some x) : s.abs x = b := by
  cases s <;> cases b <;> simp only [SB.rd] at h <;> first | (cases h; done) | skip
  case cells.cells => obtain ⟨e, h⟩ := ite_some h; subst e; exact congrArg _ (rdL_ok h)
  case row.row =>
    obtain ⟨e, h⟩ := ite_some h
    subst e
    obtain ⟨e, he⟩ := castL_spec h
    subst e
    rw [he]
    rfl
  case siter.siter => cases h; rfl

theorem abs_noR {s : S1 K} {x : s.ty E} : ∀ n i cs off, s.abs T x ≠ .rptr n i cs off := by
  intro n i cs off
  cases s with
  | a s => cases s <;> simp [S1.abs, S0.abs]
  | _ => simp [S1.abs]

theorem rdI_ok {st : St E} : ∀ {its : List (It K)} {x : tyI E its}, rdI T st its = some x →
    (absI T st.tmps.length its x).tmps.length = st.tmps.length ∧ names (absI T st.tmps.length its x).mem = boxNames its ∧
    (∀ i (hi : i < st.tmps.length) (hi' : i < (absI T st.tmps.length its x).tmps.length), (absI T st.tmps.length its x).tmps[i] = .junk ∨ ((absI T st.tmps.length its x).tmps[i] = st.tmps[i] ∧ ∀ n j cs off, st.tmps[i] ≠ .rptr n j cs off)) ∧
    ∀ n b, (n, b) ∈ (absI T st.tmps.length its x).mem → (n, b) ∈ st.mem
  | [], x, h => ⟨by simp [absI], rfl, fun i hi hi' => .inl (by simp [absI]), fun n b hm => by simp [absI] at hm⟩
  | .tmp t s :: r, x, h => by
    simp only [rdI, It.rd] at h
    obtain ⟨y, hy, h⟩ := Option.bind_eq_some_iff.1 h
    obtain ⟨z, hz, h⟩ := Option.bind_eq_some_iff.1 h
    cases h
    obtain ⟨h1, h2, h3, h4⟩ := rdI_ok hz
    refine ⟨by simp [absI, It.abs, h1], by simp [absI, It.abs, boxNames, h2], fun i hi hi' => ?_, fun n b hm => h4 n b (by simpa [absI, It.abs] using hm)⟩
    simp only [absI, It.abs] at hi' ⊢
    by_cases hit : t = i
    · subst hit
      simp only [List.getElem_set_self]
      have := S1.rd_ok hy
      rw [getD_lt _ _ _ hi] at this
      refine .inr ⟨this, fun n j cs off e => ?_⟩
      rw [e] at this
      exact abs_noR n j cs off this
    · simp only [List.getElem_set_ne hit]
      exact h3 i hi (by simpa using hi')
  | .box n b :: r, x, h => by
    simp only [rdI, It.rd] at h
    obtain ⟨y, hy, h⟩ := Option.bind_eq_some_iff.1 h
    obtain ⟨z, hz, h⟩ := Option.bind_eq_some_iff.1 h
    cases h
    obtain ⟨b0, hl, hb⟩ := Option.bind_eq_some_iff.1 hy
    obtain ⟨h1, h2, h3, h4⟩ := rdI_ok hz
    refine ⟨h1, by simp only [absI, It.abs, names, List.map_cons, boxNames]; exact congrArg _ h2, h3, fun n' b' hm => ?_⟩
    simp only [absI, It.abs, List.mem_cons] at hm
    rcases hm with hm | hm
    · cases hm
      rw [SB.rd_ok hb]
      exact look_mem hl
    · exact h4 _ _ hm

section
variable {w0 : World} {G : GP}

theorem rdS_ok {nt : Nat} {ss : SS K} {st : St E} {x : tyI E ss.its} (h : rdS T nt ss st = some x) {a : Act} {w : World} {g : Gh} (hi : Inv T w0 G st a w g) : ∃ g', Inv T w0 G (absI T nt ss.its x) a w g' := by
  unfold rdS at h
  split at h
  · rename_i hc
    obtain ⟨hl, hn⟩ := hc
    have hf0 := forget_weak hi ss.frz
    obtain ⟨g', hf⟩ := coes_ok ss.co hf0
    have hlen : (coes ss.co (forget ss.frz st)).tmps.length = nt := by
      rw [coes_len]
      unfold forget; split
      · exact hl
      · simpa using hl
    subst hlen
    obtain ⟨h1, h2, h3, h4⟩ := rdI_ok h
    refine ⟨g', hf.weak ⟨h1, by rw [h2]; exact nodupB_spec hn, fun i hi hi' => ?_, fun n b hm => ⟨b, h4 n b hm, .same b⟩⟩⟩
    rcases h3 i hi hi' with h5 | ⟨h5, h6⟩
    · rw [h5]; exact .junk _
    · rw [h5]; exact .same _ (fun n j cs off e => absurd e (h6 n j cs off))
  · cases h

theorem rdSum_ok {nt : Nat} : ∀ {x : Ex × SS K} {l : List (Ex × SS K)} {e : Ex} {st : St E} {t : sumT E x l}, rdSum T nt x l e st = some t →
    ∃ st', (∀ (γ : Type) (k : Ex → St E → γ), absSum T nt x l t k = k e st') ∧ ∀ a w g, Inv T w0 G st a w g → ∃ g', Inv T w0 G st' a w g'
  | x, [], e, st, t, h => by
    simp only [rdSum] at h
    obtain ⟨he, h⟩ := ite_some h
    exact ⟨_, fun γ k => by simp only [absSum, he], fun a w g hi => rdS_ok h hi⟩
  | x, y :: r, e, st, t, h => by
    simp only [rdSum] at h
    split at h
    · rename_i he
      obtain ⟨v, hv, h⟩ := Option.bind_eq_some_iff.1 h
      cases h
      exact ⟨_, fun γ k => by simp only [absSum, he], fun a w g hi => rdS_ok hv hi⟩
    · obtain ⟨v, hv, h⟩ := Option.bind_eq_some_iff.1 h
      cases h
      obtain ⟨st', h1, h2⟩ := rdSum_ok hv
      exact ⟨st', fun γ k => by simp only [absSum]; exact h1 γ k, h2⟩

/-! ### the run -/

def Ex.ex : Ex → Exit
  | .norm => .normal
  | .exit i => .exit i
  | .ret => .ret

variable (T P w0 G) in
def Goes (J : List Nat) (c : Code) (st : St E) (e : Ex) (st' : St E) : Prop :=
  ∀ a w g, Inv T w0 G st a w g → c.wp P (fun e' a' w' => e' = e.ex ∧ ∃ g', Inv T w0 G st' a' w' g' ∧ Keep J a a') a w

def keepsO (J : List Nat) (o : Oper) : Bool := match o.dst with
  | some d => !J.contains d
  | none => true
/-- Does it leave these temporaries alone? -/
def keepsC (J : List Nat) : Code → Bool
  | .region _ ops _ => ops.toList.all (keepsO J)
  | .seq x y | .cond _ x y => keepsC J x && keepsC J y
  | .block _ b | .loop b => keepsC J b
  | _ => true

theorem keepsO_spec {J : List Nat} {ops : Array Oper} (h : ops.toList.all (keepsO J) = true) (i : Nat) (o : Oper) (ho : ops[i]? = some o) (d : Nat) (hd : o.dst = some d) : d ∉ J := by
  have := List.all_eq_true.1 h o (by simpa using Array.mem_of_getElem? ho)
  unfold keepsO at this
  rw [hd] at this
  simpa using this

variable (P) in
/-- A round of a loop, and what comes behind it. -/
def loopWp (c : Code) (Q : Exit → Act → World → Prop) (a : Act) (w : World) : Prop :=
  ∀ (b : Frame) (k : List Item) (cs : List Frame), ∃ e a' w', Q e a' w' ∧ Arrives P (lone (b.at a (.code c :: .inLoop c :: k)) cs w) b k cs e a' w'

theorem wp_of_loopWp {c : Code} {Q : Exit → Act → World → Prop} {a : Act} {w : World} (h : loopWp P c Q a w) : (Code.loop c).wp P Q a w := by
  intro b k cs
  obtain ⟨e, a', w', hq, harr⟩ := h b k cs
  exact ⟨e, a', w', hq, .of_steps (.one step_loop) harr⟩

theorem loopWp_mono {c : Code} {Q Q' : Exit → Act → World → Prop} {a : Act} {w : World} (h : loopWp P c Q a w) (hq : ∀ e a w, Q e a w → Q' e a w) : loopWp P c Q' a w :=
  fun b k cs => let ⟨e, a', w', q, r⟩ := h b k cs; ⟨e, a', w', hq _ _ _ q, r⟩

theorem loopWp_round {c : Code} {Q : Exit → Act → World → Prop} {a : Act} {w : World} (h : c.wp P (Exit.then (loopWp P c Q) Q) a w) : loopWp P c Q a w := by
  intro b k cs
  obtain ⟨e, a₁, w₁, hq, harr⟩ := h b (.inLoop c :: k) cs
  cases e with
  | normal =>
    obtain ⟨e₂, a₂, w₂, hq₂, harr₂⟩ := hq b k cs
    exact ⟨e₂, a₂, w₂, hq₂, .of_steps (Steps.trans harr (.one step_inLoop)) harr₂⟩
  | exit id => exact ⟨_, a₁, w₁, hq, .pass (x := .inLoop c) rfl (fun _ _ => .inl (by simp)) harr⟩
  | goto l => exact ⟨_, a₁, w₁, hq, .pass (x := .inLoop c) rfl (fun _ _ => .inl (by simp)) harr⟩
  | ret => exact ⟨_, a₁, w₁, hq, .pass (x := .inLoop c) rfl (fun _ _ => .inl (by simp)) harr⟩
  | panic ch => exact ⟨_, a₁, w₁, hq, .pass (x := .inLoop c) rfl (fun _ _ => .inl (by simp)) harr⟩
  | outgrown => exact ⟨_, a₁, w₁, hq, .pass (x := .inLoop c) rfl (fun _ _ => .inl (by simp)) harr⟩

theorem inv_drawn {st : St E} {a : Act} {w : World} {g : Gh} (h : Inv T w0 G st a w g) (n : Nat) : Inv T w0 G st a { w with drawn := n } g :=
  h.grow (w' := { w with drawn := n }) ⟨rfl, rfl, rfl, Nat.le_refl _, fun _ _ _ => rfl⟩ none .junk undef (Rep.junk _).toT (fun _ _ _ _ e => by cases e)

theorem repT_evBool {st : St E} {a : Act} {w : World} {g : Gh} (h : Inv T w0 G st a w g) {c : Operand} {b : Bool} (hc : st.ev c = .bool b) : a.eval c = .bool b := by
  have := h.ev c
  rw [hc] at this
  exact repT_bool this

variable {env : Env E} {pl : Plan K} {F : Nat} {J : List Nat}

theorem cuts_ok (henv : ∀ f, Ctr T P f (env f)) {ops : Array Oper} (hJ : ∀ (i : Nat) (o : Oper), ops[i]? = some o → ∀ d, o.dst = some d → d ∉ J) {β : Type} : ∀ (cuts : List (Nat × SS K)) (l : List Nat) (st : St E) (k : St E → Option β) (r : β),
    runCuts T P env pl ops cuts l st k = some r → ∃ st', k st' = some r ∧ ∀ (Q : Exit → Act → World → Prop) (a : Act) (w : World) (g : Gh), Inv T w0 G st a w g →
      (∀ a' w' g', Inv T w0 G st' a' w' g' → Keep J a a' → Q .normal a' w') → wpOps P ops Q l a w
  | [], l, st, k, r, h => by
    obtain ⟨rs, st', h1, h2, h3, h4⟩ := runOps_spec _ _ _ _ _ (fun a ha => by cases ha) h
    refine ⟨st', h3, fun Q a w g hi hn => ?_⟩
    rw [← h1, ← List.append_nil (rs.map (·.i))]
    exact text_ok (T := T) (env := env) (orc := pl.orc) (w0 := w0) (G := G) henv hJ rs _ st' a w g hi h2 [] fun a' w' g' hi' hk => by simpa [wpOps] using hn a' w' g' hi' hk
  | (c, ss) :: cuts, l, st, k, r, h => by
    simp only [runCuts] at h
    obtain ⟨x, hx, h⟩ := Option.bind_eq_some_iff.1 h
    obtain ⟨rs, st1, h1, h2, h3, h4⟩ := runOps_spec _ _ _ _ _ (fun a ha => by cases ha) hx
    obtain ⟨st', hk, hw⟩ := cuts_ok henv hJ cuts (l.drop c) _ k r h
    refine ⟨st', hk, fun Q a w g hi hn => ?_⟩
    rw [← List.take_append_drop c l, ← h1]
    exact text_ok (T := T) (env := env) (orc := pl.orc) (w0 := w0) (G := G) henv hJ rs _ st1 a w g hi h2 _ fun a' w' g' hi' hkp => by
      obtain ⟨g1, hi1⟩ := rdS_ok h3 hi'
      exact hw Q a' w' g1 hi1 fun a2 w2 g2 hi2 hk2 => hn a2 w2 g2 hi2 (hkp.trans hk2)

theorem region_ok (henv : ∀ f, Ctr T P f (env f)) (hm : P.follows .mixedOrders = true) {β : Type} {id : Nat} {ops : Array Oper} {draw : Bool} {l : Nat} {st : St E} {k : Ex → St E → Option β} {r : β}
    (hJ : keepsC J (.region id ops draw) = true) (h : runC T P env pl F (.region id ops draw) l st k = some r) : ∃ e st', k e st' = some r ∧ Goes T P w0 G J (.region id ops draw) st e st' := by
  simp only [runC] at h
  cases draw with
  | true =>
    simp only [if_true] at h
    split at h
    · rename_i hb
      have key : ∀ {γ : Type} (K : St E → Option γ) (y : γ), runOps T P env pl.orc ops (some (masks ops)) (List.range ops.size) [] (forget ((assoc pl.frz id).getD []) st) K = some y →
          ∃ st', K st' = some y ∧ Goes T P w0 G J (.region id ops true) st .norm st' := by
        intro γ K y h
        obtain ⟨rs, st', h1, h2, h3, h4⟩ := runOps_spec _ _ _ _ _ (fun a ha => by cases ha) h
        refine ⟨st', h3, fun a w g hi => wp_region_any hm ?_⟩
        refine any_ok (T := T) (env := env) (orc := pl.orc) (w0 := w0) (G := G) henv hb (keepsO_spec hJ) (st' := st') (a0 := a) (fun a w g hi hk => ⟨rfl, g, hi, hk⟩) _ _ rs _ a _ g (inv_drawn (forget_weak hi _) _) (Keep.refl J a) h2 ?_ (by simp) ?_ (h4 _ rfl).2 ?_
        · rw [h1]; symm
          rw [List.filter_eq_self]
          intro j hj
          simp [List.mem_range.1 hj]
        · intro i o e ho he hbi hl
          by_cases hi : i < ops.size
          · simp [hi] at hl
          · simp [Nat.le_of_not_lt hi] at hl
        · have := congrArg List.length h1
          simp at this
          omega
      split at h
      · obtain ⟨st', h1, h2⟩ := key _ _ h
        exact ⟨.norm, st', h1, h2⟩
      · rename_i ss _
        obtain ⟨x, hx, h⟩ := Option.bind_eq_some_iff.1 h
        obtain ⟨st', h1, h2⟩ := key _ _ hx
        refine ⟨.norm, _, h, fun a w g hi => wp_mono (h2 a w g hi) ?_⟩
        rintro e' a' w' ⟨rfl, g', hi', hk'⟩
        obtain ⟨g1, hi1⟩ := rdS_ok h1 hi'
        exact ⟨rfl, g1, hi1, hk'⟩
    · cases h
  | false =>
    simp only [Bool.false_eq_true, if_false] at h
    obtain ⟨st', h3, hw⟩ := cuts_ok (w0 := w0) (G := G) henv (keepsO_spec hJ) _ _ _ _ _ h
    exact ⟨.norm, st', h3, fun a w g hi => wp_region (hw _ a w g (forget_weak hi _) fun a w g hi hk => ⟨rfl, g, hi, hk⟩)⟩

theorem runC_ok (henv : ∀ f, Ctr T P f (env f)) (hm : P.follows .mixedOrders = true) : ∀ (c : Code), keepsC J c = true → ∀ (l : Nat) (st : St E) (β : Type) (k : Ex → St E → Option β) (r : β), runC T P env pl F c l st k = some r →
    ∃ e st', k e st' = some r ∧ Goes T P w0 G J c st e st' := by
  intro c
  induction c with
  | skip => intro hJ l st β k r h; exact ⟨.norm, st, h, fun a w g hi => wp_skip ⟨rfl, g, hi, Keep.refl J a⟩⟩
  | region id ops draw => intro hJ l st β k r h; exact region_ok henv hm hJ h
  | seq x y ihx ihy =>
    intro hJ l st β k r h
    simp only [keepsC, Bool.and_eq_true] at hJ
    simp only [runC] at h
    obtain ⟨e, st1, hk, hg⟩ := ihx hJ.1 _ _ _ _ _ h
    cases e with
    | norm =>
      obtain ⟨e2, st2, hk2, hg2⟩ := ihy hJ.2 _ _ _ _ _ hk
      refine ⟨e2, st2, hk2, fun a w g hi => wp_seq (wp_mono (hg a w g hi) ?_)⟩
      rintro e a' w' ⟨rfl, g', hi', hk'⟩
      exact wp_mono (hg2 a' w' g' hi') fun e a w ⟨h1, g2, h2, h3⟩ => ⟨h1, g2, h2, hk'.trans h3⟩
    | exit j =>
      refine ⟨.exit j, st1, hk, fun a w g hi => wp_seq (wp_mono (hg a w g hi) ?_)⟩
      rintro e a' w' ⟨rfl, g', hi', hk'⟩
      exact ⟨rfl, g', hi', hk'⟩
    | ret =>
      refine ⟨.ret, st1, hk, fun a w g hi => wp_seq (wp_mono (hg a w g hi) ?_)⟩
      rintro e a' w' ⟨rfl, g', hi', hk'⟩
      exact ⟨rfl, g', hi', hk'⟩
  | cond c x y ihx ihy =>
    intro hJ l st β k r h
    simp only [keepsC, Bool.and_eq_true] at hJ
    simp only [runC] at h
    split at h
    · rename_i b hb
      have hite : ∀ (β : Type) (k : Ex → St E → Option β) (r : β), (if b = true then runC T P env pl F x l st k else runC T P env pl F y l st k) = some r → ∃ e st', k e st' = some r ∧ Goes T P w0 G J (.cond c x y) st e st' := by
        intro β k r h
        cases b with
        | true =>
          obtain ⟨e, st', h1, h2⟩ := ihx hJ.1 _ _ _ _ _ (by simpa using h)
          exact ⟨e, st', h1, fun a w g hi => wp_cond_true (repT_evBool hi hb) (h2 a w g hi)⟩
        | false =>
          obtain ⟨e, st', h1, h2⟩ := ihy hJ.2 _ _ _ _ _ (by simpa using h)
          exact ⟨e, st', h1, fun a w g hi => wp_cond_false (repT_evBool hi hb) (h2 a w g hi)⟩
      split at h
      · exact hite _ _ _ h
      · rename_i hd tl _
        obtain ⟨t, ht, h⟩ := Option.bind_eq_some_iff.1 h
        obtain ⟨e, st1, h1, h2⟩ := hite _ _ _ ht
        obtain ⟨st2, h3, h4⟩ := rdSum_ok (w0 := w0) (G := G) h1
        rw [h3] at h
        refine ⟨e, st2, h, fun a w g hi => wp_mono (h2 a w g hi) ?_⟩
        rintro e' a' w' ⟨rfl, g', hi', hk'⟩
        obtain ⟨g1, hi1⟩ := h4 _ _ _ hi'
        exact ⟨rfl, g1, hi1, hk'⟩
    · cases h
  | block id body ih =>
    intro hJ l st β k r h
    simp only [runC] at h
    have out : ∀ (e : Ex) (st1 : St E), Goes T P w0 G J body st e st1 → Goes T P w0 G J (.block id body) st (exOut id e) st1 := by
      intro e st1 hg a w g hi
      refine wp_block (wp_mono (hg a w g hi) ?_)
      rintro e' a' w' ⟨rfl, g', hi', hk'⟩
      cases e with
      | norm => exact ⟨rfl, g', hi', hk'⟩
      | ret => exact ⟨rfl, g', hi', hk'⟩
      | exit j =>
        by_cases hj : j = id
        · simp only [exOut, hj, if_true, Ex.ex, Exit.inBlock]
          exact ⟨trivial, g', hi', hk'⟩
        · simp only [exOut, hj, if_false, Ex.ex, Exit.inBlock]
          exact ⟨trivial, g', hi', hk'⟩
    split at h
    · obtain ⟨e, st1, hk, hg⟩ := ih hJ _ _ _ _ _ h
      exact ⟨exOut id e, st1, hk, out e st1 hg⟩
    · rename_i hd tl _
      obtain ⟨t, ht, h⟩ := Option.bind_eq_some_iff.1 h
      obtain ⟨e, st1, h1, h2⟩ := ih hJ _ _ _ _ _ ht
      obtain ⟨st2, h3, h4⟩ := rdSum_ok (w0 := w0) (G := G) h1
      rw [h3] at h
      refine ⟨exOut id e, st2, h, fun a w g hi => wp_mono (out e st1 h2 a w g hi) ?_⟩
      rintro e' a' w' ⟨rfl, g', hi', hk'⟩
      obtain ⟨g1, hi1⟩ := h4 _ _ _ hi'
      exact ⟨rfl, g1, hi1, hk'⟩
  | loop body ih =>
    intro hJ l st β k r h
    simp only [runC] at h
    split at h
    · cases h
    · rename_i ss hd tl _
      obtain ⟨x, hx, h⟩ := Option.bind_eq_some_iff.1 h
      obtain ⟨y, hy, h⟩ := Option.bind_eq_some_iff.1 h
      have key : ∀ (n : Nat) (x : tyI E ss.its) (y : sumT E hd tl), loopM (fun x => runC T P env pl F body l (absI T pl.nt ss.its x) fun e st' => match e with
          | .norm => (rdS T pl.nt ss st').bind fun v => some (Sum.inl v)
          | e => (rdSum T pl.nt hd tl e st').bind fun v => some (Sum.inr v)) n x = some y →
          ∃ e st', (∀ (γ : Type) (k : Ex → St E → γ), absSum T pl.nt hd tl y k = k e st') ∧ ∀ a w g, Inv T w0 G (absI T pl.nt ss.its x) a w g → loopWp P body (fun e' a' w' => e' = e.ex ∧ ∃ g', Inv T w0 G st' a' w' g' ∧ Keep J a a') a w := by
        intro n
        induction n with
        | zero => intro x y h; cases h
        | succ n ihn =>
          intro x y h
          simp only [loopM] at h
          obtain ⟨q, hq, h⟩ := Option.bind_eq_some_iff.1 h
          obtain ⟨e1, st1, hk1, hg1⟩ := ih hJ _ _ _ _ _ hq
          have other : e1 ≠ .norm → ((rdSum T pl.nt hd tl e1 st1).bind fun v => some (Sum.inr v : tyI E ss.its ⊕ sumT E hd tl)) = some q → ∃ e st', (∀ (γ : Type) (k : Ex → St E → γ), absSum T pl.nt hd tl y k = k e st') ∧ ∀ a w g, Inv T w0 G (absI T pl.nt ss.its x) a w g → loopWp P body (fun e' a' w' => e' = e.ex ∧ ∃ g', Inv T w0 G st' a' w' g' ∧ Keep J a a') a w := by
            intro hne hk
            obtain ⟨v, hv, hk⟩ := Option.bind_eq_some_iff.1 hk
            cases hk
            cases h
            obtain ⟨st2, h3, h4⟩ := rdSum_ok (w0 := w0) (G := G) hv
            refine ⟨e1, st2, h3, fun a w g hi => loopWp_round (wp_mono (hg1 a w g hi) ?_)⟩
            rintro e' a' w' ⟨rfl, g', hi', hk'⟩
            obtain ⟨g1, hi1⟩ := h4 _ _ _ hi'
            cases e1 with
            | norm => exact absurd rfl hne
            | exit j => exact ⟨rfl, g1, hi1, hk'⟩
            | ret => exact ⟨rfl, g1, hi1, hk'⟩
          cases e1 with
          | norm =>
            simp only at hk1
            obtain ⟨v, hv, hk1⟩ := Option.bind_eq_some_iff.1 hk1
            cases hk1
            obtain ⟨e, st', h1, h2⟩ := ihn v y h
            refine ⟨e, st', h1, fun a w g hi => loopWp_round (wp_mono (hg1 a w g hi) ?_)⟩
            rintro e' a' w' ⟨rfl, g', hi', hk'⟩
            obtain ⟨g1, hi1⟩ := rdS_ok hv hi'
            exact loopWp_mono (h2 a' w' g1 hi1) fun e a w ⟨q1, g2, q2, q3⟩ => ⟨q1, g2, q2, hk'.trans q3⟩
          | exit j => exact other (by simp) hk1
          | ret => exact other (by simp) hk1
      obtain ⟨e, st', h1, h2⟩ := key F x y hy
      rw [h1] at h
      refine ⟨e, st', h, fun a w g hi => ?_⟩
      obtain ⟨g1, hi1⟩ := rdS_ok hx hi
      exact wp_of_loopWp (h2 a w g1 hi1)
  | exit id => intro hJ l st β k r h; exact ⟨.exit id, st, h, fun a w g hi => wp_exit ⟨rfl, g, hi, Keep.refl J a⟩⟩
  | ret => intro hJ l st β k r h; exact ⟨.ret, st, h, fun a w g hi => wp_ret ⟨rfl, g, hi, Keep.refl J a⟩⟩
  | _ => intro hJ l st β k r h; simp [runC] at h

end
end Go.Vm

/- The abstract value machine: how a function begins and ends. -/
namespace Go.Vm
open Go.Lib
set_option linter.unusedVariables false
variable {K : Type} {E : K → Type}
variable {T : Tab E} {P : Program}

/-! ### the beginning -/

def pinNew : DV E → DV E
  | .pin t cs => .newb t cs
  | d => d

def st0 (nt : Nat) (ds : List (DV E)) : St E :=
  ⟨(convParts 1 [] (ds.map pinNew)).1 ++ List.replicate (nt - ds.length) .junk, (convParts 1 [] (ds.map pinNew)).2⟩

/-! ### the end -/

def passRes (mem : Mem E) (nm : List (Nat × Nat)) (d : DV E) : DV E × List Nat :=
  match d with
  | .ptr n 0 => match assoc nm n with
    | some j => (.argp j, [])
    | none => match look mem n with
      | some (.cells t cs) => (.newb t (cs.map (passCell n mem)), n :: cs.flatMap (invCell mem))
      | _ => (.junk, [])
  | .rowv _ _ => (.junk, [])
  | d => (passArg mem true d, invN mem true d)

def pinsEnd (mem : Mem E) (tmps : List (DV E)) : Nat → List (DV E) → Option (List (Nat × Nat) × List (List (DV E)) × List Nat)
  | _, [] => some ([], [], [])
  | j, d :: r => match d with
    | .pin t _ => match tmps.getD j .junk with
      | .ptr n 0 => match look mem n with
        | some (.cells t' cs) => if t' = t then (pinsEnd mem tmps (j + 1) r).bind fun q => some ((n, j) :: q.1, cs.map (passCell n mem) :: q.2.1, (n :: cs.flatMap (invCell mem)) ++ q.2.2) else none
        | _ => none
      | _ => none
    | _ => pinsEnd mem tmps (j + 1) r

def resEnd (ts : List Nat) (ds : List (DV E)) (st : St E) : Option (Res E) :=
  (pinsEnd st.mem st.tmps 0 ds).bind fun q =>
    if nodupB ((ts.flatMap fun t => (passRes st.mem q.1 (st.tmps.getD t .junk)).2) ++ q.2.2) = true then
      some ⟨match ts with
        | [t] => (passRes st.mem q.1 (st.tmps.getD t .junk)).1
        | ts => .tup (ts.map fun t => (passRes st.mem q.1 (st.tmps.getD t .junk)).1), q.2.1⟩
    else none

section
variable {w : World} {Y : Nat → Prop} {bl : List Nat}

theorem own_ans {args : List Value} {d : DV E} {v : Value} {b : List Nat} (h : Own T w Y d v b) : Ans T w Y args (pinNew d) v b := by
  cases h with
  | pin h => exact .newb h
  | c h =>
    have : pinNew d = d := by
      cases h with
      | sh hr hs => cases d <;> first | rfl | (simp [DV.share, DV.plain] at hs; done)
      | _ => rfl
    rw [this]
    exact .c h

theorem own_pin {t : TypeId} {cs : List (DV E)} {v : Value} {b : List Nat} (h : Own T w Y (.pin t cs) v b) : OwnBox T w Y t cs v b := by
  cases h with
  | pin h => exact h
  | c h => cases h with
    | sh hr hs => simp [DV.share, DV.plain] at hs

theorem ownL_len {R : DV E → Value → List Nat → Prop} {ds : List (DV E)} {vs : List Value} {bl : List Nat} (h : OwnL R ds vs bl) : ds.length = vs.length := by
  induction h with
  | nil => rfl
  | cons _ _ ih => simp [ih]

def hidG (w : World) (Y : Nat → Prop) (bl : List Nat) : Gh := ⟨fun _ => undef, fun b => b < w.heap.size ∧ ¬ Y b ∧ b ∉ bl⟩

theorem begin_ok {nt : Nat} {ds : List (DV E)} {vs : Array Value} (h : OwnL (Own T w Y) ds vs.toList bl) (hnd : bl.Nodup) (hY : ∀ b ∈ bl, ¬ Y b ∧ b < w.heap.size) (hn : nodupB (names (st0 nt ds).mem) = true) (hlen : ds.length ≤ nt) :
    ∃ g : Gh, Inv T w ⟨(· ∈ bl), (hidG w Y bl).hid⟩ (st0 nt ds) { tmps := vs ++ Array.replicate (nt - vs.size) undef, defers := [] } w g := by
  have hl := ownL_len h
  have ha : OwnL (Ans T w Y []) (ds.map pinNew) vs.toList bl := h.map pinNew fun d v b hd => own_ans hd
  obtain ⟨es, e1, e2, e3, e4, e5⟩ := convParts_ok [] ha 1
  have hmem : (st0 nt ds).mem = entMem es := e1.symm
  have hnn : (entNames es).Nodup := by rw [entNames_mem, ← hmem]; exact nodupB_spec hn
  have hnew : newMem ([] : Mem E) es [] (entNames es) = entMem es := by
    have : dropL ([] : Mem E) (entNames es) = [] := by
      generalize entNames es = l
      induction l with
      | nil => rfl
      | cons x l ih => exact ih
    unfold newMem
    rw [this]
    simp [killM]
  have hblk : blks (entMem es) (updL (hidG w Y bl) es) = bl := by
    have := blks_newMem (g := hidG w Y bl) (ks := []) (m := ([] : Mem E)) hnn (fun n hn => hn)
    rw [hnew] at this
    rw [this, e2]
    have : dropL ([] : Mem E) (entNames es) = [] := by
      generalize entNames es = l
      induction l with
      | nil => rfl
      | cons x l ih => exact ih
    rw [this]
    simp [blks]
  have hw : Wide T w Y (free (entMem es) (updL (hidG w Y bl) es)) := by
    intro b hb hlt
    refine ⟨by rw [hblk]; exact fun hb' => (hY b hb').1 hb, fun hh => ?_⟩
    exact hh.2.1 hb
  have hag : Agrees (updL (hidG w Y bl) es) es := fun x hx => updL_mem hnn hx
  have e5 := e5 _ _ hw hag (fun j n u hj => by simp at hj)
  refine ⟨updL (hidG w Y bl) es, rfl, ?_, ?_, ?_, ?_, ?_, ?_, Frame0.refl _ _, ?_, rfl, ?_⟩
  · simp [st0, e4, hl]
  · intro i hi
    rw [hmem]
    by_cases hiv : i < vs.toList.length
    · have hic : i < (convParts 1 [] (ds.map pinNew)).1.length := by rw [e4]; exact hiv
      have h1 : (st0 nt ds).tmps[i] = (convParts 1 [] (ds.map pinNew)).1[i] := by simp [st0, List.getElem_append_left hic]
      have h2 : (vs ++ Array.replicate (nt - vs.size) undef).getD i undef = vs.toList[i] := by
        have : i < vs.size := by simpa using hiv
        simp [Array.getElem?_append_left this, this]
      rw [h1, h2]
      exact .of1 (e5 i hic hiv).1
    · have hic : (convParts 1 [] (ds.map pinNew)).1.length ≤ i := by rw [e4]; omega
      have h1 : (st0 nt ds).tmps[i] = .junk := by simp [st0, List.getElem_append_right hic]
      rw [h1]
      exact (Rep.junk _).toT
  · rw [hmem]; rw [entNames_mem] at hnn; exact hnn
  · rw [hmem, hblk]; exact hnd
  · intro n bx hm
    rw [hmem] at hm ⊢
    obtain ⟨x, hx, he⟩ := List.mem_map.1 hm
    cases he
    have := e3 _ _ hw hag x hx
    rw [← hag x hx] at this
    exact this
  · rw [hmem, hblk]
    exact fun b hb => ⟨(hY b hb).2, .inr hb⟩
  · intro i hi n j cs off he
    by_cases hiv : i < vs.toList.length
    · have hic : i < (convParts 1 [] (ds.map pinNew)).1.length := by rw [e4]; exact hiv
      have h1 : (st0 nt ds).tmps[i] = (convParts 1 [] (ds.map pinNew)).1[i] := by simp [st0, List.getElem_append_left hic]
      have := (e5 i hic hiv).2
      rw [← h1, he] at this
      simp [DV.noR] at this
    · have hic : (convParts 1 [] (ds.map pinNew)).1.length ≤ i := by rw [e4]; omega
      have h1 : (st0 nt ds).tmps[i] = .junk := by simp [st0, List.getElem_append_right hic]
      rw [h1] at he
      cases he
  · rintro b ⟨h1, h2, h3⟩
    exact ⟨h1, h3⟩

end
end Go.Vm

/- The abstract value machine: functions keep their contracts. -/
namespace Go.Vm
open Go.Lib
set_option linter.unusedVariables false
variable {K : Type} {E : K → Type}
variable {T : Tab E} {P : Program}
section
variable {w0 w : World} {Y : Nat → Prop} {bl : List Nat} {st : St E} {a : Act} {g : Gh}

theorem passRes_names {mem : Mem E} {nm : List (Nat × Nat)} {d : DV E} {n : Nat} (h : n ∈ (passRes mem nm d).2) : n ∈ names mem := by
  unfold passRes at h
  split at h
  · rename_i m
    split at h
    · cases h
    · split at h
      · rename_i t cs hl
        have : n ∈ invN mem true (.ptr m 0 : DV E) := by simpa [invN, hl] using h
        exact inv_names this
      · cases h
  · cases h
  · exact inv_names h

theorem assoc_mem {α : Type} {l : List (Nat × α)} {n : Nat} {x : α} (h : assoc l n = some x) : (n, x) ∈ l := by
  induction l with
  | nil => cases h
  | cons y l ih =>
    obtain ⟨k, b⟩ := y
    unfold assoc at h
    split at h
    · rename_i e; cases h; subst e; exact List.mem_cons_self ..
    · exact List.mem_cons_of_mem _ (ih h)

/-- One part of the answer. -/
theorem passRes_ok {G : GP} (h : Inv T w0 G st a w g) {Y' : Nat → Prop} (hY : ∀ b, free st.mem g b → Y' b) {args : List Value} {nm : List (Nat × Nat)}
    (hnm : ∀ n j, (n, j) ∈ nm → args[j]? = some (g n)) {d : DV E} {v : Value} (hd : RepT T w (free st.mem g) g d v) :
    Ans T w Y' args (passRes st.mem nm d).1 v ((passRes st.mem nm d).2.flatMap (bk g)) ∧ ∀ ds, (passRes st.mem nm d).1 ≠ .tup ds := by
  have gen : ∀ d : DV E, RepT T w (free st.mem g) g d v → (∀ n b, d ≠ .rowv n b) → (∀ n, d ≠ .ptr n 0) → Ans T w Y' args (passArg st.mem true d) v ((invN st.mem true d).flatMap (bk g)) ∧ ∀ ds, passArg st.mem true d ≠ .tup ds := by
    intro d hd h1 h2
    have ho := pass_ok h hY true hd (fun n hn => by
      unfold viewN at hn
      split at hn
      · simp at hn
      · exact absurd rfl (h1 _ _)
      · cases hn)
    have hnp : ∀ t cs, passArg st.mem true d ≠ .pin t cs := by
      intro t cs he
      have := pass_notPin st.mem true d (fun n t cs e => absurd e (h2 n))
      rw [he] at this
      simp [isPin] at this
    generalize passArg st.mem true d = d' at ho hnp
    generalize (invN st.mem true d).flatMap (bk g) = bb at ho
    refine ⟨?_, ?_⟩
    · cases ho with
      | c hc => exact .c hc
      | pin hp => exact absurd rfl (hnp _ _)
    · intro ds e
      subst e
      cases ho with
      | c hc => cases hc with
        | sh _ hs => simp [DV.share, DV.plain] at hs
  unfold passRes
  split
  · rename_i n
    split
    · rename_i j hj
      obtain ⟨b, h1, h2⟩ := repT_ptr hd
      refine ⟨.argp ?_, fun ds e => by cases e⟩
      rw [hnm n j (assoc_mem hj), h1, h2]
    · have ho := pass_ok h hY true hd (fun n hn => by simp [viewN] at hn)
      split
      · rename_i t cs hl
        simp only [passArg, hl, invN] at ho
        exact ⟨.newb (own_pin ho), fun ds e => by cases e⟩
      · exact ⟨.c (.junk v), fun ds e => by cases e⟩
  · exact ⟨.c (.junk v), fun ds e => by cases e⟩
  · rename_i h1 h2
    exact gen d hd (fun n b e => h2 n b e) (fun n e => h1 n e)

theorem ansT_of {Y' : Nat → Prop} {args : List Value} {d : DV E} {v : Value} {b : List Nat} (h : Ans T w Y' args d v b) (hn : ∀ ds, d ≠ .tup ds) : AnsT T w Y' args d v b := by
  cases d <;> first | exact h | exact absurd rfl (hn _)

theorem pinsEnd_names {mem : Mem E} {tmps : List (DV E)} : ∀ (ds : List (DV E)) (j : Nat) (q : List (Nat × Nat) × List (List (DV E)) × List Nat), pinsEnd mem tmps j ds = some q → ∀ n ∈ q.2.2, n ∈ names mem
  | [], j, q, h, n, hn => by cases h; cases hn
  | d :: r, j, q, h, n, hn => by
    unfold pinsEnd at h
    split at h
    · rename_i t _
      split at h
      · rename_i m _
        split at h
        · rename_i t' cs hl
          obtain ⟨_, h⟩ := ite_some h
          obtain ⟨q', h1, h2⟩ := Option.bind_eq_some_iff.1 h
          cases h2
          rcases List.mem_append.1 hn with hn | hn
          · have : n ∈ invN mem true (.ptr m 0 : DV E) := by simpa [invN, hl] using hn
            exact inv_names this
          · exact pinsEnd_names r (j + 1) q' h1 n hn
        · cases h
      · cases h
    · exact pinsEnd_names r (j + 1) q h n hn

/-- Which parameters are boxes. -/
def pinIdx : Nat → List (DV E) → List Nat
  | _, [] => []
  | j, d :: r => if isPin d = true then j :: pinIdx (j + 1) r else pinIdx (j + 1) r

theorem pinsEnd_ok {G : GP} (h : Inv T w0 G st a w g) {Y' : Nat → Prop} (hY : ∀ b, free st.mem g b → Y' b) :
    ∀ (ds : List (DV E)) (vs : List Value) (j : Nat) (q : List (Nat × Nat) × List (List (DV E)) × List Nat), ds.length = vs.length → pinsEnd st.mem st.tmps j ds = some q → (∀ i ∈ pinIdx j ds, ∃ i', i = j + i' ∧ vs[i']? = some (a.tmps.getD i undef)) →
      PinsL T w Y' ds vs q.2.1 (q.2.2.flatMap (bk g)) ∧ ∀ n i, (n, i) ∈ q.1 → ∃ i', i = j + i' ∧ vs[i']? = some (g n)
  | [], [], j, q, _, h1, hk => by cases h1; exact ⟨.nil, fun n i hm => by cases hm⟩
  | [], _ :: _, _, _, hl, _, _ => by simp at hl
  | _ :: _, [], _, _, hl, _, _ => by simp at hl
  | d :: r, v :: vs, j, q, hl, h1, hk => by
    have hl' : r.length = vs.length := by simpa using hl
    have hk' : ∀ i ∈ pinIdx (j + 1) r, ∃ i', i = (j + 1) + i' ∧ vs[i']? = some (a.tmps.getD i undef) := by
      intro i hi
      have hi1 : i ∈ pinIdx j (d :: r) := by
        unfold pinIdx; split
        · exact List.mem_cons_of_mem _ hi
        · exact hi
      obtain ⟨i', e, hv⟩ := hk i hi1
      have hge : ∀ (r : List (DV E)) (k i : Nat), i ∈ pinIdx k r → k ≤ i := by
        intro r
        induction r with
        | nil => intro k i hi; cases hi
        | cons d r ih =>
          intro k i hi
          unfold pinIdx at hi
          split at hi
          · rcases List.mem_cons.1 hi with rfl | hi
            · exact Nat.le_refl _
            · have := ih _ _ hi; omega
          · have := ih _ _ hi; omega
      have := hge r (j + 1) i hi
      cases i' with
      | zero => omega
      | succ i' => exact ⟨i', by omega, by simpa using hv⟩
    unfold pinsEnd at h1
    split at h1
    · rename_i t cs0
      split at h1
      · rename_i n hn
        split at h1
        · rename_i t' cs hlook
          obtain ⟨et, h1'⟩ := ite_some h1
          clear h1
          subst et
          obtain ⟨q', h2, h3⟩ := Option.bind_eq_some_iff.1 h1'
          cases h3
          obtain ⟨p1, p2⟩ := pinsEnd_ok h hY r vs (j + 1) q' hl' h2 hk'
          obtain ⟨i', e, hv⟩ := hk j (by unfold pinIdx; simp [isPin])
          have : i' = 0 := by omega
          subst this
          simp only [List.getElem?_cons_zero, Option.some.injEq] at hv
          have hr : RepT T w (free st.mem g) g (.ptr n 0) v := by
            have := h.ev (.tmp j)
            simp only [St.ev, Act.eval, hn] at this
            rw [hv]
            exact this
          have ho := pass_ok h hY true hr (fun n hn => by simp [viewN] at hn)
          simp only [passArg, hlook, invN] at ho
          obtain ⟨b, q1, q2⟩ := repT_ptr hr
          refine ⟨?_, ?_⟩
          · rw [List.flatMap_append]
            exact .pin (own_pin ho) p1
          · intro m i hm
            rcases List.mem_cons.1 hm with hm | hm
            · cases hm
              exact ⟨0, rfl, by simp [q1, q2]⟩
            · obtain ⟨i', e, hv⟩ := p2 m i hm
              exact ⟨i' + 1, by omega, by simpa using hv⟩
        · cases h1
      · cases h1
    · rename_i hnp
      obtain ⟨p1, p2⟩ := pinsEnd_ok h hY r vs (j + 1) q hl' h1 hk'
      refine ⟨.skip (fun t cs e => hnp t cs e) p1, ?_⟩
      intro m i hm
      obtain ⟨i', e, hv⟩ := p2 m i hm
      exact ⟨i' + 1, by omega, by simpa using hv⟩

/-- The answer's value. -/
def retV (ts : List Nat) (a : Act) : Value := match ts with
  | [t] => a.tmps.getD t undef
  | ts => .tuple (ts.map fun t => a.tmps.getD t undef).toArray

theorem end_ok {vs : Array Value} {ds : List (DV E)} (h : Inv T w0 ⟨(· ∈ bl), (hidG w0 Y bl).hid⟩ st a w g) (hl : ds.length = vs.size) {ts : List Nat} {res : Res E} (hr : resEnd ts ds st = some res)
    (hk : ∀ i ∈ pinIdx 0 ds, vs.toList[i]? = some (a.tmps.getD i undef)) :
    ∃ bl1 bl2, (bl1 ++ bl2).Nodup ∧ (∀ b ∈ bl1 ++ bl2, b < w.heap.size ∧ (w0.heap.size ≤ b ∨ b ∈ bl)) ∧
      AnsT T w (fun b => (Y b ∨ w0.heap.size ≤ b ∨ b ∈ bl) ∧ b ∉ bl1 ++ bl2) vs.toList res.v (retV ts a) bl1 ∧
      PinsL T w (fun b => (Y b ∨ w0.heap.size ≤ b ∨ b ∈ bl) ∧ b ∉ bl1 ++ bl2) ds vs.toList res.pins bl2 ∧ Frame0 (· ∈ bl) w0 w := by
  unfold resEnd at hr
  obtain ⟨q, hq, hr⟩ := Option.bind_eq_some_iff.1 hr
  obtain ⟨hn, hr⟩ := ite_some hr
  cases hr
  obtain ⟨bl1, hbl1⟩ : ∃ bl1, bl1 = (ts.flatMap fun t => (passRes st.mem q.1 (st.tmps.getD t .junk)).2).flatMap (bk g) := ⟨_, rfl⟩
  obtain ⟨bl2, hbl2⟩ : ∃ bl2, bl2 = q.2.2.flatMap (bk g) := ⟨_, rfl⟩
  have hnm1 : ∀ n ∈ (ts.flatMap fun t => (passRes st.mem q.1 (st.tmps.getD t .junk)).2) ++ q.2.2, n ∈ names st.mem := by
    intro n hn
    rcases List.mem_append.1 hn with hn | hn
    · obtain ⟨t, _, hn⟩ := List.mem_flatMap.1 hn
      exact passRes_names hn
    · exact pinsEnd_names ds 0 q hq n hn
  have hb12 : bl1 ++ bl2 = ((ts.flatMap fun t => (passRes st.mem q.1 (st.tmps.getD t .junk)).2) ++ q.2.2).flatMap (bk g) := by rw [hbl1, hbl2, List.flatMap_append]
  have hin : ∀ b ∈ bl1 ++ bl2, b ∈ blks st.mem g := by
    intro b hb
    rw [hb12] at hb
    obtain ⟨n, h1, h2⟩ := List.mem_flatMap.1 hb
    exact mem_blks.2 ⟨n, hnm1 n h1, by simpa [bk] using h2⟩
  have hY : ∀ b, free st.mem g b → (fun b => (Y b ∨ w0.heap.size ≤ b ∨ b ∈ bl) ∧ b ∉ bl1 ++ bl2) b := by
    intro b hf
    refine ⟨?_, fun hb => hf.1 (hin b hb)⟩
    have h2 := hf.2
    rw [h.hz.1] at h2
    by_cases h3 : w0.heap.size ≤ b
    · exact .inr (.inl h3)
    by_cases h4 : Y b
    · exact .inl h4
    by_cases h5 : b ∈ bl
    · exact .inr (.inr h5)
    exact absurd ⟨by omega, h4, h5⟩ h2
  obtain ⟨hp, hnm⟩ := pinsEnd_ok h hY ds vs.toList 0 q (by simpa using hl) hq (fun i hi => ⟨i, by omega, hk i hi⟩)
  have hnm' : ∀ n j, (n, j) ∈ q.1 → vs.toList[j]? = some (g n) := by
    intro n j hm
    obtain ⟨i', e, hv⟩ := hnm n j hm
    have : j = i' := by omega
    subst this
    exact hv
  have hpart : ∀ t, Ans T w (fun b => (Y b ∨ w0.heap.size ≤ b ∨ b ∈ bl) ∧ b ∉ bl1 ++ bl2) vs.toList (passRes st.mem q.1 (st.tmps.getD t .junk)).1 (a.tmps.getD t undef) ((passRes st.mem q.1 (st.tmps.getD t .junk)).2.flatMap (bk g)) ∧ ∀ ds, (passRes st.mem q.1 (st.tmps.getD t .junk)).1 ≠ .tup ds :=
    fun t => passRes_ok h hY hnm' (h.ev (.tmp t))
  refine ⟨bl1, bl2, ?_, ?_, ?_, by rw [hbl2]; rw [hbl2] at hp; exact hp, h.fr⟩
  · rw [hb12]
    exact nodup_bk h.nd h.nn (nodupB_spec hn) hnm1
  · intro b hb
    exact h.bo b (hin b hb)
  · have many : ∀ ts : List Nat, OwnL (Ans T w (fun b => (Y b ∨ w0.heap.size ≤ b ∨ b ∈ bl) ∧ b ∉ bl1 ++ bl2) vs.toList) (ts.map fun t => (passRes st.mem q.1 (st.tmps.getD t .junk)).1) (ts.map fun t => a.tmps.getD t undef)
        ((ts.flatMap fun t => (passRes st.mem q.1 (st.tmps.getD t .junk)).2).flatMap (bk g)) := by
      intro ts
      induction ts with
      | nil => exact .nil
      | cons t ts ih => simp only [List.map_cons, List.flatMap_cons, List.flatMap_append]; exact .cons (hpart t).1 ih
    match ts, hbl1 with
    | [t], hbl1 =>
      simp only [retV]
      refine ansT_of ?_ (hpart t).2
      rw [hbl1]
      simp only [List.flatMap_cons, List.flatMap_nil, List.append_nil]
      rw [← List.append_nil (List.flatMap (bk g) _)]
      simpa [hbl1, List.flatMap_append] using (hpart t).1
    | [], hbl1 => exact ⟨_, rfl, by simpa [hbl1] using many []⟩
    | t :: t' :: ts, hbl1 => exact ⟨_, rfl, by rw [hbl1]; simpa [hbl1] using many (t :: t' :: ts)⟩

end
end Go.Vm

/- The abstract value machine: from the run of a body to the function's contract. -/
namespace Go.Vm
open Go.Lib
set_option linter.unusedVariables false
variable {K : Type} {E : K → Type}

inductive SR (K : Type) where
  | one (s : S1 K) | tup (ss : List (S1 K))

variable (E) in
def tyS : List (S1 K) → Type
  | [] => Unit
  | [s] => s.ty E
  | s :: r => s.ty E × tyS r
variable (E) in
def tyP : List (List (S0 K)) → Type
  | [] => Unit
  | [s] => tyL E s
  | s :: r => tyL E s × tyP r
variable (E) in
def SR.ty : SR K → Type
  | .one s => s.ty E
  | .tup ss => tyS E ss

structure Spec (K : Type) where
  params : List (S1 K)
  ret : SR K
  pins : List (List (S0 K)) := []
  pl : Plan K
  rfrz : List Nat := []
  ts : List Nat

variable (E) in
def Spec.R (s : Spec K) : Type := match s.pins with
  | [] => s.ret.ty E
  | p :: ps => s.ret.ty E × tyP E (p :: ps)

section
variable (T : Tab E)

def absSs : (ss : List (S1 K)) → tyS E ss → List (DV E)
  | [], _ => []
  | [s], x => [s.abs T x]
  | s :: s' :: r, x => s.abs T x.1 :: absSs (s' :: r) x.2
def rdSs : (ss : List (S1 K)) → List (DV E) → Option (tyS E ss)
  | [], [] => some ()
  | [s], [d] => s.rd T d
  | s :: s' :: r, d :: ds => (s.rd T d).bind fun x => (rdSs (s' :: r) ds).bind fun y => some (x, y)
  | _, _ => none
def absPs : (ss : List (List (S0 K))) → tyP E ss → List (List (DV E))
  | [], _ => []
  | [s], x => [absL s x]
  | s :: s' :: r, x => absL s x.1 :: absPs (s' :: r) x.2
def rdPs : (ss : List (List (S0 K))) → List (List (DV E)) → Option (tyP E ss)
  | [], [] => some ()
  | [s], [d] => rdL T s d
  | s :: s' :: r, d :: ds => (rdL T s d).bind fun x => (rdPs (s' :: r) ds).bind fun y => some (x, y)
  | _, _ => none
def SR.abs : (s : SR K) → s.ty E → DV E
  | .one s, x => s.abs T x
  | .tup ss, x => .tup (absSs T ss x)
def gTup (d : DV E) : Option (List (DV E)) := match d with
  | .tup ds => some ds
  | _ => none
def SR.rd : (s : SR K) → DV E → Option (s.ty E)
  | .one s, d => s.rd T d
  | .tup ss, d => (gTup d).bind (rdSs T ss)

def absR (s : Spec K) : s.R E → Res E := match s with
  | ⟨_, ret, [], _, _, _⟩ => fun x => ⟨ret.abs T x, []⟩
  | ⟨_, ret, p :: ps, _, _, _⟩ => fun x => ⟨ret.abs T x.1, absPs (p :: ps) x.2⟩
def rdR (s : Spec K) (res : Res E) : Option (s.R E) := match s with
  | ⟨_, ret, [], _, _, _⟩ => match res.pins with
    | [] => ret.rd T res.v
    | _ => none
  | ⟨_, ret, p :: ps, _, _, _⟩ => (ret.rd T res.v).bind fun x => (rdPs T (p :: ps) res.pins).bind fun y => some (x, y)

/-- A cell of a box that is handed over, as the shape wants it. -/
def normC (s : S0 K) (d : DV E) : DV E :=
  match s with
  | .slc k => match d with
    | .nils => .slc k []
    | d => d
  | .row e k => match d with
    | .nils => .row e k []
    | d => d
  | .argp _ => match d with
    | .nilp => .argp 0
    | d => d
  | .junk => if d.plain = true then .junk else d
  | _ => d
def normCs : List (S0 K) → List (DV E) → List (DV E)
  | s :: ss, d :: ds => normC s d :: normCs ss ds
  | _, ds => ds

/-- An argument, as the shape wants it. -/
def normP (s : S1 K) (d : DV E) : DV E :=
  match s with
  | .a (.slc k) => match d with
    | .nils => .slc k []
    | d => d
  | .a (.row e k) => match d with
    | .nils => .row e k []
    | d => d
  | .a .junk => if d.share = true then .junk else d
  | .pin _ ss => match d with
    | .pin t cs => .pin t (normCs ss cs)
    | d => d
  | _ => d
def normL : List (S1 K) → List (DV E) → List (DV E)
  | s :: ss, d :: ds => normP s d :: normL ss ds
  | _, ds => ds

def S0.flat (fk : K → Bool) : S0 K → Bool
  | .int _ | .bool | .str | .nilp | .nili | .nils | .argp _ => true
  | .row _ k => fk k
  | _ => false
def S1.flat (fk : K → Bool) : S1 K → Bool
  | .a s => s.flat fk
  | _ => false
def SR.flat (fk : K → Bool) : SR K → Bool
  | .one (.agg ss) => ss.all (S0.flat fun _ => false)
  | .one s => s.flat fk
  | .tup ss => ss.all (S1.flat fk)
def Spec.flat (s : Spec K) : Bool := s.ret.flat T.fk && s.pins.all fun p => p.all (S0.flat T.fk)

/-- The contract that a spec and a model make. -/
def conOf (s : Spec K) (M : tyS E s.params → Option (s.R E)) (ds : List (DV E)) : Con E :=
  match rdSs T s.params (normL s.params ds) with
  | some x => ⟨s.R E, M x, absR T s, s.flat T⟩
  | none => .bad

variable (P : Program) (env : Env E)
/-- The run of a function's body. -/
def fnRun (s : Spec K) (code : Code) (F : Nat) (x : tyS E s.params) : Option (s.R E) :=
  if nodupB (names (st0 s.pl.nt (absSs T s.params x)).mem) = true ∧ (absSs T s.params x).length ≤ s.pl.nt then
    runC T P env s.pl F code 0 (st0 s.pl.nt (absSs T s.params x)) fun e st => match e with
      | .exit _ => none
      | _ => (resEnd s.ts (absSs T s.params x) (forget s.rfrz st)).bind (rdR T s)
  else none

def S1.isPin : S1 K → Bool
  | .pin _ _ => true
  | _ => false
def pinIdxS : Nat → List (S1 K) → List Nat
  | _, [] => []
  | j, s :: r => if s.isPin = true then j :: pinIdxS (j + 1) r else pinIdxS (j + 1) r
end

variable {T : Tab E} {P : Program} {env : Env E}

theorem rdSs_ok : ∀ {ss : List (S1 K)} {ds : List (DV E)} {x : tyS E ss}, rdSs T ss ds = some x → absSs T ss x = ds := by
  intro ss
  induction ss with
  | nil =>
    intro ds x h
    cases ds with
    | nil => rfl
    | cons d ds => cases h
  | cons s r ih =>
    intro ds x h
    cases r with
    | nil =>
      cases ds with
      | nil => cases h
      | cons d ds =>
        cases ds with
        | nil => show [s.abs T x] = _; rw [S1.rd_ok (T := T) (s := s) (d := d) (x := x) h]
        | cons d' ds => cases h
    | cons s' r =>
      cases ds with
      | nil => cases h
      | cons d ds =>
        change ((s.rd T d).bind fun x => (rdSs T (s' :: r) ds).bind fun y => some (x, y)) = some x at h
        obtain ⟨y, hy, h⟩ := Option.bind_eq_some_iff.1 h
        obtain ⟨z, hz, h⟩ := Option.bind_eq_some_iff.1 h
        cases h
        show s.abs T y :: absSs T (s' :: r) z = _
        rw [S1.rd_ok hy, ih hz]

theorem rdPs_ok : ∀ {ss : List (List (S0 K))} {ds : List (List (DV E))} {x : tyP E ss}, rdPs T ss ds = some x → absPs ss x = ds := by
  intro ss
  induction ss with
  | nil =>
    intro ds x h
    cases ds with
    | nil => rfl
    | cons d ds => cases h
  | cons s r ih =>
    intro ds x h
    cases r with
    | nil =>
      cases ds with
      | nil => cases h
      | cons d ds =>
        cases ds with
        | nil => show [absL s x] = _; rw [rdL_ok (T := T) (ss := s) (ds := d) (x := x) h]
        | cons d' ds => cases h
    | cons s' r =>
      cases ds with
      | nil => cases h
      | cons d ds =>
        change ((rdL T s d).bind fun x => (rdPs T (s' :: r) ds).bind fun y => some (x, y)) = some x at h
        obtain ⟨y, hy, h⟩ := Option.bind_eq_some_iff.1 h
        obtain ⟨z, hz, h⟩ := Option.bind_eq_some_iff.1 h
        cases h
        show absL s y :: absPs (s' :: r) z = _
        rw [rdL_ok hy, ih hz]

theorem SR.rd_ok {s : SR K} {d : DV E} {x : s.ty E} (h : s.rd T d = some x) : s.abs T x = d := by
  cases s with
  | one s => exact S1.rd_ok h
  | tup ss =>
    obtain ⟨ds, h1, h2⟩ := Option.bind_eq_some_iff.1 h
    have : d = .tup ds := by
      unfold gTup at h1
      split at h1
      · cases h1; rfl
      · cases h1
    rw [this]
    exact congrArg _ (rdSs_ok h2)

theorem rdR_ok {s : Spec K} {res : Res E} {x : s.R E} (h : rdR T s res = some x) : absR T s x = res := by
  obtain ⟨v, pins⟩ := res
  obtain ⟨ps, ret, pp, pl, rf, ts⟩ := s
  cases pp with
  | nil =>
    cases pins with
    | nil =>
      have := SR.rd_ok (T := T) (s := ret) (d := v) (x := x) h
      show Res.mk (ret.abs T x) [] = _
      rw [this]
    | cons p q => cases h
  | cons p q =>
    obtain ⟨y, hy, h⟩ := Option.bind_eq_some_iff.1 h
    obtain ⟨z, hz, h⟩ := Option.bind_eq_some_iff.1 h
    cases h
    show Res.mk (ret.abs T y) (absPs (p :: q) z) = _
    rw [SR.rd_ok hy, rdPs_ok hz]

theorem cell_norm {w : World} {Y : Nat → Prop} {b0 : Nat} {s : S0 K} {d : DV E} {v : Value} {b : List Nat} (h : CellC T w Y b0 d v b) : CellC T w Y b0 (normC s d) v b := by
  have nils : ∀ {v : Value} {b : List Nat}, CellC T w Y b0 (.nils : DV E) v b → v = .slice none 0 0 ∧ b = [] ∧ v.oneCell' = true := by
    intro v b h
    rcases h with ⟨h, h1, _⟩ | ⟨h, _⟩
    · cases h with
      | sh hr hs => cases hr; exact ⟨rfl, rfl, h1⟩
    · cases h
  unfold normC
  split
  · split
    · obtain ⟨rfl, rfl, h1⟩ := nils h
      exact .inl ⟨.sh (.slcn _) rfl, h1, rfl⟩
    · exact h
  · split
    · rename_i e k _
      obtain ⟨rfl, rfl, h1⟩ := nils h
      exact .inl ⟨.row (v := .slice none 0 0) (RepRow.mk' (World.ownsRow_nil w 0 e (T.sz k)) (.nil k)), h1, rfl⟩
    · exact h
  · split
    · rcases h with ⟨h, h1, _⟩ | ⟨h, _⟩
      · cases h with
        | sh hr hs => cases hr; exact .inr ⟨rfl, rfl, .inl rfl⟩
      · cases h
    · exact h
  · split
    · rename_i hp
      rcases h with ⟨h, h1, h2⟩ | ⟨h, h2⟩
      · cases h with
        | junk v => exact .inl ⟨.junk v, h1, rfl⟩
        | sh hr hs => exact .inl ⟨.junk v, h1, rfl⟩
        | row hr => simp [DV.plain] at hp
      · rw [h] at hp; simp [DV.plain] at hp
    · exact h
  · exact h

theorem cells_norm {w : World} {Y : Nat → Prop} {b0 : Nat} {ds : List (DV E)} {vs : List Value} {bs : List Nat} (h : OwnL (CellC T w Y b0) ds vs bs) : ∀ (ss : List (S0 K)), OwnL (CellC T w Y b0) (normCs ss ds) vs bs := by
  induction h with
  | nil => intro ss; cases ss <;> exact .nil
  | cons h t ih =>
    intro ss
    cases ss with
    | nil => exact .cons h t
    | cons s ss => exact .cons (cell_norm h) (ih ss)

theorem own_norm {w : World} {Y : Nat → Prop} {s : S1 K} {d : DV E} {v : Value} {b : List Nat} (h : Own T w Y d v b) : Own T w Y (normP s d) v b := by
  unfold normP
  split
  · split
    · cases h with
      | c h => cases h with
        | sh hr hs => cases hr; exact .c (.sh (.slcn _) rfl)
    · exact h
  · rename_i e k
    have nilrow : Own T w Y (.row e k []) (.slice none 0 0) [] := .c (.row (v := .slice none 0 0) (RepRow.mk' (World.ownsRow_nil w 0 e (T.sz k)) (.nil k)))
    split
    · cases h with
      | c h => cases h with
        | sh hr hs => cases hr; exact nilrow
    · exact h
  · split
    · rename_i hs
      cases h with
      | c h => cases h with
        | junk v => exact .c (.junk v)
        | sh hr hs => exact .c (.junk v)
        | row hr => simp [DV.share, DV.plain] at hs
      | pin hp => simp [DV.share, DV.plain] at hs
    · exact h
  · split
    · cases h with
      | c h => cases h with
        | sh hr hs => simp [DV.share, DV.plain] at hs
      | pin hp =>
        obtain ⟨b, vs, bs, h1, h2, h3, h4⟩ := hp
        exact .pin ⟨b, vs, bs, h1, h2, cells_norm h3 _, h4⟩
    · exact h
  · exact h

end Go.Vm

/- The abstract value machine: the theorem of a function. -/
namespace Go.Vm
open Go.Lib
set_option linter.unusedVariables false
variable {K : Type} {E : K → Type}
variable {T : Tab E} {P : Program} {env : Env E}

theorem normL_own {w : World} {Y : Nat → Prop} {ds : List (DV E)} {vs : List Value} {bl : List Nat} (h : OwnL (Own T w Y) ds vs bl) : ∀ (ss : List (S1 K)), OwnL (Own T w Y) (normL ss ds) vs bl := by
  induction h with
  | nil => intro ss; cases ss <;> exact .nil
  | cons h t ih =>
    intro ss
    cases ss with
    | nil => exact .cons h t
    | cons s ss => exact .cons (own_norm h) (ih ss)

theorem norm_pin1 {s : S1 K} {d : DV E} {t : TypeId} {cs : List (DV E)} (h : normP s d = .pin t cs) : ∃ cs0, d = .pin t cs0 := by
  unfold normP at h
  split at h
  · split at h
    · cases h
    · exact ⟨_, h⟩
  · split at h
    · cases h
    · exact ⟨_, h⟩
  · split at h
    · cases h
    · exact ⟨_, h⟩
  · split at h
    · cases h; exact ⟨_, rfl⟩
    · exact ⟨_, h⟩
  · exact ⟨_, h⟩
theorem norm_pin2 (s : S1 K) (t : TypeId) (cs : List (DV E)) : ∃ cs', normP s (.pin t cs : DV E) = .pin t cs' := by
  unfold normP
  split
  · exact ⟨_, rfl⟩
  · exact ⟨_, rfl⟩
  · exact ⟨cs, rfl⟩
  · exact ⟨_, rfl⟩
  · exact ⟨_, rfl⟩

theorem normL_pins {w : World} {Y : Nat → Prop} : ∀ (ss : List (S1 K)) (ds : List (DV E)) (vs : List Value) (ps : List (List (DV E))) (bl : List Nat), PinsL T w Y (normL ss ds) vs ps bl → PinsL T w Y ds vs ps bl
  | [], ds, vs, ps, bl, h => by cases ds <;> exact h
  | s :: ss, [], vs, ps, bl, h => h
  | s :: ss, d :: ds, vs, ps, bl, h => by
    change PinsL T w Y (normP s d :: normL ss ds) vs ps bl at h
    generalize hd : normP s d = d' at h
    cases h with
    | skip hn h =>
      refine .skip (fun t cs e => ?_) (normL_pins ss ds _ _ _ h)
      subst e
      obtain ⟨cs', hc⟩ := norm_pin2 s t cs
      exact hn t cs' (by rw [← hd]; exact hc)
    | @pin t cs _ _ _ _ _ _ _ hb h =>
      obtain ⟨cs0, this⟩ := norm_pin1 hd
      rw [this]
      exact .pin hb (normL_pins ss ds _ _ _ h)

theorem isPin_abs (s : S1 K) (x : s.ty E) : isPin (s.abs T x) = s.isPin := by
  cases s with
  | a s => cases s <;> rfl
  | _ => rfl

theorem pinIdx_abs : ∀ (ss : List (S1 K)) (x : tyS E ss) (j : Nat), pinIdx j (absSs T ss x) = pinIdxS j ss := by
  intro ss
  induction ss with
  | nil => intro x j; rfl
  | cons s r ih =>
    intro x j
    cases r with
    | nil =>
      change pinIdx j [s.abs T x] = _
      unfold pinIdx pinIdxS
      rw [show isPin (s.abs T x) = s.isPin from isPin_abs s x]
      rfl
    | cons s' r =>
      change pinIdx j (s.abs T x.1 :: absSs T (s' :: r) x.2) = _
      unfold pinIdx pinIdxS
      rw [isPin_abs, ih]

theorem absL_flat {fk : K → Bool} : ∀ {ss : List (S0 K)} {x : tyL E ss}, ss.all (S0.flat fk) = true → (absL ss x).all (DV.flat fk) = true
  | [], x, h => rfl
  | s :: r, x, h => by
    simp only [List.all_cons, Bool.and_eq_true] at h
    simp only [absL, List.all_cons, Bool.and_eq_true]
    refine ⟨?_, absL_flat h.2⟩
    have h1 := h.1
    cases s <;> first | rfl | (simp [S0.flat] at h1; done) | (simpa [S0.abs, DV.flat, S0.flat] using h1)

theorem S1.abs_flat {s : S1 K} {x : s.ty E} (h : s.flat T.fk = true) : (s.abs T x).flat T.fk = true := by
  cases s with
  | a s => cases s <;> first | rfl | (simp [S1.flat, S0.flat] at h; done) | (simpa [S1.abs, S0.abs, DV.flat, S1.flat, S0.flat] using h)
  | _ => simp [S1.flat] at h

theorem absSs_flat : ∀ (ss : List (S1 K)) (x : tyS E ss), ss.all (S1.flat T.fk) = true → (absSs T ss x).all (DV.flat T.fk) = true := by
  intro ss
  induction ss with
  | nil => intro x h; rfl
  | cons s r ih =>
    intro x h
    simp only [List.all_cons, Bool.and_eq_true] at h
    cases r with
    | nil =>
      change ([s.abs T x].all (DV.flat T.fk)) = true
      simp only [List.all_cons, List.all_nil, Bool.and_true]
      exact S1.abs_flat h.1
    | cons s' r =>
      change ((s.abs T x.1 :: absSs T (s' :: r) x.2).all (DV.flat T.fk)) = true
      simp only [List.all_cons, Bool.and_eq_true]
      have := ih x.2 h.2
      simp only [List.all_eq_true] at this
      exact ⟨S1.abs_flat h.1, by simpa [List.all_eq_true] using this⟩

theorem SR.abs_flat {s : SR K} {x : s.ty E} (h : s.flat T.fk = true) : flatV T.fk (s.abs T x) = true := by
  cases s with
  | tup ss => exact absSs_flat ss x h
  | one s =>
    cases s with
    | agg ss => exact absL_flat (fk := fun _ => false) h
    | a s => cases s <;> first | rfl | (simp [SR.flat, S1.flat, S0.flat] at h; done) | (simpa [SR.abs, S1.abs, S0.abs, flatV, DV.flat, SR.flat, S1.flat, S0.flat] using h)
    | _ => simp [SR.flat, S1.flat] at h

theorem absPs_flat : ∀ (ss : List (List (S0 K))) (x : tyP E ss), (ss.all fun p => p.all (S0.flat T.fk)) = true → ∀ p ∈ absPs ss x, p.all (DV.flat T.fk) = true := by
  intro ss
  induction ss with
  | nil => intro x h p hp; cases hp
  | cons s r ih =>
    intro x h p hp
    simp only [List.all_cons, Bool.and_eq_true] at h
    cases r with
    | nil =>
      change p ∈ [absL s x] at hp
      rcases List.mem_singleton.1 hp with rfl
      exact absL_flat h.1
    | cons s' r =>
      change p ∈ absL s x.1 :: absPs (s' :: r) x.2 at hp
      rcases List.mem_cons.1 hp with rfl | hp
      · exact absL_flat h.1
      · exact ih x.2 h.2 p hp

theorem absR_flat {s : Spec K} {r : s.R E} (h : s.flat T = true) : flatV T.fk (absR T s r).v = true ∧ ∀ p ∈ (absR T s r).pins, p.all (DV.flat T.fk) = true := by
  obtain ⟨ps, ret, pp, pl, rf, ts⟩ := s
  simp only [Spec.flat, Bool.and_eq_true] at h
  cases pp with
  | nil => exact ⟨SR.abs_flat (x := r) h.1, fun p hp => by cases hp⟩
  | cons p q => exact ⟨SR.abs_flat (x := r.1) h.1, absPs_flat (p :: q) r.2 h.2⟩

theorem callFunc_run {f : FuncId} {fn : Func} {vs : Array Value} {w : World} (hf : P.funcs[f]? = some fn) (hb : fn.body.isSome = true) (hname : (fn.name == "runtime.NumGoroutine") = false) : (callFunc f vs).run P w = .ok (.enter f vs) w := by
  have : fn.body.isNone = false := by cases h : fn.body <;> simp_all
  simp only [callFunc, Sem.run_bind, run_program, Result.andThen_ok, hf, hname, this, Bool.false_eq_true, if_false, Sem.run_pure]

theorem mapM_tmps (a : Act) (P : Program) (w : World) : ∀ ts : List Nat, (List.mapM (m := Sem) (fun (r : ResultVar) => match r with
    | .tmp t => pure (a.tmps.getD t undef)
    | .cell ad t => do loadVar t (← asAddr (a.tmps.getD ad undef))) (ts.map ResultVar.tmp)).run P w = .ok (ts.map fun t => a.tmps.getD t undef) w
  | [] => by simp
  | t :: ts => by simp only [List.map_cons, List.mapM_cons, Sem.run_bind, Sem.run_pure, Result.andThen_ok, mapM_tmps a P w ts]

theorem results_ts {fn : Func} {ts : List Nat} (h : fn.results = (ts.map ResultVar.tmp).toArray) (a : Act) (P : Program) (w : World) : (results fn a.tmps).run P w = .ok (retV ts a) w := by
  unfold results
  rw [h, Array.mapM_eq_mapM_toList]
  simp only [Sem.run_bind]
  have := mapM_tmps a P w ts
  rw [map_eq_pure_bind, Sem.run_bind]
  erw [this]
  simp only [Result.andThen_ok, Sem.run_pure]
  match ts with
  | [] => rfl
  | [t] => rfl
  | t :: t' :: ts => simp [retV]

theorem ctr_of {s : Spec K} {M : tyS E s.params → Option (s.R E)} {f : FuncId} {fn : Func} {code : Code} (hf : P.funcs[f]? = some fn) (hb : fn.body = some code) (hname : (fn.name == "runtime.NumGoroutine") = false)
    (hts : fn.results = (s.ts.map ResultVar.tmp).toArray) (hnt : fn.ntmps = s.pl.nt) (henv : ∀ f, Ctr T P f (env f)) (hm : P.follows .mixedOrders = true) (hk : keepsC (pinIdxS 0 s.params) code = true)
    (hM : ∀ x r, M x = some r → ∃ F, fnRun T P env s code F x = some r) : Ctr T P f (conOf T s M) := by
  intro ds
  unfold conOf
  cases hx : rdSs T s.params (normL s.params ds) with
  | none => intro r hr; cases hr
  | some x =>
    intro r hr w vs Y bl hown hnd hY
    have hds := rdSs_ok hx
    have hown' := normL_own hown s.params
    rw [← hds] at hown'
    obtain ⟨F, hF⟩ := hM x r hr
    unfold fnRun at hF
    obtain ⟨⟨hn, hlen⟩, hF⟩ := ite_some hF
    refine .inl ⟨callFunc_run hf (by rw [hb]; rfl) hname, calls_of_wp hf hb ?_⟩
    obtain ⟨g, hg⟩ := begin_ok (nt := s.pl.nt) hown' hnd hY hn hlen
    rw [hnt]
    obtain ⟨e, st', hK, hgo⟩ := runC_ok (w0 := w) (G := ⟨(· ∈ bl), (hidG w Y bl).hid⟩) (J := pinIdxS 0 s.params) henv hm code hk 0 _ _ _ _ hF
    refine wp_mono (hgo _ _ g hg) ?_
    rintro e' a' w' ⟨rfl, g', hi, hkeep⟩
    have fin : ((resEnd s.ts (absSs T s.params x) (forget s.rfrz st')).bind (rdR T s)) = some r → a'.defers = [] ∧ ∃ v, (results fn a'.tmps).run P w' = .ok v w' ∧ ∃ v' bl1 bl2, Ending.returned v = Ending.returned v' ∧ (bl1 ++ bl2).Nodup ∧ (∀ b ∈ bl1 ++ bl2, b < w'.heap.size ∧ (w.heap.size ≤ b ∨ b ∈ bl)) ∧
        AnsT T w' (fun b => (Y b ∨ w.heap.size ≤ b ∨ b ∈ bl) ∧ b ∉ bl1 ++ bl2) vs.toList (absR T s r).v v' bl1 ∧
        PinsL T w' (fun b => (Y b ∨ w.heap.size ≤ b ∨ b ∈ bl) ∧ b ∉ bl1 ++ bl2) ds vs.toList (absR T s r).pins bl2 ∧ Frame0 (· ∈ bl) w w' ∧
        (s.flat T = true → flatV T.fk (absR T s r).v = true ∧ ∀ p ∈ (absR T s r).pins, p.all (DV.flat T.fk) = true) := by
      intro hK
      obtain ⟨res, h1, h2⟩ := Option.bind_eq_some_iff.1 hK
      have hi' := forget_weak hi s.rfrz
      have hl : (absSs T s.params x).length = vs.size := by have := ownL_len hown'; simpa using this
      obtain ⟨bl1, bl2, q1, q2, q3, q4, q5⟩ := end_ok hi' hl h1 (by
        intro i hi0
        rw [pinIdx_abs] at hi0
        have hk' := hkeep i hi0
        rw [hk']
        have hlt : i < vs.size := by
          have : ∀ (ds : List (DV E)) (j i : Nat), i ∈ pinIdx j ds → i < j + ds.length := by
            intro ds
            induction ds with
            | nil => intro j i h; cases h
            | cons d r ih =>
              intro j i h
              unfold pinIdx at h
              simp only [List.length_cons]
              split at h
              · rcases List.mem_cons.1 h with rfl | h
                · omega
                · have := ih _ _ h; omega
              · have := ih _ _ h; omega
          have := this (absSs T s.params x) 0 i (by rw [pinIdx_abs]; exact hi0)
          omega
        simp [Array.getElem?_append_left hlt, hlt])
      rw [rdR_ok h2]
      refine ⟨hi.df, _, results_ts hts a' P w', retV s.ts a', bl1, bl2, rfl, q1, q2, q3, ?_, q5, fun hf => ?_⟩
      · rw [hds] at q4
        exact normL_pins _ _ _ _ _ q4
      · rw [← rdR_ok h2]; exact absR_flat hf
    cases e with
    | exit j => cases hK
    | norm => exact fin hK
    | ret => exact fin hK

end Go.Vm

/- The kinds of elements. PRINTED by tabgen.py. -/
namespace Go.Vm
open Go.Lib
set_option linter.unusedVariables false

inductive Kd where
  | i64
  | i32
  | u8
  | u32
  | u64
  | bo
  | str
  deriving DecidableEq

abbrev El : Kd → Type
  | .i64 => Int
  | .i32 => Int
  | .u8 => UInt8
  | .u32 => Int
  | .u64 => Int
  | .bo => Bool
  | .str => List UInt8

def Kd.enc : (k : Kd) → El k → List (DV El)
  | .i64, n => [.int .i64 n]
  | .i32, n => [.int .i32 n]
  | .u8, b => [.int .u8 (b.toNat : Int)]
  | .u32, n => [.int .u32 n]
  | .u64, n => [.int .u64 n]
  | .bo, b => [.bool b]
  | .str, s => [.str s]

def Kd.dec (k : Kd) (cs : List (DV El)) : Option (El k) :=
  match k with
  | .i64 => match cs with
    | [.int .i64 n] => some n
    | _ => none
  | .i32 => match cs with
    | [.int .i32 n] => some n
    | _ => none
  | .u8 => match cs with
    | [.int .u8 n] => some (UInt8.ofNat n.toNat)
    | _ => none
  | .u32 => match cs with
    | [.int .u32 n] => some n
    | _ => none
  | .u64 => match cs with
    | [.int .u64 n] => some n
    | _ => none
  | .bo => match cs with
    | [.bool b] => some b
    | _ => none
  | .str => match cs with
    | [.str s] => some s
    | _ => none

def Kd.ofStr (k : Kd) (s : List UInt8) : Option (List (El k)) :=
  match k with
  | .u8 => some s
  | _ => none
def Kd.toStr (k : Kd) (l : List (El k)) : Option (List UInt8) :=
  match k, l with
  | .u8, l => some l
  | _, _ => none
def Kd.sz : Kd → Nat
  | _ => 1
def Kd.fk : Kd → Bool
  | _ => true

theorem u8_back {n : Int} (h : okInt .u8 n = true) : ((UInt8.ofNat n.toNat).toNat : Int) = n := by
  simp only [okInt, Bool.and_eq_true, decide_eq_true_eq] at h
  simp
  omega

/-- The table: which type has which kind. -/
def tabOf (kt : TypeId → Option Kd) : Tab El where
  deq := inferInstance
  kind := kt
  sz := Kd.sz
  enc := Kd.enc
  dec := Kd.dec
  ofStr := Kd.ofStr
  toStr := Kd.toStr
  fk := Kd.fk
  fk_ok := by intro k x h; cases k <;> first | rfl | (cases h; done)
  enc_len := by intro k x; cases k <;> rfl
  dec_ok := by
    intro k cs x hin h
    cases k <;> simp only [Kd.dec] at h <;> split at h <;> cases h <;> first | rfl | skip
    simp only [Kd.enc]
    rw [u8_back (hin _ (List.mem_cons_self ..))]
  ofStr_ok := by
    intro k s l h
    cases k <;> simp only [Kd.ofStr] at h <;> cases h
    exact ⟨rfl, fun i h h' => rfl⟩
  toStr_ok := by
    intro k s l h
    cases k <;> simp only [Kd.toStr] at h <;> cases h
    exact ⟨rfl, fun i h h' => rfl⟩

end Go.Vm

/- The abstract value machine: functions one by one. -/
namespace Go.Vm
open Go.Lib
set_option linter.unusedVariables false
variable {K : Type} {E : K → Type}

def sumC {α β γ : Type} (s : α ⊕ β) (f : α → γ) (g : β → γ) : γ := match s with
  | .inl a => f a
  | .inr b => g b
def boolC {γ : Type} (b : Bool) (x y : γ) : γ := match b with
  | true => x
  | false => y

/-- A loop, with its types told. -/
abbrev loopT (X Y : Type) (f : X → Option (X ⊕ Y)) (n : Nat) (x : X) : Option Y := loopM f n x

/-- No function is known. -/
def envN : Env E := fun _ _ => .bad
/-- One function more. -/
def envS (f : FuncId) (C : List (DV E) → Con E) (env : Env E) : Env E := fun g => if g = f then C else env g

theorem envN_ok {T : Tab E} {P : Program} : ∀ f, Ctr T P f (envN (E := E) f) := by
  intro f ds r hr
  cases hr
theorem envS_ok {T : Tab E} {P : Program} {f : FuncId} {C : List (DV E) → Con E} {env : Env E} (h : ∀ g, Ctr T P g (env g)) (hc : Ctr T P f C) : ∀ g, Ctr T P g (envS f C env g) := by
  intro g
  unfold envS
  split
  · rename_i e; subst e; exact hc
  · exact h g

/-- A model that never answers. -/
theorem ctr_none (T : Tab E) (P : Program) (f : FuncId) (s : Spec K) {M : tyS E s.params → Option (s.R E)} (h : ∀ x, M x = none) : Ctr T P f (conOf T s M) := by
  intro ds
  unfold conOf
  cases hx : rdSs T s.params (normL s.params ds) with
  | none => intro r hr; cases hr
  | some x => intro r hr; simp only [h] at hr; cases hr

end Go.Vm

/- Plain laws of the models: more fuel tells the same; what a model comes to. -/
namespace Go.Vm
set_option linter.unusedVariables false

/-- What the one tells, the other tells too. -/
structure Le {α : Type} (a b : Option α) : Prop where
  le : ∀ r, a = some r → b = some r

theorem Le.refl {α : Type} (a : Option α) : Le a a := ⟨fun _ h => h⟩
theorem Le.bind {α β : Type} {a b : Option α} {f g : α → Option β} (h : Le a b) (hf : ∀ x, Le (f x) (g x)) : Le (a.bind f) (b.bind g) := by
  refine ⟨fun r hr => ?_⟩
  obtain ⟨x, hx, hr⟩ := Option.bind_eq_some_iff.1 hr
  exact Option.bind_eq_some_iff.2 ⟨x, h.le x hx, (hf x).le r hr⟩
theorem Le.ite {α : Type} {c : Prop} [Decidable c] {a b a' b' : Option α} (h : Le a a') (h' : Le b b') : Le (if c then a else b) (if c then a' else b') := by
  split
  · exact h
  · exact h'
theorem Le.loop {X Y : Type} {f g : X → Option (X ⊕ Y)} (hf : ∀ x, Le (f x) (g x)) : ∀ {n m : Nat}, n ≤ m → ∀ x, Le (loopM f n x) (loopM g m x)
  | 0, m, h, x => ⟨fun r hr => by cases hr⟩
  | n + 1, 0, h, x => by omega
  | n + 1, m + 1, h, x => by
    unfold loopM
    refine Le.bind (hf x) fun y => ?_
    cases y with
    | inl x' => exact Le.loop hf (by omega) x'
    | inr y => exact Le.refl _
theorem Le.sumC {α β γ : Type} {s : α ⊕ β} {f f' : α → Option γ} {g g' : β → Option γ} (h : ∀ x, Le (f x) (f' x)) (h' : ∀ x, Le (g x) (g' x)) : Le (Go.Vm.sumC s f g) (Go.Vm.sumC s f' g') := by
  cases s with
  | inl a => exact h a
  | inr b => exact h' b

/-- From some fuel on it tells this. -/
def Tends {α : Type} (m : Nat → Option α) (r : α) : Prop := ∃ N, ∀ F, N ≤ F → m F = some r

theorem Tends.const {α : Type} {m : Option α} {r : α} (h : m = some r) : Tends (fun _ => m) r := ⟨0, fun _ _ => h⟩
theorem Tends.ret {α : Type} (r : α) : Tends (fun _ => some r) r := ⟨0, fun _ _ => rfl⟩
theorem Tends.of {α : Type} {m : Nat → Option α} {r : α} (h : ∀ F, m F = some r) : Tends m r := ⟨0, fun F _ => h F⟩
theorem Tends.bind {α β : Type} {m : Nat → Option α} {k : Nat → α → Option β} {r : α} {s : β} (h : Tends m r) (h' : Tends (fun F => k F r) s) : Tends (fun F => (m F).bind (k F)) s := by
  obtain ⟨N, h⟩ := h
  obtain ⟨N', h'⟩ := h'
  refine ⟨max N N', fun F hF => ?_⟩
  show (m F).bind (k F) = _
  rw [h F (by omega), Option.bind_some]
  exact h' F (by omega)
theorem Tends.congr {α : Type} {m m' : Nat → Option α} {r : α} (h : Tends m r) (e : ∀ F, m' F = m F) : Tends m' r := by
  obtain ⟨N, h⟩ := h
  exact ⟨N, fun F hF => (e F).trans (h F hF)⟩
theorem Tends.mono {α : Type} {m : Nat → Option α} {r : α} (hm : ∀ F F', F ≤ F' → Le (m F) (m F')) (F : Nat) (h : m F = some r) : Tends m r := ⟨F, fun F' hF => (hm F F' hF).le r h⟩
theorem Tends.ex {α : Type} {m : Nat → Option α} {r : α} (h : Tends m r) : ∃ F, m F = some r := by
  obtain ⟨N, h⟩ := h
  exact ⟨N, h N (Nat.le_refl _)⟩
theorem Tends.pos {α : Type} {c : Prop} [Decidable c] {m m' : Nat → Option α} {r : α} (hc : c) (h : Tends m r) : Tends (fun F => if c then m F else m' F) r := h.congr fun F => by rw [if_pos hc]
theorem Tends.neg {α : Type} {c : Prop} [Decidable c] {m m' : Nat → Option α} {r : α} (hc : ¬ c) (h : Tends m' r) : Tends (fun F => if c then m F else m' F) r := h.congr fun F => by rw [if_neg hc]
theorem Tends.eq {α : Type} {m : Nat → Option α} {r r' : α} (h : Tends m r) (e : r = r') : Tends m r' := e ▸ h
theorem Tends.uniq {α : Type} {m : Nat → Option α} {r r' : α} (h : Tends m r) (h' : Tends m r') : r = r' := by
  obtain ⟨N, h⟩ := h
  obtain ⟨N', h'⟩ := h'
  have := (h (max N N') (by omega)).symm.trans (h' (max N N') (by omega))
  exact Option.some.inj this

/-- A loop from a state on: it ends with this. -/
def TendsL {X Y : Type} (f : Nat → X → Option (X ⊕ Y)) (x : X) (y : Y) : Prop := ∃ N, ∀ F n, N ≤ F → N ≤ n → loopM (f F) n x = some y

theorem TendsL.fin {X Y : Type} {f : Nat → X → Option (X ⊕ Y)} {x : X} {y : Y} (h : Tends (fun F => f F x) (.inr y)) : TendsL f x y := by
  obtain ⟨N, h⟩ := h
  refine ⟨N + 1, fun F n hF hn => ?_⟩
  obtain ⟨n, rfl⟩ : ∃ k, n = k + 1 := ⟨n - 1, by omega⟩
  unfold loopM
  have h1 : f F x = some (.inr y) := h F (by omega)
  rw [h1]
  rfl
theorem TendsL.step {X Y : Type} {f : Nat → X → Option (X ⊕ Y)} {x x' : X} {y : Y} (h : Tends (fun F => f F x) (.inl x')) (h' : TendsL f x' y) : TendsL f x y := by
  obtain ⟨N, h⟩ := h
  obtain ⟨N', h'⟩ := h'
  refine ⟨max N N' + 1, fun F n hF hn => ?_⟩
  obtain ⟨n, rfl⟩ : ∃ k, n = k + 1 := ⟨n - 1, by omega⟩
  unfold loopM
  have h1 : f F x = some (.inl x') := h F (by omega)
  rw [h1, Option.bind_some]
  exact h' F n (by omega) (by omega)
theorem TendsL.run {X Y : Type} {f : Nat → X → Option (X ⊕ Y)} {x : X} {y : Y} (h : TendsL f x y) : Tends (fun F => loopM (f F) F x) y := by
  obtain ⟨N, h⟩ := h
  exact ⟨N, fun F hF => h F F hF hF⟩

theorem bind_ite {α β : Type} {c : Prop} [Decidable c] (a b : Option α) (f : α → Option β) : (if c then a else b).bind f = if c then a.bind f else b.bind f := by split <;> rfl

theorem some_ite {α : Type} (c : Prop) [Decidable c] (a b : α) : (if c then some a else some b) = some (if c then a else b) := by split <;> rfl
theorem prod_ite {α β : Type} (c : Prop) [Decidable c] (a a' : α) (b b' : β) : (if c then (a, b) else (a', b')) = (if c then a else a', if c then b else b') := by split <;> rfl

theorem wrap64 (n : Int) (h : -9223372036854775808 ≤ n) (h' : n ≤ 9223372036854775807) : IntKind.i64.wrap n = n := by
  simp only [IntKind.wrap, IntKind.signed, IntKind.bits]
  simp
  omega
end Go.Vm

/- The abstract value machine: contracts that are shown by hand. -/
namespace Go.Vm
open Go.Lib
set_option linter.unusedVariables false
variable {K : Type} {E : K → Type}
variable {T : Tab E} {P : Program}

/-- What a call has to come to. -/
def Comes (T : Tab E) (s : Spec K) (ds : List (DV E)) (r : s.R E) (w : World) (vs : List Value) (Y : Nat → Prop) (bl : List Nat) (e : Ending) (w' : World) : Prop :=
  ∃ v bl1 bl2, e = .returned v ∧ (bl1 ++ bl2).Nodup ∧ (∀ b ∈ bl1 ++ bl2, b < w'.heap.size ∧ (w.heap.size ≤ b ∨ b ∈ bl)) ∧
    AnsT T w' (fun b => (Y b ∨ w.heap.size ≤ b ∨ b ∈ bl) ∧ b ∉ bl1 ++ bl2) vs (absR T s r).v v bl1 ∧
    PinsL T w' (fun b => (Y b ∨ w.heap.size ≤ b ∨ b ∈ bl) ∧ b ∉ bl1 ++ bl2) ds vs (absR T s r).pins bl2 ∧ Frame0 (· ∈ bl) w w'

theorem ctr_hand {s : Spec K} {M : tyS E s.params → Option (s.R E)} {f : FuncId}
    (h : ∀ x r, M x = some r → ∀ (w : World) (vs : Array Value) (Y : Nat → Prop) (bl : List Nat), OwnL (Own T w Y) (absSs T s.params x) vs.toList bl → bl.Nodup → (∀ b ∈ bl, ¬ Y b ∧ b < w.heap.size) →
      CallsX P f vs w (Comes T s (absSs T s.params x) r w vs.toList Y bl)) : Ctr T P f (conOf T s M) := by
  intro ds
  unfold conOf
  cases hx : rdSs T s.params (normL s.params ds) with
  | none => intro r hr; cases hr
  | some x =>
    intro r hr w vs Y bl hown hnd hY
    have hds := rdSs_ok hx
    have hown' := normL_own hown s.params
    rw [← hds] at hown'
    have hc := h x r hr w vs Y bl hown' hnd hY
    have key : ∀ e w', Comes T s (absSs T s.params x) r w vs.toList Y bl e w' → ∃ v bl1 bl2, e = .returned v ∧ (bl1 ++ bl2).Nodup ∧ (∀ b ∈ bl1 ++ bl2, b < w'.heap.size ∧ (w.heap.size ≤ b ∨ b ∈ bl)) ∧
        AnsT T w' (fun b => (Y b ∨ w.heap.size ≤ b ∨ b ∈ bl) ∧ b ∉ bl1 ++ bl2) vs.toList (absR T s r).v v bl1 ∧
        PinsL T w' (fun b => (Y b ∨ w.heap.size ≤ b ∨ b ∈ bl) ∧ b ∉ bl1 ++ bl2) ds vs.toList (absR T s r).pins bl2 ∧ Frame0 (· ∈ bl) w w' ∧
        (s.flat T = true → flatV T.fk (absR T s r).v = true ∧ ∀ p ∈ (absR T s r).pins, p.all (DV.flat T.fk) = true) := by
      rintro e w' ⟨v, bl1, bl2, h1, h2, h3, h4, h5, h6⟩
      refine ⟨v, bl1, bl2, h1, h2, h3, h4, ?_, h6, fun hf => absR_flat hf⟩
      rw [hds] at h5
      exact normL_pins _ _ _ _ _ h5
    rcases hc with ⟨h1, h2⟩ | ⟨v, w', h1, h2⟩
    · exact .inl ⟨h1, h2.mono key⟩
    · exact .inr ⟨v, w', h1, key _ _ h2⟩

theorem alloc_old (w : World) (o : Obj) (k : Nat) (hk : k < w.heap.size) : (w.alloc o).heap[k]? = w.heap[k]? := heap_alloc_old w o k hk

end Go.Vm

/- From a law's contract to what its row asks. -/
namespace Go.Vm
open Go.Lib Go.RowKit
set_option linter.unusedVariables false
variable {K : Type} {E : K → Type}
variable {T : Tab E} {P : Program}

theorem callsX_calls {f : FuncId} {fn : Func} {vs : Array Value} {w : World} {R : Ending → World → Prop} (hf : P.funcs[f]? = some fn) (hb : fn.body.isSome = true) (hname : (fn.name == "runtime.NumGoroutine") = false)
    (h : CallsX P f vs w R) : Calls P f vs w R := by
  rcases h with ⟨_, h⟩ | ⟨v, w', h, _⟩
  · exact h
  · rw [callFunc_run hf hb hname] at h
    cases h

theorem law_below {s : Spec K} {M : tyS E s.params → Option (s.R E)} {f : FuncId} {fn : Func} (hc : Ctr T P f (conOf T s M)) (hf : P.funcs[f]? = some fn) (hb : fn.body.isSome = true) (hname : (fn.name == "runtime.NumGoroutine") = false)
    {x : tyS E s.params} {r : s.R E} (hM : M x = some r) {ds : List (DV E)} (hds : rdSs T s.params (normL s.params ds) = some x) (hr : absR T s r = ⟨.bool true, []⟩) {w : World} {vs : Array Value}
    (hown : OwnL (Own T w fun _ => True) ds vs.toList []) : Calls P f vs w fun e w' => e = .returned (.bool true) ∧ Below w.heap.size w w' := by
  have hcon : (conOf T s M ds) = ⟨s.R E, M x, absR T s, s.flat T⟩ := by unfold conOf; rw [hds]
  have h0 := hc ds
  rw [hcon] at h0
  have h1 := h0 r hM w vs (fun _ => True) [] hown List.nodup_nil (fun b hb => by cases hb)
  refine (callsX_calls hf hb hname h1).mono ?_
  rintro e w' ⟨v, bl1, bl2, rfl, _, _, h4, _, h6, _⟩
  change AnsT T w' _ vs.toList (absR T s r).v v bl1 at h4
  rw [hr] at h4
  have hv : v = .bool true := by
    have h5 : Ans T w' _ vs.toList (.bool true : DV E) v bl1 := h4
    cases h5 with
    | c h => cases h with
      | sh hr hs => cases hr; rfl
  exact ⟨by rw [hv], ⟨h6.os, h6.tape, h6.output, h6.size, fun k hk => h6.block k hk (by simp)⟩⟩

theorem own_sh {w : World} {Y : Nat → Prop} {d : DV E} {v : Value} {ds : List (DV E)} {vs : List Value} (h : Rep T w Y d v) (hs : d.share = true) (t : OwnL (Own T w Y) ds vs []) : OwnL (Own T w Y) (d :: ds) (v :: vs) [] :=
  .cons (b := []) (.c (.sh h hs)) t

theorem rep_int {w : World} {Y : Nat → Prop} (k : IntKind) (n : Int) (h : okInt k n = true) : Rep T w Y (.int k n) (.int k n) := .int h
theorem rep_string {w : World} {Y : Nat → Prop} (s : ByteArray) : Rep T w Y (.str s.data.toList : DV E) (.string s) := by
  have : s = ⟨s.data.toList.toArray⟩ := by apply ByteArray.ext; simp
  exact this ▸ Rep.str s.data.toList
theorem rep_bool {w : World} {Y : Nat → Prop} (b : Bool) : Rep T w Y (.bool b : DV E) (.bool b) := .bool b

theorem slice_spot {w : World} {r : Reach} {base : Nat} {t e : TypeId} {a : Addr} {len cap : Nat} (ht : P.underlying t = some (.slice e)) (h : Value.okWide P w r base t (.slice (some a) len cap)) : a.spot = none := by
  unfold Value.okWide at h
  rw [ht] at h
  simp only [Cell.okWide, Cell.ok, ht] at h
  exact h.2.2.2.1

theorem slice_lt {w : World} {r : Reach} {base : Nat} {t e : TypeId} {a : Addr} {len cap : Nat} (ht : P.underlying t = some (.slice e)) (h : Value.okWide P w r base t (.slice (some a) len cap)) : a.block < w.heap.size := by
  unfold Value.okWide at h
  rw [ht] at h
  simp only [Cell.okWide, Cell.ok, ht] at h
  obtain ⟨row, cells, h1, _⟩ := h.2.2.2.2
  rcases Nat.lt_or_ge a.block w.heap.size with h' | h'
  · exact h'
  · simp [World.shape?, Array.getElem?_eq_none h'] at h1

/-- A slice of numbers that came in. -/
theorem rep_i64s {kt : TypeId → Option Kd} {w : World} (a : Option Addr) (len cap : Nat) (zs : List Int)
    (h : (a = none ∧ len = 0 ∧ cap = 0 ∧ zs = []) ∨ ∃ x, a = some x ∧ x.spot = none ∧ x.block < w.heap.size ∧ len ≤ cap ∧ zs.length = cap ∧ ∀ i, i < zs.length → w.cell? (x.add i) = some (.int .i64 (zs.getD i 0))) :
    Rep (tabOf kt) w (fun _ => True) (.slc .i64 (zs.take len)) (.slice a len cap) := by
  rcases h with ⟨rfl, rfl, rfl, rfl⟩ | ⟨⟨b, off, sp⟩, rfl, hsp, hlt, hl, hz, hc⟩
  · exact .slcn _
  · simp only at hsp hlt
    subst hsp
    have hlen : (zs.take len).length = len := by simp; omega
    have := Rep.slc (T := tabOf kt) (w := w) (X := fun _ => True) (k := Kd.i64) (l := zs.take len) (b := b) (off := off) cap (fun j => .int .i64 (zs.getD j 0)) (by rw [hlen]; exact hl) (fun _ => ⟨trivial, hlt⟩)
      (fun j hj => by
        rw [hlen] at hj
        have hj' : j < len := by have : (tabOf kt).sz .i64 = 1 := rfl; rw [this] at hj; omega
        have := hc j (by omega)
        have e : (⟨b, off, none⟩ : Addr).add j = ⟨b, off + j, none⟩ := by
          unfold Addr.add
          split
          · rename_i h0; subst h0; rfl
          · rfl
        rw [e] at this
        exact this)
      (fun i hi c hcc => by
        have hc0 : c = 0 := by have : c < 1 := hcc; omega
        subst hc0
        rw [hlen] at hi
        have e : i * (tabOf kt).sz .i64 + 0 = i := by show i * 1 + 0 = i; omega
        rw [e]
        have : (zs.take len)[i]'(by rw [hlen]; exact hi) = zs.getD i 0 := by
          simp [List.getElem_take, List.getD, List.getElem?_eq_getElem (show i < zs.length by omega)]
        show Rep _ w _ (.int .i64 ((zs.take len)[i]'(by rw [hlen]; exact hi))) _
        rw [this]
        exact .int rfl)
      (fun i hi c hcc => by
        have hc0 : c = 0 := by have : c < 1 := hcc; omega
        subst hc0
        rfl)
    rw [hlen] at this
    exact this

end Go.Vm

