/- Part 7 of an abstract value machine: a framework of this session's own, in which functions of the program are run once and for all inputs. No condition. -/
import Derived.Test.YtgeafoacmnlioaaDoorV6
import Derived.Shelf.Strconv.AtoiErr
import Derived.Shelf.Strconv.Atoi
import Derived.Shelf.Strconv.AppendIntPublic10
import Derived.Test.YtgeafoacmnlioaaDoorV5
/- The abstract value machine: strconv's Atoi and AppendInt. -/
namespace Go.Vm
open Go.Proofs Go.Shelf Go.RowKit Go.Sort Go.Lib
set_option linter.unusedVariables false
section
variable {P : Program} {ρ : Ren} {w : World}
structure Grew (e : TypeId) (w w' : World) (v v' : Value) (n : Nat) (xs : List Value) : Prop where
  own : ownsR w' e 1 v' n xs
  grown : w.grownBy w' v.ownBlock
  place : Place w v v'
theorem ownB_blk {e : TypeId} {v : Value} {n k : Nat} {xs : List Value} (h : ownsR w e k v n xs) : v.ownBlock = blk v := by
  rcases h.2 with ⟨rfl, _⟩ | ⟨g, cap, cur, rfl, _⟩ <;> rfl
theorem Grew.trans {e : TypeId} {w0 w1 w2 : World} {v0 v1 v2 : Value} {n1 n2 : Nat} {xs ys : List Value} (h : Grew e w0 w1 v0 v1 n1 xs) (k : Grew e w1 w2 v1 v2 n2 ys) (h0 : v0.ownBlock = blk v0) : Grew e w0 w2 v0 v2 n2 ys := by
  refine ⟨k.own, ⟨k.grown.os.trans h.grown.os, k.grown.tape.trans h.grown.tape, k.grown.output.trans h.grown.output, Nat.le_trans h.grown.size k.grown.size, fun b hb hne => ?_⟩, fun b hb => ?_⟩
  · have h1 := h.grown.block b hb hne
    rw [← h1]
    refine k.grown.block b (Nat.lt_of_lt_of_le hb h.grown.size) fun hh => ?_
    rw [ownB_blk h.own] at hh
    rcases h.place b hh.symm with hp | hp
    · omega
    · exact hne (by rw [h0, hp])
  · rcases k.place b hb with hp | hp
    · exact .inl (Nat.le_trans h.grown.size hp)
    · exact h.place b hp
theorem Grew.behind {e : TypeId} {w0 w1 w2 : World} {v v' : Value} {n : Nat} {xs : List Value} (hb : Below w0.heap.size w0 w1) (k : Grew e w1 w2 v v' n xs) : Grew e w0 w2 v v' n xs :=
  ⟨k.own, ⟨k.grown.os.trans hb.os, k.grown.tape.trans hb.tape, k.grown.output.trans hb.output, Nat.le_trans hb.size k.grown.size, fun b h hne => (k.grown.block b (Nat.lt_of_lt_of_le h hb.size) hne).trans (hb.block b h)⟩,
    fun b hk => (k.place b hk).imp (fun h => Nat.le_trans hb.size h) id⟩
end
section
variable {P : Program} {ρ : Ren} {kt : KT}
theorem ba_size {l : List UInt8} {n : Nat} (h : l.length ≤ n) : (⟨l.toArray⟩ : ByteArray).size ≤ n := by show l.toArray.size ≤ n; rw [List.size_toArray]; exact h
theorem own_one {w : World} {Y : Nat → Prop} {a : DV El} {vs : Array Value} {bl : List Nat} (h : OwnL (Own (tabOf kt) w Y) [a] vs.toList bl) :
    ∃ u, vs = #[u] ∧ Own (tabOf kt) w Y a u bl := by
  obtain ⟨xs⟩ := vs
  cases h with
  | cons h t =>
    cases t
    exact ⟨_, rfl, by simpa using h⟩
end
end Go.Vm
