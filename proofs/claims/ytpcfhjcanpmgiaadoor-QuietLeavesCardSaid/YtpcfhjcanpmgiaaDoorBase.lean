/- Plain words for memory: a block that is known whole; what a call leaves as it was. -/
import Derived.Test.YtpcfhjcanpmgiaaDoorRows
import Derived.WalkKit
import Derived.WalkSpells
import Derived.WalkLawsBesides
import Derived.ProofKit
import Derived.OpenShut
import Derived.Lib.Hide
namespace Go.Proofs.YtpcfhjcanpmgiaaDoor
open Go.RowKit

/-- block g is just the cells cs, none frozen -/
def Blk (w : World) (g : Nat) (t : TypeId) (cs : Array Value) : Prop := w.heap[g]? = some (.cells cs t (0, 0))

/-- of the blocks that there were, only those of F may have turned -/
structure Eff (F : Nat → Prop) (w w' : World) : Prop where
  os : w'.os = w.os
  tape : w'.tape = w.tape
  output : w'.output = w.output
  size : w.heap.size ≤ w'.heap.size
  block : ∀ k, k < w.heap.size → ¬ F k → w'.heap[k]? = w.heap[k]?

section
variable {w w' w1 w2 : World} {g : Nat} {t : TypeId} {cs : Array Value} {F G : Nat → Prop}
theorem Blk.lt (h : Blk w g t cs) : g < w.heap.size := by
  rcases Nat.lt_or_ge g w.heap.size with hlt | hge
  · exact hlt
  · unfold Blk at h; rw [Array.getElem?_eq_none hge] at h; cases h
theorem Blk.cell (h : Blk w g t cs) (i : Nat) : w.cell? ⟨g, i, none⟩ = cs[i]? := by
  unfold Blk at h
  simp [World.cell?, h]
theorem Blk.frozen (h : Blk w g t cs) (i : Nat) : w.frozen? ⟨g, i, none⟩ = false := by
  unfold Blk at h
  simp [World.frozen?, h]
theorem Blk.new (w : World) (t : TypeId) (cs : Array Value) : Blk (w.alloc (.cells cs t)) w.heap.size t cs :=
  (MapKept.heap_alloc w _).1
theorem Blk.alloc (h : Blk w g t cs) (o : Obj) : Blk (w.alloc o) g t cs := (Below.heap_alloc w o g h.lt).trans h
theorem Blk.set_ (h : Blk w g t cs) (i : Nat) (u : Value) : Blk (w.setCell ⟨g, i, none⟩ u) g t (cs.setIfInBounds i u) := by
  unfold Blk at h ⊢
  simp [World.setCell, Array.getElem?_modify, h]
theorem Blk.far (h : Blk w g t cs) {p : Addr} (hp : g ≠ p.block) (u : Value) : Blk (w.setCell p u) g t cs := (Below.heap_setCell w p u g hp).trans h
theorem Blk.eff (h : Blk w g t cs) (he : Eff F w w') (hg : ¬ F g) : Blk w' g t cs := (he.block g h.lt hg).trans h

theorem Eff.refl (F : Nat → Prop) (w : World) : Eff F w w := ⟨rfl, rfl, rfl, Nat.le_refl _, fun _ _ _ => rfl⟩
theorem Eff.trans (h : Eff F w w1) (k : Eff F w1 w2) : Eff F w w2 :=
  ⟨k.os.trans h.os, k.tape.trans h.tape, k.output.trans h.output, Nat.le_trans h.size k.size, fun i hi hn => (k.block i (Nat.lt_of_lt_of_le hi h.size) hn).trans (h.block i hi hn)⟩
theorem Eff.mono (h : Eff F w w1) (hs : ∀ k, k < w.heap.size → F k → G k) : Eff G w w1 :=
  ⟨h.os, h.tape, h.output, h.size, fun i hi hn => h.block i hi (fun hf => hn (hs i hi hf))⟩
theorem Eff.thn (h : Eff F w w1) (k : Eff G w1 w2) (hs : ∀ i, i < w.heap.size → G i → F i) : Eff F w w2 :=
  ⟨k.os.trans h.os, k.tape.trans h.tape, k.output.trans h.output, Nat.le_trans h.size k.size, fun i hi hn => (k.block i (Nat.lt_of_lt_of_le hi h.size) (fun hg => hn (hs i hi hg))).trans (h.block i hi hn)⟩
theorem Eff.drew (h : Eff F w w1) : Eff F w w1.drew := ⟨h.os, h.tape, h.output, h.size, h.block⟩
theorem Eff.alloc (h : Eff F w w1) (o : Obj) : Eff F w (w1.alloc o) :=
  ⟨h.os, h.tape, h.output, by have := h.size; simp; omega, fun i hi hn => (Below.heap_alloc w1 o i (Nat.lt_of_lt_of_le hi h.size)).trans (h.block i hi hn)⟩
theorem Eff.setCell (h : Eff F w w1) {p : Addr} (hp : F p.block ∨ w.heap.size ≤ p.block) (u : Value) : Eff F w (w1.setCell p u) :=
  ⟨h.os, h.tape, h.output, by have := h.size; simp; omega, fun i hi hn => (Below.heap_setCell w1 p u i (by
    intro e; subst e; rcases hp with hp | hp
    · exact hn hp
    · omega)).trans (h.block i hi hn)⟩
theorem Eff.below (h : Eff F w w') {B : Nat} (hB : B ≤ w.heap.size) (hF : ∀ k, k < B → ¬ F k) : Below B w w' :=
  ⟨h.os, h.tape, h.output, h.size, fun k hk => h.block k (by omega) (hF k hk)⟩
end
/-- the call has put just cs into block g -/
structure Put (w : World) (g : Nat) (t : TypeId) (cs : Array Value) (w' : World) : Prop where
  eff : Eff (· = g) w w'
  size : w'.heap.size = w.heap.size
  blk : Blk w' g t cs
theorem Eff.put {w w1 w2 : World} {g : Nat} {t : TypeId} {cs : Array Value} {F : Nat → Prop} (h : Eff F w w1) (k : Put w1 g t cs w2) (hs : w.heap.size ≤ g ∨ F g) : Eff F w w2 :=
  h.thn k.eff (fun i hi e => by
    subst e
    rcases hs with hs | hs
    · omega
    · exact hs)

section
open Go.ChangeShapes Go.WideShapes Go.ChangeAt
/-- the arguments read as they did, if nothing that was there has turned -/
theorem args_kept {H : Type} {enc : TypeId × Value → H} {P : Program} (hl : laidOutB P = true) {W W' : World} (hb : Below W.heap.size W W') :
    ∀ {ts : List TypeId} {vs : List Value} {ds : List (DataW H)} {ps : List MemPlace}, (∀ t ∈ ts, P.readableRec t = true ∧ t < P.types.size) →
      DataW.TrodAll enc P W 0 (fun _ => true) true ts vs ds ps → (∀ x ∈ ps, x.block < W.heap.size) →
      DataW.TrodAll enc P W' 0 (fun b => decide (b < W.heap.size)) true ts vs ds ps
  | [], vs, ds, ps, _, h, _ => by
    obtain ⟨rfl, rfl, rfl⟩ := trodAll_nil h
    exact rfl
  | t :: ts, vs, ds, ps, hts, h, hlt => by
    obtain ⟨v, vs1, d, ds1, a, b, rfl, rfl, rfl, h1, h2⟩ := trodAll_cons h
    have ht := hts t (by simp)
    exact trodAll_cons_mk (hb.trod hl ht.1 ht.2 h1 (fun x hx => hlt x (by simp [hx]))) (args_kept hl hb (fun t ht => hts t (by simp [ht])) h2 (fun x hx => hlt x (by simp [hx])))

/-- what a law owes behind its walk: it returned true, and nothing that was there has turned -/
theorem post_true {H : Type} {enc : TypeId × Value → H} {P : Program} (hl : laidOutB P = true) {f : Func} {s : ChangeSpec} {t : TypeId} {W W' : World} {args : Array Value} {ds gs : List (DataW H)} {before : List MemPlace}
    (hp : ∀ t ∈ f.params.toList, P.readableRec t = true ∧ t < P.types.size) (hr : f.resultTypes = #[t]) (ht : P.underlying t = some .bool) (hv : s.vars = [])
    (hW : DataW.Whole enc P f.params.toList s.vars false W args.toList ds gs before)
    (hs : s.fn H ds = { results := [.lit (.bool true)], args := ds }) (hb : Below W.heap.size W W') :
    s.post enc P f false true false false W args (.bool true) W' := by
  have hW' := hW
  obtain ⟨p, q, hA, hV, rfl, hfz, hnd⟩ := hW
  rw [hv] at hV
  obtain ⟨rfl, rfl⟩ := trodVars_none hV
  rw [List.append_nil] at hW'
  have e : s.fn H (ds ++ []) = { results := [.lit (.bool true)], args := ds } := by rw [List.append_nil, hs]
  refine ⟨ds, [], p, [], p, [], hW', ?_, ?_, ?_, hb.frame _, fun h => by cases h⟩
  · rw [e, hr]
    exact trodAll_cons_mk (shut_bool ht true) trodAll_mk0
  · rw [e]
    exact args_kept hl hb hp hA (fun x hx => hW'.lt x hx)
  · rw [e, hv]
    exact rfl
end
/-- a slice of integers that came in -/
structure Ints (w : World) (A : Option Addr) (zs : List Int) : Prop where
  at_ : ∀ k, k < zs.length → ∃ b off, A = some ⟨b, off, none⟩ ∧ b < w.heap.size ∧ ∀ j, j < zs.length → w.cell? ⟨b, off + j, none⟩ = some (.int .i64 (zs[j]?.getD 0))
  bd : ∀ j : Nat, -9223372036854775808 ≤ zs[j]?.getD 0 ∧ zs[j]?.getD 0 ≤ 9223372036854775807
theorem Ints.eff {w w' : World} {A : Option Addr} {zs : List Int} (h : Ints w A zs) (he : Eff (fun _ => False) w w') : Ints w' A zs :=
  ⟨fun k hk => by
    obtain ⟨b, off, hA, hb, hc⟩ := h.at_ k hk
    exact ⟨b, off, hA, Nat.lt_of_lt_of_le hb he.size, fun j hj => (World.cell?_of_block (w := w) (he.block b hb id)).trans (hc j hj)⟩, h.bd⟩


theorem bounds64 {a : Int} (w0 : (Lit.int .i64 a).wf = true) : -9223372036854775808 ≤ a ∧ a ≤ 9223372036854775807 := by
  simp only [Lit.wf, IntKind.min, IntKind.max, IntKind.signed, IntKind.bits, Bool.and_eq_true, decide_eq_true_eq, if_true] at w0
  omega
theorem spot_none {w : World} {a : Addr} {v : Value} (h : w.cell? a = some v) : a.spot = none := by
  unfold World.cell? at h
  split at h
  · rename_i c e f hb
    cases hs : a.spot with
    | none => rfl
    | some _ => simp [hs] at h
  · simp at h
theorem add_flat {w : World} {a : Addr} {v : Value} (h : w.cell? a = some v) (i : Nat) : a.add i = ⟨a.block, a.off + i, none⟩ := by
  have hs := spot_none h
  unfold Addr.add
  cases a
  simp at hs
  subst hs
  split
  · rename_i hi; subst hi; rfl
  · rfl

open Go.ChangeShapes Go.WideShapes Go.ChangeAt in
/-- a slice of integers that came in, opened: nil, empty or not -/
theorem open_ints_row {H : Type} {enc : TypeId × Value → H} {P : Program} {w : World} {t e : TypeId} {v : Value} {d : DataW H} {ps : List MemPlace} {base : Nat}
    (ht : P.underlying t = some (.slice e)) (he : P.underlying e = some (.int .i64)) (hc : P.cellsOf e = 1) (hval : Value.okWide P w .any base t v)
    (h : DataW.Trod enc P w 0 (fun _ => true) true t v d ps) :
    ∃ (A : Option Addr) (n c : Nat) (zs : List Int), v = .slice A n c ∧ Ints w A zs ∧ n = zs.length ∧ n ≤ maxLen := by
  obtain ⟨a0, len, cap, rfl⟩ := okWide_slice ht hval
  obtain ⟨fuel, hf⟩ := h
  rcases open_ints ht he hc hf with ⟨hcs, hx⟩ | ⟨a, len', cap', zs, hcs, _, hl, hm, hz, hx, hcell, hwz⟩
  · simp [Value.cells] at hcs
    obtain ⟨rfl, rfl, rfl⟩ := hcs
    exact ⟨none, 0, 0, [], rfl, ⟨fun k hk => absurd hk (by simp), fun j => by simp⟩, rfl, by unfold maxLen; omega⟩
  · simp [Value.cells] at hcs
    obtain ⟨rfl, rfl, rfl⟩ := hcs
    simp at hz
    refine ⟨some a, len, cap, zs.take len, rfl, ⟨fun k hk => ?_, fun j => ?_⟩, by simp; omega, by omega⟩
    · simp at hk
      have h0 := hcell 0 (by omega)
      rw [show a.add 0 = a from rfl] at h0
      have hs := spot_none h0
      refine ⟨a.block, a.off, by cases a; simp at hs; subst hs; rfl, World.block_lt_of_cell? _ _ h0, fun j hj => ?_⟩
      simp at hj
      have hj' := hcell j (by omega)
      rw [add_flat h0] at hj'
      rw [hj']
      rw [List.getElem?_take, if_pos (by omega)]
      simp
    · by_cases hj : j < (zs.take len).length
      · have := hwz _ (List.mem_of_mem_take (List.getElem_mem hj))
        have hb := bounds64 this
        simpa [List.getElem?_eq_getElem hj] using hb
      · simp [List.getElem?_eq_none (Nat.le_of_not_lt hj)]
end Go.Proofs.YtpcfhjcanpmgiaaDoor
