/- Plain words for memory: a block that is known whole; what a call leaves as it was; a slice that reads as a list of cells; what a law owes behind its walk. -/
import Derived.Deep.AppendLies
import Derived.Deep.MidRow
import Derived.Deep.Quiet
import Derived.Deep.Slices
import Derived.KernelRfl
import Derived.Laws.CopyRow
import Derived.Laws.MakeOwn
import Derived.Laws.Pointers
import Derived.Lib.Hide
import Derived.LoopIn
import Derived.LoopNIn
import Derived.Maps.AppendAt
import Derived.OpenShut
import Derived.OrdersHeld
import Derived.OwnWalkIn
import Derived.ProofKit
import Derived.RangeFuncBound
import Derived.RangeFuncCalls
import Derived.RangeFuncLeaves
import Derived.RangeFuncNested
import Derived.Shelf.Abstract
import Derived.TacticsInMore
import Derived.Test.YticjkhagldkejaaGreatDoorRows
import Derived.WalkKit
import Derived.WalkLawsBesides
import Derived.WalkSpells
namespace Go.Proofs.YticjkhagldkejaaGreatDoor
set_option linter.all false
open Go.RowKit
section
def dQ (w : World) (g : Nat) (t : TypeId) (cs : Array Value) : Prop := w.heap[g]? = some (.cells cs t (0, 0))
structure iJ (F : Nat → Prop) (w w' : World) : Prop where
 os : w'.os = w.os
 tape : w'.tape = w.tape
 output : w'.output = w.output
 size : w.heap.size ≤ w'.heap.size
 block : ∀ k, k < w.heap.size → ¬ F k → w'.heap[k]? = w.heap[k]?
section
variable {w w' w1 w2 : World} {g : Nat} {t : TypeId} {cs : Array Value} {F G : Nat → Prop}
theorem dQ.lt (h : dQ w g t cs) : g < w.heap.size := by
 rcases Nat.lt_or_ge g w.heap.size with hlt | hge
 ·exact hlt
 ·unfold dQ at h; rw [Array.getElem?_eq_none hge] at h; cases h
theorem dQ.cell (h : dQ w g t cs) (i : Nat) : w.cell? ⟨g, i, none⟩ = cs[i]? := by
 unfold dQ at h
 simp [World.cell?, h]
theorem dQ.frozen (h : dQ w g t cs) (i : Nat) : w.frozen? ⟨g, i, none⟩ = false := by
 unfold dQ at h
 simp [World.frozen?, h]
theorem dQ.new (w : World) (t : TypeId) (cs : Array Value) : dQ (w.alloc (.cells cs t)) w.heap.size t cs := (MapKept.heap_alloc w _).1
theorem dQ.alloc (h : dQ w g t cs) (o : Obj) : dQ (w.alloc o) g t cs := (Below.heap_alloc w o g h.lt).trans h
theorem dQ.gH (h : dQ w g t cs) (i : Nat) (u : Value) : dQ (w.setCell ⟨g, i, none⟩ u) g t (cs.setIfInBounds i u) := by
 unfold dQ at h ⊢
 simp [World.setCell, Array.getElem?_modify, h]
theorem dQ.far (h : dQ w g t cs) {p : Addr} (hp : g ≠ p.block) (u : Value) : dQ (w.setCell p u) g t cs := (Below.heap_setCell w p u g hp).trans h
theorem dQ.eff (h : dQ w g t cs) (he : iJ F w w') (hg : ¬ F g) : dQ w' g t cs := (he.block g h.lt hg).trans h
theorem dQ.below {B : Nat} (h : dQ w g t cs) (hb : Below B w w') (hg : g < B) : dQ w' g t cs := (hb.block g hg).trans h
theorem dQ.drew (h : dQ w g t cs) : dQ w.drew g t cs := h
theorem dQ.conv {cs' : Array Value} (h : dQ w g t cs) (e : cs = cs') : dQ w g t cs' := e ▸ h
theorem iJ.refl (F : Nat → Prop) (w : World) : iJ F w w := ⟨rfl, rfl, rfl, Nat.le_refl _, fun _ _ _ => rfl⟩
theorem iJ.trans (h : iJ F w w1) (k : iJ F w1 w2) : iJ F w w2 :=
 ⟨k.os.trans h.os, k.tape.trans h.tape, k.output.trans h.output, Nat.le_trans h.size k.size, fun i hi hn => (k.block i (Nat.lt_of_lt_of_le hi h.size) hn).trans (h.block i hi hn)⟩
theorem iJ.mono (h : iJ F w w1) (hs : ∀ k, k < w.heap.size → F k → G k) : iJ G w w1 :=
 ⟨h.os, h.tape, h.output, h.size, fun i hi hn => h.block i hi (fun hf => hn (hs i hi hf))⟩
theorem iJ.thn (h : iJ F w w1) (k : iJ G w1 w2) (hs : ∀ i, i < w.heap.size → G i → F i) : iJ F w w2 :=
 ⟨k.os.trans h.os, k.tape.trans h.tape, k.output.trans h.output, Nat.le_trans h.size k.size, fun i hi hn => (k.block i (Nat.lt_of_lt_of_le hi h.size) (fun hg => hn (hs i hi hg))).trans (h.block i hi hn)⟩
theorem iJ.drew (h : iJ F w w1) : iJ F w w1.drew := ⟨h.os, h.tape, h.output, h.size, h.block⟩
theorem iJ.alloc (h : iJ F w w1) (o : Obj) : iJ F w (w1.alloc o) :=
 ⟨h.os, h.tape, h.output, by have := h.size; simp; omega, fun i hi hn => (Below.heap_alloc w1 o i (Nat.lt_of_lt_of_le hi h.size)).trans (h.block i hi hn)⟩
theorem iJ.setCell (h : iJ F w w1) {p : Addr} (hp : F p.block ∨ w.heap.size ≤ p.block) (u : Value) : iJ F w (w1.setCell p u) :=
 ⟨h.os, h.tape, h.output, by have := h.size; simp; omega, fun i hi hn => (Below.heap_setCell w1 p u i (by
  intro e; subst e; rcases hp with hp | hp
  ·exact hn hp
  ·omega)).trans (h.block i hi hn)⟩
theorem iJ.below (h : iJ F w w') {B : Nat} (hB : B ≤ w.heap.size) (hF : ∀ k, k < B → ¬ F k) : Below B w w' :=
 ⟨h.os, h.tape, h.output, h.size, fun k hk => h.block k (by omega) (hF k hk)⟩
end
structure Put (w : World) (g : Nat) (t : TypeId) (cs : Array Value) (w' : World) : Prop where
 eff : iJ (· = g) w w'
 size : w'.heap.size = w.heap.size
 aF : dQ w' g t cs
theorem iJ.put {w w1 w2 : World} {g : Nat} {t : TypeId} {cs : Array Value} {F : Nat → Prop} (h : iJ F w w1) (k : Put w1 g t cs w2) (hs : w.heap.size ≤ g ∨ F g) : iJ F w w2 :=
 h.thn k.eff (fun i hi e => by
  subst e
  rcases hs with hs | hs
  ·omega
  ·exact hs)
def Sl (w : World) (B sz : Nat) (A : Option Addr) (n : Nat) (xs : List Value) : Prop :=
 xs.length = n * sz ∧ (0 < n → ∃ b off, A = some ⟨b, off, none⟩ ∧ b < B ∧ ∀ j u, xs[j]? = some u → w.cell? ⟨b, off + j, none⟩ = some u)
section
variable {w w' : World} {B B' sz n : Nat} {A : Option Addr} {xs : List Value} {F : Nat → Prop}
theorem Sl.nil : Sl w B sz A 0 [] := ⟨by simp, fun h => absurd h (by omega)⟩
theorem Sl.below (h : Sl w B sz A n xs) (hb : Below B w w') : Sl w' B sz A n xs :=
 ⟨h.1, fun hn => by
  obtain ⟨b, off, e, hB, hc⟩ := h.2 hn
  exact ⟨b, off, e, hB, fun j u hu => (hb.cell (p := ⟨b, off + j, none⟩) hB).trans (hc j u hu)⟩⟩
theorem Sl.more (h : Sl w B sz A n xs) (hB : B ≤ B') : Sl w B' sz A n xs :=
 ⟨h.1, fun hn => by
  obtain ⟨b, off, e, hb, hc⟩ := h.2 hn
  exact ⟨b, off, e, by omega, hc⟩⟩
theorem Sl.thn (h : Sl w w.heap.size sz A n xs) (hb : Below w.heap.size w w') : Sl w' w'.heap.size sz A n xs := (h.below hb).more hb.size
theorem Sl.rN {base : Nat} {e : TypeId} {c : Nat} (h : w.ownsRow base e sz (.slice A n c) n xs) : Sl w w.heap.size sz A n xs := by
 refine ⟨h.1, fun hn => ?_⟩
 obtain ⟨g, cap, hv, _, hlt⟩ := h.form hn
 have hA : A = some ⟨g, 0, none⟩ := by injection hv
 subst hA
 exact ⟨g, 0, rfl, hlt, fun j u hu => by
  have := h.cells (g := g) rfl j u hu
  rw [Nat.zero_add]
  unfold Addr.add at this
  split at this
  ·rename_i hj; subst hj; exact this
  ·simpa using this⟩
theorem Sl.at_ (h : Sl w B sz A n xs) {k : Nat} (hk : k < n) : ∃ b off, A = some ⟨b, off, none⟩ ∧ b < B ∧ ∀ f u, xs[k * sz + f]? = some u → w.cell? ⟨b, off + k * sz + f, none⟩ = some u := by
 obtain ⟨b, off, e, hb, hc⟩ := h.2 (by omega)
 exact ⟨b, off, e, hb, fun f u hu => by rw [Nat.add_assoc]; exact hc _ u hu⟩
end
theorem Co {α : Type} (g : α → List Value) (sz : Nat) : ∀ (l : List α), (∀ e ∈ l, (g e).length = sz) → ∀ (k f : Nat) (e : α), l[k]? = some e → f < sz → (l.flatMap g)[k * sz + f]? = (g e)[f]?
 | [], _, k, f, e, h, _ => by simp at h
 | x :: l, hl, 0, f, e, h, hf => by
  simp at h
  subst h
  rw [List.flatMap_cons, Nat.zero_mul, Nat.zero_add, List.getElem?_append_left (by rw [hl x (by simp)]; exact hf)]
 | x :: l, hl, k + 1, f, e, h, hf => by
  simp at h
  have hx := hl x (by simp)
  rw [List.flatMap_cons, List.getElem?_append_right (by rw [hx, Nat.succ_mul]; omega), hx, show (k + 1) * sz + f - sz = k * sz + f by rw [Nat.succ_mul]; omega]
  exact Co g sz l (fun e he => hl e (by simp [he])) k f e h hf
section
open Go.ChangeShapes Go.WideShapes Go.ChangeAt
theorem aCa {H : Type} {enc : TypeId × Value → H} {P : Program} (hl : laidOutB P = true) {W W' : World} (hb : Below W.heap.size W W') :
  ∀ {ts : List TypeId} {vs : List Value} {ds : List (DataW H)} {ps : List MemPlace}, (∀ t ∈ ts, P.readableRec t = true ∧ t < P.types.size) →
   DataW.TrodAll enc P W 0 (fun _ => true) true ts vs ds ps → (∀ x ∈ ps, x.block < W.heap.size) →
   DataW.TrodAll enc P W' 0 (fun b => decide (b < W.heap.size)) true ts vs ds ps
 | [], vs, ds, ps, _, h, _ => by
  obtain ⟨rfl, rfl, rfl⟩ := trodAll_nil h
  exact rfl
 | t :: ts, vs, ds, ps, hts, h, hlt => by
  obtain ⟨v, vs1, d, ds1, a, b, rfl, rfl, rfl, h1, h2⟩ := trodAll_cons h
  have ht := hts t (by simp)
  exact trodAll_cons_mk (hb.trod hl ht.1 ht.2 h1 (fun x hx => hlt x (by simp [hx]))) (aCa hl hb (fun t ht => hts t (by simp [ht])) h2 (fun x hx => hlt x (by simp [hx])))
theorem aEb {H : Type} {enc : TypeId × Value → H} {P : Program} (hl : laidOutB P = true) {f : Func} {s : ChangeSpec} {t : TypeId} {W W' : World} {args : Array Value} {ds gs : List (DataW H)} {before : List MemPlace}
  (hp : ∀ t ∈ f.params.toList, P.readableRec t = true ∧ t < P.types.size) (hr : f.resultTypes = #[t]) (ht : P.underlying t = some .bool) (hv : s.vars = [])
  (hW : DataW.Whole enc P f.params.toList s.vars false W args.toList ds gs before)
  (hs : s.fn H ds = { results := [.lit (.bool true)], args := ds }) (hb : Below W.heap.size W W') :
  s.post enc P f false true false false W args (.bool true) W' := by
 have Kg := hW
 obtain ⟨p, q, hA, hV, rfl, hfz, hnd⟩ := hW
 rw [hv] at hV
 obtain ⟨rfl, rfl⟩ := trodVars_none hV
 rw [List.append_nil] at Kg
 have e : s.fn H (ds ++ []) = { results := [.lit (.bool true)], args := ds } := by rw [List.append_nil, hs]
 refine ⟨ds, [], p, [], p, [], Kg, ?_, ?_, ?_, hb.frame _, fun h => by cases h⟩
 ·rw [e, hr]
  exact trodAll_cons_mk (shut_bool ht true) trodAll_mk0
 ·rw [e]
  exact aCa hl hb hp hA (fun x hx => Kg.lt x hx)
 ·rw [e, hv]
  exact rfl
end
theorem aBV {a : Int} (w0 : (Lit.int .i64 a).wf = true) : -9223372036854775808 ≤ a ∧ a ≤ 9223372036854775807 := by
 simp only [Lit.wf, IntKind.min, IntKind.max, IntKind.signed, IntKind.bits, Bool.and_eq_true, decide_eq_true_eq, if_true] at w0
 omega
theorem Zg {w : World} {a : Addr} {v : Value} (h : w.cell? a = some v) : a.spot = none := by
 unfold World.cell? at h
 split at h
 ·rename_i c e f hb
  cases hs : a.spot with
  | none => rfl
  | some _ => simp [hs] at h
 ·simp at h
theorem aCc {w : World} {a : Addr} {v : Value} (h : w.cell? a = some v) (i : Nat) : a.add i = ⟨a.block, a.off + i, none⟩ := by
 have hs := Zg h
 unfold Addr.add
 cases a
 simp at hs
 subst hs
 split
 ·rename_i hi; subst hi; rfl
 ·rfl
theorem aIl {w : World} {a : Addr} {v : Value} (h : w.cell? a = some v) : a = ⟨a.block, a.off, none⟩ := by
 have hs := Zg h
 cases a
 simp at hs
 subst hs
 rfl
def aO (zs : List Int) : List Value := zs.map (Value.int .i64)
theorem Tg (zs : List Int) (j : Nat) (h : j < zs.length) : (aO zs)[j]? = some (.int .i64 (zs[j]?.getD 0)) := by
 simp [aO, h]
def Xk (zs : List Int) : Prop := ∀ j : Nat, -9223372036854775808 ≤ zs[j]?.getD 0 ∧ zs[j]?.getD 0 ≤ 9223372036854775807
open Go.ChangeShapes Go.WideShapes Go.ChangeAt in
/-- a slice of integers that came in, opened: nil, empty or not -/
theorem aEs {H : Type} {enc : TypeId × Value → H} {P : Program} {w : World} {t e : TypeId} {v : Value} {d : DataW H} {ps : List MemPlace} {base : Nat}
    (ht : P.underlying t = some (.slice e)) (he : P.underlying e = some (.int .i64)) (hc : P.cellsOf e = 1) (hval : Value.okWide P w .any base t v)
    (h : DataW.Trod enc P w 0 (fun _ => true) true t v d ps) :
    ∃ (A : Option Addr) (n c : Nat) (zs : List Int), v = .slice A n c ∧ Sl w w.heap.size 1 A n (aO zs) ∧ Xk zs ∧ n = zs.length ∧ n ≤ 9223372036854775807 := by
  obtain ⟨a0, len, cap, rfl⟩ := okWide_slice ht hval
  obtain ⟨fuel, hf⟩ := h
  rcases open_ints ht he hc hf with ⟨hcs, hx⟩ | ⟨a, len', cap', zs, hcs, _, hl, hm, hz, hx, hcell, hwz⟩
  · simp [Value.cells] at hcs
    obtain ⟨rfl, rfl, rfl⟩ := hcs
    exact ⟨none, 0, 0, [], rfl, Sl.nil, fun j => by simp, rfl, by omega⟩
  · simp [Value.cells] at hcs
    obtain ⟨rfl, rfl, rfl⟩ := hcs
    simp at hz
    unfold maxLen at hm
    refine ⟨some a, len, cap, zs.take len, rfl, ⟨by simp [aO]; omega, fun hk => ?_⟩, fun j => ?_, by simp; omega, by omega⟩
    · have h0 := hcell 0 (by omega)
      rw [show a.add 0 = a from rfl] at h0
      refine ⟨a.block, a.off, by rw [← aIl h0], World.block_lt_of_cell? _ _ h0, fun j u hu => ?_⟩
      have hj : j < len := by
        rcases Nat.lt_or_ge j len with hlt | hge
        · exact hlt
        · rw [List.getElem?_eq_none (by simp [aO]; omega)] at hu; cases hu
      rw [Tg _ _ (by simp; omega)] at hu
      have hj' := hcell j (by omega)
      rw [aCc h0] at hj'
      rw [hj', ← hu, List.getElem?_take, if_pos hj]
      simp
    · by_cases hj : j < (zs.take len).length
      · have := hwz _ (List.mem_of_mem_take (List.getElem_mem hj))
        have hb := aBV this
        simpa [List.getElem?_eq_getElem hj] using hb
      · simp [List.getElem?_eq_none (Nat.le_of_not_lt hj)]
theorem Sl.pE {w : World} {g n sz : Nat} {t : TypeId} {cs : Array Value} (h : dQ w g t cs) (hn : cs.size = n * sz) : Sl w w.heap.size sz (some ⟨g, 0, none⟩) n cs.toList :=
 ⟨by simpa using hn, fun _ => ⟨g, 0, rfl, h.lt, fun j u hu => by rw [Nat.zero_add, h.cell]; simpa using hu⟩⟩
section
variable {P : Program} (w : World)
theorem aDw (base : Nat) (t ty e : TypeId) (i : TypeInfo) (z : Value) (size bytes : Nat) (ht : P.underlying t = some (.slice e)) (hi : P.info? e = some i) (hz : i.zero = some z)
  (hsize : i.size = size) (hby : i.bytes = bytes) (hzs : z.cells.size = size) (hsz : 0 < size)
  (v : Value) (n : Nat) (xs : List Value) (hown : w.ownsRow base e size v n xs)
  (B : Nat) (A : Option Addr) (m c : Nat) (news : List Value) (hr : Sl w B size A m news) (h1 : ∀ u ∈ news, u.oneCell' = true)
  (h63 : n + m ≤ maxLen) (hbytes : (n + m) * bytes ≤ 140737488355328) (hbase : base ≤ w.heap.size) :
  ∃ v' w', (Builtin.append_ #[t, t] ty #[v, .slice A m c]).run P w = .ok v' w' ∧ w'.ownsRow base e size v' (n + m) (xs ++ news) ∧ w.grownBy w' v.ownBlock ∧
   (v'.ownBlock = v.ownBlock ∨ v'.ownBlock = some w.heap.size) := by
 rcases A with _ | ad
 ·obtain rfl : m = 0 := by
   rcases Nat.eq_zero_or_pos m with h0 | h0
   ·exact h0
   ·obtain ⟨b, off, h, _⟩ := hr.2 h0
    cases h
  obtain rfl : news = [] := List.eq_nil_of_length_eq_zero (by simpa using hr.1)
  refine ⟨v, w, ?_, by simpa using hown, World.grownBy.refl w _, .inl rfl⟩
  rcases hown.2 with ⟨rfl, rfl⟩ | ⟨g, cap, cur, rfl, _, _, hnc, _⟩
  ·simp [Builtin.append_, run_underlying ht, sizeOf, typeInfo, hi, Builtin.lenOf, Builtin.firstCells]
  ·simp [Builtin.append_, run_underlying ht, sizeOf, typeInfo, hi, Builtin.lenOf, Builtin.firstCells, hnc, storeCells]
 ·have hcells : ∀ j u, news[j]? = some u → w.cell? (ad.add j) = some u := by
   intro j u hu
   rcases Nat.eq_zero_or_pos m with h0 | h0
   ·subst h0
    obtain rfl : news = [] := List.eq_nil_of_length_eq_zero (by simpa using hr.1)
    simp at hu
   ·obtain ⟨b, off, h, _, hc⟩ := hr.2 h0
    injection h with h
    subst h
    have hn : 0 < news.length := by rw [hr.1]; exact Nat.mul_pos h0 hsz
    have hc0 := hc 0 _ (List.getElem?_eq_getElem hn)
    rw [Nat.add_zero] at hc0
    rw [aCc hc0]
    exact hc j u hu
  obtain ⟨v', w', hrun, h2, h3, _, h5⟩ := run_append_own_at (P := P) w base t ty e i z size bytes ht hi hz hsize hby hzs hsz v n xs hown ad m c news hr.1 hcells h1 h63 hbytes hbase
  exact ⟨v', w', hrun, h2, h3, h5⟩
end
theorem aEe {w : World} {base : Nat} {e : TypeId} {size : Nat} {v : Value} {n : Nat} {xs : List Value} (h : w.ownsRow base e size v n xs) : ∃ A c, v = .slice A n c ∧ Sl w w.heap.size size A n xs := by
 rcases h.2 with ⟨rfl, rfl⟩ | ⟨g, cap, cur, rfl, _⟩
 ·exact ⟨none, 0, rfl, Sl.rN h⟩
 ·exact ⟨some ⟨g, 0, none⟩, cap, rfl, Sl.rN h⟩
theorem aAC {P : Program} {e : TypeId} {k size bytes : Nat} (h : (P.info? e).map (fun i => (i.zero.map (fun z => z.cells.size), i.size, i.bytes)) = some (some k, size, bytes)) :
  ∃ i z, P.info? e = some i ∧ i.zero = some z ∧ i.size = size ∧ i.bytes = bytes ∧ z.cells.size = k := by
 obtain ⟨i, hi, sW⟩ := Option.map_eq_some_iff.1 h
 simp only [Prod.mk.injEq] at sW
 obtain ⟨z, hz, hk⟩ := Option.map_eq_some_iff.1 sW.1
 exact ⟨i, z, hi, hz, sW.2.1, sW.2.2, hk⟩
end
section
abbrev Env := List (Nat × Value)
def Env.get : Env → Nat → Option Value
 | [], _ => none
 | (k, v) :: r, t => match Nat.beq k t with
  | true => some v
  | false => Env.get r t
def Env.ev (e : Env) : Operand → Option Value
 | .tmp t => e.get t
 | .const v => some v
 | .global g => some (.pointer (some ⟨g, 0, none⟩))
 | .func f => some (.func (.func f) #[] #[])
structure cN where
 n : Nat
 D : List Deferred
structure cY (N : cN) (e : Env) (a : Act) : Prop where
 size : a.tmps.size = N.n
 defers : a.defers = N.D
 get : ∀ t v, e.get t = some v → a.tmps[t]? = some v
def Env.Sub : Env → Env → Prop
 | [], _ => True
 | (t, v) :: r, e => e.get t = some v ∧ Env.Sub r e
section
variable {N : cN} {e e' : Env} {a : Act} {x : Operand} {v : Value} {d : Nat}
theorem cY.ev (h : cY N e a) (hx : e.ev x = some v) : a.eval x = v := by
 cases x with
 | tmp t => simp only [Act.eval]; rw [Array.getD_eq_getD_getElem?, h.get t v hx]; rfl
 | const c => simpa [Env.ev, Act.eval] using hx
 | global g => simpa [Env.ev, Act.eval] using hx
 | func f => simpa [Env.ev, Act.eval] using hx
theorem cY.put (h : cY N e a) (hd : d < N.n) (v : Value) : cY N ((d, v) :: e) (a.put (some d) v) := by
 refine ⟨by simpa [Act.put] using h.size, h.defers, fun t u hu => ?_⟩
 simp only [Act.put]
 unfold Env.get at hu
 rw [Array.getElem?_setIfInBounds]
 by_cases ht : d = t
 ·subst ht
  rw [show Nat.beq d d = true from Nat.beq_refl d] at hu
  rw [if_pos rfl, if_pos (by rw [h.size]; exact hd)]
  exact hu
 ·rw [show Nat.beq d t = false from (by cases hb : Nat.beq d t with | false => rfl | true => exact absurd (Nat.eq_of_beq_eq_true hb) ht)] at hu
  rw [if_neg ht]
  exact h.get t u hu
theorem Env.Sub.get : ∀ {e' e : Env}, e'.Sub e → ∀ t v, e'.get t = some v → e.get t = some v
 | [], _, _, t, v, h => by simp [Env.get] at h
 | (k, u) :: r, e, hs, t, v, h => by
  unfold Env.get at h
  split at h
  ·rename_i hk
   have := Nat.eq_of_beq_eq_true hk
   subst this
   rw [← h]
   exact hs.1
  ·exact Env.Sub.get hs.2 t v h
theorem cY.sub (h : cY N e a) (hs : e'.Sub e) : cY N e' a := ⟨h.size, h.defers, fun t v hv => h.get t v (hs.get t v hv)⟩
end
structure Piece where
 w : World
 Z : Nat → Prop
def Piece.Le (p q : Piece) : Prop := ∀ b, p.Z b → q.Z b ∧ q.w.heap[b]? = p.w.heap[b]?
theorem Piece.Le.refl (p : Piece) : p.Le p := fun _ h => ⟨h, rfl⟩
theorem Piece.Le.trans {p q r : Piece} (h : p.Le q) (k : q.Le r) : p.Le r := fun b hb => ⟨(k b (h b hb).1).1, (k b (h b hb).1).2.trans (h b hb).2⟩
structure HP where
 sat : (Nat → Prop) → World → Prop
 loc : ∀ F w w', sat F w → (∀ b, F b → w'.heap[b]? = w.heap[b]?) → sat F w'
def HP.aF (g : Nat) (t : TypeId) (cs : List Value) : HP := ⟨fun F w => F g ∧ dQ w g t cs.toArray, fun _ _ _ h hk => ⟨h.1, (hk g h.1).trans h.2⟩⟩
def HP.own (e : TypeId) (sz : Nat) (v : Value) (n : Nat) (xs : List Value) : HP :=
 ⟨fun F w => (∀ g, v.ownBlock = some g → F g) ∧ w.ownsRow 0 e sz v n xs, fun F w w' h hk => ⟨h.1, h.2.1, h.2.2.imp id (by
  rintro ⟨g, cap, cur, rfl, hg, hc, El⟩
  exact ⟨g, cap, cur, rfl, hg, (hk g (h.1 g rfl)).trans hc, El⟩)⟩⟩
structure St (w0 : World) (R : List Piece) (H : List HP) (w : World) : Prop where
 os : w.os = w0.os
 tape : w.tape = w0.tape
 output : w.output = w0.output
 size : w0.heap.size ≤ w.heap.size
 ex : ∃ (Z : Nat → Prop) (F : Nat → Nat → Prop), (∀ b, Z b → b < w.heap.size) ∧ (∀ p ∈ R, ∀ b, p.Z b → Z b ∧ w.heap[b]? = p.w.heap[b]?) ∧
  (∀ (i : Nat) (p : HP), H[i]? = some p → p.sat (F i) w) ∧ (∀ i b, F i b → ¬ Z b ∧ b < w.heap.size) ∧ ∀ i j b, i ≠ j → F i b → ¬ F j b
def all (w : World) : Piece := ⟨w, fun b => b < w.heap.size⟩
def fresh (w w' : World) : Piece := ⟨w', fun b => w.heap.size ≤ b ∧ b < w'.heap.size⟩
section
variable {w0 w w' : World} {R R' : List Piece} {H H' : List HP} {p : Piece} {h : HP}
theorem St.start (w : World) : St w [all w] [] w :=
 ⟨rfl, rfl, rfl, Nat.le_refl _, fun b => b < w.heap.size, fun _ _ => False, fun _ h => h, fun p hp b hb => by
  simp at hp; subst hp; exact ⟨hb, rfl⟩, fun i p h => by simp at h, fun _ _ h => h.elim, fun _ _ _ _ h => h.elim⟩
theorem St.below (s : St w0 R H w) (h : all w0 ∈ R) : Below w0.heap.size w0 w := by
 obtain ⟨Z, F, hz, hr, _⟩ := s.ex
 exact ⟨s.os, s.tape, s.output, s.size, fun k hk => (hr _ h k hk).2⟩
theorem St.call (s : St w0 R H w) (hb : Below w.heap.size w w') : St w0 R H w' := by
 obtain ⟨Z, F, hz, hr, hs, hf, hd⟩ := s.ex
 refine ⟨hb.os.trans s.os, hb.tape.trans s.tape, hb.output.trans s.output, Nat.le_trans s.size hb.size, Z, F, fun b h => Nat.lt_of_lt_of_le (hz b h) hb.size, fun p hp b h => ?_, fun i p h => ?_, fun i b h => ⟨(hf i b h).1, Nat.lt_of_lt_of_le (hf i b h).2 hb.size⟩, hd⟩
 ·exact ⟨(hr p hp b h).1, (hb.block b (hz b (hr p hp b h).1)).trans (hr p hp b h).2⟩
 ·exact p.loc _ _ _ (hs i p h) (fun b gK => hb.block b (hf i b gK).2)
theorem St.new (s : St w0 R H w) (hb : Below w.heap.size w w') (hp : h.sat (fresh w w').Z w') : St w0 R (h :: H) w' := by
 have s' := s.call hb
 obtain ⟨Z, F, hz, hr, hs, hf, hd⟩ := s.ex
 refine ⟨s'.os, s'.tape, s'.output, s'.size, Z, fun i => match i with | 0 => (fresh w w').Z | i + 1 => F i, fun b h => Nat.lt_of_lt_of_le (hz b h) hb.size, fun p hp b h => ?_, fun i p h => ?_, fun i b h => ?_, fun i j b hij h => ?_⟩
 ·exact ⟨(hr p hp b h).1, (hb.block b (hz b (hr p hp b h).1)).trans (hr p hp b h).2⟩
 ·cases i with
  | zero => simp at h; subst h; exact hp
  | succ i => exact p.loc _ _ _ (hs i p (by simpa using h)) (fun b gK => hb.block b (hf i b gK).2)
 ·cases i with
  | zero => exact ⟨fun fS => by have := hz b fS; have := h.1; omega, h.2⟩
  | succ i => exact ⟨(hf i b h).1, Nat.lt_of_lt_of_le (hf i b h).2 hb.size⟩
 ·cases i with
  | zero => cases j with
   | zero => exact absurd rfl hij
   | succ j => intro hj; have := (hf j b hj).2; have := h.1; omega
  | succ i => cases j with
   | zero => intro hj; have := (hf i b h).2; have := hj.1; omega
   | succ j => exact hd i j b (by omega) h
theorem St.seen (s : St w0 R H w) (hb : Below w.heap.size w w') {Y : Nat → Prop} (hY : ∀ b, Y b → (fresh w w').Z b ∨ ∃ p ∈ R, p.Z b) : St w0 (⟨w', Y⟩ :: R) H w' := by
 have s' := s.call hb
 obtain ⟨Z, F, hz, hr, hs, hf, hd⟩ := s.ex
 refine ⟨s'.os, s'.tape, s'.output, s'.size, fun b => Z b ∨ (fresh w w').Z b, F, fun b h => ?_, fun p hp b h => ?_, fun i p h => ?_, fun i b h => ?_, hd⟩
 ·rcases h with h | h
  ·exact Nat.lt_of_lt_of_le (hz b h) hb.size
  ·exact h.2
 ·simp only [List.mem_cons] at hp
  rcases hp with rfl | hp
  ·rcases hY b h with h | ⟨q, hq, Jg⟩
   ·exact ⟨.inr h, rfl⟩
   ·exact ⟨.inl (hr q hq b Jg).1, rfl⟩
  ·exact ⟨.inl (hr p hp b h).1, (hb.block b (hz b (hr p hp b h).1)).trans (hr p hp b h).2⟩
 ·exact p.loc _ _ _ (hs i p h) (fun b gK => hb.block b (hf i b gK).2)
 ·refine ⟨?_, Nat.lt_of_lt_of_le (hf i b h).2 hb.size⟩
  rintro (fS | fS)
  ·exact (hf i b h).1 fS
  ·have := fS.1; have := (hf i b h).2; omega
theorem St.sL (s : St w0 R H w) {i : Nat} {p q : HP} (hi : H[i]? = some p) (hsize : w.heap.size ≤ w'.heap.size) (hos : w'.os = w.os) (aFy : w'.tape = w.tape) (hout : w'.output = w.output)
  (hpq : ∀ F, p.sat F w → (∀ b, F b → b < w.heap.size) → ∃ F', q.sat F' w' ∧ (∀ b, F' b → (F b ∨ w.heap.size ≤ b) ∧ b < w'.heap.size) ∧ ∀ b, b < w.heap.size → ¬ F b → w'.heap[b]? = w.heap[b]?) : St w0 R (H.set i q) w' := by
 obtain ⟨Z, F, hz, hr, hs, hf, hd⟩ := s.ex
 obtain ⟨F', h1, h2, h3⟩ := hpq (F i) (hs i p hi) (fun b hb => (hf i b hb).2)
 have hlt : i < H.length := by
  rcases Nat.lt_or_ge i H.length with h | h
  ·exact h
  ·rw [List.getElem?_eq_none h] at hi; cases hi
 refine ⟨hos.trans s.os, aFy.trans s.tape, hout.trans s.output, Nat.le_trans s.size hsize, Z, fun j => if j = i then F' else F j, fun b h => Nat.lt_of_lt_of_le (hz b h) hsize, fun p hp b h => ?_, fun j r hj => ?_, fun j b h => ?_, fun j k b jC h => ?_⟩
 ·refine ⟨(hr p hp b h).1, (h3 b (hz b (hr p hp b h).1) (fun mS => (hf i b mS).1 (hr p hp b h).1)).trans (hr p hp b h).2⟩
 ·rw [List.getElem?_set] at hj
  split at hj
  ·rename_i e; subst e
   first | (rw [if_pos hlt] at hj; cases hj) | cases hj
   simpa using h1
  ·rename_i e
   simp only [if_neg (Ne.symm e)]
   exact r.loc _ _ _ (hs j r hj) (fun b hb => h3 b (hf j b hb).2 (hd j i b (Ne.symm e) hb))
 ·dsimp only at h
  split at h
  ·refine ⟨fun fS => ?_, (h2 b h).2⟩
   rcases (h2 b h).1 with h | h
   ·exact (hf i b h).1 fS
   ·have := hz b fS; omega
  ·exact ⟨(hf j b h).1, Nat.lt_of_lt_of_le (hf j b h).2 hsize⟩
 ·dsimp only at h ⊢
  split at h <;> split
  ·rename_i h1 h2; omega
  ·rename_i e1 e2
   intro hk
   rcases (h2 b h).1 with h | h
   ·exact hd i k b (by omega) h hk
   ·have := (hf k b hk).2; omega
  ·rename_i e1 e2
   intro hk
   rcases (h2 b hk).1 with hk | hk
   ·exact hd j i b (by omega) h hk
   ·have := (hf j b h).2; omega
  ·exact hd j k b jC h
theorem St.drew (s : St w0 R H w) : St w0 R H w.drew := s.call ((Below.refl _ _).drew)
theorem St.sat (s : St w0 R H w) {i : Nat} {p : HP} (hi : H[i]? = some p) : ∃ F, p.sat F w := by
 obtain ⟨Z, F, hz, hr, hs, hf, hd⟩ := s.ex
 exact ⟨_, hs i p hi⟩
theorem St.aF (s : St w0 R H w) {i g : Nat} {t : TypeId} {cs : List Value} (hi : H[i]? = some (HP.aF g t cs)) : dQ w g t cs.toArray := (s.sat hi).choose_spec.2
theorem St.own (s : St w0 R H w) {i : Nat} {e : TypeId} {sz : Nat} {v : Value} {n : Nat} {xs : List Value} (hi : H[i]? = some (HP.own e sz v n xs)) : w.ownsRow 0 e sz v n xs := (s.sat hi).choose_spec.2
theorem St.ro (s : St w0 R H w) (hp : p ∈ R) {b : Nat} (hb : p.Z b) : w.heap[b]? = p.w.heap[b]? := by
 obtain ⟨Z, F, hz, hr, _⟩ := s.ex
 exact (hr p hp b hb).2
theorem St.Sa (s : St w0 R H w) (hp : p ∈ R) {b : Nat} (hb : p.Z b) : b < w.heap.size := by
 obtain ⟨Z, F, hz, hr, _⟩ := s.ex
 exact hz b (hr p hp b hb).1
theorem St.le (s : St w0 R H w) (hp : p ∈ R) : p.Le (all w) := fun b hb => ⟨s.Sa hp hb, s.ro hp hb⟩
theorem St.aD6 (s : St w0 R H w) (hp : p ∈ R) {a : Addr} (hb : p.Z a.block) : w.cell? a = p.w.cell? a := World.cell?_of_block (w := p.w) (s.ro hp hb)
theorem St.weak (s : St w0 R H w) (hR : ∀ p ∈ R', p ∈ R) (f : Nat → Nat) (hinj : ∀ i j, i < H'.length → j < H'.length → f i = f j → i = j) (hH : ∀ (i : Nat) (p : HP), H'[i]? = some p → H[f i]? = some p) : St w0 R' H' w := by
 obtain ⟨Z, F, hz, hr, hs, hf, hd⟩ := s.ex
 refine ⟨s.os, s.tape, s.output, s.size, Z, fun i b => i < H'.length ∧ F (f i) b, hz, fun p hp => hr p (hR p hp), fun i p hi => ?_, fun i b h => hf _ b h.2, fun i j b hij h hj => hd (f i) (f j) b (fun e => hij (hinj i j h.1 hj.1 e)) h.2 hj.2⟩
 have hlt : i < H'.length := by
  rcases Nat.lt_or_ge i H'.length with h | h
  ·exact h
  ·rw [List.getElem?_eq_none h] at hi; cases hi
 have e : (fun b => i < H'.length ∧ F (f i) b) = F (f i) := by funext b; simp [hlt]
 show p.sat (fun b => i < H'.length ∧ F (f i) b) w
 rw [e]
 exact hs _ p (hH i p hi)
def lA (w0 : World) (p : Piece) : Prop := ∀ b, p.Z b → w0.heap.size ≤ b
theorem lA.fresh {w0 w w' : World} (h : w0.heap.size ≤ w.heap.size) : lA w0 (fresh w w') := fun b hb => Nat.le_trans h hb.1
theorem St.lK (s : St w0 R H w) (hp : p ∈ R) (hf : lA w0 p) : p.Le (Go.Proofs.YticjkhagldkejaaGreatDoor.fresh w0 w) := fun b hb => ⟨⟨hf b hb, s.Sa hp hb⟩, s.ro hp hb⟩
theorem St.still (s : St w0 R H w) (ps : List Piece) (hps : ∀ p ∈ ps, p ∈ R) (X : Nat → Prop) (f : Nat → Nat) (hinj : ∀ i j, i < H'.length → j < H'.length → f i = f j → i = j) (hX : ∀ i, i < H'.length → ¬ X (f i)) (hH : ∀ (i : Nat) (p : HP), H'[i]? = some p → H[f i]? = some p) :
  ∃ Y, St w0 (⟨w, Y⟩ :: R) H' w ∧ (∀ (i : Nat) (p : HP), X i → H[i]? = some p → ∃ F, p.sat F w ∧ ∀ b, F b → Y b) ∧ (∀ p ∈ ps, p.Le ⟨w, Y⟩) ∧ (all w0 ∈ R → (∀ p ∈ ps, lA w0 p) → lA w0 ⟨w, Y⟩) := by
 obtain ⟨Z, F, hz, hr, hs, hf, hd⟩ := s.ex
 refine ⟨fun b => (∃ p ∈ ps, p.Z b) ∨ ∃ i, X i ∧ F i b, ⟨s.os, s.tape, s.output, s.size, fun b => Z b ∨ ∃ i, X i ∧ F i b, fun i b => i < H'.length ∧ F (f i) b, ?_, ?_, ?_, ?_, ?_⟩, fun i p hi hp => ⟨F i, hs i p hp, fun b hb => .inr ⟨i, hi, hb⟩⟩, fun p hp b hb => ⟨.inl ⟨p, hp, hb⟩, (hr p (hps p hp) b hb).2⟩, ?_⟩
 ·rintro b (h | ⟨i, _, h⟩)
  ·exact hz b h
  ·exact (hf i b h).2
 ·intro p hp b hb
  simp only [List.mem_cons] at hp
  rcases hp with rfl | hp
  ·refine ⟨?_, rfl⟩
   rcases hb with ⟨p, hp, hb⟩ | hb
   ·exact .inl (hr p (hps p hp) b hb).1
   ·exact .inr hb
  ·exact ⟨.inl (hr p hp b hb).1, (hr p hp b hb).2⟩
 ·intro i p hi
  have hlt : i < H'.length := by
   rcases Nat.lt_or_ge i H'.length with h | h
   ·exact h
   ·rw [List.getElem?_eq_none h] at hi; cases hi
  have e : (fun b => i < H'.length ∧ F (f i) b) = F (f i) := by funext b; simp [hlt]
  show p.sat (fun b => i < H'.length ∧ F (f i) b) w
  rw [e]
  exact hs _ p (hH i p hi)
 ·rintro i b ⟨hi, h⟩
  refine ⟨?_, (hf _ b h).2⟩
  rintro (fS | ⟨j, hj, hjb⟩)
  ·exact (hf _ b h).1 fS
  ·exact hd (f i) j b (fun e => hX i hi (e ▸ hj)) h hjb
 ·exact fun i j b hij h hj => hd (f i) (f j) b (fun e => hij (hinj i j h.1 hj.1 e)) h.2 hj.2
 ·intro hall hfr b hb
  rcases hb with ⟨p, hp, hb⟩ | ⟨i, _, hb⟩
  ·exact hfr p hp b hb
  ·rcases Nat.lt_or_ge b w0.heap.size with h | h
   ·exact absurd (hr _ hall b h).1 (hf i b hb).1
   ·exact h
end
theorem Qw {P : Program} {Q : Exit → Act → World → Prop} {a : Act} {w : World} {c : Code} (I : Nat → Act → World → Prop) (n : Nat) (h₀ : I n a w)
  (round : ∀ n a w, I n a w → c.wp P (Exit.then (fun a' w' => ∃ m, m < n ∧ I m a' w') Q) a w) : (Code.loop c).wp P Q a w := by
 intro b k cs
 have key : ∀ n a w, I n a w → ∃ e a' w', Q e a' w' ∧ Arrives P (lone (b.at a (.code c :: .inLoop c :: k)) cs w) b k cs e a' w' := by
  intro n
  induction n using Nat.strongRecOn with
  | _ n ih =>
   intro a w hI
   obtain ⟨e, a₁, w₁, hq, zM⟩ := round n a w hI b (.inLoop c :: k) cs
   cases e with
   | normal =>
    obtain ⟨m, hlt, aGk⟩ := hq
    obtain ⟨e₂, a₂, w₂, aF0, aGa⟩ := ih m hlt a₁ w₁ aGk
    exact ⟨e₂, a₂, w₂, aF0, .of_steps (Steps.trans zM (.one step_inLoop)) aGa⟩
   | exit id => exact ⟨_, a₁, w₁, hq, .pass (x := .inLoop c) rfl (fun _ _ => .inl (by simp)) zM⟩
   | goto l => exact ⟨_, a₁, w₁, hq, .pass (x := .inLoop c) rfl (fun _ _ => .inl (by simp)) zM⟩
   | ret => exact ⟨_, a₁, w₁, hq, .pass (x := .inLoop c) rfl (fun _ _ => .inl (by simp)) zM⟩
   | panic ch => exact ⟨_, a₁, w₁, hq, .pass (x := .inLoop c) rfl (fun _ _ => .inl (by simp)) zM⟩
   | outgrown => exact ⟨_, a₁, w₁, hq, .pass (x := .inLoop c) rfl (fun _ _ => .inl (by simp)) zM⟩
 obtain ⟨e, a', w', hq, zM⟩ := key n a w h₀
 exact ⟨e, a', w', hq, .of_steps (.one step_loop) zM⟩
def XK (N : cN) (w0 : World) (K : Act → World → Prop) (e : Env) (R : List Piece) (H : List HP) : Prop := ∀ a w, cY N e a → St w0 R H w → K a w
section
variable {P : Program} {N : cN} {w0 : World} {K K' : Act → World → Prop} {e e' : Env} {R R' : List Piece} {H H' : List HP} {Q : Exit → Act → World → Prop}
theorem XK.mono (h : XK N w0 K e R H) (hk : ∀ a w, K a w → K' a w) : XK N w0 K' e R H := fun a w hr hs => hk _ _ (h a w hr hs)
theorem XK.env (e' : Env) (hs : e'.Sub e) (h : XK N w0 K e' R H) : XK N w0 K e R H := fun a w hr st => h a w (hr.sub hs) st
def Be : List Nat → List HP → Option (List HP)
 | [], _ => some []
 | i :: is, H => match H[i]?, Be is H with
  | some p, some r => some (p :: r)
  | _, _ => none
theorem Mw : ∀ {is : List Nat} {H H' : List HP}, Be is H = some H' → H'.length = is.length
 | [], H, H', h => by cases h; rfl
 | i :: is, H, H', h => by
  unfold Be at h
  split at h
  ·rename_i p r h1 h2; cases h; simp [Mw h2]
  ·cases h
theorem Rs : ∀ {is : List Nat} {H H' : List HP}, Be is H = some H' → ∀ (i : Nat) (p : HP), H'[i]? = some p → H[is.getD i 0]? = some p
 | [], H, H', h, i, p, hp => by cases h; simp at hp
 | k :: is, H, H', h, i, p, hp => by
  unfold Be at h
  split at h
  ·rename_i p' r h1 h2
   cases h
   cases i with
   | zero => simp at hp; subst hp; simpa using h1
   | succ i => simpa using Rs h2 i p (by simpa using hp)
  ·cases h
theorem aAp {is : List Nat} (h : is.Nodup) : ∀ i j, i < is.length → j < is.length → is.getD i 0 = is.getD j 0 → i = j := by
 intro i j hi hj he
 simp only [List.getD_eq_getElem?_getD, List.getElem?_eq_getElem hi, List.getElem?_eq_getElem hj, Option.getD_some] at he
 have hp := List.pairwise_iff_getElem.1 h
 rcases Nat.lt_trichotomy i j with hl | hl | hl
 ·exact absurd he (hp i j hi hj hl)
 ·exact hl
 ·exact absurd he.symm (hp j i hj hi hl)
theorem XK.weak (is : List Nat) (hH : Be is H = some H') (hn : is.Nodup) (hR : ∀ p ∈ R', p ∈ R) (h : XK N w0 K e R' H') : XK N w0 K e R H :=
 fun a w hr st => h a w hr (st.weak hR (fun i => is.getD i 0) (fun i j hi hj he => aAp hn i j (by rw [← Mw hH]; exact hi) (by rw [← Mw hH]; exact hj) he) (Rs hH))
theorem XK.still (ps : List Piece) (fs is : List Nat) (hps : ∀ p ∈ ps, p ∈ R) (hH : Be is H = some H') (hn : is.Nodup) (hf : ∀ i ∈ fs, i ∉ is)
  (h : ∀ q : Piece, (∀ (i : Nat) (p : HP), i ∈ fs → H[i]? = some p → ∃ F, p.sat F q.w ∧ ∀ b, F b → q.Z b) → (∀ p ∈ ps, p.Le q) → (all w0 ∈ R → (∀ p ∈ ps, lA w0 p) → lA w0 q) → XK N w0 K e (q :: R) H') : XK N w0 K e R H := fun a w hr st => by
 have hlen := Mw hH
 obtain ⟨Y, st', hY, hle, hfr⟩ := st.still (H' := H') ps hps (fun i => i ∈ fs) (fun i => is.getD i 0) (fun i j hi hj he => aAp hn i j (by omega) (by omega) he) (fun i hi hx => hf _ hx (by
  have hi' : i < is.length := by omega
  simp [List.getD_eq_getElem?_getD, List.getElem?_eq_getElem hi'])) (Rs hH)
 exact h ⟨w, Y⟩ hY hle hfr a w hr st'
theorem XK.seq {x y : Code} (h : XK N w0 (x.wp P (Exit.then (y.wp P Q) Q)) e R H) : XK N w0 ((Code.seq x y).wp P Q) e R H := fun a w hr st => wp_seq (h a w hr st)
theorem XK.cut {x y : Code} (M : Env → List Piece → List HP → Prop) (h : XK N w0 (x.wp P (Exit.then (fun a' w' => ∃ e' R' H', M e' R' H' ∧ cY N e' a' ∧ St w0 R' H' w') Q)) e R H)
  (hy : ∀ e' R' H', M e' R' H' → XK N w0 (y.wp P Q) e' R' H') : XK N w0 ((Code.seq x y).wp P Q) e R H := fun a w hr st => by
 refine wp_seq (wp_mono (h a w hr st) fun x a' w' hq => ?_)
 cases x with
 | normal =>
  obtain ⟨e', R', H', hm, hr', st'⟩ := hq
  exact hy e' R' H' hm a' w' hr' st'
 | _ => exact hq
theorem XK.meet {M : Env → List Piece → List HP → Prop} (hm : M e R H) : XK N w0 (fun a' w' => ∃ e' R' H', M e' R' H' ∧ cY N e' a' ∧ St w0 R' H' w') e R H := fun _ _ hr st => ⟨e, R, H, hm, hr, st⟩
theorem XK.skip (h : XK N w0 (Q .normal) e R H) : XK N w0 (Code.skip.wp P Q) e R H := fun a w hr st => wp_skip (h a w hr st)
theorem XK.exit {id : Nat} (h : XK N w0 (Q (.exit id)) e R H) : XK N w0 ((Code.exit id).wp P Q) e R H := fun a w hr st => wp_exit (h a w hr st)
theorem XK.ret (h : XK N w0 (Q .ret) e R H) : XK N w0 (Code.ret.wp P Q) e R H := fun a w hr st => wp_ret (h a w hr st)
theorem XK.block {id : Nat} {c : Code} (h : XK N w0 (c.wp P (Exit.inBlock id Q)) e R H) : XK N w0 ((Code.block id c).wp P Q) e R H := fun a w hr st => wp_block (h a w hr st)
theorem XK.cond {c : Operand} {x y : Code} {b : Bool} (hc : e.ev c = some (.bool b)) (ht : b = true → XK N w0 (x.wp P Q) e R H) (hf : b = false → XK N w0 (y.wp P Q) e R H) : XK N w0 ((Code.cond c x y).wp P Q) e R H :=
 fun a w hr st => wp_cond_split (hr.ev hc) (fun h => ht h a w hr st) (fun h => hf h a w hr st)
theorem XK.if_ {c : Operand} {x y : Code} {p : Prop} [Decidable p] (hc : e.ev c = some (.bool (decide p))) (ht : p → XK N w0 (x.wp P Q) e R H) (hf : ¬ p → XK N w0 (y.wp P Q) e R H) : XK N w0 ((Code.cond c x y).wp P Q) e R H :=
 XK.cond hc (fun h => ht (of_decide_eq_true h)) (fun h => hf (of_decide_eq_false h))
theorem XK.loop {c : Code} (I : Nat → Env → List Piece → List HP → Prop) (n : Nat) (h0 : I n e R H)
  (h : ∀ n e R H, I n e R H → XK N w0 (c.wp P (Exit.then (fun a' w' => ∃ m e' R' H', (m < n ∧ I m e' R' H') ∧ cY N e' a' ∧ St w0 R' H' w') Q)) e R H) : XK N w0 ((Code.loop c).wp P Q) e R H := fun a w hr st => by
 refine Qw (fun n a w => ∃ e R H, I n e R H ∧ cY N e a ∧ St w0 R H w) n ⟨e, R, H, h0, hr, st⟩ fun n a w ⟨e, R, H, hI, hr, st⟩ => wp_mono (h n e R H hI a w hr st) fun x a' w' hq => ?_
 cases x with
 | normal =>
  obtain ⟨m, e2, R2, H2, ⟨hlt, Vl⟩, eM, uE⟩ := hq
  exact ⟨m, hlt, e2, R2, H2, Vl, eM, uE⟩
 | _ => exact hq
theorem XK.round {I : Nat → Env → List Piece → List HP → Prop} {n : Nat} (m : Nat) (hm : m < n) (hI : I m e R H) : XK N w0 (fun a' w' => ∃ m e' R' H', (m < n ∧ I m e' R' H') ∧ cY N e' a' ∧ St w0 R' H' w') e R H := fun _ _ hr st => ⟨m, e, R, H, ⟨hm, hI⟩, hr, st⟩
theorem XK.region {id : Nat} {l : List Oper} (h : XK N w0 (wpList P l.toArray Q l) e R H) : XK N w0 ((Code.region id l.toArray false).wp P Q) e R H := fun a w hr st => wp_region_lit (h a w hr st)
theorem XK.nil {ops : Array Oper} (h : XK N w0 (Q .normal) e R H) : XK N w0 (wpList P ops Q []) e R H := fun a w hr st => wpList_nil (h a w hr st)
end
end
section
theorem bA {a : Int} (h : -9223372036854775808 ≤ a ∧ a ≤ 9223372036854775807) : IntKind.i64.wrap a = a := by
 rw [IntKind.wrap_i64]
 omega
theorem Yk (kd : IntKind) {a : Int} (hs : kd.signed = false) (h : 0 ≤ a ∧ a < 2 ^ kd.bits) : kd.wrap a = a := by
 unfold IntKind.wrap
 simp only [hs, Bool.false_and, Bool.false_eq_true, if_false]
 exact Int.emod_eq_of_lt h.1 h.2
theorem wrap_u32 {a : Int} (h : 0 ≤ a ∧ a < 4294967296) : IntKind.u32.wrap a = a := Yk .u32 rfl h
theorem wrap_u64 {a : Int} (h : 0 ≤ a ∧ a < 18446744073709551616) : IntKind.u64.wrap a = a := Yk .u64 rfl h
theorem Bg {a b : Int} (h0 : 0 ≤ a) (h1 : a ≤ 9223372036854775807) (hb : 0 < b) : IntKind.i64.wrap (a.tdiv b) = a / b := by
 rw [Int.tdiv_eq_ediv_of_nonneg h0]
 refine bA ⟨?_, ?_⟩
 ·have := Int.ediv_nonneg h0 (Int.le_of_lt hb); omega
 ·exact Int.le_trans (Int.ediv_le_self _ h0) h1
theorem rem_in {a b : Int} (h0 : 0 ≤ a) : a.tmod b = a % b := Int.tmod_eq_emod_of_nonneg h0
def Ko (P : Program) (s : TypeId) (f : Nat) : Option Nat :=
 match P.underlying s with
 | some (.struct fs) => match fs[f]? with
  | some fl => match P.info? fl.type with
   | some i => if i.size = 0 then none else some fl.offset
   | none => none
  | none => none
 | _ => none
section
variable {P : Program} {N : cN} {w0 : World} {e : Env} {R : List Piece} {H : List HP} {Q : Exit → Act → World → Prop} {ops : Array Oper} {rest : List Oper}
variable {d : Nat} {ty : TypeId} {pos : String} {aJ : Array Edge}
theorem qB {o : Oper} (hg : o.guard = none) (h : ∀ a w, cY N e a → St w0 R H w → ∃ v w', (execOp a.eval o).run P w = .ok (.value v) w' ∧ wpList P ops Q rest (a.put o.dst v) w') : XK N w0 (wpList P ops Q (o :: rest)) e R H := fun a w hr st => wpList_plain hg fun K hK => by
 obtain ⟨v, w', h1, h2⟩ := h a w hr st
 unfold Oper.wp
 rw [h1]
 exact hK _ _ h2
theorem fW {op : Op} {v : Value} (hd : d < N.n) (h : ∀ a w, cY N e a → (execOp a.eval ⟨some d, op, ty, pos, aJ, none⟩).run P w = .ok (.value v) w)
  (k : XK N w0 (wpList P ops Q rest) ((d, v) :: e) R H) : XK N w0 (wpList P ops Q (⟨some d, op, ty, pos, aJ, none⟩ :: rest)) e R H :=
 qB rfl fun a w hr st => ⟨v, w, h a w hr, k _ _ (hr.put hd v) st⟩
def bH (P : Program) (N : cN) (w0 : World) (e : Env) (R : List Piece) (H : List HP) (o : Oper) (v : Value) : Prop := ∀ a w, cY N e a → St w0 R H w → (execOp a.eval o).run P w = .ok (.value v) w
theorem fO {o : Oper} {v : Value} (h : ∀ a w, cY N e a → (execOp a.eval o).run P w = .ok (.value v) w) : bH P N w0 e R H o v := fun a w hr _ => h a w hr
theorem aS {dst : Option Nat} {op : Op} {j : Nat} {want : Bool} {t : Nat} (hj : (ops[j]?).bind (·.dst) = some t) (ht : e.get t = some (.bool want))
  (k : XK N w0 (wpList P ops Q (⟨dst, op, ty, pos, aJ, none⟩ :: rest)) e R H) : XK N w0 (wpList P ops Q (⟨dst, op, ty, pos, aJ, some (j, want)⟩ :: rest)) e R H := fun a w hr st => by
 have h := k a w hr st
 have hw : Region.wanted (⟨dst, op, ty, pos, aJ, some (j, want)⟩ : Oper) (yielded ops a.tmps) = true := by
  simp only [Region.wanted, yielded, hj, Option.bind_some, hr.get t _ ht]
  simp
 unfold wpList at h ⊢
 rw [if_pos hw]
 rw [if_pos (by simp [Region.wanted])] at h
 exact h
theorem aP {op : Op} {j : Nat} {want b : Bool} {t : Nat} (hj : (ops[j]?).bind (·.dst) = some t) (ht : e.get t = some (.bool b)) (hb : b = !want) (hd : d < N.n)
  (k : XK N w0 (wpList P ops Q rest) ((d, undef) :: e) R H) : XK N w0 (wpList P ops Q (⟨some d, op, ty, pos, aJ, some (j, want)⟩ :: rest)) e R H := fun a w hr st => by
 have hw : Region.wanted (⟨some d, op, ty, pos, aJ, some (j, want)⟩ : Oper) (yielded ops a.tmps) = false := by
  simp only [Region.wanted, yielded, hj, Option.bind_some, hr.get t _ ht, hb]
  simp
 unfold wpList
 rw [if_neg (by rw [hw]; simp)]
 exact k _ _ (hr.put hd undef) st
theorem bT {K : Act → World → Prop} {t : Nat} {p : Prop} [Decidable p] (ht : e.get t = some (.bool (decide p))) (h1 : p → XK N w0 K ((t, .bool true) :: e) R H) (h2 : ¬ p → XK N w0 K ((t, .bool false) :: e) R H) : XK N w0 K e R H := by
 by_cases hp : p
 ·rw [decide_eq_true hp] at ht
  refine fun a w hr st => h1 hp a w ⟨hr.size, hr.defers, fun u v hu => ?_⟩ st
  unfold Env.get at hu
  split at hu
  ·rename_i hk
   have := Nat.eq_of_beq_eq_true hk
   subst this
   cases hu
   exact hr.get _ _ ht
  ·exact hr.get _ _ hu
 ·rw [decide_eq_false hp] at ht
  refine fun a w hr st => h2 hp a w ⟨hr.size, hr.defers, fun u v hu => ?_⟩ st
  unfold Env.get at hu
  split at hu
  ·rename_i hk
   have := Nat.eq_of_beq_eq_true hk
   subst this
   cases hu
   exact hr.get _ _ ht
  ·exact hr.get _ _ hu
theorem cI {x : Operand} {v : Value} (hx : e.ev x = some v) : bH P N w0 e R H ⟨some d, .move x, ty, pos, aJ, none⟩ (v) := fO (fun a w hr => by simp [execOp, hr.ev hx])
theorem aG {x : Operand} {v : Value} (hx : e.ev x = some v) (hd : d < N.n) (k : XK N w0 (wpList P ops Q rest) ((d, v) :: e) R H) : XK N w0 (wpList P ops Q (⟨some d, .move x, ty, pos, aJ, none⟩ :: rest)) e R H :=
 fW hd (fun a w hr => by simp [execOp, hr.ev hx]) k
theorem yE {x : Operand} {v : Value} (hx : e.ev x = some v) : bH P N w0 e R H ⟨some d, .assign x, ty, pos, aJ, none⟩ (v) := fO (fun a w hr => by simp [execOp, hr.ev hx])
theorem aL {x : Operand} {v : Value} (hx : e.ev x = some v) (hd : d < N.n) (k : XK N w0 (wpList P ops Q rest) ((d, v) :: e) R H) : XK N w0 (wpList P ops Q (⟨some d, .assign x, ty, pos, aJ, none⟩ :: rest)) e R H :=
 fW hd (fun a w hr => by simp [execOp, hr.ev hx]) k
theorem yB {c x y : Operand} {v : Value} (hc : e.ev c = some (.bool true)) (hx : e.ev x = some v) : bH P N w0 e R H ⟨some d, .pick c x y, ty, pos, aJ, none⟩ (v) := fO (fun a w hr => by simp [execOp, hr.ev hc, hr.ev hx, asBool])
theorem cL {c x y : Operand} {v : Value} (hc : e.ev c = some (.bool true)) (hx : e.ev x = some v) (hd : d < N.n) (k : XK N w0 (wpList P ops Q rest) ((d, v) :: e) R H) : XK N w0 (wpList P ops Q (⟨some d, .pick c x y, ty, pos, aJ, none⟩ :: rest)) e R H :=
 fW hd (fun a w hr => by simp [execOp, hr.ev hc, hr.ev hx, asBool]) k
theorem yC {c x y : Operand} {v : Value} (hc : e.ev c = some (.bool false)) (hy : e.ev y = some v) : bH P N w0 e R H ⟨some d, .pick c x y, ty, pos, aJ, none⟩ (v) := fO (fun a w hr => by simp [execOp, hr.ev hc, hr.ev hy, asBool])
theorem cM {c x y : Operand} {v : Value} (hc : e.ev c = some (.bool false)) (hy : e.ev y = some v) (hd : d < N.n) (k : XK N w0 (wpList P ops Q rest) ((d, v) :: e) R H) : XK N w0 (wpList P ops Q (⟨some d, .pick c x y, ty, pos, aJ, none⟩ :: rest)) e R H :=
 fW hd (fun a w hr => by simp [execOp, hr.ev hc, hr.ev hy, asBool]) k
theorem Ky {x : Operand} {b : Bool} {t : TypeId} (hx : e.ev x = some (.bool b)) : bH P N w0 e R H ⟨some d, .unOp .not t x, ty, pos, aJ, none⟩ (.bool (!b)) := fO (fun a w hr => by simp [execOp, hr.ev hx, Op.unary])
theorem yV {x : Operand} {b : Bool} {t : TypeId} (hx : e.ev x = some (.bool b)) (hd : d < N.n) (k : XK N w0 (wpList P ops Q rest) ((d, .bool (!b)) :: e) R H) : XK N w0 (wpList P ops Q (⟨some d, .unOp .not t x, ty, pos, aJ, none⟩ :: rest)) e R H :=
 fW hd (fun a w hr => by simp [execOp, hr.ev hx, Op.unary]) k
theorem Kx {x : Operand} {p : Prop} [Decidable p] {t : TypeId} (hx : e.ev x = some (.bool (decide p))) : bH P N w0 e R H ⟨some d, .unOp .not t x, ty, pos, aJ, none⟩ (.bool (decide (¬ p))) := fO (fun a w hr => by simp [execOp, hr.ev hx, Op.unary])
theorem yU {x : Operand} {p : Prop} [Decidable p] {t : TypeId} (hx : e.ev x = some (.bool (decide p))) (hd : d < N.n) (k : XK N w0 (wpList P ops Q rest) ((d, .bool (decide (¬ p))) :: e) R H) : XK N w0 (wpList P ops Q (⟨some d, .unOp .not t x, ty, pos, aJ, none⟩ :: rest)) e R H :=
 fW hd (fun a w hr => by simp [execOp, hr.ev hx, Op.unary]) k
theorem aC3 {x : Operand} {kd : IntKind} {i c : Int} {t : TypeId} (hx : e.ev x = some (.int kd i)) (hw : kd.wrap (0 - i) = c) (hd : d < N.n) (k : XK N w0 (wpList P ops Q rest) ((d, .int kd c) :: e) R H) : XK N w0 (wpList P ops Q (⟨some d, .unOp .neg t x, ty, pos, aJ, none⟩ :: rest)) e R H :=
 fW hd (fun a w hr => by simp [execOp, hr.ev hx, Op.unary, Op.intArith, ← hw]) k
section
variable {x y : Operand} {kd : IntKind} {i j c : Int} {t u : TypeId} (hx : e.ev x = some (.int kd i)) (hy : e.ev y = some (.int kd j))
include hx hy
theorem lN (hw : kd.wrap (i + j) = c) : bH P N w0 e R H ⟨some d, .binOp .add t x y u, ty, pos, aJ, none⟩ (.int kd c) := fO (fun a w hr => by simp [execOp, hr.ev hx, hr.ev hy, eqGuard, binOp, Op.intArith, hw])
theorem dO (hw : kd.wrap (i + j) = c) (hd : d < N.n) (k : XK N w0 (wpList P ops Q rest) ((d, .int kd c) :: e) R H) : XK N w0 (wpList P ops Q (⟨some d, .binOp .add t x y u, ty, pos, aJ, none⟩ :: rest)) e R H :=
 fW hd (fun a w hr => by simp [execOp, hr.ev hx, hr.ev hy, eqGuard, binOp, Op.intArith, hw]) k
theorem Fi (hw : kd.wrap (i - j) = c) : bH P N w0 e R H ⟨some d, .binOp .sub t x y u, ty, pos, aJ, none⟩ (.int kd c) := fO (fun a w hr => by simp [execOp, hr.ev hx, hr.ev hy, eqGuard, binOp, Op.intArith, hw])
theorem Mk (hw : kd.wrap (i - j) = c) (hd : d < N.n) (k : XK N w0 (wpList P ops Q rest) ((d, .int kd c) :: e) R H) : XK N w0 (wpList P ops Q (⟨some d, .binOp .sub t x y u, ty, pos, aJ, none⟩ :: rest)) e R H :=
 fW hd (fun a w hr => by simp [execOp, hr.ev hx, hr.ev hy, eqGuard, binOp, Op.intArith, hw]) k
theorem Qo (hw : kd.wrap (i * j) = c) (hd : d < N.n) (k : XK N w0 (wpList P ops Q rest) ((d, .int kd c) :: e) R H) : XK N w0 (wpList P ops Q (⟨some d, .binOp .mul t x y u, ty, pos, aJ, none⟩ :: rest)) e R H :=
 fW hd (fun a w hr => by simp [execOp, hr.ev hx, hr.ev hy, eqGuard, binOp, Op.intArith, hw]) k
theorem Ku (h0 : j ≠ 0) (hw : kd.wrap (i.tdiv j) = c) : bH P N w0 e R H ⟨some d, .binOp .quo t x y u, ty, pos, aJ, none⟩ (.int kd c) := fO (fun a w hr => by simp [execOp, hr.ev hx, hr.ev hy, eqGuard, binOp, Op.intDiv, h0, hw])
theorem Gm (h0 : j ≠ 0) (hw : kd.wrap (i.tdiv j) = c) (hd : d < N.n) (k : XK N w0 (wpList P ops Q rest) ((d, .int kd c) :: e) R H) : XK N w0 (wpList P ops Q (⟨some d, .binOp .quo t x y u, ty, pos, aJ, none⟩ :: rest)) e R H :=
 fW hd (fun a w hr => by simp [execOp, hr.ev hx, hr.ev hy, eqGuard, binOp, Op.intDiv, h0, hw]) k
theorem pQ (h0 : j ≠ 0) (hw : i.tmod j = c) : bH P N w0 e R H ⟨some d, .binOp .rem t x y u, ty, pos, aJ, none⟩ (.int kd c) := fO (fun a w hr => by simp [execOp, hr.ev hx, hr.ev hy, eqGuard, binOp, Op.intDiv, h0, hw])
theorem qC (h0 : j ≠ 0) (hw : i.tmod j = c) (hd : d < N.n) (k : XK N w0 (wpList P ops Q rest) ((d, .int kd c) :: e) R H) : XK N w0 (wpList P ops Q (⟨some d, .binOp .rem t x y u, ty, pos, aJ, none⟩ :: rest)) e R H :=
 fW hd (fun a w hr => by simp [execOp, hr.ev hx, hr.ev hy, eqGuard, binOp, Op.intDiv, h0, hw]) k
theorem aBB {op : BinOp} (ho : ∀ w, (Op.intBits op kd i j).run P w = .ok (.int kd c) w) (hop : op = .and ∨ op = .or ∨ op = .xor ∨ op = .andNot) : bH P N w0 e R H ⟨some d, .binOp op t x y u, ty, pos, aJ, none⟩ (.int kd c) := fO (fun a w hr => by rcases hop with rfl | rfl | rfl | rfl <;> simp [execOp, hr.ev hx, hr.ev hy, eqGuard, binOp, ho])
theorem Qu {op : BinOp} (ho : ∀ w, (Op.intBits op kd i j).run P w = .ok (.int kd c) w) (hop : op = .and ∨ op = .or ∨ op = .xor ∨ op = .andNot) (hd : d < N.n) (k : XK N w0 (wpList P ops Q rest) ((d, .int kd c) :: e) R H) : XK N w0 (wpList P ops Q (⟨some d, .binOp op t x y u, ty, pos, aJ, none⟩ :: rest)) e R H :=
 fW hd (fun a w hr => by rcases hop with rfl | rfl | rfl | rfl <;> simp [execOp, hr.ev hx, hr.ev hy, eqGuard, binOp, ho]) k
theorem La : bH P N w0 e R H ⟨some d, .binOp .lss t x y u, ty, pos, aJ, none⟩ (.bool (decide (i < j))) := fO (fun a w hr => by simp [execOp, hr.ev hx, hr.ev hy, eqGuard, binOp, Op.intCmp])
theorem hJ (hd : d < N.n) (k : XK N w0 (wpList P ops Q rest) ((d, .bool (decide (i < j))) :: e) R H) : XK N w0 (wpList P ops Q (⟨some d, .binOp .lss t x y u, ty, pos, aJ, none⟩ :: rest)) e R H :=
 fW hd (fun a w hr => by simp [execOp, hr.ev hx, hr.ev hy, eqGuard, binOp, Op.intCmp]) k
theorem Lc : bH P N w0 e R H ⟨some d, .binOp .leq t x y u, ty, pos, aJ, none⟩ (.bool (decide (i ≤ j))) := fO (fun a w hr => by simp [execOp, hr.ev hx, hr.ev hy, eqGuard, binOp, Op.intCmp])
theorem Yg (hd : d < N.n) (k : XK N w0 (wpList P ops Q rest) ((d, .bool (decide (i ≤ j))) :: e) R H) : XK N w0 (wpList P ops Q (⟨some d, .binOp .leq t x y u, ty, pos, aJ, none⟩ :: rest)) e R H :=
 fW hd (fun a w hr => by simp [execOp, hr.ev hx, hr.ev hy, eqGuard, binOp, Op.intCmp]) k
theorem Lf : bH P N w0 e R H ⟨some d, .binOp .gtr t x y u, ty, pos, aJ, none⟩ (.bool (decide (j < i))) := fO (fun a w hr => by simp [execOp, hr.ev hx, hr.ev hy, eqGuard, binOp, Op.intCmp])
theorem Dk (hd : d < N.n) (k : XK N w0 (wpList P ops Q rest) ((d, .bool (decide (j < i))) :: e) R H) : XK N w0 (wpList P ops Q (⟨some d, .binOp .gtr t x y u, ty, pos, aJ, none⟩ :: rest)) e R H :=
 fW hd (fun a w hr => by simp [execOp, hr.ev hx, hr.ev hy, eqGuard, binOp, Op.intCmp]) k
theorem Lg : bH P N w0 e R H ⟨some d, .binOp .geq t x y u, ty, pos, aJ, none⟩ (.bool (decide (j ≤ i))) := fO (fun a w hr => by simp [execOp, hr.ev hx, hr.ev hy, eqGuard, binOp, Op.intCmp])
theorem yW (hd : d < N.n) (k : XK N w0 (wpList P ops Q rest) ((d, .bool (decide (j ≤ i))) :: e) R H) : XK N w0 (wpList P ops Q (⟨some d, .binOp .geq t x y u, ty, pos, aJ, none⟩ :: rest)) e R H :=
 fW hd (fun a w hr => by simp [execOp, hr.ev hx, hr.ev hy, eqGuard, binOp, Op.intCmp]) k
theorem zX : bH P N w0 e R H ⟨some d, .binOp .eql t x y u, ty, pos, aJ, none⟩ (.bool (decide (i = j))) := fO (fun a w hr => by
  have he : (i == j) = decide (i = j) := by by_cases h : i = j <;> simp [h]
  simp [execOp, hr.ev hx, hr.ev hy, eqGuard, binOp, Op.intCmp, he])
theorem iS (hd : d < N.n) (k : XK N w0 (wpList P ops Q rest) ((d, .bool (decide (i = j))) :: e) R H) : XK N w0 (wpList P ops Q (⟨some d, .binOp .eql t x y u, ty, pos, aJ, none⟩ :: rest)) e R H :=
 fW hd (fun a w hr => by
  have he : (i == j) = decide (i = j) := by by_cases h : i = j <;> simp [h]
  simp [execOp, hr.ev hx, hr.ev hy, eqGuard, binOp, Op.intCmp, he]) k
theorem Cv : bH P N w0 e R H ⟨some d, .binOp .neq t x y u, ty, pos, aJ, none⟩ (.bool (decide (¬ i = j))) := fO (fun a w hr => by
  have he : (i != j) = decide (¬ i = j) := by by_cases h : i = j <;> simp [h]
  simp [execOp, hr.ev hx, hr.ev hy, eqGuard, binOp, Op.intCmp, he])
theorem oP (hd : d < N.n) (k : XK N w0 (wpList P ops Q rest) ((d, .bool (decide (¬ i = j))) :: e) R H) : XK N w0 (wpList P ops Q (⟨some d, .binOp .neq t x y u, ty, pos, aJ, none⟩ :: rest)) e R H :=
 fW hd (fun a w hr => by
  have he : (i != j) = decide (¬ i = j) := by by_cases h : i = j <;> simp [h]
  simp [execOp, hr.ev hx, hr.ev hy, eqGuard, binOp, Op.intCmp, he]) k
end
section
variable {x y : Operand} {kd oB : IntKind} {i j c : Int} {t u : TypeId} (hx : e.ev x = some (.int kd i)) (hy : e.ev y = some (.int oB j))
include hx hy
theorem aHj (h0 : 0 ≤ j) (hw : kd.wrap (i * 2 ^ min j.toNat kd.bits) = c) : bH P N w0 e R H ⟨some d, .binOp .shl t x y u, ty, pos, aJ, none⟩ (.int kd c) := fO (fun a w hr => by simp [execOp, hr.ev hx, hr.ev hy, eqGuard, binOp, Op.shift, show ¬ j < 0 by omega, hw])
theorem Dj (h0 : 0 ≤ j) (hw : kd.wrap (i * 2 ^ min j.toNat kd.bits) = c) (hd : d < N.n) (k : XK N w0 (wpList P ops Q rest) ((d, .int kd c) :: e) R H) : XK N w0 (wpList P ops Q (⟨some d, .binOp .shl t x y u, ty, pos, aJ, none⟩ :: rest)) e R H :=
 fW hd (fun a w hr => by simp [execOp, hr.ev hx, hr.ev hy, eqGuard, binOp, Op.shift, show ¬ j < 0 by omega, hw]) k
theorem aB8 (h0 : 0 ≤ j) (hw : i.fdiv (2 ^ min j.toNat kd.bits) = c) : bH P N w0 e R H ⟨some d, .binOp .shr t x y u, ty, pos, aJ, none⟩ (.int kd c) := fO (fun a w hr => by simp [execOp, hr.ev hx, hr.ev hy, eqGuard, binOp, Op.shift, show ¬ j < 0 by omega, hw])
theorem aC1 (h0 : 0 ≤ j) (hw : i.fdiv (2 ^ min j.toNat kd.bits) = c) (hd : d < N.n) (k : XK N w0 (wpList P ops Q rest) ((d, .int kd c) :: e) R H) : XK N w0 (wpList P ops Q (⟨some d, .binOp .shr t x y u, ty, pos, aJ, none⟩ :: rest)) e R H :=
 fW hd (fun a w hr => by simp [execOp, hr.ev hx, hr.ev hy, eqGuard, binOp, Op.shift, show ¬ j < 0 by omega, hw]) k
end
theorem yD {x : Operand} {kd ks : IntKind} {i c : Int} {src dst : TypeId} {ds : TypeDesc} (hs : P.underlying src = some ds) (ht : P.underlying dst = some (.int kd)) (hx : e.ev x = some (.int ks i)) (hw : kd.wrap i = c) : bH P N w0 e R H ⟨some d, .convert src dst x, ty, pos, aJ, none⟩ (.int kd c) := fO (fun a w hr => by
  simp only [execOp, hr.ev hx, convert, Sem.run_bind, run_underlying hs, run_underlying ht, Result.andThen_ok]
  cases ds <;> simp [Conv.intToInt, hw])
theorem rH {x : Operand} {kd ks : IntKind} {i c : Int} {src dst : TypeId} {ds : TypeDesc} (hs : P.underlying src = some ds) (ht : P.underlying dst = some (.int kd)) (hx : e.ev x = some (.int ks i)) (hw : kd.wrap i = c) (hd : d < N.n)
  (k : XK N w0 (wpList P ops Q rest) ((d, .int kd c) :: e) R H) : XK N w0 (wpList P ops Q (⟨some d, .convert src dst x, ty, pos, aJ, none⟩ :: rest)) e R H :=
 fW hd (fun a w hr => by
  simp only [execOp, hr.ev hx, convert, Sem.run_bind, run_underlying hs, run_underlying ht, Result.andThen_ok]
  cases ds <;> simp [Conv.intToInt, hw]) k
theorem vI {x : Operand} {vs : Array Value} {i : Nat} {v : Value} (hx : e.ev x = some (.tuple vs)) (hi : vs[i]? = some v) : bH P N w0 e R H ⟨some d, .extract x i, ty, pos, aJ, none⟩ (v) := fO (fun a w hr => by simp [execOp, hr.ev hx, Instr.extract, hi])
theorem sJ {x : Operand} {vs : Array Value} {i : Nat} {v : Value} (hx : e.ev x = some (.tuple vs)) (hi : vs[i]? = some v) (hd : d < N.n) (k : XK N w0 (wpList P ops Q rest) ((d, v) :: e) R H) : XK N w0 (wpList P ops Q (⟨some d, .extract x i, ty, pos, aJ, none⟩ :: rest)) e R H :=
 fW hd (fun a w hr => by simp [execOp, hr.ev hx, Instr.extract, hi]) k
def Env.cV (e : Env) : List Operand → Option (List Value)
 | [] => some []
 | x :: xs => match e.ev x, e.cV xs with
  | some v, some vs => some (v :: vs)
  | _, _ => none
theorem cY.cV {a : Act} (h : cY N e a) : ∀ {xs : List Operand} {vs : List Value}, e.cV xs = some vs → xs.map a.eval = vs
 | [], vs, hx => by cases hx; rfl
 | x :: xs, vs, hx => by
  unfold Env.cV at hx
  split at hx
  ·rename_i v r h1 h2
   cases hx
   rw [List.map_cons, h.ev h1, h.cV h2]
  ·cases hx
theorem iL {fn : Fn} {first captured : List Operand} {vf vc : List Value} (h1 : e.cV first = some vf) (h2 : e.cV captured = some vc) (hd : d < N.n) (k : XK N w0 (wpList P ops Q rest) ((d, .func fn vf.toArray vc.toArray) :: e) R H) :
  XK N w0 (wpList P ops Q (⟨some d, .makeFunc fn first.toArray captured.toArray, ty, pos, aJ, none⟩ :: rest)) e R H :=
 fW hd (fun a w hr => by simp [execOp, Instr.makeFunc, hr.cV h1, hr.cV h2]) k
theorem vH {x : Operand} {t el : TypeId} {A : Option Addr} {n c : Nat} (ht : P.underlying t = some (.slice el)) (hx : e.ev x = some (.slice A n c)) : bH P N w0 e R H ⟨some d, .call { callee := .builtin .len, args := #[x], argTypes := #[t] }, ty, pos, aJ, none⟩ (.int .i64 n) := fO (fun a w hr => by simp [execOp, resolve, invoke, builtin, hr.ev hx, Builtin.len_, run_underlying ht, goInt])
theorem fX {x : Operand} {t el : TypeId} {A : Option Addr} {n c : Nat} (ht : P.underlying t = some (.slice el)) (hx : e.ev x = some (.slice A n c)) (hd : d < N.n) (k : XK N w0 (wpList P ops Q rest) ((d, .int .i64 n) :: e) R H) :
  XK N w0 (wpList P ops Q (⟨some d, .call { callee := .builtin .len, args := #[x], argTypes := #[t] }, ty, pos, aJ, none⟩ :: rest)) e R H :=
 fW hd (fun a w hr => by simp [execOp, resolve, invoke, builtin, hr.ev hx, Builtin.len_, run_underlying ht, goInt]) k
theorem oH (i o : Nat) {x ix : Operand} {t el : TypeId} {b off n c sz : Nat} {kd : IntKind} {j : Int} (ht : P.underlying t = some (.slice el)) (hs : (P.info? el).map (·.size) = some sz) (hx : e.ev x = some (.slice (some ⟨b, off, none⟩) n c)) (hi : e.ev ix = some (.int kd j)) (hj : j = (i : Int)) (hlt : i < n) (ho : off + i * sz = o) : bH P N w0 e R H ⟨some d, .indexAddr t x ix, ty, pos, aJ, none⟩ (.pointer (some ⟨b, o, none⟩)) := fO (fun a w hr => by
  subst hj
  subst ho
  obtain ⟨i0, nD, hz⟩ := Option.map_eq_some_iff.1 hs
  have uX : (⟨b, off, none⟩ : Addr).add (i * sz) = ⟨b, off + i * sz, none⟩ := by unfold Addr.add; split <;> simp_all
  simp [execOp, hr.ev hx, hr.ev hi, Instr.indexAt, asIntOf, run_underlying ht, sizeOf, typeInfo, nD, hz, hlt, uX])
theorem dH (i o : Nat) {x ix : Operand} {t el : TypeId} {b off n c sz : Nat} {kd : IntKind} {j : Int} (ht : P.underlying t = some (.slice el)) (hs : (P.info? el).map (·.size) = some sz) (hx : e.ev x = some (.slice (some ⟨b, off, none⟩) n c)) (hi : e.ev ix = some (.int kd j)) (hj : j = (i : Int)) (hlt : i < n) (ho : off + i * sz = o) (hd : d < N.n)
  (k : XK N w0 (wpList P ops Q rest) ((d, .pointer (some ⟨b, o, none⟩)) :: e) R H) : XK N w0 (wpList P ops Q (⟨some d, .indexAddr t x ix, ty, pos, aJ, none⟩ :: rest)) e R H :=
 fW hd (fun a w hr => by
  subst hj
  subst ho
  obtain ⟨i0, nD, hz⟩ := Option.map_eq_some_iff.1 hs
  have uX : (⟨b, off, none⟩ : Addr).add (i * sz) = ⟨b, off + i * sz, none⟩ := by unfold Addr.add; split <;> simp_all
  simp [execOp, hr.ev hx, hr.ev hi, Instr.indexAt, asIntOf, run_underlying ht, sizeOf, typeInfo, nD, hz, hlt, uX]) k
theorem aHo (i o : Nat) {x ix : Operand} {t el : TypeId} {b off n sz : Nat} {kd : IntKind} {j : Int} (ht : P.underlying t = some (.array n el)) (hs : (P.info? el).map (·.size) = some sz) (hx : e.ev x = some (.pointer (some ⟨b, off, none⟩))) (hi : e.ev ix = some (.int kd j)) (hj : j = (i : Int)) (hlt : i < n) (ho : off + i * sz = o) : bH P N w0 e R H ⟨some d, .indexAddr t x ix, ty, pos, aJ, none⟩ (.pointer (some ⟨b, o, none⟩)) := fO (fun a w hr => by
  subst hj
  subst ho
  obtain ⟨i0, nD, hz⟩ := Option.map_eq_some_iff.1 hs
  have uX : (⟨b, off, none⟩ : Addr).add (i * sz) = ⟨b, off + i * sz, none⟩ := by unfold Addr.add; split <;> simp_all
  simp [execOp, hr.ev hx, hr.ev hi, Instr.indexAt, asIntOf, run_underlying ht, sizeOf, typeInfo, nD, hz, hlt, uX, Instr.sureAddr])
theorem Qv (i o : Nat) {x ix : Operand} {t el : TypeId} {b off n sz : Nat} {kd : IntKind} {j : Int} (ht : P.underlying t = some (.array n el)) (hs : (P.info? el).map (·.size) = some sz) (hx : e.ev x = some (.pointer (some ⟨b, off, none⟩))) (hi : e.ev ix = some (.int kd j)) (hj : j = (i : Int)) (hlt : i < n) (ho : off + i * sz = o) (hd : d < N.n)
  (k : XK N w0 (wpList P ops Q rest) ((d, .pointer (some ⟨b, o, none⟩)) :: e) R H) : XK N w0 (wpList P ops Q (⟨some d, .indexAddr t x ix, ty, pos, aJ, none⟩ :: rest)) e R H :=
 fW hd (fun a w hr => by
  subst hj
  subst ho
  obtain ⟨i0, nD, hz⟩ := Option.map_eq_some_iff.1 hs
  have uX : (⟨b, off, none⟩ : Addr).add (i * sz) = ⟨b, off + i * sz, none⟩ := by unfold Addr.add; split <;> simp_all
  simp [execOp, hr.ev hx, hr.ev hi, Instr.indexAt, asIntOf, run_underlying ht, sizeOf, typeInfo, nD, hz, hlt, uX, Instr.sureAddr]) k
theorem aHn (i : Nat) {x ix : Operand} {t : TypeId} {s : ByteArray} {kd : IntKind} {j : Int} {b : UInt8} (ht : P.underlying t = some .string) (hx : e.ev x = some (.string s)) (hi : e.ev ix = some (.int kd j)) (hj : j = (i : Int)) (hb : s[i]? = some b) : bH P N w0 e R H ⟨some d, .index t x ix, ty, pos, aJ, none⟩ (.int .u8 b.toNat) := fO (fun a w hr => by
  subst hj
  simp [execOp, hr.ev hx, hr.ev hi, Instr.index, asIntOf, run_underlying ht, hb])
theorem jE {x : Operand} {s : TypeId} {f off b o : Nat} (ho : Ko P s f = some off) (hx : e.ev x = some (.pointer (some ⟨b, o, none⟩))) : bH P N w0 e R H ⟨some d, .fieldAddr s x f, ty, pos, aJ, none⟩ (.pointer (some ⟨b, o + off, none⟩)) := fO (fun a w hr => by
  have uX : (⟨b, o, none⟩ : Addr).add off = ⟨b, o + off, none⟩ := by unfold Addr.add; split <;> simp_all
  unfold Ko at ho
  split at ho
  ·rename_i fs hu
   split at ho
   ·rename_i fl hf
    split at ho
    ·rename_i i hi
     split at ho
     ·cases ho
     ·rename_i hz
      cases ho
      simp [execOp, hr.ev hx, Instr.fieldAt, run_underlying hu, hf, Instr.sureAddr, fieldPlace, sizeOf, typeInfo, hi, hz, uX]
    ·cases ho
   ·cases ho
  ·cases ho)
theorem bL {x : Operand} {s : TypeId} {f off b o : Nat} (ho : Ko P s f = some off) (hx : e.ev x = some (.pointer (some ⟨b, o, none⟩))) (hd : d < N.n)
  (k : XK N w0 (wpList P ops Q rest) ((d, .pointer (some ⟨b, o + off, none⟩)) :: e) R H) : XK N w0 (wpList P ops Q (⟨some d, .fieldAddr s x f, ty, pos, aJ, none⟩ :: rest)) e R H :=
 fW hd (fun a w hr => by
  have uX : (⟨b, o, none⟩ : Addr).add off = ⟨b, o + off, none⟩ := by unfold Addr.add; split <;> simp_all
  unfold Ko at ho
  split at ho
  ·rename_i fs hu
   split at ho
   ·rename_i fl hf
    split at ho
    ·rename_i i hi
     split at ho
     ·cases ho
     ·rename_i hz
      cases ho
      simp [execOp, hr.ev hx, Instr.fieldAt, run_underlying hu, hf, Instr.sureAddr, fieldPlace, sizeOf, typeInfo, hi, hz, uX]
    ·cases ho
   ·cases ho
  ·cases ho) k
section
variable {K : Act → World → Prop} {id id' : Nat}
theorem XK.iU (h : XK N w0 K e R H) : XK N w0 (Exit.then K Q .normal) e R H := h
theorem XK.Gr (h : XK N w0 (Q (.exit id)) e R H) : XK N w0 (Exit.then K Q (.exit id)) e R H := h
theorem XK.Gq (h : XK N w0 (Q .ret) e R H) : XK N w0 (Exit.then K Q .ret) e R H := h
theorem XK.It (h : XK N w0 (Q .normal) e R H) : XK N w0 (Exit.inBlock id Q .normal) e R H := h
theorem XK.Is (h : XK N w0 (Q .ret) e R H) : XK N w0 (Exit.inBlock id Q .ret) e R H := h
theorem XK.Iv (h : XK N w0 (Q .normal) e R H) : XK N w0 (Exit.inBlock id Q (.exit id)) e R H := fun a w hr st => by
 show if id = id then Q .normal a w else _
 rw [if_pos rfl]
 exact h a w hr st
theorem XK.Iu (hne : Nat.beq id' id = false) (h : XK N w0 (Q (.exit id')) e R H) : XK N w0 (Exit.inBlock id Q (.exit id')) e R H := fun a w hr st => by
 show if id' = id then _ else Q (.exit id') a w
 rw [if_neg (fun he => by rw [he, Nat.beq_refl] at hne; cases hne)]
 exact h a w hr st
end
end
end
section
def aH (p : Piece) (sz : Nat) (A : Option Addr) (n : Nat) (xs : List Value) : Prop :=
 xs.length = n * sz ∧ (0 < n → ∃ b off, A = some ⟨b, off, none⟩ ∧ p.Z b ∧ ∀ j u, xs[j]? = some u → p.w.cell? ⟨b, off + j, none⟩ = some u)
theorem aH.le {p q : Piece} {sz n : Nat} {A : Option Addr} {xs : List Value} (h : aH p sz A n xs) (hl : p.Le q) : aH q sz A n xs :=
 ⟨h.1, fun hn => by
  obtain ⟨b, off, hA, hz, hc⟩ := h.2 hn
  exact ⟨b, off, hA, (hl b hz).1, fun j u hu => (World.cell?_of_block (w := p.w) (a := ⟨b, off + j, none⟩) (hl b hz).2).trans (hc j u hu)⟩⟩
theorem aH.nil (p : Piece) (sz : Nat) : aH p sz none 0 [] := ⟨by simp, fun h => absurd h (by omega)⟩
theorem aH.sl {p : Piece} {w : World} {sz n : Nat} {A : Option Addr} {xs : List Value} (h : aH p sz A n xs) (hl : p.Le (all w)) : Sl w w.heap.size sz A n xs := by
 obtain ⟨h1, h2⟩ := h.le hl
 exact ⟨h1, fun hn => by obtain ⟨b, off, hA, hz, hc⟩ := h2 hn; exact ⟨b, off, hA, hz, hc⟩⟩
theorem aH.aEw {w : World} {sz n : Nat} {A : Option Addr} {xs : List Value} (h : Sl w w.heap.size sz A n xs) : aH (all w) sz A n xs :=
 ⟨h.1, fun hn => by obtain ⟨b, off, hA, hz, hc⟩ := h.2 hn; exact ⟨b, off, hA, hz, hc⟩⟩
theorem aH.at_ {p : Piece} {sz n : Nat} {A : Option Addr} {xs : List Value} (h : aH p sz A n xs) {k : Nat} (hk : k < n) : ∃ b off, A = some ⟨b, off, none⟩ ∧ p.Z b ∧ ∀ f u, xs[k * sz + f]? = some u → p.w.cell? ⟨b, off + k * sz + f, none⟩ = some u := by
 obtain ⟨b, off, e, hb, hc⟩ := h.2 (by omega)
 exact ⟨b, off, e, hb, fun f u hu => by rw [Nat.add_assoc]; exact hc _ u hu⟩
theorem aH.rN {Y : Nat → Prop} {w : World} {F : Nat → Prop} {e : TypeId} {sz n : Nat} {v : Value} {xs : List Value} (h : (HP.own e sz v n xs).sat F w) (hF : ∀ b, F b → Y b) : ∃ A c, v = .slice A n c ∧ aH ⟨w, Y⟩ sz A n xs := by
 obtain ⟨hg, ho⟩ := h
 rcases ho.2 with ⟨rfl, hn⟩ | ⟨g, cap, cur, rfl, _⟩
 ·exact ⟨none, 0, by rw [hn], ho.1, fun h => absurd h (by omega)⟩
 ·refine ⟨_, _, rfl, ho.1, fun _ => ⟨g, 0, rfl, hF g (hg g rfl), fun j u hu => ?_⟩⟩
  have := ho.cells (g := g) rfl j u hu
  rw [Addr.add_mid] at this
  exact this
theorem aH.pE {Y : Nat → Prop} {w : World} {F : Nat → Prop} {t : TypeId} {g sz n c : Nat} {xs : List Value} (h : (HP.aF g t xs).sat F w) (hF : ∀ b, F b → Y b) (hn : xs.length = n * sz) : aH ⟨w, Y⟩ sz (some ⟨g, 0, none⟩) n xs := by
 obtain ⟨hg, hb⟩ := h
 refine ⟨hn, fun _ => ⟨g, 0, rfl, hF g hg, fun j u hu => ?_⟩⟩
 rw [Nat.zero_add, hb.cell]
 simpa using hu
theorem aH.own {q : Piece} {e : TypeId} {sz n c : Nat} {A : Option Addr} {xs : List Value} (h : ∃ F, (HP.own e sz (.slice A n c) n xs).sat F q.w ∧ ∀ b, F b → q.Z b) : aH q sz A n xs := by
 obtain ⟨F, h1, h2⟩ := h
 obtain ⟨A', c', he, hs⟩ := aH.rN (Y := q.Z) (w := q.w) h1 h2
 injection he with he
 subst he
 exact hs
def qM (P : Program) (t : TypeId) : Bool := match P.underlying t with
 | some (.struct _) | some (.array _ _) => false
 | some _ => (P.info? t).any (·.size == 1)
 | none => false
def vV (P : Program) (t : TypeId) (n : Nat) : Bool := match P.underlying t with
 | some (.struct _) | some (.array _ _) => (P.info? t).any (·.size == n)
 | _ => false
def yS (P : Program) (t : TypeId) (cs : List Value) : Prop := ∃ i z, P.info? t = some i ∧ i.zero = some z ∧ z.cells.toList = cs
def fK (P : Program) (f : FuncId) : Bool := (P.funcs[f]?).any fun fn => fn.name != "runtime.NumGoroutine" && fn.body.isSome
theorem Zo {P : Program} {w : World} {t : TypeId} {b o : Nat} {v : Value} (h : qM P t = true) (hc : w.cell? ⟨b, o, none⟩ = some v) : (Instr.loadAt t (.pointer (some ⟨b, o, none⟩))).run P w = .ok v w := by
 unfold qM at h
 split at h
 ·cases h
 ·cases h
 ·rename_i d h1 h2 hu
  have Vf : (isAgg t).run P w = .ok false w := by
   unfold isAgg
   rw [Sem.run_bind, run_underlying hu]
   cases d <;> first | rfl | exact (h1 _ rfl).elim | exact (h2 _ _ rfl).elim
  simp [Instr.loadAt, Instr.sureAddr, loadVar, Sem.run_bind, Vf, run_load, hc]
 ·cases h
theorem Ht {P : Program} {w : World} {t : TypeId} {b o n : Nat} {vs : List Value} (h : vV P t n = true) (hn : vs.length = n) (hc : w.rangeAt b o vs) : (Instr.loadAt t (.pointer (some ⟨b, o, none⟩))).run P w = .ok (.agg vs.toArray) w := by
 subst hn
 unfold vV at h
 have hi : ∀ (x : Option TypeInfo), x.any (·.size == vs.length) = true → x.map (·.size) = some vs.length := by intro x hx; cases x <;> simp_all
 split at h
 ·rename_i hu; exact run_loadAt_mid w b o t vs _ hc hu rfl (hi _ h)
 ·rename_i hu; exact run_loadAt_mid w b o t vs _ hc hu rfl (hi _ h)
 ·cases h
def cC (cs : List Value) (o : Nat) (vs : List Value) : List Value := cs.take o ++ vs ++ cs.drop (o + vs.length)
theorem Hy {cs vs : List Value} (h : vs.length = cs.length) : cC cs 0 vs = vs := by simp [cC, h]
theorem aDT {cs : List Value} {o : Nat} {v : Value} (h : o < cs.length) : cC cs o [v] = cs.set o v := by
 unfold cC
 rw [List.set_eq_take_append_cons_drop, if_pos h]
 simp
theorem aDk {P : Program} {w : World} {t ty : TypeId} {g o : Nat} {cs : List Value} {v : Value} (hb : dQ w g t cs.toArray) (hi : (P.info? ty).any (·.size == v.cells.size) = true) (h1 : ∀ u ∈ v.cells.toList, u.oneCell' = true) (hl : o + v.cells.size ≤ cs.length) :
  (Instr.storeAt ty (.pointer (some ⟨g, o, none⟩)) v).run P w = .ok () (w.setRow g (cC cs o v.cells.toList).toArray) := by
 have hs := run_storeCells_at P g o t v.cells.toList 0 cs.toArray w hb (by simpa using hl) h1
 cases hq : P.info? ty with
 | none => simp [hq] at hi
 | some i =>
  have hz : i.size = v.cells.size := by simpa [hq] using hi
  simp [Instr.storeAt, Instr.sureAddr, storeVar, sizeOf, typeInfo, hq, hz, hs, cC]
theorem setRow_size (w : World) (g : Nat) (c : Array Value) : (w.setRow g c).heap.size = w.heap.size := by simp [World.setRow]
theorem setRow_other (w : World) (g : Nat) (c : Array Value) (b : Nat) (h : b ≠ g) : (w.setRow g c).heap[b]? = w.heap[b]? := by simp [World.setRow, Array.getElem?_modify, Ne.symm h]
section
variable {P : Program} {N : cN} {w0 : World} {e : Env} {R : List Piece} {H : List HP} {Q : Exit → Act → World → Prop} {ops : Array Oper} {rest : List Oper}
variable {d : Nat} {ty : TypeId} {pos : String} {aJ : Array Edge}
def Rd (w0 : World) (R : List Piece) (H : List HP) (b o : Nat) (v : Value) : Prop := ∀ w, St w0 R H w → w.cell? ⟨b, o, none⟩ = some v
def aD (w0 : World) (R : List Piece) (H : List HP) (b o : Nat) (vs : List Value) : Prop := ∀ w, St w0 R H w → w.rangeAt b o vs
theorem Rd.aF (i : Nat) {b o : Nat} {t : TypeId} {cs : List Value} {v : Value} (hi : H[i]? = some (HP.aF b t cs)) (hv : cs[o]? = some v) : Rd w0 R H b o v := fun w st => by
 rw [(st.aF hi).cell]; simpa using hv
theorem Rd.own (i : Nat) {b o n c sz : Nat} {t : TypeId} {xs : List Value} {v : Value} (hi : H[i]? = some (HP.own t sz (.slice (some ⟨b, 0, none⟩) n c) n xs)) (hv : xs[o]? = some v) : Rd w0 R H b o v := fun w st => by
 have := (st.own hi).cells (g := b) rfl o v hv
 rw [Addr.add_mid, Nat.zero_add] at this
 exact this
theorem Rd.ro {p : Piece} {b o : Nat} {v : Value} (hp : p ∈ R) (hz : p.Z b) (hv : p.w.cell? ⟨b, o, none⟩ = some v) : Rd w0 R H b o v := fun w st => (st.aD6 hp hz).trans hv
theorem aD.of {b o : Nat} {vs : List Value} (h : ∀ j v, vs[j]? = some v → Rd w0 R H b (o + j) v) : aD w0 R H b o vs := fun w st j v hv => h j v hv w st
theorem aD.aF (i : Nat) {b o : Nat} {t : TypeId} {cs vs : List Value} (hi : H[i]? = some (HP.aF b t cs)) (hv : ∀ j v, vs[j]? = some v → cs[o + j]? = some v) : aD w0 R H b o vs := .of fun j v h => .aF i hi (hv j v h)
theorem aD.whole (i : Nat) {b : Nat} {t : TypeId} {cs : List Value} (hi : H[i]? = some (HP.aF b t cs)) : aD w0 R H b 0 cs := .aF i hi (fun j v h => by rw [Nat.zero_add]; exact h)
theorem gA {x : Operand} {t : TypeId} {b o : Nat} {v : Value} (ht : qM P t = true) (hx : e.ev x = some (.pointer (some ⟨b, o, none⟩))) (hr : Rd w0 R H b o v) (hd : d < N.n) (k : XK N w0 (wpList P ops Q rest) ((d, v) :: e) R H) :
  XK N w0 (wpList P ops Q (⟨some d, .load t x, ty, pos, aJ, none⟩ :: rest)) e R H :=
 qB rfl fun a w bM st => ⟨v, w, by simp [execOp, bM.ev hx, Zo ht (hr w st)], k _ _ (bM.put hd v) st⟩
theorem tZ (n : Nat) {x : Operand} {t : TypeId} {b o : Nat} {vs : List Value} (ht : vV P t n = true) (hx : e.ev x = some (.pointer (some ⟨b, o, none⟩))) (hr : aD w0 R H b o vs) (hn : vs.length = n) (hd : d < N.n) (k : XK N w0 (wpList P ops Q rest) ((d, .agg vs.toArray) :: e) R H) :
  XK N w0 (wpList P ops Q (⟨some d, .load t x, ty, pos, aJ, none⟩ :: rest)) e R H :=
 qB rfl fun a w bM st => ⟨_, w, by simp [execOp, bM.ev hx, Ht ht hn (hr w st)], k _ _ (bM.put hd _) st⟩
theorem aBh (w : World) (t : TypeId) (cs : List Value) : (HP.aF w.heap.size t cs).sat (fresh w (w.alloc (.cells cs.toArray t))).Z (w.alloc (.cells cs.toArray t)) := ⟨⟨Nat.le_refl _, by simp⟩, dQ.new w t cs.toArray⟩
theorem Fv (w : World) (o : Obj) : Below w.heap.size w (w.alloc o) := (Below.refl _ _).alloc (Nat.le_refl _) o
theorem Ml {o : Oper} (hg : o.guard = none) {t : TypeId} {cs : List Value} {val : Nat → Value} (uQ : o.dst = some d) (hd : d < N.n)
  (hrun : ∀ a w, cY N e a → St w0 R H w → (execOp a.eval o).run P w = .ok (.value (val w.heap.size)) (w.alloc (.cells cs.toArray t)))
  (k : ∀ g, XK N w0 (wpList P ops Q rest) ((d, val g) :: e) R (HP.aF g t cs :: H)) : XK N w0 (wpList P ops Q (o :: rest)) e R H :=
 qB hg fun a w hr st => ⟨_, _, hrun a w hr st, by
  rw [uQ]
  exact k w.heap.size _ _ (hr.put hd _) (st.new (Fv w _) (aBh w t cs))⟩
theorem bZ {t : TypeId} {cs : List Value} (ht : yS P t cs) (hd : d < N.n) (k : ∀ g, XK N w0 (wpList P ops Q rest) ((d, .pointer (some ⟨g, 0, none⟩)) :: e) R (HP.aF g t cs :: H)) :
  XK N w0 (wpList P ops Q (⟨some d, .alloc t, ty, pos, aJ, none⟩ :: rest)) e R H :=
 Ml (val := fun g => .pointer (some ⟨g, 0, none⟩)) rfl rfl hd (fun a w hr st => by
  obtain ⟨i, z, hi, hz, rfl⟩ := ht
  simp [execOp, Instr.alloc, zeroValue, typeInfo, hi, hz, newVar, newRow]) k
theorem bY {x : Operand} {v : Value} {t : TypeId} (hx : e.ev x = some v) (hd : d < N.n) (k : ∀ g, XK N w0 (wpList P ops Q rest) ((d, .pointer (some ⟨g, 0, none⟩)) :: e) R (HP.aF g t v.cells.toList :: H)) :
  XK N w0 (wpList P ops Q (⟨some d, .box t x, ty, pos, aJ, none⟩ :: rest)) e R H :=
 Ml (val := fun g => .pointer (some ⟨g, 0, none⟩)) rfl rfl hd (fun a w hr st => by simp [execOp, hr.ev hx, Instr.box, newVar, newRow]) k
def Env.parts (e : Env) : List (Nat × Operand) → Option (List (Nat × Value))
 | [] => some []
 | (i, x) :: xs => match e.ev x, e.parts xs with
  | some v, some vs => some ((i, v) :: vs)
  | _, _ => none
theorem cY.parts {a : Act} (h : cY N e a) : ∀ {xs : List (Nat × Operand)} {vs : List (Nat × Value)}, e.parts xs = some vs → xs.map (fun (i, x) => (i, a.eval x)) = vs
 | [], vs, hx => by cases hx; rfl
 | (i, x) :: xs, vs, hx => by
  unfold Env.parts at hx
  split at hx
  ·rename_i v r h1 h2
   cases hx
   rw [List.map_cons, h.parts h2]
   simp [h.ev h1]
  ·cases hx
theorem aCB {t : TypeId} {ps : List (Nat × Operand)} {vs : List (Nat × Value)} {cs : List Value} (hp : e.parts ps = some vs) (hb : ∀ w, (Instr.build t vs.toArray).run P w = .ok (.agg cs.toArray) w) (hd : d < N.n)
  (k : XK N w0 (wpList P ops Q rest) ((d, .agg cs.toArray) :: e) R H) : XK N w0 (wpList P ops Q (⟨some d, .build t ps.toArray, ty, pos, aJ, none⟩ :: rest)) e R H :=
 fW hd (fun a w hr => by
  have := hr.parts hp
  simp only [execOp, List.map_toArray, this, Sem.run_bind, hb, Result.andThen_ok, Sem.run_pure]) k
theorem Yj {t el : TypeId} {n : Nat} {ps : List (Nat × Operand)} {vs : List (Nat × Value)} {cs : List Value} (hp : e.parts ps = some vs) (hb : ∀ w, (Instr.buildSlice t n vs.toArray).run P w = .ok (.slice (some ⟨w.heap.size, 0, none⟩) n n) (w.alloc (.cells cs.toArray el))) (hd : d < N.n)
  (k : ∀ g, XK N w0 (wpList P ops Q rest) ((d, .slice (some ⟨g, 0, none⟩) n n) :: e) R (HP.aF g el cs :: H)) : XK N w0 (wpList P ops Q (⟨some d, .buildSlice t n ps.toArray, ty, pos, aJ, none⟩ :: rest)) e R H :=
 Ml (val := fun g => .slice (some ⟨g, 0, none⟩) n n) rfl rfl hd (fun a w hr st => by
  have := hr.parts hp
  simp only [execOp, List.map_toArray, this, Sem.run_bind, hb, Result.andThen_ok, Sem.run_pure]) k
def aU (cs : List Value) (o : Nat) : List Value → List Value
 | [] => cs
 | v :: vs => aU (cs.set o v) (o + 1) vs
def Ny (P : Program) (t : TypeId) : Option (List (Nat × Nat)) := match P.underlying t with
 | some (.struct fs) => fs.toList.mapM fun f => (P.info? f.type).map fun i => (f.offset, i.size)
 | _ => none
def aR (L : List (Nat × Nat)) (cs : List Value) : List (Nat × Value) → Option (List Value)
 | [] => some cs
 | (i, v) :: rest => match L[i]? with
  | some (off, sz) => if v.cells.size = sz ∧ off + sz ≤ cs.length then aR L (aU cs off v.cells.toList) rest else none
  | none => none
theorem Rr : ∀ (vs : List Value) (cs : List Value) (off k : Nat), (vs.zipIdx k).foldl (fun (a : Array Value) (x : Value × Nat) => a.setIfInBounds (off + x.2) x.1) cs.toArray = (aU cs (off + k) vs).toArray
 | [], cs, off, k => rfl
 | v :: vs, cs, off, k => by
  rw [List.zipIdx_cons, List.foldl_cons, aU, List.setIfInBounds_toArray, Rr vs _ off (k + 1)]
  rfl
theorem fill_eq (L : List (Nat × Nat)) (place : Nat → Option (Nat × Nat)) (hp : ∀ i, place i = L[i]?) : ∀ (ps : List (Nat × Value)) (cs cs' : List Value), aR L cs ps = some cs' → Instr.fill place cs.toArray ps = some cs'.toArray
 | [], cs, cs', h => by cases h; rfl
 | (i, v) :: rest, cs, cs', h => by
  unfold aR at h
  unfold Instr.fill
  rw [hp]
  split at h
  ·rename_i off sz hL
   rw [hL]
   split at h
   ·rename_i hc
    have e1 : (decide (v.cells.size ≠ sz) || decide (off + v.cells.size > cs.toArray.size)) = false := by simp; omega
    simp only [e1, Bool.false_eq_true, if_false]
    have := Rr v.cells.toList cs off 0
    rw [show v.cells.zipIdx.foldl (fun cs (c, j) => cs.setIfInBounds (off + j) c) cs.toArray = (aU cs off v.cells.toList).toArray by
     rw [← Array.foldl_toList, Array.toList_zipIdx]; exact this]
    exact fill_eq L place hp rest _ cs' h
   ·cases h
  ·cases h
theorem aBS {t : TypeId} {vs : List (Nat × Value)} {zs cs : List Value} {L : List (Nat × Nat)} (hz : yS P t zs) (hL : Ny P t = some L) (hf : aR L zs vs = some cs) : ∀ w, (Instr.build t vs.toArray).run P w = .ok (.agg cs.toArray) w := fun w => by
  obtain ⟨i, z, hi, sW, rfl⟩ := hz
  unfold Ny at hL
  split at hL
  ·rename_i fs hu
   have hs1 : ∀ (f : Field) (j : TypeInfo), P.info? f.type = some j → ∀ w, ((fun f : Field => Prod.mk f.offset <$> sizeOf f.type) f).run P w = .ok (f.offset, j.size) w := by
    intro f j hj w
    simp [sizeOf, typeInfo, hj]
   have hm : ∀ (l : List Field) (L : List (Nat × Nat)), (l.mapM fun f => (P.info? f.type).map fun i => (f.offset, i.size)) = some L → ∀ w, (l.mapM (fun f => Prod.mk f.offset <$> sizeOf f.type)).run P w = .ok L w := by
    intro l
    induction l with
    | nil => intro L h w; simp at h; subst h; rfl
    | cons f l ih =>
     intro L h w
     simp only [List.mapM_cons, Option.bind_eq_bind, Option.bind_eq_some_iff, Option.pure_def, Option.some.injEq, Option.map_eq_some_iff] at h
     obtain ⟨x, ⟨j, hj, rfl⟩, L', hL', rfl⟩ := h
     rw [List.mapM_cons]
     simp only [Sem.run_bind]
     have h1 := hs1 f j hj w
     rw [h1]
     simp only [Result.andThen_ok, ih L' hL' w, Sem.run_pure]
   have hm' : (fs.mapM (fun f => Prod.mk f.offset <$> sizeOf f.type)).run P w = .ok L.toArray w := by
    rw [Array.mapM_eq_mapM_toList]
    simp [hm fs.toList L hL w]
   have hfl := fill_eq L (L.toArray[·]?) (fun i => by rw [List.getElem?_toArray]) vs z.cells.toList cs hf
   simp at hfl
   simp [Instr.build, zeroValue, typeInfo, hi, sW, run_underlying hu, hm', hfl]
  ·cases hL
theorem gD {t : TypeId} {ps : List (Nat × Operand)} {vs : List (Nat × Value)} {zs cs : List Value} {L : List (Nat × Nat)} (hz : yS P t zs) (hL : Ny P t = some L) (hp : e.parts ps = some vs) (hf : aR L zs vs = some cs) : bH P N w0 e R H ⟨some d, .build t ps.toArray, ty, pos, aJ, none⟩ (.agg cs.toArray) :=
 fO (fun a w hr => by
  have := hr.parts hp
  simp only [execOp, List.map_toArray, this, Sem.run_bind, aBS hz hL hf, Result.andThen_ok, Sem.run_pure])
theorem dB {t : TypeId} {ps : List (Nat × Operand)} {vs : List (Nat × Value)} {zs cs : List Value} {L : List (Nat × Nat)} (hz : yS P t zs) (hL : Ny P t = some L) (hp : e.parts ps = some vs) (hf : aR L zs vs = some cs) (hd : d < N.n)
  (k : XK N w0 (wpList P ops Q rest) ((d, .agg cs.toArray) :: e) R H) : XK N w0 (wpList P ops Q (⟨some d, .build t ps.toArray, ty, pos, aJ, none⟩ :: rest)) e R H :=
 aCB hp (aBS hz hL hf) hd k
theorem eP {t el : TypeId} {n sz : Nat} {ps : List (Nat × Operand)} {vs : List (Nat × Value)} {zs cs : List Value} (ht : P.underlying t = some (.slice el)) (hz : yS P el zs) (hsz : (P.info? el).map (·.size) = some sz) (hzs : zs.length = sz) (hpos : 0 < n * sz) (cU : n * sz ≤ 16777216) (hp : e.parts ps = some vs)
  (hf : aR ((List.range n).map fun i => (i * sz, sz)) ((List.range (n * sz)).map fun i => zs.getD (i % sz) undef) vs = some cs) (hd : d < N.n)
  (k : ∀ g, XK N w0 (wpList P ops Q rest) ((d, .slice (some ⟨g, 0, none⟩) n n) :: e) R (HP.aF g el cs :: H)) : XK N w0 (wpList P ops Q (⟨some d, .buildSlice t n ps.toArray, ty, pos, aJ, none⟩ :: rest)) e R H :=
 Yj hp (fun w => by
  obtain ⟨i, z, hi, sW, rfl⟩ := hz
  have hs : i.size = sz := by simpa [hi] using hsz
  have hfl : Instr.fill (fun i => some (i * sz, sz)) ((List.range (n * sz)).map fun i => z.cells.toList.getD (i % sz) undef).toArray vs = some cs.toArray := by
   have key : ∀ (ps : List (Nat × Value)) (cs0 cs' : List Value), aR ((List.range n).map fun i => (i * sz, sz)) cs0 ps = some cs' → Instr.fill (fun i => some (i * sz, sz)) cs0.toArray ps = some cs'.toArray := by
    intro ps
    induction ps with
    | nil => intro cs0 cs' h; cases h; rfl
    | cons p ps ih =>
     intro cs0 cs' h
     obtain ⟨i, v⟩ := p
     unfold aR at h
     split at h
     ·rename_i off s' hL
      split at h
      ·rename_i hc
       have hLL : off = i * sz ∧ s' = sz := by
        rw [List.getElem?_map] at hL
        rcases Option.map_eq_some_iff.1 hL with ⟨q, hq, he⟩
        have : q = i := by
         rw [List.getElem?_range] at hq
         ·cases hq; rfl
         ·rcases Nat.lt_or_ge i n with h | h
          ·exact h
          ·rw [List.getElem?_eq_none (by simpa using h)] at hq; cases hq
        subst this
        cases he
        exact ⟨rfl, rfl⟩
       obtain ⟨e1, e2⟩ := hLL
       rw [e1] at hc h
       rw [e2] at hc
       have := fill_eq [(i * sz, sz)] (fun j => if j = 0 then some (i * sz, sz) else none) (fun j => by cases j <;> simp) [(0, v)] cs0 (aU cs0 (i * sz) v.cells.toList) (by
        unfold aR
        simp only [List.getElem?_cons_zero]
        rw [if_pos hc]
        rfl)
       unfold Instr.fill at this ⊢
       simp only [if_true] at this ⊢
       split
       ·rename_i aBc; rw [if_pos aBc] at this; cases this
       ·rename_i hok
        rw [if_neg hok] at this
        unfold Instr.fill at this
        rw [Option.some.inj this]
        exact ih _ cs' h
      ·cases h
     ·cases h
   exact key vs _ cs hf
  have hz0 : z.cells.size = sz := by simpa using hzs
  have e1 : (Array.range (n * i.size)).map (fun j => z.cells[j % z.cells.size]!) = ((List.range (n * sz)).map fun i => z.cells.toList.getD (i % sz) undef).toArray := by
   rw [hs]
   apply Array.ext
   ·simp
   ·intro j h1 h2
    have hj : j % sz < z.cells.size := by rw [hz0]; exact Nat.mod_lt _ (by rcases Nat.eq_zero_or_pos sz with h | h; subst h; simp at hpos; exact h)
    simp only [Array.getElem_map, Array.getElem_range, hz0, List.getElem_toArray, List.getElem_map, List.getElem_range]
    rw [getElem!_pos z.cells _ hj, List.getD_eq_getElem?_getD, List.getElem?_eq_getElem (by simpa using hj)]
    simp
  have h3z : ¬ n * sz = 0 := by omega
  have h2' : ¬ 16777216 < n * sz := by omega
  have h3' : ¬ (n = 0 ∨ sz = 0) := by intro h; rcases h with h | h <;> subst h <;> simp at hpos
  simp only [Instr.buildSlice, Sem.run_bind, run_underlying ht, Result.andThen_ok, sizeOf, typeInfo, zeroValue]
  rw [hs] at e1
  rw [← e1] at hfl
  simp [hi, hs, sW, h3z, h3', h2', newRow]
  rw [hfl]
  simp) hd k
theorem aC7 {x y : Operand} {t el : TypeId} {n : Nat} {i : TypeInfo} {z : Value} {kd oB : IntKind} (ht : P.underlying t = some (.slice el)) (hi : P.info? el = some i) (hz : i.zero = some z) (hs : i.size = 1) (Iw : z.cells = #[z]) (hx : e.ev x = some (.int kd (n : Int))) (hy : e.ev y = some (.int oB (n : Int)))
  (hb : (i.bytes : Int) * n ≤ 281474976710656) (hn : (n : Int) ≤ 9223372036854775807) (hd : d < N.n) (k : ∀ g, XK N w0 (wpList P ops Q rest) ((d, .slice (some ⟨g, 0, none⟩) n n) :: e) R (HP.aF g el (List.replicate n z) :: H)) :
  XK N w0 (wpList P ops Q (⟨some d, .makeSlice t x y, ty, pos, aJ, none⟩ :: rest)) e R H :=
 Ml (val := fun g => .slice (some ⟨g, 0, none⟩) n n) rfl rfl hd (fun a w hr st => by
  have := run_make (P := P) w t el i z ht hi hz kd oB n n (by omega) (Int.le_refl _) hb hn
  have hm : madeCells z.cells (n * i.size) = (List.replicate n z).toArray := by
   rw [hs, Nat.mul_one, Iw]
   unfold madeCells
   apply Array.ext
   ·simp
   ·intro j h1 h2
    simp
    rw [Nat.mod_one]
    rfl
  simp only [Int.toNat_natCast, hm] at this
  simp only [execOp, hr.ev hx, hr.ev hy, Sem.run_bind, this, Result.andThen_ok, Sem.run_pure]) k
theorem XK.Ls (i : Nat) {K : Act → World → Prop} {g : Nat} {t : TypeId} {cs : List Value} (sz n : Nat) (hi : H[i]? = some (HP.aF g t cs)) (hl : cs.length = n * sz) (hn : (n : Int) ≤ 9223372036854775807) (h : XK N w0 K e R (H.set i (HP.own t sz (.slice (some ⟨g, 0, none⟩) n n) n cs))) : XK N w0 K e R H := fun a w hr st =>
 h a w hr (st.sL hi (Nat.le_refl _) rfl rfl rfl fun F hF hlt => ⟨F, ⟨fun g' hg' => by simp [Value.ownBlock] at hg'; exact hg' ▸ hF.1, hl, .inr ⟨g, n, cs.toArray, rfl, Nat.zero_le _, hF.2, Nat.le_refl _, by unfold maxLen; omega, by simpa using hl, by simp [← hl]⟩⟩, fun b hb => ⟨.inl hb, hlt b hb⟩, fun _ _ _ => rfl⟩)
theorem XK.kN {K : Act → World → Prop} (t : TypeId) (sz : Nat) (h : XK N w0 K e R (HP.own t sz (.slice none 0 0) 0 [] :: H)) : XK N w0 K e R H := fun a w hr st =>
 h a w hr (st.new (w' := w) (Below.refl _ _) ⟨fun g hg => by simp [Value.ownBlock] at hg, World.ownsRow_nil _ _ _ _⟩)
theorem aC6 {x y : Operand} {t el : TypeId} {c : Nat} {i : TypeInfo} {z : Value} {kd oB : IntKind} {sz : Nat} (ht : P.underlying t = some (.slice el)) (hi : P.info? el = some i) (hz : i.zero = some z) (hs : i.size = sz) (hx : e.ev x = some (.int kd 0)) (hy : e.ev y = some (.int oB (c : Int)))
  (hb : (i.bytes : Int) * c ≤ 281474976710656) (hn : (c : Int) ≤ 9223372036854775807) (hd : d < N.n) (k : ∀ g, XK N w0 (wpList P ops Q rest) ((d, .slice (some ⟨g, 0, none⟩) 0 c) :: e) R (HP.own el sz (.slice (some ⟨g, 0, none⟩) 0 c) 0 [] :: H)) :
  XK N w0 (wpList P ops Q (⟨some d, .makeSlice t x y, ty, pos, aJ, none⟩ :: rest)) e R H :=
 qB rfl fun a w hr st => by
  have := run_make (P := P) w t el i z ht hi hz kd oB 0 c (Int.le_refl _) (by omega) hb hn
  simp only [Int.toNat_zero, Int.toNat_natCast] at this
  refine ⟨.slice (some ⟨w.heap.size, 0, none⟩) 0 c, w.alloc (.cells (madeCells z.cells (c * i.size)) el), by simp only [execOp, hr.ev hx, hr.ev hy, Sem.run_bind, this, Result.andThen_ok, Sem.run_pure], k w.heap.size _ _ (hr.put hd _) (st.new (Fv w _) ⟨fun g hg => ?_, ?_⟩)⟩
  ·simp [Value.ownBlock] at hg; subst hg; exact ⟨Nat.le_refl _, by simp⟩
  ·exact World.ownsRow_made w _ c (Nat.zero_le _) (by unfold maxLen; omega) (by rw [size_madeCells, hs])
theorem Qn {o : Oper} (hg : o.guard = none) (uQ : o.dst = none) (h : ∀ a w, cY N e a → St w0 R H w → ∃ w', (execOp a.eval o).run P w = .ok .skip w' ∧ wpList P ops Q rest a w') : XK N w0 (wpList P ops Q (o :: rest)) e R H := fun a w hr st => wpList_plain hg fun K hK => by
 obtain ⟨w', h1, h2⟩ := h a w hr st
 unfold Oper.wp
 rw [h1]
 simp only [Oper.upon, uQ]
 exact hK _ _ h2
theorem kC (i : Nat) {x y : Operand} {s t : TypeId} {g o : Nat} {cs : List Value} {v : Value} (hi : H[i]? = some (HP.aF g t cs)) (hx : e.ev x = some (.pointer (some ⟨g, o, none⟩))) (hy : e.ev y = some v)
  (hs : (P.info? s).any (·.size == v.cells.size) = true) (h1 : ∀ u ∈ v.cells.toList, u.oneCell' = true) (hl : o + v.cells.size ≤ cs.length) (k : XK N w0 (wpList P ops Q rest) e R (H.set i (HP.aF g t (cC cs o v.cells.toList)))) :
  XK N w0 (wpList P ops Q (⟨none, .store s x y, ty, pos, aJ, none⟩ :: rest)) e R H :=
 Qn rfl rfl fun a w hr st => by
  have hb := st.aF hi
  have hrun := aDk (P := P) (ty := s) hb hs h1 hl
  refine ⟨w.setRow g (cC cs o v.cells.toList).toArray, by simp only [execOp, hr.ev hx, hr.ev hy, Sem.run_bind, hrun, Result.andThen_ok, Sem.run_pure], k _ _ hr ?_⟩
  refine st.sL hi (by rw [setRow_size]; exact Nat.le_refl _) rfl rfl rfl fun F hF hlt => ⟨F, ⟨hF.1, setRow_heap w g _ _ t _ hb⟩, fun b hb => ⟨.inl hb, by rw [setRow_size]; exact hlt b hb⟩, fun b _ hnb => setRow_other _ _ _ _ (fun h => hnb (h ▸ hF.1))⟩
theorem yT (i : Nat) {x y : Operand} {s t : TypeId} {g o : Nat} {cs : List Value} {v : Value} (hi : H[i]? = some (HP.aF g t cs)) (hs : qM P s = true) (hx : e.ev x = some (.pointer (some ⟨g, o, none⟩))) (hy : e.ev y = some v)
  (h1 : v.oneCell' = true) (hl : o < cs.length) (k : XK N w0 (wpList P ops Q rest) e R (H.set i (HP.aF g t (cs.set o v)))) :
  XK N w0 (wpList P ops Q (⟨none, .store s x y, ty, pos, aJ, none⟩ :: rest)) e R H := by
 have hc : v.cells = #[v] := by cases v <;> first | rfl | (simp [Value.oneCell'] at h1)
 have hz : (P.info? s).any (·.size == v.cells.size) = true := by
  unfold qM at hs
  rw [hc]
  split at hs
  ·cases hs
  ·cases hs
  ·simpa using hs
  ·cases hs
 refine kC i hi hx hy hz (by rw [hc]; simpa using h1) (by rw [hc]; simp; omega) ?_
 rw [hc]
 show XK N w0 (wpList P ops Q rest) e R (H.set i (HP.aF g t (cC cs o [v])))
 rw [aDT hl]
 exact k
theorem aCC (i : Nat) {x y : Operand} {t el : TypeId} {sz bytes n m c' n' : Nat} {v : Value} {A : Option Addr} {xs news : List Value} (ti : TypeInfo) (z : Value) (ht : P.underlying t = some (.slice el)) (Tq : P.info? el = some ti) (hz : ti.zero = some z) (hsz : ti.size = sz) (hby : ti.bytes = bytes) (hzs : z.cells.size = sz) (hpos : 0 < sz)
  (hi : H[i]? = some (HP.own el sz v n xs)) (hx : e.ev x = some v) (hy : e.ev y = some (.slice A m c')) (hs : ∀ w, St w0 R H w → ∃ B, Sl w B sz A m news) (h1 : ∀ u ∈ news, u.oneCell' = true) (hn : n + m = n') (h63 : (n' : Int) ≤ 9223372036854775807) (hbytes : n' * bytes ≤ 140737488355328) (hd : d < N.n)
  (k : ∀ A' k', XK N w0 (wpList P ops Q rest) ((d, .slice A' n' k') :: e) R (H.set i (HP.own el sz (.slice A' n' k') n' (xs ++ news)))) :
  XK N w0 (wpList P ops Q (⟨some d, .call { callee := .builtin .append, args := #[x, y], argTypes := #[t, t] }, ty, pos, aJ, none⟩ :: rest)) e R H :=
 qB rfl fun a w hr st => by
  subst hn
  have hown := st.own hi
  obtain ⟨B, pJ⟩ := hs w st
  obtain ⟨v', w', hrun, h2, h3, h4⟩ := aDw (P := P) w 0 t ty el ti z sz bytes ht Tq hz hsz hby hzs hpos v n xs hown B A m c' news pJ h1 (by unfold maxLen; omega) hbytes (Nat.zero_le _)
  obtain ⟨A', k', rfl, _⟩ := aEe h2
  refine ⟨_, w', by simp only [execOp, resolve, invoke, builtin, hr.ev hx, hr.ev hy, List.map_toArray, List.map_cons, List.map_nil, Sem.run_bind, Sem.run_pure, Result.andThen_ok, hrun], k A' k' _ _ (hr.put hd _) ?_⟩
  refine st.sL hi h3.size h3.os h3.tape h3.output fun F hF hlt => ⟨fun b => F b ∨ (w.heap.size ≤ b ∧ b < w'.heap.size), ⟨fun g hg => ?_, h2⟩, fun b hb => ?_, fun b hb hnb => h3.block b hb (fun he => hnb (hF.1 b he.symm))⟩
  ·rcases h4 with h4 | h4
   ·exact .inl (hF.1 g (h4 ▸ hg))
   ·rw [h4] at hg
    cases hg
    refine .inr ⟨Nat.le_refl _, ?_⟩
    exact (h2.lt w.heap.size h4).2
  ·rcases hb with hb | hb
   ·exact ⟨.inl hb, Nat.lt_of_lt_of_le (hlt b hb) h3.size⟩
   ·exact ⟨.inr hb.1, hb.2⟩
theorem kL (i : Nat) {g t sz m : Nat} {cs : List Value} (hi : H[i]? = some (HP.aF g t cs)) (hl : cs.length = m * sz) : ∀ w, St w0 R H w → ∃ B, Sl w B sz (some ⟨g, 0, none⟩) m cs := fun w st => ⟨_, by
 have := Sl.pE (n := m) (sz := sz) (st.aF hi) (by simpa using hl)
 simpa using this⟩
theorem qI {p : Piece} {sz m : Nat} {A : Option Addr} {cs : List Value} (hp : p ∈ R) (h : aH p sz A m cs) : ∀ w, St w0 R H w → ∃ B, Sl w B sz A m cs := fun w st => ⟨_, h.sl (st.le hp)⟩
theorem aM {t : TypeId} {cs : List Value} (h : ((P.info? t).bind (·.zero)).map (·.cells.toList) = some cs) : yS P t cs := by
 obtain ⟨z, hz, rfl⟩ := Option.map_eq_some_iff.1 h
 obtain ⟨i, hi, hz⟩ := Option.bind_eq_some_iff.1 hz
 exact ⟨i, z, hi, hz, rfl⟩
theorem kD (bytes : Nat) {x y : Operand} {t el : TypeId} {n : Nat} {z : Value} {kd oB : IntKind} (ht : P.underlying t = some (.slice el)) (hT : (P.info? el).map (fun i => (i.zero, i.size, i.bytes)) = some (some z, 1, bytes)) (Iw : z.cells = #[z]) (hx : e.ev x = some (.int kd (n : Int))) (hy : e.ev y = some (.int oB (n : Int)))
  (hb : bytes * n ≤ 281474976710656) (hn : (n : Int) ≤ 9223372036854775807) (hd : d < N.n) (k : ∀ g, XK N w0 (wpList P ops Q rest) ((d, .slice (some ⟨g, 0, none⟩) n n) :: e) R (HP.aF g el (List.replicate n z) :: H)) :
  XK N w0 (wpList P ops Q (⟨some d, .makeSlice t x y, ty, pos, aJ, none⟩ :: rest)) e R H := by
 obtain ⟨i, hi, he⟩ := Option.map_eq_some_iff.1 hT
 simp only [Prod.mk.injEq] at he
 obtain ⟨h1, h2, rfl⟩ := he
 exact aC7 ht hi h1 h2 Iw hx hy (by rw [← Int.natCast_mul]; omega) hn hd k
theorem Yf (sz bytes : Nat) {x y : Operand} {t el : TypeId} {c k0 : Nat} {kd oB : IntKind} (ht : P.underlying t = some (.slice el)) (hT : (P.info? el).map (fun i => (i.zero.map (fun z => z.cells.size), i.size, i.bytes)) = some (some k0, sz, bytes)) (hx : e.ev x = some (.int kd 0)) (hy : e.ev y = some (.int oB (c : Int)))
  (hb : bytes * c ≤ 281474976710656) (hn : (c : Int) ≤ 9223372036854775807) (hd : d < N.n) (k : ∀ g, XK N w0 (wpList P ops Q rest) ((d, .slice (some ⟨g, 0, none⟩) 0 c) :: e) R (HP.own el sz (.slice (some ⟨g, 0, none⟩) 0 c) 0 [] :: H)) :
  XK N w0 (wpList P ops Q (⟨some d, .makeSlice t x y, ty, pos, aJ, none⟩ :: rest)) e R H := by
 obtain ⟨i, z, hi, hz, hs, hby, _⟩ := aAC hT
 subst hby
 exact aC6 ht hi hz hs hx hy (by rw [← Int.natCast_mul]; omega) hn hd k
theorem fI (i : Nat) (sz bytes m : Nat) {x y : Operand} {t el : TypeId} {n c' n' : Nat} {v : Value} {A : Option Addr} {xs news : List Value} (ht : P.underlying t = some (.slice el)) (hT : (P.info? el).map (fun i => (i.zero.map (fun z => z.cells.size), i.size, i.bytes)) = some (some sz, sz, bytes)) (hpos : 0 < sz)
  (hi : H[i]? = some (HP.own el sz v n xs)) (hx : e.ev x = some v) (hy : e.ev y = some (.slice A m c')) (hs : ∀ w, St w0 R H w → ∃ B, Sl w B sz A m news) (h1 : ∀ u ∈ news, u.oneCell' = true) (hn : n + m = n') (h63 : (n' : Int) ≤ 9223372036854775807) (hbytes : n' * bytes ≤ 140737488355328) (hd : d < N.n)
  (k : ∀ A' k', XK N w0 (wpList P ops Q rest) ((d, .slice A' n' k') :: e) R (H.set i (HP.own el sz (.slice A' n' k') n' (xs ++ news)))) :
  XK N w0 (wpList P ops Q (⟨some d, .call { callee := .builtin .append, args := #[x, y], argTypes := #[t, t] }, ty, pos, aJ, none⟩ :: rest)) e R H := by
 obtain ⟨ti, z, Tq, hz, hsz, hby, hzs⟩ := aAC hT
 exact aCC i ti z ht Tq hz hsz hby hzs hpos hi hx hy hs h1 hn h63 hbytes hd k
theorem iY (ps : List Piece) {f : FuncId} {x : Operand} {args : List Operand} {fi ca vs : List Value} {tys : Array TypeId} (hf : fK P f = true) (hx : e.ev x = some (.func (.func f) fi.toArray ca.toArray)) (ha : e.cV args = some vs) (hd : d < N.n) (hps : ∀ p ∈ ps, p ∈ R)
  (R' : Value → World → World → Prop) (hc : ∀ w, St w0 R H w → Calls P f (fi ++ vs ++ ca).toArray w fun y w' => (∃ v, y = .returned v ∧ R' v w w') ∧ Below w.heap.size w w')
  (k : ∀ v w q, R' v w q.w → (fresh w q.w).Le q → (∀ p ∈ ps, p.Le q) → ((∀ p ∈ ps, lA w0 p) → lA w0 q) → XK N w0 (wpList P ops Q rest) ((d, v) :: e) (q :: R) H) :
  XK N w0 (wpList P ops Q (⟨some d, .call { callee := .value x, args := args.toArray, argTypes := tys }, ty, pos, aJ, none⟩ :: rest)) e R H := fun a w hr st => wpList_plain rfl fun K hK => by
 unfold fK at hf
 cases hq : P.funcs[f]? with
 | none => simp [hq] at hf
 | some fn =>
  simp [hq] at hf
  obtain ⟨fG, fZ⟩ := hf
  have hrun : (execOp a.eval (⟨some d, .call { callee := .value x, args := args.toArray, argTypes := tys }, ty, pos, aJ, none⟩ : Oper)).run P w = .ok (.enter f (fi ++ vs ++ ca).toArray) w := by
   cases hb : fn.body with
   | none => simp [hb] at fZ
   | some c =>
    simp [execOp, resolve, hr.ev hx, Deferred.ofValue, invoke, callFunc, hq, fG, hb, hr.cV ha]
  unfold Oper.wp
  rw [hrun]
  refine (hc w st).mono fun y w' ⟨⟨v, hy, hR⟩, hb⟩ => ?_
  subst hy
  refine hK _ _ (k v w ⟨w', fun b => (fresh w w').Z b ∨ ∃ p ∈ ps, p.Z b⟩ hR (fun b h => ⟨.inl h, rfl⟩) (fun p hp b h => ⟨.inr ⟨p, hp, h⟩, ?_⟩) (fun hfr b hb => ?_) _ _ (hr.put hd v) (st.seen hb (fun b h => h.imp id fun ⟨p, hp, hz⟩ => ⟨p, hps p hp, hz⟩)))
  ·exact (hb.block b (st.Sa (hps p hp) h)).trans (st.ro (hps p hp) h)
  ·rcases hb with hb | ⟨p, hp, hb⟩
   ·exact Nat.le_trans st.size hb.1
   ·exact hfr p hp b hb
theorem Mn {f : FuncId} {x : Operand} {args : List Operand} {fi ca vs : List Value} {tys : Array TypeId} (hf : fK P f = true) (hx : e.ev x = some (.func (.func f) fi.toArray ca.toArray)) (ha : e.cV args = some vs) (hd : d < N.n)
  (R' : Value → Prop) (hc : ∀ w, St w0 R H w → Calls P f (fi ++ vs ++ ca).toArray w fun y w' => (∃ v, y = .returned v ∧ R' v) ∧ Below w.heap.size w w')
  (k : ∀ v, R' v → XK N w0 (wpList P ops Q rest) ((d, v) :: e) R H) :
  XK N w0 (wpList P ops Q (⟨some d, .call { callee := .value x, args := args.toArray, argTypes := tys }, ty, pos, aJ, none⟩ :: rest)) e R H :=
 iY [] hf hx ha hd (by simp) (fun v _ _ => R' v) hc fun v w q hv _ _ _ => fun a w hr st => k v hv a w hr (st.weak (fun p hp => List.mem_cons_of_mem _ hp) id (fun _ _ _ _ h => h) (fun _ _ h => h))
def yO : Nat → List Value → Env
 | _, [] => []
 | i, v :: vs => (i, v) :: yO (i + 1) vs
theorem Lt : ∀ (vs : List Value) (i t : Nat) (v : Value), Env.get (yO i vs) t = some v → i ≤ t ∧ vs[t - i]? = some v
 | [], i, t, v, h => by simp [yO, Env.get] at h
 | u :: vs, i, t, v, h => by
  unfold yO Env.get at h
  split at h
  ·rename_i hk
   have := Nat.eq_of_beq_eq_true hk
   subst this
   cases h
   exact ⟨Nat.le_refl _, by simp⟩
  ·obtain ⟨h1, h2⟩ := Lt vs (i + 1) t v h
   refine ⟨by omega, ?_⟩
   rw [show t - i = (t - (i + 1)) + 1 by omega, List.getElem?_cons_succ]
   exact h2
theorem XK.enter {nn : Nat} {f : FuncId} {fn : Func} {c : Code} {vs : List Value} {w : World} {Post : Ending → World → Prop} (hf : P.funcs[f]? = some fn) (hb : fn.body = some c) (hN : fn.ntmps = nn) (hl : vs.length ≤ nn)
  (h : XK ⟨nn, []⟩ w (c.wp P (bodyPost P fn Post)) (yO 0 vs) [all w] []) : Calls P f vs.toArray w Post := by
 refine calls_of_wp hf hb (h _ _ ⟨?_, rfl, fun t v hv => ?_⟩ (St.start w))
 ·simp; omega
 ·obtain ⟨_, h2⟩ := Lt vs 0 t v hv
  rw [Nat.sub_zero] at h2
  have hlt : t < vs.length := by
   rcases Nat.lt_or_ge t vs.length with h | h
   ·exact h
   ·rw [List.getElem?_eq_none h] at h2; cases h2
  rw [Array.getElem?_append_left (by simpa using hlt)]
  simpa using h2
theorem XK.aI {nn : Nat} {fn : Func} {Post : Ending → World → Prop} {t : Nat} {v : Value} (hr : fn.results = #[.tmp t]) (ht : e.get t = some v) (h : ∀ w, St w0 R H w → Post (.returned v) w) : XK ⟨nn, []⟩ w0 (bodyPost P fn Post .ret) e R H := fun a w bM st =>
 bodyPost_ret (v := v) (by rw [results_tmp hr, Array.getD_eq_getD_getElem?, bM.get t v ht]; rfl) bM.defers (h w st)
theorem XK.fQ {nn : Nat} {fn : Func} {Post : Ending → World → Prop} {t u : Nat} {v v' : Value} (hr : fn.results = #[.tmp t, .tmp u]) (ht : e.get t = some v) (hu : e.get u = some v') (h : ∀ w, St w0 R H w → Post (.returned (.tuple #[v, v'])) w) : XK ⟨nn, []⟩ w0 (bodyPost P fn Post .ret) e R H := fun a w bM st =>
 bodyPost_ret (v := .tuple #[v, v']) (by rw [results_tmp2 hr, Array.getD_eq_getD_getElem?, bM.get t v ht, Array.getD_eq_getD_getElem?, bM.get u v' hu]; rfl) bM.defers (h w st)
theorem XK.kV {nn : Nat} {fn : Func} {Post : Ending → World → Prop} {x : Exit} (hx : x = .ret ∨ x = .normal) (hr : fn.results = #[]) (h : ∀ w, St w0 R H w → Post (.returned (.tuple #[])) w) : XK ⟨nn, []⟩ w0 (bodyPost P fn Post x) e R H := fun a w bM st => by
 rcases hx with rfl | rfl
 ·exact bodyPost_ret (v := .tuple #[]) (results_none hr _ _ _) bM.defers (h w st)
 ·exact bodyPost_end (v := .tuple #[]) (results_none hr _ _ _) bM.defers (h w st)
theorem XK.Dt {nn : Nat} {fn : Func} {Post : Ending → World → Prop} {t n b : Nat} {s : TypeId} {vs : List Value} (hr : fn.results = #[.cell t s]) (hs : vV P s n = true) (hn : vs.length = n) (ht : e.get t = some (.pointer (some ⟨b, 0, none⟩))) (hrd : aD w0 R H b 0 vs) (h : ∀ w, St w0 R H w → Post (.returned (.agg vs.toArray)) w) : XK ⟨nn, []⟩ w0 (bodyPost P fn Post .ret) e R H := fun a w bM st => by
 have hl := Ht (P := P) hs hn (hrd w st)
 refine bodyPost_ret (v := .agg vs.toArray) ?_ bM.defers (h w st)
 have ha := bM.get t _ ht
 simp only [Instr.loadAt, Instr.sureAddr, Sem.run_bind, Sem.run_pure, Result.andThen_ok] at hl
 simp only [results, hr]
 simp [ha, asAddr, hl]
theorem XK.Hw {nn : Nat} {fn : Func} {Post : Ending → World → Prop} {t u n b : Nat} {s : TypeId} {vs : List Value} {v' : Value} (hr : fn.results = #[.cell t s, .tmp u]) (hs : vV P s n = true) (hn : vs.length = n) (ht : e.get t = some (.pointer (some ⟨b, 0, none⟩))) (hrd : aD w0 R H b 0 vs) (hu : e.get u = some v') (h : ∀ w, St w0 R H w → Post (.returned (.tuple #[.agg vs.toArray, v'])) w) : XK ⟨nn, []⟩ w0 (bodyPost P fn Post .ret) e R H := fun a w bM st => by
 have hl := Ht (P := P) hs hn (hrd w st)
 refine bodyPost_ret (v := .tuple #[.agg vs.toArray, v']) ?_ bM.defers (h w st)
 have ha := bM.get t _ ht
 have hb := bM.get u _ hu
 simp only [Instr.loadAt, Instr.sureAddr, Sem.run_bind, Sem.run_pure, Result.andThen_ok] at hl
 simp only [results, hr]
 simp [ha, hb, asAddr, hl]
end
end
section
def Nh (o : Oper) : Nat := o.after.toList.foldl (fun s x => if Region.binds .any x then s ||| 2 ^ x.on else s) 0
def Lm (ops : Array Oper) : Nat → Nat → Nat
 | 0, s => s
 | n + 1, s => Lm ops n (if s.testBit n then s ||| (match ops[n]? with | some o => Nh o | none => 0) else s)
def Bc (ops : Array Oper) (j : Nat) : Bool := match ops[j]? with
 | some o => (List.range j).all fun i => (Lm ops j (Nh o)).testBit i
 | none => true
def yZ (ops : Array Oper) (m : Nat) : Bool := (List.range ops.size).all fun j => decide (j < m) || Bc ops j
def Down (ops : Array Oper) (listed : Array Bool) : Prop := ∀ j o, ops[j]? = some o → listed.getD j false = true → ∀ x ∈ o.after, Region.binds .any x = true → listed.getD x.on false = true
theorem aAf (P : Nat → Prop) : ∀ (l : List Edge) (s : Nat), (∀ i, s.testBit i = true → P i) → (∀ x ∈ l, Region.binds .any x = true → P x.on) → ∀ i, (l.foldl (fun s x => if Region.binds .any x then s ||| 2 ^ x.on else s) s).testBit i = true → P i
 | [], s, hs, _, i, h => hs i h
 | x :: l, s, hs, hl, i, h => by
  rw [List.foldl_cons] at h
  refine aAf P l _ (fun k hk => ?_) (fun y hy => hl y (List.mem_cons_of_mem _ hy)) i h
  split at hk
  ·rename_i hb
   rw [Nat.testBit_or, Bool.or_eq_true] at hk
   rcases hk with hk | hk
   ·exact hs k hk
   ·rw [Nat.testBit_two_pow] at hk
    have : x.on = k := by simpa using hk
    exact this ▸ hl x (by simp) hb
  ·exact hs k hk
theorem Sc {o : Oper} {P : Nat → Prop} (h : ∀ x ∈ o.after, Region.binds .any x = true → P x.on) : ∀ i, (Nh o).testBit i = true → P i :=
 aAf P o.after.toList 0 (fun i hi => by simp at hi) (fun x hx hb => h x (by simpa using hx) hb)
theorem Wr {ops : Array Oper} {listed : Array Bool} (hd : Down ops listed) : ∀ (n s : Nat), (∀ i, s.testBit i = true → listed.getD i false = true) → ∀ i, (Lm ops n s).testBit i = true → listed.getD i false = true
 | 0, s, hs, i, h => hs i h
 | n + 1, s, hs, i, h => by
  unfold Lm at h
  refine Wr hd n _ (fun k hk => ?_) i h
  split at hk
  ·rename_i hn
   rw [Nat.testBit_or, Bool.or_eq_true] at hk
   rcases hk with hk | hk
   ·exact hs k hk
   ·split at hk
    ·rename_i o ho
     exact Sc (P := fun k => listed.getD k false = true) (fun x hx hb => hd n o ho (hs n hn) x hx hb) k hk
    ·simp at hk
  ·exact hs k hk
theorem Ri {ops : Array Oper} {listed : Array Bool} (hd : Down ops listed) {j : Nat} (hj : j ∈ Region.ready .any ops listed) (ht : Bc ops j = true) {i : Nat} (hi : i < j) : listed.getD i false = true := by
 obtain ⟨_, o, ho, hall⟩ := mem_ready.1 hj
 unfold Bc at ht
 rw [ho] at ht
 simp only [List.all_eq_true, List.mem_range] at ht
 exact Wr hd j _ (Sc (P := fun k => listed.getD k false = true) fun x hx hb => hall x hx hb) i (ht i hi)
theorem Down.gH {ops : Array Oper} {listed : Array Bool} (hd : Down ops listed) {j : Nat} (hj : j ∈ Region.ready .any ops listed) : Down ops (listed.setIfInBounds j true) := by
 intro k o ho hk x hx hb
 obtain ⟨_, oj, pK, hall⟩ := mem_ready.1 hj
 by_cases Ul : j = k
 ·subst Ul
  rw [pK] at ho
  cases ho
  exact getD_set_true (hall x hx hb)
 ·rw [getD_set_ne false Ul] at hk
  exact getD_set_true (hd k o ho hk x hx hb)
theorem Down.start (ops : Array Oper) (n : Nat) : Down ops (Array.replicate n false) := by
 intro j o _ h
 rw [Array.getD_eq_getD_getElem?, Array.getElem?_replicate] at h
 split at h <;> simp at h
section
variable {P : Program} {ops : Array Oper} {Q : Exit → Act → World → Prop} {S : World → Prop} {m : Nat}
def Az (P : Program) (ops : Array Oper) (Q : Exit → Act → World → Prop) (S : World → Prop) (m : Nat) : Nat → Array Bool → Act → World → Prop
 | 0, listed, a, w => Region.ready .any ops listed = [] ∧ Q .normal a w
 | fuel + 1, listed, a, w => (Region.ready .any ops listed = [] → Q .normal a w) ∧
  ∀ i ∈ Region.ready .any ops listed, wpOp P ops Q i (fun a' w' => (i < m → S w') ∧ Az P ops Q S m fuel (listed.setIfInBounds i true) a' w') a w
theorem Qx : ∀ (fuel : Nat) (listed : Array Bool) (a : Act) (w : World), Az P ops Q S m fuel listed a w → wpAny P .any ops Q fuel listed a w
 | 0, _, _, _, h => h
 | fuel + 1, _, _, _, h => ⟨h.1, fun i hi => wpOp_mono (fun a' w' h' => Qx fuel _ a' w' h'.2) (h.2 i hi)⟩
theorem Qy {i : Nat} {oi : Oper} {v : Value} (hi : ops[i]? = some oi) (hsel : ∀ (j : Nat) (o : Oper) cs b, ops[j]? = some o → o.op ≠ .select cs b)
  (hQ : ∀ c a w, Q (.panic c) (a.put oi.dst v) w → Q (.panic c) a w) (xM : yZ ops m = true) (uN : i < m) :
  ∀ (fuel : Nat) (listed : Array Bool) (a : Act) (w : World), Down ops listed →
   (∀ j oj, ops[j]? = some oj → j ≠ i → listed.getD j true = false → (∀ e ∈ oj.after, Region.binds .any e = true → e.on ≠ i) → oi.apart ops oj = true) →
   i ∈ Region.ready .any ops listed → YieldsIf P ops S oi v a → S w →
   Az P ops Q S m fuel (listed.setIfInBounds i true) (a.put oi.dst v) w → Az P ops Q S m (fuel + 1) listed a w := by
 intro fuel
 induction fuel with
 | zero =>
  intro listed a w hdn _ hr hy hS H
  refine ⟨fun h => (by rw [h] at hr; cases hr), fun j hj => ?_⟩
  by_cases hji : j = i
  ·subst hji; exact hy.wpOp hi hS ⟨fun _ => hS, H⟩
  ·have := ready_mono hj hji
   rw [H.1] at this
   cases this
 | succ fuel ih =>
  intro listed a w hdn hfree hr hy hS H
  refine ⟨fun h => (by rw [h] at hr; cases hr), fun j hj => ?_⟩
  by_cases hji : j = i
  ·subst hji; exact hy.wpOp hi hS ⟨fun _ => hS, H⟩
  ·have h1 := H.2 j (ready_mono hj hji)
   obtain ⟨zK, oj, pK, hall⟩ := mem_ready.1 hj
   have hun : ∀ k, k ∈ Region.ready .any ops listed → listed.getD k false = true → False := fun k hk h => by
    have h0 := (mem_ready.1 hk).1
    rcases Nat.lt_or_ge k listed.size with h' | h'
    ·simp [h'] at h0 h; rw [h0] at h; cases h
    ·simp [Array.getElem?_eq_none h'] at h
   have Oy : j < m := by
    rcases Nat.lt_or_ge j m with h | h
    ·exact h
    ·exfalso
     have hlt : j < ops.size := (Array.getElem?_eq_some_iff.1 pK).1
     have ht : Bc ops j = true := by
      unfold yZ at xM
      simp only [List.all_eq_true, List.mem_range, Bool.or_eq_true, decide_eq_true_eq] at xM
      exact (xM j hlt).resolve_left (by omega)
     exact hun i hr (Ri hdn hj ht (by omega))
   have hnot : ∀ e ∈ oj.after, Region.binds .any e = true → e.on ≠ i := fun e he hb heq => hun i hr (heq ▸ hall e he hb)
   have h2 := wpOp_putIf pK (hfree j oj pK hji zK hnot) (fun cs b => hsel i oi cs b hi) (fun cs b => hsel j oj cs b pK) hQ hy h1
   have Ju : ∀ k ok, ops[k]? = some ok → k ≠ i → (listed.setIfInBounds j true).getD k true = false →
     (∀ e ∈ ok.after, Region.binds .any e = true → e.on ≠ i) → oi.apart ops ok = true := fun k ok hk hki hun hno => by
    refine hfree k ok hk hki ?_ hno
    by_cases jC : j = k
    ·subst jC; exact zK
    ·rw [getD_set_ne true jC] at hun; exact hun
   refine wpOp_mono (fun a' w' h3 => ⟨h3.2.1, ih (listed.setIfInBounds j true) a' w' (hdn.gH hj) Ju (ready_mono hr (Ne.symm hji)) h3.1 (h3.2.1 Oy) ?_⟩) h2
   rw [Array.setIfInBounds_comm _ _ hji]
   exact h3.2.2
end
section
variable {P : Program} {N : cN} {w0 : World} {e e' : Env} {R R' R0 : List Piece} {H H' H0 : List HP} {Q : Exit → Act → World → Prop} {ops : Array Oper} {m fuel : Nat} {listed : Array Bool}
structure Up (ops : Array Oper) (m : Nat) (listed : Array Bool) : Prop where
 down : Down ops listed
 xB : Region.noSelect ops = true
 tl : yZ ops m = true
theorem Up.gH {i : Nat} (h : Up ops m listed) (hi : i ∈ Region.ready .any ops listed) : Up ops m (listed.setIfInBounds i true) := ⟨h.down.gH hi, h.xB, h.tl⟩
def XA (P : Program) (N : cN) (w0 : World) (ops : Array Oper) (Q : Exit → Act → World → Prop) (R0 : List Piece) (H0 : List HP) (m fuel : Nat) (listed : Array Bool) (e : Env) (R : List Piece) (H : List HP) : Prop :=
 Up ops m listed → XK N w0 (Az P ops Q (St w0 R0 H0) m fuel listed) e R H
def rB (P : Program) (w0 : World) (ops : Array Oper) (Q : Exit → Act → World → Prop) (R0 : List Piece) (H0 : List HP) (m fuel : Nat) (listed : Array Bool) (i : Nat) : Act → World → Prop :=
 fun a' w' => (i < m → St w0 R0 H0 w') ∧ (Up ops m (listed.setIfInBounds i true) → Az P ops Q (St w0 R0 H0) m fuel (listed.setIfInBounds i true) a' w')
theorem XK.draw (m : Nat) {id : Nat} {l : List Oper} (hm : P.follows .mixedOrders = true) (hc : (Region.noSelect l.toArray && yZ l.toArray m) = true) (h : XA P N w0 l.toArray Q R H m l.length (Array.replicate l.length false) e R H) : XK N w0 ((Code.region id l.toArray true).wp P Q) e R H := fun a w hr st => by
 simp only [Bool.and_eq_true] at hc
 have := h ⟨Down.start _ _, hc.1, hc.2⟩ a w.drew hr st.drew
 refine wp_region_any hm (Qx (S := St w0 R H) (m := m) _ _ _ _ ?_)
 simpa using this
theorem XA.eH (i : Nat) {oi : Oper} {v : Value} {d : Nat} (hi : ops[i]? = some oi) (uQ : oi.dst = some d) (hg : oi.guard = none) (hd : d < N.n) (dN : bH P N w0 e R0 H0 oi v)
  (hc : (Region.free .any ops listed i && (Region.ready .any ops listed).contains i && decide (i < m)) = true) (hQ : ∀ c a w, Q (.panic c) (a.put oi.dst v) w → Q (.panic c) a w)
  (hsub : ∀ w, St w0 R H w → St w0 R0 H0 w)
  (k : XA P N w0 ops Q R0 H0 m fuel (listed.setIfInBounds i true) ((d, v) :: e) R H) : XA P N w0 ops Q R0 H0 m (fuel + 1) listed e R H := by
 simp only [Bool.and_eq_true, decide_eq_true_eq] at hc
 obtain ⟨⟨h2, h3⟩, h5⟩ := hc
 intro up a w hr st
 have hp := k (up.gH (by simpa using h3)) (a.put oi.dst v) w (by rw [uQ]; exact hr.put hd v) st
 refine Qy hi (Region.noSelect_spec up.xB) hQ up.tl h5 fuel listed a w up.down (Region.free_spec hi h2) (by simpa using h3) (.inl ⟨by simp [Region.wanted, hg], fun w' hw' => ?_⟩) (hsub w st) hp
 exact dN a w' hr hw'
theorem vQ {i : Nat} {oi : Oper} (hi : ops[i]? = some oi) {a : Act} {w : World} {K K' : Act → World → Prop} (hK : ∀ a w, K a w → K' a w) (h : wpList P ops (Exit.then K Q) [oi] a w) : wpOp P ops Q i K' a w := by
 unfold wpList at h
 unfold wpOp
 simp only [hi]
 split
 ·rename_i hw
  rw [if_pos hw] at h
  rcases h with h | h
  ·refine .inl ?_
   unfold Oper.wp at h ⊢
   generalize (execOp a.eval oi).run P w = r at h ⊢
   cases r with
   | ok n w' =>
    cases n <;> simp only [Oper.upon] at h ⊢ <;> first | exact hK _ _ h | exact Calls.mono h (fun x w'' hx => by cases x <;> first | exact hK _ _ hx | exact hx) | exact Rows.mono h (fun _ _ hx => hK _ _ hx) | exact h
   | halt x w' => cases x <;> simp only [Oper.upon] at h ⊢ <;> exact h
  ·exact .inr h
 ·rename_i hw
  rw [if_neg hw] at h
  exact hK _ _ h
theorem XA.next (i : Nat) {oi : Oper} (hi : ops[i]? = some oi) (hr : Region.ready .any ops listed = [i]) (k : XK N w0 (wpList P ops (Exit.then (rB P w0 ops Q R0 H0 m fuel listed i) Q) [oi]) e R H) : XA P N w0 ops Q R0 H0 m (fuel + 1) listed e R H := by
 intro up a w bM st
 refine ⟨fun h => (by rw [hr] at h; cases h), fun j hj => ?_⟩
 rw [hr] at hj
 simp at hj
 subst hj
 exact vQ hi (fun a w h => ⟨h.1, h.2 (up.gH (by rw [hr]; simp))⟩) (k a w bM st)
theorem XA.either (i j : Nat) {oi oj : Oper} (hi : ops[i]? = some oi) (hj : ops[j]? = some oj) (hr : Region.ready .any ops listed = [i, j])
  (k1 : XK N w0 (wpList P ops (Exit.then (rB P w0 ops Q R0 H0 m fuel listed i) Q) [oi]) e R H) (k2 : XK N w0 (wpList P ops (Exit.then (rB P w0 ops Q R0 H0 m fuel listed j) Q) [oj]) e R H) : XA P N w0 ops Q R0 H0 m (fuel + 1) listed e R H := by
 intro up a w bM st
 refine ⟨fun h => (by rw [hr] at h; cases h), fun q hq => ?_⟩
 have mE := hq
 rw [hr] at hq
 simp at hq
 rcases hq with rfl | rfl
 ·exact vQ hi (fun a w h => ⟨h.1, h.2 (up.gH mE)⟩) (k1 a w bM st)
 ·exact vQ hj (fun a w h => ⟨h.1, h.2 (up.gH mE)⟩) (k2 a w bM st)
theorem XA.three (i j k : Nat) {oi oj ok : Oper} (hi : ops[i]? = some oi) (hj : ops[j]? = some oj) (hk : ops[k]? = some ok) (hr : Region.ready .any ops listed = [i, j, k])
  (k1 : XK N w0 (wpList P ops (Exit.then (rB P w0 ops Q R0 H0 m fuel listed i) Q) [oi]) e R H) (k2 : XK N w0 (wpList P ops (Exit.then (rB P w0 ops Q R0 H0 m fuel listed j) Q) [oj]) e R H)
  (k3 : XK N w0 (wpList P ops (Exit.then (rB P w0 ops Q R0 H0 m fuel listed k) Q) [ok]) e R H) : XA P N w0 ops Q R0 H0 m (fuel + 1) listed e R H := by
 intro up a w bM st
 refine ⟨fun h => (by rw [hr] at h; cases h), fun q hq => ?_⟩
 have mE := hq
 rw [hr] at hq
 simp at hq
 rcases hq with rfl | rfl | rfl
 ·exact vQ hi (fun a w h => ⟨h.1, h.2 (up.gH mE)⟩) (k1 a w bM st)
 ·exact vQ hj (fun a w h => ⟨h.1, h.2 (up.gH mE)⟩) (k2 a w bM st)
 ·exact vQ hk (fun a w h => ⟨h.1, h.2 (up.gH mE)⟩) (k3 a w bM st)
theorem XA.back {i : Nat} (hS : ∀ w, St w0 R H w → St w0 R0 H0 w) (h : XA P N w0 ops Q R0 H0 m fuel (listed.setIfInBounds i true) e R H) : XK N w0 (rB P w0 ops Q R0 H0 m fuel listed i) e R H := fun a w hr st => ⟨fun _ => hS w st, fun up => h up a w hr st⟩
theorem XA.Wy {i : Nat} (hm : Nat.ble m i = true) (h : XA P N w0 ops Q R0 H0 m fuel (listed.setIfInBounds i true) e R H) : XK N w0 (rB P w0 ops Q R0 H0 m fuel listed i) e R H := fun a w hr st => ⟨fun hlt => by have := Nat.le_of_ble_eq_true hm; omega, fun up => h up a w hr st⟩
theorem XA.done (hr : Region.ready .any ops listed = []) (h : XK N w0 (Q .normal) e R H) : XA P N w0 ops Q R0 H0 m fuel listed e R H := by
 intro up a w bM st
 cases fuel with
 | zero => exact ⟨hr, h a w bM st⟩
 | succ fuel => exact ⟨fun _ => h a w bM st, by rw [hr]; simp⟩
theorem St.tail {p : HP} {w : World} (h : St w0 R (p :: H) w) : St w0 R H w := h.weak (fun _ hp => hp) (· + 1) (fun i j _ _ h => by omega) (fun i q hq => by simpa using hq)
theorem St.aN {p : Piece} {w : World} (h : St w0 (p :: R) H w) : St w0 R H w := h.weak (fun _ hp => List.mem_cons_of_mem _ hp) id (fun _ _ _ _ h => h) (fun i q hq => hq)
theorem iQ {x : Operand} {t ty : TypeId} {b o d : Nat} {v : Value} {pos : String} {aJ : Array Edge} (ht : qM P t = true) (hx : e.ev x = some (.pointer (some ⟨b, o, none⟩))) (hr : Rd w0 R H b o v) : bH P N w0 e R H ⟨some d, .load t x, ty, pos, aJ, none⟩ v :=
 fun a w bM st => by simp [execOp, bM.ev hx, Zo ht (hr w st)]
theorem Wi (n : Nat) {x : Operand} {t ty : TypeId} {b o d : Nat} {vs : List Value} {pos : String} {aJ : Array Edge} (ht : vV P t n = true) (hx : e.ev x = some (.pointer (some ⟨b, o, none⟩))) (hr : aD w0 R H b o vs) (hn : vs.length = n) : bH P N w0 e R H ⟨some d, .load t x, ty, pos, aJ, none⟩ (.agg vs.toArray) :=
 fun a w bM st => by simp [execOp, bM.ev hx, Ht ht hn (hr w st)]
end
end
section
def Rt (v : Value) (w : World) : Ending → World → Prop := fun x w' => x = .returned v ∧ Below w.heap.size w w'
theorem Rt.conv {v v' : Value} {w w' : World} {x : Ending} (h : Rt v w x w') (e : v = v') : Rt v' w x w' := e ▸ h
theorem fU {w w' : World} (h : Below w.heap.size w w') : (all w).Le (all w') := fun b hb => ⟨Nat.lt_of_lt_of_le hb h.size, h.block b hb⟩
def eW (w : World) (g o : Nat) (v : Value) : Prop := g < w.heap.size ∧ w.cell? ⟨g, o, none⟩ = some v
def cZ (w : World) (g o : Nat) (vs : List Value) : Prop := g < w.heap.size ∧ w.rangeAt g o vs
theorem cZ.at_ {w : World} {g o j : Nat} {vs : List Value} {v : Value} (h : cZ w g o vs) (hv : vs[j]? = some v) : eW w g (o + j) v := ⟨h.1, h.2 j v hv⟩
theorem cZ.below {w w' : World} {g o : Nat} {vs : List Value} (h : cZ w g o vs) (hb : Below w.heap.size w w') : cZ w' g o vs :=
 ⟨Nat.lt_of_lt_of_le h.1 hb.size, fun j v hv => (hb.cell (p := ⟨g, o + j, none⟩) h.1).trans (h.2 j v hv)⟩
theorem cZ.le {p : Piece} {w : World} {g o : Nat} {vs : List Value} (hz : p.Z g) (h : p.w.rangeAt g o vs) (hl : p.Le (all w)) : cZ w g o vs :=
 ⟨(hl g hz).1, fun j v hv => (World.cell?_of_block (w := p.w) (a := ⟨g, o + j, none⟩) (hl g hz).2).trans (h j v hv)⟩
section
variable {P : Program} {N : cN} {w0 w : World} {e : Env} {R : List Piece} {H : List HP} {Q : Exit → Act → World → Prop} {ops : Array Oper} {rest : List Oper}
variable {d : Nat} {ty : TypeId} {pos : String} {aJ : Array Edge}
theorem Rd.fD {g o : Nat} {v : Value} (hR : all w0 ∈ R) (h : eW w0 g o v) : Rd w0 R H g o v := Rd.ro hR h.1 h.2
theorem Rd.Rz {g o : Nat} {vs : List Value} {v : Value} (hR : all w0 ∈ R) (h : cZ w0 g 0 vs) (hv : vs[o]? = some v) : Rd w0 R H g o v := Rd.ro hR h.1 (by have := h.2 o v hv; rwa [Nat.zero_add] at this)
theorem aD.fD {g o : Nat} {vs : List Value} (hR : all w0 ∈ R) (h : cZ w0 g o vs) : aD w0 R H g o vs := .of fun j v hv => Rd.ro hR h.1 (h.2 j v hv)
theorem St.box (st : St w0 R H w) {i g : Nat} {t : TypeId} {cs : List Value} (hi : H[i]? = some (HP.aF g t cs)) : cZ w g 0 cs :=
 ⟨(st.aF hi).lt, fun j v hv => by rw [(st.aF hi).cell, Nat.zero_add]; simpa using hv⟩
theorem St.uF (st : St w0 R H w) {i g sz n : Nat} {t : TypeId} {cs : List Value} (hi : H[i]? = some (HP.aF g t cs)) (hl : cs.length = n * sz) : aH (all w) sz (some ⟨g, 0, none⟩) n cs :=
 ⟨hl, fun _ => ⟨g, 0, rfl, (st.aF hi).lt, fun j u hu => by rw [Nat.zero_add]; show w.cell? _ = _; rw [(st.aF hi).cell]; simpa using hu⟩⟩
theorem St.started (st : St w0 R H w) (hR : all w0 ∈ R) : Below w0.heap.size w0 w := st.below hR
theorem aY {f : FuncId} {x : Operand} {args : List Operand} {fi ca vs : List Value} {tys : Array TypeId} {v0 : Value} (hf : fK P f = true) (hx : e.ev x = some (.func (.func f) fi.toArray ca.toArray)) (ha : e.cV args = some vs) (hd : d < N.n)
  (hc : ∀ w, St w0 R H w → Calls P f (fi ++ vs ++ ca).toArray w (Rt v0 w)) (k : XK N w0 (wpList P ops Q rest) ((d, v0) :: e) R H) :
  XK N w0 (wpList P ops Q (⟨some d, .call { callee := .value x, args := args.toArray, argTypes := tys }, ty, pos, aJ, none⟩ :: rest)) e R H :=
 Mn hf hx ha hd (fun v => v = v0) (fun w st => (hc w st).mono fun y w' h => ⟨⟨v0, h.1, rfl⟩, h.2⟩) fun v hv => by subst hv; exact k
theorem jH {K : Act → World → Prop} {t : Nat} {b : Bool} (ht : e.get t = some (.bool b)) (h1 : b = true → XK N w0 K ((t, .bool true) :: e) R H) (h2 : b = false → XK N w0 K ((t, .bool false) :: e) R H) : XK N w0 K e R H := by
 cases b
 ·refine bT (p := False) (t := t) (by simpa using ht) (fun h => h.elim) (fun _ => h2 rfl)
 ·refine bT (p := True) (t := t) (by simpa using ht) (fun _ => h1 rfl) (fun h => absurd trivial h)
end
theorem aH.row {w : World} {sz n : Nat} {A : Option Addr} {rows : List (List Value)} (h : aH (all w) sz A n rows.flatten) (hl : ∀ r ∈ rows, r.length = sz) {k : Nat} {r : List Value} (hk : rows[k]? = some r) (hn : k < n) :
  ∃ b off, A = some ⟨b, off, none⟩ ∧ cZ w b (off + k * sz) r := by
 obtain ⟨b, off, hA, hz, hc⟩ := h.at_ hn
 refine ⟨b, off, hA, hz, fun f u hu => hc f u ?_⟩
 have hf : f < sz := by
  rw [← hl r (List.mem_of_getElem? hk)]
  rcases Nat.lt_or_ge f r.length with h | h
  ·exact h
  ·rw [List.getElem?_eq_none h] at hu; cases hu
 have := Co (fun x => x) sz rows hl k f r hk hf
 rw [List.flatMap_id'] at this
 rw [this, hu]
def gL (es : List Int) : Int := (es.find? fun e => decide (e ≠ 0)).getD 0
theorem Cp : ∀ {es : List Int} {k : Nat} {e : Int}, (∀ j, j < k → es[j]? = some 0) → es[k]? = some e → e ≠ 0 → gL es = e
 | x :: xs, 0, e, _, h, hne => by simp at h; subst h; simp [gL, hne]
 | x :: xs, k + 1, e, hz, h, hne => by
  have h0 := hz 0 (by omega)
  simp at h0
  subst h0
  have := Cp (es := xs) (k := k) (fun j hj => by simpa using hz (j + 1) (by omega)) (by simpa using h) hne
  simpa [gL] using this
 | [], k, e, _, h, _ => by simp at h
theorem zT : ∀ {es : List Int}, (∀ j, j < es.length → es[j]? = some 0) → gL es = 0
 | [], _ => rfl
 | x :: xs, hz => by
  have h0 := hz 0 (by simp)
  simp at h0
  subst h0
  have := zT (es := xs) (fun j hj => by simpa using hz (j + 1) (by simp; omega))
  simpa [gL] using this
def eX (b : Bool) (e : Int) : Int := if b then e else 0
def eT (n lo hi : Int) : Bool := decide (lo ≤ n) && decide (n ≤ hi)
end
section
section
variable {P : Program} {N : cN} {w0 : World} {e e' : Env} {R R' R0 : List Piece} {H H' H0 : List HP} {Q : Exit → Act → World → Prop} {ops : Array Oper} {m fuel : Nat} {listed : Array Bool}
variable {d t j : Nat} {want : Bool} {op : Op} {ty : TypeId} {pos : String} {aJ : Array Edge}
theorem XA.Wk (i : Nat) {v : Value} (hi : ops[i]? = some ⟨some d, op, ty, pos, aJ, some (j, want)⟩) (hj : (ops[j]?).bind (·.dst) = some t) (ht : e.get t = some (.bool want)) (hd : d < N.n) (dN : bH P N w0 e R0 H0 ⟨some d, op, ty, pos, aJ, none⟩ v)
  (hc : (Region.free .any ops listed i && (Region.ready .any ops listed).contains i && decide (i < m)) = true) (hQ : ∀ c a w, Q (.panic c) (a.put (some d) v) w → Q (.panic c) a w)
  (hsub : ∀ w, St w0 R H w → St w0 R0 H0 w)
  (k : XA P N w0 ops Q R0 H0 m fuel (listed.setIfInBounds i true) ((d, v) :: e) R H) : XA P N w0 ops Q R0 H0 m (fuel + 1) listed e R H := by
 simp only [Bool.and_eq_true, decide_eq_true_eq] at hc
 obtain ⟨⟨h2, h3⟩, h5⟩ := hc
 intro up a w hr st
 have hp := k (up.gH (by simpa using h3)) (a.put (some d) v) w (hr.put hd v) st
 refine Qy hi (Region.noSelect_spec up.xB) hQ up.tl h5 fuel listed a w up.down (Region.free_spec hi h2) (by simpa using h3) (.inl ⟨?_, fun w' hw' => ?_⟩) (hsub w st) hp
 ·simp only [Region.wanted, yielded, hj, Option.bind_some, hr.get t _ ht]
  simp
 ·exact dN a w' hr hw'
theorem XA.doF (i : Nat) {b : Bool} (hi : ops[i]? = some ⟨some d, op, ty, pos, aJ, some (j, want)⟩) (hj : (ops[j]?).bind (·.dst) = some t) (ht : e.get t = some (.bool b)) (hb : b = !want) (hd : d < N.n)
  (hc : (Region.free .any ops listed i && (Region.ready .any ops listed).contains i && decide (i < m)) = true) (hQ : ∀ c a w, Q (.panic c) (a.put (some d) undef) w → Q (.panic c) a w)
  (hsub : ∀ w, St w0 R H w → St w0 R0 H0 w)
  (k : XA P N w0 ops Q R0 H0 m fuel (listed.setIfInBounds i true) ((d, undef) :: e) R H) : XA P N w0 ops Q R0 H0 m (fuel + 1) listed e R H := by
 simp only [Bool.and_eq_true, decide_eq_true_eq] at hc
 obtain ⟨⟨h2, h3⟩, h5⟩ := hc
 intro up a w hr st
 have hp := k (up.gH (by simpa using h3)) (a.put (some d) undef) w (hr.put hd undef) st
 refine Qy hi (Region.noSelect_spec up.xB) hQ up.tl h5 fuel listed a w up.down (Region.free_spec hi h2) (by simpa using h3) (.inr ⟨?_, rfl⟩) (hsub w st) hp
 simp only [Region.wanted, yielded, hj, Option.bind_some, hr.get t _ ht, hb]
 simp
theorem XA.split {t : Nat} {p : Prop} [Decidable p] (ht : e.get t = some (.bool (decide p))) (h1 : p → XA P N w0 ops Q R0 H0 m fuel listed ((t, .bool true) :: e) R H) (h2 : ¬ p → XA P N w0 ops Q R0 H0 m fuel listed ((t, .bool false) :: e) R H) : XA P N w0 ops Q R0 H0 m fuel listed e R H :=
 fun up => bT ht (fun h => h1 h up) (fun h => h2 h up)
theorem XA.Gt {t : Nat} {b : Bool} (ht : e.get t = some (.bool b)) (h1 : b = true → XA P N w0 ops Q R0 H0 m fuel listed ((t, .bool true) :: e) R H) (h2 : b = false → XA P N w0 ops Q R0 H0 m fuel listed ((t, .bool false) :: e) R H) : XA P N w0 ops Q R0 H0 m fuel listed e R H :=
 fun up => jH ht (fun h => h1 h up) (fun h => h2 h up)
theorem Kz {x : Operand} {a : Addr} (hx : e.ev x = some (.pointer (some a))) : bH P N w0 e R H ⟨some d, .nilCheck x, ty, pos, aJ, none⟩ (.pointer (some a)) := fO (fun b w hr => by simp [execOp, hr.ev hx])
end
end
section
section
variable {P : Program} {N : cN} {w0 : World} {e e' : Env} {R R0 : List Piece} {H H0 H' : List HP} {Q : Exit → Act → World → Prop} {ops : Array Oper} {rest : List Oper} {m fuel : Nat} {listed : Array Bool} {K K' : Act → World → Prop}
variable {d : Nat} {ty : TypeId} {pos : String} {aJ : Array Edge} {op : Op} {j t : Nat} {want : Bool}
theorem XK.norm (k : XK N w0 K' e R H) (hk : XK N w0 K' e R H → XK N w0 K e R H := by
  intro h
  repeat (first | refine XK.iU ?_ | refine XK.Gr ?_ | refine XK.Gq ?_ | refine XK.It ?_ | refine XK.Iv ?_ | refine XK.Is ?_ | refine XK.Iu rfl ?_)
  exact h) : XK N w0 K e R H := hk k
theorem XK.aK (e' : Env) (h : XK N w0 K e' R H) (hs : e'.Sub e := by repeat (first | exact trivial | refine ⟨rfl, ?_⟩)) : XK N w0 K e R H := XK.env e' hs h
theorem cP {x : Operand} {t : TypeId} {b o : Nat} {v : Value} (hx : e.ev x = some (.pointer (some ⟨b, o, none⟩))) (k : XK N w0 (wpList P ops Q rest) ((d, v) :: e) R H) (ht : qM P t = true := by kernel_rfl) (hr : Rd w0 R H b o v := by
  first | assumption | exact Rd.aF 0 rfl rfl | exact Rd.aF 1 rfl rfl | exact Rd.aF 2 rfl rfl | exact Rd.aF 3 rfl rfl | exact Rd.aF 4 rfl rfl | exact Rd.aF 5 rfl rfl | exact Rd.aF 6 rfl rfl | exact Rd.aF 7 rfl rfl | exact Rd.aF 8 rfl rfl | exact Rd.fD (by simp) (by assumption) | (apply Rd.Rz (by simp); assumption; rfl)) (hd : d < N.n := by decide) :
  XK N w0 (wpList P ops Q (⟨some d, .load t x, ty, pos, aJ, none⟩ :: rest)) e R H := gA ht hx hr hd k
theorem iK (n : Nat) {x : Operand} {t : TypeId} {b o : Nat} {vs : List Value} (hx : e.ev x = some (.pointer (some ⟨b, o, none⟩))) (k : XK N w0 (wpList P ops Q rest) ((d, .agg vs.toArray) :: e) R H) (ht : vV P t n = true := by kernel_rfl) (hr : aD w0 R H b o vs := by
  first | assumption | exact aD.whole 0 rfl | exact aD.whole 1 rfl | exact aD.whole 2 rfl | exact aD.whole 3 rfl | exact aD.whole 4 rfl | exact aD.whole 5 rfl | exact aD.whole 6 rfl | exact aD.whole 7 rfl | exact aD.whole 8 rfl | exact aD.fD (by simp) (by assumption)) (hn : vs.length = n := by rfl) (hd : d < N.n := by decide) :
  XK N w0 (wpList P ops Q (⟨some d, .load t x, ty, pos, aJ, none⟩ :: rest)) e R H := tZ n ht hx hr hn hd k
theorem rA {x : Operand} {t : TypeId} {b o : Nat} {v : Value} (hx : e.ev x = some (.pointer (some ⟨b, o, none⟩))) (ht : qM P t = true := by kernel_rfl) (hr : Rd w0 R H b o v := by
  first | assumption | exact Rd.aF 0 rfl rfl | exact Rd.aF 1 rfl rfl | exact Rd.aF 2 rfl rfl | exact Rd.aF 3 rfl rfl | exact Rd.aF 4 rfl rfl | exact Rd.aF 5 rfl rfl | exact Rd.aF 6 rfl rfl | exact Rd.aF 7 rfl rfl | exact Rd.aF 8 rfl rfl | exact Rd.fD (by simp) (by assumption) | (apply Rd.Rz (by simp); assumption; rfl)) :
  bH P N w0 e R H ⟨some d, .load t x, ty, pos, aJ, none⟩ v := iQ ht hx hr
theorem Fk (n : Nat) {x : Operand} {t : TypeId} {b o : Nat} {vs : List Value} (hx : e.ev x = some (.pointer (some ⟨b, o, none⟩))) (ht : vV P t n = true := by kernel_rfl) (hr : aD w0 R H b o vs := by
  first | assumption | exact aD.whole 0 rfl | exact aD.whole 1 rfl | exact aD.whole 2 rfl | exact aD.whole 3 rfl | exact aD.whole 4 rfl | exact aD.whole 5 rfl | exact aD.whole 6 rfl | exact aD.whole 7 rfl | exact aD.whole 8 rfl | exact aD.fD (by simp) (by assumption)) (hn : vs.length = n := by rfl) :
  bH P N w0 e R H ⟨some d, .load t x, ty, pos, aJ, none⟩ (.agg vs.toArray) := Wi n ht hx hr hn
def iG (P : Program) (H : List HP) (s : TypeId) (g o : Nat) (v : Value) (H' : List HP) : Prop := ∃ i t cs, H[i]? = some (HP.aF g t cs) ∧ qM P s = true ∧ v.oneCell' = true ∧ o < cs.length ∧ H' = H.set i (HP.aF g t (cs.set o v))
theorem iG.mk (i : Nat) {s t : TypeId} {g o : Nat} {cs : List Value} {v : Value} (hi : H[i]? = some (HP.aF g t cs)) (hs : qM P s = true) (h1 : v.oneCell' = true) (hl : o < cs.length) : iG P H s g o v (H.set i (HP.aF g t (cs.set o v))) := ⟨i, t, cs, hi, hs, h1, hl, rfl⟩
theorem qA {x y : Operand} {s : TypeId} {g o : Nat} {v : Value} (hx : e.ev x = some (.pointer (some ⟨g, o, none⟩))) (hy : e.ev y = some v) (k : XK N w0 (wpList P ops Q rest) e R H') (hs : iG P H s g o v H' := by
  first | exact iG.mk 0 rfl (by kernel_rfl) rfl (by first | (simp; done) | (simp [Value.cells]; done)) | exact iG.mk 1 rfl (by kernel_rfl) rfl (by first | (simp; done) | (simp [Value.cells]; done)) | exact iG.mk 2 rfl (by kernel_rfl) rfl (by first | (simp; done) | (simp [Value.cells]; done)) | exact iG.mk 3 rfl (by kernel_rfl) rfl (by first | (simp; done) | (simp [Value.cells]; done)) | exact iG.mk 4 rfl (by kernel_rfl) rfl (by first | (simp; done) | (simp [Value.cells]; done)) | exact iG.mk 5 rfl (by kernel_rfl) rfl (by first | (simp; done) | (simp [Value.cells]; done)) | exact iG.mk 6 rfl (by kernel_rfl) rfl (by first | (simp; done) | (simp [Value.cells]; done)) | exact iG.mk 7 rfl (by kernel_rfl) rfl (by first | (simp; done) | (simp [Value.cells]; done)) | exact iG.mk 8 rfl (by kernel_rfl) rfl (by first | (simp; done) | (simp [Value.cells]; done))) :
  XK N w0 (wpList P ops Q (⟨none, .store s x y, ty, pos, aJ, none⟩ :: rest)) e R H := by
 obtain ⟨i, t, cs, hi, h1, h2, h3, rfl⟩ := hs
 exact yT i hi h1 hx hy h2 h3 k
theorem Rd.eL {b o : Nat} {cs : List Value} {v : Value} (hv : cs[o]? = some v) (hi : ∃ (i : Nat) (t : TypeId), H[i]? = some (HP.aF b t cs) := by
  first | exact ⟨0, _, rfl⟩ | exact ⟨1, _, rfl⟩ | exact ⟨2, _, rfl⟩ | exact ⟨3, _, rfl⟩ | exact ⟨4, _, rfl⟩ | exact ⟨5, _, rfl⟩ | exact ⟨6, _, rfl⟩ | exact ⟨7, _, rfl⟩ | exact ⟨8, _, rfl⟩ | exact ⟨9, _, rfl⟩) : Rd w0 R H b o v := by
 obtain ⟨i, t, hi⟩ := hi
 exact Rd.aF i hi hv
theorem Rd.ld {b o : Nat} {v : Value} (h : Rd w0 R H b o v := by
  first | assumption | exact Rd.aF 0 rfl rfl | exact Rd.aF 1 rfl rfl | exact Rd.aF 2 rfl rfl | exact Rd.aF 3 rfl rfl | exact Rd.aF 4 rfl rfl | exact Rd.aF 5 rfl rfl | exact Rd.aF 6 rfl rfl | exact Rd.aF 7 rfl rfl | exact Rd.aF 8 rfl rfl | exact Rd.aF 9 rfl rfl) : Rd w0 R H b o v := h
def tN (H : List HP) (g o : Nat) (v : Value) (H' : List HP) : Prop := ∃ (i : Nat) (t : TypeId) (cs : List Value), H[i]? = some (HP.aF g t cs) ∧ (∀ u ∈ v.cells.toList, u.oneCell' = true) ∧ o + v.cells.size ≤ cs.length ∧ H' = H.set i (HP.aF g t (cC cs o v.cells.toList))
theorem tN.mk (i : Nat) {t : TypeId} {g o : Nat} {cs : List Value} {v : Value} (hi : H[i]? = some (HP.aF g t cs)) (h1 : ∀ u ∈ v.cells.toList, u.oneCell' = true) (hl : o + v.cells.size ≤ cs.length) : tN H g o v (H.set i (HP.aF g t (cC cs o v.cells.toList))) := ⟨i, t, cs, hi, h1, hl, rfl⟩
theorem eJ {x y : Operand} {s : TypeId} {g o : Nat} {v : Value} (hx : e.ev x = some (.pointer (some ⟨g, o, none⟩))) (hy : e.ev y = some v) (k : XK N w0 (wpList P ops Q rest) e R H') (hz : (P.info? s).any (·.size == v.cells.size) = true := by kernel_rfl) (hs : tN H g o v H' := by
  first | exact tN.mk 0 rfl (by simp [Value.cells, Value.oneCell']) (by simp [Value.cells]) | exact tN.mk 1 rfl (by simp [Value.cells, Value.oneCell']) (by simp [Value.cells]) | exact tN.mk 2 rfl (by simp [Value.cells, Value.oneCell']) (by simp [Value.cells]) | exact tN.mk 3 rfl (by simp [Value.cells, Value.oneCell']) (by simp [Value.cells]) | exact tN.mk 4 rfl (by simp [Value.cells, Value.oneCell']) (by simp [Value.cells]) | exact tN.mk 5 rfl (by simp [Value.cells, Value.oneCell']) (by simp [Value.cells]) | exact tN.mk 6 rfl (by simp [Value.cells, Value.oneCell']) (by simp [Value.cells]) | exact tN.mk 7 rfl (by simp [Value.cells, Value.oneCell']) (by simp [Value.cells]) | exact tN.mk 8 rfl (by simp [Value.cells, Value.oneCell']) (by simp [Value.cells])) : XK N w0 (wpList P ops Q (⟨none, .store s x y, ty, pos, aJ, none⟩ :: rest)) e R H := by
 obtain ⟨i, t, cs, hi, h1, hl, rfl⟩ := hs
 exact kC i hi hx hy hz h1 hl k
theorem XA.dA (i : Nat) {oi : Oper} {v : Value} {d : Nat} (hi : ops[i]? = some oi) (uQ : oi.dst = some d) (hg : oi.guard = none) (dN : bH P N w0 e R0 H0 oi v) (k : XA P N w0 ops Q R0 H0 m fuel (listed.setIfInBounds i true) ((d, v) :: e) R H) (hd : d < N.n := by decide)
  (hc : (Region.free .any ops listed i && (Region.ready .any ops listed).contains i && decide (i < m)) = true := by kernel_rfl) (hQ : ∀ c a w, Q (.panic c) (a.put oi.dst v) w → Q (.panic c) a w := by exact fun _ _ _ h => h)
  (hsub : ∀ w, St w0 R H w → St w0 R0 H0 w := by first | exact fun _ h => h | exact fun _ h => h.tail | exact fun _ h => h.aN | exact fun _ h => h.tail.tail | exact fun _ h => h.aN.tail | exact fun _ h => h.aN.aN | exact fun _ h => h.aN.tail.tail | exact fun _ h => h.tail.tail.tail | exact fun _ h => h.aN.aN.tail) : XA P N w0 ops Q R0 H0 m (fuel + 1) listed e R H := XA.eH i hi uQ hg hd dN hc hQ hsub k
theorem XA.dT (i : Nat) {v : Value} (hi : ops[i]? = some ⟨some d, op, ty, pos, aJ, some (j, want)⟩) (hj : (ops[j]?).bind (·.dst) = some t) (ht : e.get t = some (.bool want)) (dN : bH P N w0 e R0 H0 ⟨some d, op, ty, pos, aJ, none⟩ v) (k : XA P N w0 ops Q R0 H0 m fuel (listed.setIfInBounds i true) ((d, v) :: e) R H) (hd : d < N.n := by decide)
  (hc : (Region.free .any ops listed i && (Region.ready .any ops listed).contains i && decide (i < m)) = true := by kernel_rfl) (hQ : ∀ c a w, Q (.panic c) (a.put (some d) v) w → Q (.panic c) a w := by exact fun _ _ _ h => h)
  (hsub : ∀ w, St w0 R H w → St w0 R0 H0 w := by first | exact fun _ h => h | exact fun _ h => h.tail | exact fun _ h => h.aN | exact fun _ h => h.tail.tail | exact fun _ h => h.aN.tail | exact fun _ h => h.aN.aN | exact fun _ h => h.aN.tail.tail | exact fun _ h => h.tail.tail.tail | exact fun _ h => h.aN.aN.tail) : XA P N w0 ops Q R0 H0 m (fuel + 1) listed e R H := XA.Wk i hi hj ht hd dN hc hQ hsub k
theorem XA.dF (i : Nat) {b : Bool} (hi : ops[i]? = some ⟨some d, op, ty, pos, aJ, some (j, want)⟩) (hj : (ops[j]?).bind (·.dst) = some t) (ht : e.get t = some (.bool b)) (hb : b = !want) (k : XA P N w0 ops Q R0 H0 m fuel (listed.setIfInBounds i true) ((d, undef) :: e) R H) (hd : d < N.n := by decide)
  (hc : (Region.free .any ops listed i && (Region.ready .any ops listed).contains i && decide (i < m)) = true := by kernel_rfl) (hQ : ∀ c a w, Q (.panic c) (a.put (some d) undef) w → Q (.panic c) a w := by exact fun _ _ _ h => h)
  (hsub : ∀ w, St w0 R H w → St w0 R0 H0 w := by first | exact fun _ h => h | exact fun _ h => h.tail | exact fun _ h => h.aN | exact fun _ h => h.tail.tail | exact fun _ h => h.aN.tail | exact fun _ h => h.aN.aN | exact fun _ h => h.aN.tail.tail | exact fun _ h => h.tail.tail.tail | exact fun _ h => h.aN.aN.tail) : XA P N w0 ops Q R0 H0 m (fuel + 1) listed e R H := XA.doF i hi hj ht hb hd hc hQ hsub k
theorem XA.bk {i : Nat} (h : XA P N w0 ops Q R0 H0 m fuel (listed.setIfInBounds i true) e R H) (hS : ∀ w, St w0 R H w → St w0 R0 H0 w := by first | exact fun _ h => h | exact fun _ h => h.tail | exact fun _ h => h.aN | exact fun _ h => h.tail.tail | exact fun _ h => h.aN.tail | exact fun _ h => h.aN.aN | exact fun _ h => h.aN.tail.tail | exact fun _ h => h.tail.tail.tail | exact fun _ h => h.aN.aN.tail) :
  XK N w0 (wpList P ops (Exit.then (rB P w0 ops Q R0 H0 m fuel listed i) Q) []) e R H := XK.nil (XK.iU (XA.back hS h))
theorem XA.bt {i : Nat} (h : XA P N w0 ops Q R0 H0 m fuel (listed.setIfInBounds i true) e R H) (hm : Nat.ble m i = true := by rfl) :
  XK N w0 (wpList P ops (Exit.then (rB P w0 ops Q R0 H0 m fuel listed i) Q) []) e R H := XK.nil (XK.iU (XA.Wy hm h))
theorem XK.aE (k : XK N w0 K' e R H) (hk : XK N w0 K' e R H → XK N w0 (Q .normal) e R H := by
  intro h
  repeat (first | refine XK.iU ?_ | refine XK.Gr ?_ | refine XK.Gq ?_ | refine XK.It ?_ | refine XK.Iv ?_ | refine XK.Is ?_ | refine XK.Iu rfl ?_)
  exact h) : XK N w0 (wpList P ops Q []) e R H := XK.nil (hk k)
end
end
section
def sF (w : World) (r : Nat) (l : List (Int × Value)) : Prop := ∃ es clock, w.heap[r]? = some (.map es clock) ∧ es.toList.map (fun x => (x.key, x.val)) = l.map fun p => (Value.int .i64 p.1, p.2)
def jU (l : List (Int × Value)) (k : Int) : Option Value := (l.find? fun p => decide (p.1 = k)).map (·.2)
def lD : List (Int × Value) → Int → Value → List (Int × Value)
 | [], k, v => [(k, v)]
 | (a, b) :: r, k, v => if a = k then (k, v) :: r else (a, b) :: lD r k v
theorem Il (a : Int) (b : Value) (l : List (Int × Value)) (k : Int) : jU ((a, b) :: l) k = if a = k then some b else jU l k := by
 unfold jU
 rw [List.find?_cons]
 by_cases h : a = k <;> simp [h]
def HP.map (r : Nat) (l : List (Int × Value)) : HP := ⟨fun F w => F r ∧ sF w r l, fun F w w' h hk => ⟨h.1, by
 obtain ⟨es, c, h1, h2⟩ := h.2
 exact ⟨es, c, (hk r h.1).trans h1, h2⟩⟩⟩
theorem sF.lt {w : World} {r : Nat} {l : List (Int × Value)} (h : sF w r l) : r < w.heap.size := by
 obtain ⟨es, c, h1, _⟩ := h
 rcases Nat.lt_or_ge r w.heap.size with h | h
 ·exact h
 ·rw [Array.getElem?_eq_none h] at h1; cases h1
theorem sF.below {w w' : World} {r : Nat} {l : List (Int × Value)} (h : sF w r l) (hb : Below w.heap.size w w') : sF w' r l := by
 have hl := h.lt
 obtain ⟨es, c, h1, h2⟩ := h
 exact ⟨es, c, (hb.block r hl).trans h1, h2⟩
theorem St.map {w0 w : World} {R : List Piece} {H : List HP} (st : St w0 R H w) {i r : Nat} {l : List (Int × Value)} (hi : H[i]? = some (HP.map r l)) : sF w r l := (st.sat hi).choose_spec.2
theorem Vw (kd : IntKind) : ∀ (es : List MapEntry) (l : List (Int × Value)) (k : Int) (i : Nat), es.map (fun x => (x.key, x.val)) = l.map (fun p => (Value.int .i64 p.1, p.2)) →
  ∃ r, Instr.findNow (.int kd) (.int .i64 k) es i = some r ∧ (r.map (·.2) = jU l k) ∧ (∀ j v, r = some (j, v) → i ≤ j ∧ (es.modify (j - i) fun x => { x with key := .int .i64 k, val := v }).map (fun x => (x.key, x.val)) = es.map fun x => (x.key, x.val)) ∧
   (∀ j v, r = some (j, v) → ∀ u, (es.modify (j - i) fun x => { x with key := .int .i64 k, val := u }).map (fun x => (x.key, x.val)) = (lD l k u).map fun p => (Value.int .i64 p.1, p.2)) ∧
   (r = none → ∀ u, l.map (fun p => (Value.int .i64 p.1, p.2)) ++ [(Value.int .i64 k, u)] = (lD l k u).map fun p => (Value.int .i64 p.1, p.2)) ∧ (∀ j v, r = some (j, v) → (es[j - i]?).map (·.key) = some (.int .i64 k))
 | [], [], k, i, _ => ⟨none, rfl, rfl, by simp, by simp, fun _ u => by simp [lD], by simp⟩
 | [], p :: l, k, i, h => by simp at h
 | e :: es, [], k, i, h => by simp at h
 | e :: es, (a, b) :: l, k, i, h => by
  simp only [List.map_cons, List.cons.injEq, Prod.mk.injEq] at h
  obtain ⟨⟨hk, hv⟩, hr⟩ := h
  unfold Instr.findNow
  rw [hk]
  simp only [Instr.sameNow, if_true]
  by_cases Kf : k = a
  ·subst Kf
   simp only [beq_self_eq_true]
   refine ⟨_, rfl, ?_, ?_, ?_, by simp, ?_⟩
   ·rw [Il, if_pos rfl, hv]; rfl
   ·intro j v rU
    cases rU
    refine ⟨Nat.le_refl _, ?_⟩
    simp [List.modify, hk]
   ·intro j v rU u
    cases rU
    simp [List.modify, lD, hr]
   ·intro j v rU
    cases rU
    simp [hk]
  ·have hb : (k == a) = false := by simpa using Kf
   simp only [hb]
   obtain ⟨r, h1, h2, h3, h4, h5, h6⟩ := Vw kd es l k (i + 1) hr
   refine ⟨r, h1, ?_, ?_, ?_, ?_, ?_⟩
   ·rw [Il, if_neg (Ne.symm Kf)]; exact h2
   ·intro j v rU
    obtain ⟨hle, hm⟩ := h3 j v rU
    refine ⟨by omega, ?_⟩
    rw [show j - i = (j - (i + 1)) + 1 by omega, List.modify_succ_cons, List.map_cons, hm]
    rfl
   ·intro j v rU u
    have hle := (h3 j v rU).1
    rw [show j - i = (j - (i + 1)) + 1 by omega, List.modify_succ_cons, List.map_cons, h4 j v rU u, lD, if_neg (Ne.symm Kf), List.map_cons, hk, hv]
   ·intro hn u
    rw [lD, if_neg (Ne.symm Kf), List.map_cons, List.cons_append, h5 hn u, List.map_cons]
   ·intro j v rU
    have hle := (h3 j v rU).1
    rw [show j - i = (j - (i + 1)) + 1 by omega, List.getElem?_cons_succ]
    exact h6 j v rU
section
variable {P : Program} {w : World} {t kt et : TypeId} {r : Nat} {l : List (Int × Value)}
theorem run_getObj_map {es : Array MapEntry} {c : Nat} (h : w.heap[r]? = some (.map es c)) : (getObj r).run P w = .ok (.map es c) w := by simp [getObj, Sem.run, h]
theorem Mz {kd : IntKind} (hk : P.underlying kt = some (.int kd)) (b : Bool) (k : Int) : (Instr.checkKey b 10000 kt (.int .i64 k)).run P w = .ok () w := by
 unfold Instr.checkKey
 simp [Sem.run_bind, run_underlying hk]
theorem aDo {kd : IntKind} {z : Value} (ht : P.underlying t = some (.map kt et)) (hk : P.underlying kt = some (.int kd)) (hz : ∀ w, (zeroValue et).run P w = .ok z w) (h : sF w r l) (k : Int) (ok : Bool) :
  (Instr.lookup t (.map (some r)) (.int .i64 k) ok).run P w = .ok (if ok then .tuple #[(jU l k).getD z, .bool (jU l k).isSome] else (jU l k).getD z) w := by
 obtain ⟨es, c, h1, h2⟩ := h
 obtain ⟨q, Bu, jW, _⟩ := Vw kd es.toList l k 0 h2
 have hf : (Instr.findKey kt (.int .i64 k) es.toList).run P w = .ok q w := by
  unfold Instr.findKey
  simp [Sem.run_bind, run_underlying hk, Bu]
 unfold Instr.lookup
 rw [← jW]
 cases q with
 | none => cases ok <;> simp [Sem.run_bind, run_underlying ht, run_getObj_map h1, Mz hk, hf, hz]
 | some x => obtain ⟨j, v⟩ := x; cases ok <;> simp [Sem.run_bind, run_underlying ht, run_getObj_map h1, Mz hk, hf]
theorem aDm {kd : IntKind} (ht : P.underlying t = some (.map kt et)) (hk : P.underlying kt = some (.int kd)) (h : sF w r l) (k : Int) (v : Value) :
  ∃ es c, (Instr.mapUpdate t (.map (some r)) (.int .i64 k) v).run P w = .ok () { w with heap := w.heap.setIfInBounds r (.map es c) } ∧ es.toList.map (fun x => (x.key, x.val)) = (lD l k v).map fun p => (Value.int .i64 p.1, p.2) := by
 obtain ⟨es, c, h1, h2⟩ := h
 obtain ⟨q, Bu, _, wD, Ug, hq5, hq6⟩ := Vw kd es.toList l k 0 h2
 have hf : (Instr.findKey kt (.int .i64 k) es.toList).run P w = .ok q w := by
  unfold Instr.findKey
  simp [Sem.run_bind, run_underlying hk, Bu]
 have eB : ∀ o, (setObj r o).run P w = .ok () { w with heap := w.heap.setIfInBounds r o } := fun o => by simp [setObj, Sem.run, h1]
 cases q with
 | none =>
  refine ⟨es.push { key := .int .i64 k, val := v, born := c }, c + 1, ?_, ?_⟩
  ·unfold Instr.mapUpdate
   simp [Sem.run_bind, run_underlying ht, run_getObj_map h1, Mz hk, hf, eB]
  ·rw [Array.toList_push, List.map_append, h2]
   exact hq5 rfl v
 | some x =>
  obtain ⟨j, u⟩ := x
  have hkey := hq6 j u rfl
  rw [Nat.sub_zero] at hkey
  have hsame : (Instr.keyThatStays (((es[j]?).map (·.key)).getD (.int .i64 k)) (.int .i64 k)).run P w = .ok (.int .i64 k) w := by
   have : (es[j]?).map (·.key) = some (.int .i64 k) := by simpa using hkey
   rw [this]
   simp [Instr.keyThatStays, Instr.sameBits]
  refine ⟨es.modify j fun x => { x with key := .int .i64 k, val := v }, c, ?_, ?_⟩
  ·unfold Instr.mapUpdate
   simp [Sem.run_bind, run_underlying ht, run_getObj_map h1, Mz hk, hf, eB, hsame]
  ·have := Ug j u rfl v
   rw [Nat.sub_zero] at this
   rw [Array.toList_modify]
   exact this
end
section
variable {P : Program} {N : cN} {w0 w : World} {e : Env} {R : List Piece} {H : List HP} {Q : Exit → Act → World → Prop} {ops : Array Oper} {rest : List Oper}
variable {d : Nat} {ty : TypeId} {pos : String} {aJ : Array Edge}
theorem Ye {t : TypeId} (hd : d < N.n) (k : ∀ g, XK N w0 (wpList P ops Q rest) ((d, .map (some g)) :: e) R (HP.map g [] :: H)) : XK N w0 (wpList P ops Q (⟨some d, .makeMap t none, ty, pos, aJ, none⟩ :: rest)) e R H :=
 qB rfl fun a w hr st => ⟨.map (some w.heap.size), w.alloc (.map #[] 0), by simp [execOp, Instr.makeMap], k w.heap.size _ _ (hr.put hd _) (st.new (Fv w _) ⟨⟨Nat.le_refl _, by simp⟩, #[], 0, heap_alloc_new w _, rfl⟩)⟩
theorem zeroV {t : TypeId} {z : Value} (h : (P.info? t).bind (·.zero) = some z) : ∀ w, (zeroValue t).run P w = .ok z w := fun w => by
 obtain ⟨i, hi, hz⟩ := Option.bind_eq_some_iff.1 h
 simp [zeroValue, typeInfo, hi, hz]
theorem Qq {x y : Operand} {t kt et : TypeId} {kd : IntKind} {z : Value} {r : Nat} {l : List (Int × Value)} {k : Int} (ok : Bool) (ht : P.underlying t = some (.map kt et)) (hk : P.underlying kt = some (.int kd)) (hz : (P.info? et).bind (·.zero) = some z)
  (hx : e.ev x = some (.map (some r))) (hy : e.ev y = some (.int .i64 k)) (hm : ∀ w, St w0 R H w → sF w r l) (hd : d < N.n)
  (kk : XK N w0 (wpList P ops Q rest) ((d, if ok then .tuple #[(jU l k).getD z, .bool (jU l k).isSome] else (jU l k).getD z) :: e) R H) : XK N w0 (wpList P ops Q (⟨some d, .lookup t x y ok, ty, pos, aJ, none⟩ :: rest)) e R H :=
 qB rfl fun a w hr st => ⟨_, w, by simp only [execOp, hr.ev hx, hr.ev hy, Sem.run_bind, aDo ht hk (zeroV hz) (hm w st), Result.andThen_ok, Sem.run_pure], kk _ _ (hr.put hd _) st⟩
theorem Ay (i : Nat) {x y u : Operand} {t kt et : TypeId} {kd : IntKind} {r : Nat} {l : List (Int × Value)} {k : Int} {v : Value} (ht : P.underlying t = some (.map kt et)) (hk : P.underlying kt = some (.int kd)) (hi : H[i]? = some (HP.map r l))
  (hx : e.ev x = some (.map (some r))) (hy : e.ev y = some (.int .i64 k)) (hu : e.ev u = some v) (kk : XK N w0 (wpList P ops Q rest) e R (H.set i (HP.map r (lD l k v)))) : XK N w0 (wpList P ops Q (⟨none, .mapUpdate t x y u, ty, pos, aJ, none⟩ :: rest)) e R H :=
 Qn rfl rfl fun a w hr st => by
  have hm := st.map hi
  have hlt := hm.lt
  obtain ⟨es, c, hrun, hl⟩ := aDm (P := P) ht hk hm k v
  refine ⟨{ w with heap := w.heap.setIfInBounds r (.map es c) }, by simp only [execOp, hr.ev hx, hr.ev hy, hr.ev hu, Sem.run_bind, hrun, Result.andThen_ok, Sem.run_pure], kk _ _ hr ?_⟩
  refine st.sL hi (by simp) rfl rfl rfl fun F hF hb => ⟨F, ⟨hF.1, es, c, by simp [Array.getElem?_setIfInBounds, hlt], hl⟩, fun b h => ⟨.inl h, by simpa using hb b h⟩, fun b hb hnb => ?_⟩
  rw [Array.getElem?_setIfInBounds]
  split
  ·rename_i he; exact absurd (he ▸ hF.1) hnb
  ·rfl
structure bI (w w' : World) (F F' : Nat → Prop) : Prop where
 os : w'.os = w.os
 tape : w'.tape = w.tape
 output : w'.output = w.output
 size : w.heap.size ≤ w'.heap.size
 new : ∀ b, F' b → (F b ∨ w.heap.size ≤ b) ∧ b < w'.heap.size
 old : ∀ b, b < w.heap.size → ¬ F b → w'.heap[b]? = w.heap[b]?
theorem Qt (i : Nat) {dst : Option Nat} {e' : Env} {f : FuncId} {x : Operand} {args : List Operand} {fi ca vs : List Value} {tys : Array TypeId} {p : HP} {v : Value} (q : HP) (hf : fK P f = true) (hx : e.ev x = some (.func (.func f) fi.toArray ca.toArray)) (ha : e.cV args = some vs) (hi : H[i]? = some p)
  (hd : match dst with | some d => d < N.n ∧ e' = (d, v) :: e | none => e' = e)
  (hc : ∀ w F, St w0 R H w → p.sat F w → (∀ b, F b → b < w.heap.size) → Calls P f (fi ++ vs ++ ca).toArray w fun y w' => y = .returned v ∧ ∃ F', q.sat F' w' ∧ bI w w' F F')
  (k : XK N w0 (wpList P ops Q rest) e' R (H.set i q)) : XK N w0 (wpList P ops Q (⟨dst, .call { callee := .value x, args := args.toArray, argTypes := tys }, ty, pos, aJ, none⟩ :: rest)) e R H := fun a w hr st => wpList_plain rfl fun K hK => by
 unfold fK at hf
 cases hq : P.funcs[f]? with
 | none => simp [hq] at hf
 | some fn =>
  simp [hq] at hf
  obtain ⟨fG, fZ⟩ := hf
  have hrun : (execOp a.eval (⟨dst, .call { callee := .value x, args := args.toArray, argTypes := tys }, ty, pos, aJ, none⟩ : Oper)).run P w = .ok (.enter f (fi ++ vs ++ ca).toArray) w := by
   cases hb : fn.body with
   | none => simp [hb] at fZ
   | some c => simp [execOp, resolve, hr.ev hx, Deferred.ofValue, invoke, callFunc, hq, fG, hb, hr.cV ha]
  obtain ⟨Z, F, hz, cJ, hs, cQ, cW⟩ := st.ex
  unfold Oper.wp
  rw [hrun]
  refine (hc w (F i) st (hs i p hi) (fun b hb => (cQ i b hb).2)).mono fun y w' ⟨hy, F', mE, ht⟩ => ?_
  subst hy
  have st' : St w0 R (H.set i q) w' := by
   have hlt : i < H.length := by
    rcases Nat.lt_or_ge i H.length with h | h
    ·exact h
    ·rw [List.getElem?_eq_none h] at hi; cases hi
   refine ⟨ht.os.trans st.os, ht.tape.trans st.tape, ht.output.trans st.output, Nat.le_trans st.size ht.size, Z, fun j => if j = i then F' else F j, fun b h => Nat.lt_of_lt_of_le (hz b h) ht.size, fun p hp b h => ?_, fun j r hj => ?_, fun j b h => ?_, fun j k b jC h => ?_⟩
   ·exact ⟨(cJ p hp b h).1, (ht.old b (hz b (cJ p hp b h).1) (fun mS => (cQ i b mS).1 (cJ p hp b h).1)).trans (cJ p hp b h).2⟩
   ·rw [List.getElem?_set] at hj
    split at hj
    ·rename_i e; subst e
     first | (rw [if_pos hlt] at hj; cases hj) | cases hj
     simpa using mE
    ·rename_i e
     simp only [if_neg (Ne.symm e)]
     exact r.loc _ _ _ (hs j r hj) (fun b hb => ht.old b (cQ j b hb).2 (cW j i b (Ne.symm e) hb))
   ·dsimp only at h
    split at h
    ·refine ⟨fun fS => ?_, (ht.new b h).2⟩
     rcases (ht.new b h).1 with h | h
     ·exact (cQ i b h).1 fS
     ·have := hz b fS; omega
    ·exact ⟨(cQ j b h).1, Nat.lt_of_lt_of_le (cQ j b h).2 ht.size⟩
   ·dsimp only at h ⊢
    split at h <;> split
    ·rename_i h1 h2; omega
    ·rename_i e1 e2
     intro hk
     rcases (ht.new b h).1 with h | h
     ·exact cW i k b (by omega) h hk
     ·have := (cQ k b hk).2; omega
    ·rename_i e1 e2
     intro hk
     rcases (ht.new b hk).1 with hk | hk
     ·exact cW j i b (by omega) h hk
     ·have := (cQ j b h).2; omega
    ·exact cW j k b jC h
  cases dst with
  | none => dsimp only at hd; subst hd; exact hK _ _ (k _ _ hr st')
  | some d => dsimp only at hd; obtain ⟨hd, rfl⟩ := hd; exact hK _ _ (k _ _ (hr.put hd v) st')
theorem St.Zd {F : Nat → Prop} {p : HP} (h : p.sat F w) (hF : ∀ b, F b → b < w.heap.size) : St w [⟨w, fun b => b < w.heap.size ∧ ¬ F b⟩] [p] w :=
 ⟨rfl, rfl, rfl, Nat.le_refl _, fun b => b < w.heap.size ∧ ¬ F b, fun i b => i = 0 ∧ F b, fun b h => h.1, fun p hp b hb => by simp at hp; subst hp; exact ⟨hb, rfl⟩,
  fun i q hi => by cases i with
   | zero => simp at hi; subst hi; show p.sat (fun b => 0 = 0 ∧ F b) w; rw [show (fun b => 0 = 0 ∧ F b) = F by funext b; simp]; exact h
   | succ i => simp at hi,
  fun i b hb => ⟨fun h => h.2 hb.2, hF b hb.2⟩, fun i j b hij hi hj => by have := hi.1; have := hj.1; omega⟩
theorem XK.dD {nn : Nat} {F : Nat → Prop} {p : HP} {f : FuncId} {fn : Func} {c : Code} {vs : List Value} {Post : Ending → World → Prop} (hf : P.funcs[f]? = some fn) (hb : fn.body = some c) (hN : fn.ntmps = nn) (hl : vs.length ≤ nn) (hp : p.sat F w) (hF : ∀ b, F b → b < w.heap.size)
  (h : XK ⟨nn, []⟩ w (c.wp P (bodyPost P fn Post)) (yO 0 vs) [⟨w, fun b => b < w.heap.size ∧ ¬ F b⟩] [p]) : Calls P f vs.toArray w Post := by
 refine calls_of_wp hf hb (h _ _ ⟨?_, rfl, fun t v hv => ?_⟩ (St.Zd hp hF))
 ·simp; omega
 ·obtain ⟨_, h2⟩ := Lt vs 0 t v hv
  rw [Nat.sub_zero] at h2
  have hlt : t < vs.length := by
   rcases Nat.lt_or_ge t vs.length with h | h
   ·exact h
   ·rw [List.getElem?_eq_none h] at h2; cases h2
  rw [Array.getElem?_append_left (by simpa using hlt)]
  simpa using h2
theorem St.turns {F : Nat → Prop} {q : HP} (st : St w0 R H w) (hF : ∀ b, F b → b < w0.heap.size) (hR : ⟨w0, fun b => b < w0.heap.size ∧ ¬ F b⟩ ∈ R) {i : Nat} (hi : H[i]? = some q) : ∃ F', q.sat F' w ∧ bI w0 w F F' := by
 obtain ⟨Z, G, hz, hr, hs, hf, hd⟩ := st.ex
 refine ⟨G i, hs i q hi, st.os, st.tape, st.output, st.size, fun b hb => ⟨?_, (hf i b hb).2⟩, fun b hb hnb => (hr _ hR b ⟨hb, hnb⟩).2⟩
 rcases Nat.lt_or_ge b w0.heap.size with h | h
 ·refine .inl (Classical.byContradiction fun hn => (hf i b hb).1 (hr _ hR b ⟨h, hn⟩).1)
 ·exact .inr h
end
end
section
structure dG where
 kind : Int
 src : List Int
 rate : Int
 mul : Int
 div : Int
 lock : Int
structure Dom where
 above : Int
 delay : Int
 ret : Bool
structure Rg where
 reset : Int
 kept : Bool
structure bB where
 clock : Int
 domain : Int
 reset : Int
 eS : Int
 aQ : List Rg
 iO : List Int
structure aC where
 aB : List dG
 domains : List Dom
 aW : List Int
 aA : List bB
abbrev oJ := TypeId → Nat → Option Addr → Nat → List Value → Prop
def iX (S : oJ) (c : dG) (row : List Value) : Prop :=
 ∃ A n k, row = [.int .u8 c.kind, .slice A n k, .int .u64 c.rate, .int .i64 c.mul, .int .i64 c.div, .int .i64 c.lock] ∧ n = c.src.length ∧ S 3 1 A n (aO c.src)
def tS (d : Dom) (row : List Value) : Prop := row = [.int .i64 d.above, .int .i64 d.delay, .bool d.ret]
def tO (d : Int) (row : List Value) : Prop := row = [.int .i64 d]
def Rg.cells (r : Rg) : List Value := [.int .u32 r.reset, .bool r.kept]
def jQ (S : oJ) (d : bB) (row : List Value) : Prop :=
 ∃ A n k A' n' k', row = [.int .i64 d.clock, .int .i64 d.domain, .int .i64 d.reset, .int .u32 d.eS, .slice A n k, .slice A' n' k'] ∧ n = d.aQ.length ∧ n' = d.iO.length ∧
  S 92 2 A n (d.aQ.flatMap Rg.cells) ∧ S 3 1 A' n' (aO d.iO)
def Rows {α : Type} (R : α → List Value → Prop) (sz : Nat) : List α → List (List Value) → Prop
 | [], [] => True
 | e :: es, r :: rs => r.length = sz ∧ R e r ∧ Rows R sz es rs
 | _, _ => False
def eO {α : Type} (S : oJ) (R : α → List Value → Prop) (t : TypeId) (sz : Nat) (A : Option Addr) (n : Nat) (es : List α) : Prop :=
 ∃ rows, Rows R sz es rows ∧ n = es.length ∧ S t sz A n rows.flatten
section
variable {α : Type} {R R' : α → List Value → Prop} {sz : Nat}
theorem Rows.mono (hR : ∀ e r, R e r → R' e r) : ∀ {es : List α} {rs : List (List Value)}, Rows R sz es rs → Rows R' sz es rs
 | [], [], _ => trivial
 | _ :: _, _ :: _, h => ⟨h.1, hR _ _ h.2.1, Rows.mono hR h.2.2⟩
theorem Rows.snoc : ∀ {es : List α} {rs : List (List Value)} {e : α} {r : List Value}, Rows R sz es rs → r.length = sz → R e r → Rows R sz (es ++ [e]) (rs ++ [r])
 | [], [], _, _, _, h1, h2 => ⟨h1, h2, trivial⟩
 | _ :: _, _ :: _, _, _, h, h1, h2 => ⟨h.1, h.2.1, Rows.snoc h.2.2 h1 h2⟩
theorem Rows.len : ∀ {es : List α} {rs : List (List Value)}, Rows R sz es rs → rs.length = es.length ∧ rs.flatten.length = es.length * sz
 | [], [], _ => ⟨rfl, by simp⟩
 | _ :: es, _ :: _, h => by
  obtain ⟨h1, h2⟩ := Rows.len h.2.2
  refine ⟨by simp [h1], ?_⟩
  rw [List.flatten_cons, List.length_append, h2, h.1, List.length_cons, Nat.succ_mul, Nat.add_comm]
theorem Rows.get : ∀ {es : List α} {rs : List (List Value)} {k : Nat} {e : α}, Rows R sz es rs → es[k]? = some e → ∃ r, r.length = sz ∧ R e r ∧ ∀ f, f < sz → rs.flatten[k * sz + f]? = r[f]?
 | _ :: _, r :: _, 0, e, h, hk => by
  simp at hk
  subst hk
  exact ⟨r, h.1, h.2.1, fun f hf => by rw [List.flatten_cons, Nat.zero_mul, Nat.zero_add, List.getElem?_append_left (by rw [h.1]; exact hf)]⟩
 | _ :: es, r :: rs, k + 1, e, h, hk => by
  simp at hk
  obtain ⟨r', h1, h2, h3⟩ := Rows.get h.2.2 hk
  refine ⟨r', h1, h2, fun f hf => ?_⟩
  rw [List.flatten_cons, List.getElem?_append_right (by rw [h.1, Nat.succ_mul]; omega), h.1, show (k + 1) * sz + f - sz = k * sz + f by rw [Nat.succ_mul]; omega]
  exact h3 f hf
end
def mW (S : oJ) (s : aC) (v : Array Value) : Prop :=
 ∃ A1 n1 k1 A2 n2 k2 A3 n3 k3 A4 n4 k4, v = #[.slice A1 n1 k1, .slice A2 n2 k2, .slice A3 n3 k3, .slice A4 n4 k4] ∧
  eO S (iX S) 118 6 A1 n1 s.aB ∧ eO S tS 75 3 A2 n2 s.domains ∧ eO S tO 120 1 A3 n3 s.aW ∧ eO S (jQ S) 78 6 A4 n4 s.aA
section
variable {S S' : oJ} (h : ∀ t sz A n xs, S t sz A n xs → S' t sz A n xs)
include h
theorem iX.mono {c : dG} {r : List Value} (k : iX S c r) : iX S' c r := by
 obtain ⟨A, n, q, h1, h2, h3⟩ := k
 exact ⟨A, n, q, h1, h2, h _ _ _ _ _ h3⟩
theorem jQ.mono {c : bB} {r : List Value} (k : jQ S c r) : jQ S' c r := by
 obtain ⟨A, n, q, A', n', q', h1, h2, h3, h4, h5⟩ := k
 exact ⟨A, n, q, A', n', q', h1, h2, h3, h _ _ _ _ _ h4, h _ _ _ _ _ h5⟩
theorem eO.mono {α : Type} {R R' : α → List Value → Prop} {t : TypeId} {sz : Nat} {A : Option Addr} {n : Nat} {es : List α} (hR : ∀ e r, R e r → R' e r) (k : eO S R t sz A n es) : eO S' R' t sz A n es := by
 obtain ⟨rows, h1, h2, h3⟩ := k
 exact ⟨rows, h1.mono hR, h2, h _ _ _ _ _ h3⟩
theorem mW.mono {s : aC} {v : Array Value} (k : mW S s v) : mW S' s v := by
 obtain ⟨A1, n1, k1, A2, n2, k2, A3, n3, k3, A4, n4, k4, h0, h1, h2, h3, h4⟩ := k
 exact ⟨A1, n1, k1, A2, n2, k2, A3, n3, k3, A4, n4, k4, h0, h1.mono h (fun _ _ => iX.mono h), h2.mono h (fun _ _ h => h), h3.mono h (fun _ _ h => h), h4.mono h (fun _ _ => jQ.mono h)⟩
end
def Rp (w : World) (B : Nat) : oJ := fun _ sz A n xs => Sl w B sz A n xs
abbrev aCf (w : World) (s : aC) (v : Array Value) : Prop := mW (Rp w w.heap.size) s v
theorem mW.thn {w w' : World} {s : aC} {v : Array Value} (h : aCf w s v) (hb : Below w.heap.size w w') : aCf w' s v := h.mono (fun _ _ _ _ _ h => h.thn hb)
theorem eO.at_ {α : Type} {w : World} {B : Nat} {R : α → List Value → Prop} {t : TypeId} {sz : Nat} {A : Option Addr} {n : Nat} {es : List α} (h : eO (Rp w B) R t sz A n es) {k : Nat} {e : α} (hk : es[k]? = some e) :
  ∃ b off r, A = some ⟨b, off, none⟩ ∧ b < B ∧ r.length = sz ∧ R e r ∧ ∀ f u, r[f]? = some u → w.cell? ⟨b, off + k * sz + f, none⟩ = some u := by
 obtain ⟨rows, h1, h2, h3⟩ := h
 have hlt : k < n := by
  rw [h2]
  rcases Nat.lt_or_ge k es.length with h | h
  ·exact h
  ·rw [List.getElem?_eq_none h] at hk; cases hk
 obtain ⟨b, off, hA, hb, hc⟩ := Sl.at_ h3 hlt
 obtain ⟨r, h4, h5, h6⟩ := h1.get hk
 refine ⟨b, off, r, hA, hb, h4, h5, fun f u hu => hc f u ?_⟩
 have hf : f < sz := by
  rw [← h4]
  rcases Nat.lt_or_ge f r.length with h | h
  ·exact h
  ·rw [List.getElem?_eq_none h] at hu; cases hu
 rw [h6 f hf, hu]
def lW (w : World) : oJ := fun t sz A n xs => xs.length = n * sz ∧ (0 < n → ∃ b off cs, A = some ⟨b, off, none⟩ ∧ dQ w b t cs ∧ ∀ j u, xs[j]? = some u → cs[off + j]? = some u)
def Kt (T : TypeId → Prop) (w w' : World) : Prop := ∀ t, T t → ∀ b cs, dQ w b t cs → dQ w' b t cs
section
variable {T : TypeId → Prop} {w w1 w2 : World}
theorem Kt.refl (T : TypeId → Prop) (w : World) : Kt T w w := fun _ _ _ _ h => h
theorem Kt.trans (h : Kt T w w1) (k : Kt T w1 w2) : Kt T w w2 := fun t ht b cs hb => k t ht b cs (h t ht b cs hb)
theorem Kt.drew (h : Kt T w w1) : Kt T w w1.drew := h
theorem Kt.alloc (h : Kt T w w1) (o : Obj) : Kt T w (w1.alloc o) := fun t ht b cs hb => (h t ht b cs hb).alloc o
theorem Kt.setCell (h : Kt T w w1) {p : Addr} {t : TypeId} {cs : Array Value} (hp : dQ w1 p.block t cs) (ht : ¬ T t) (u : Value) : Kt T w (w1.setCell p u) := fun t' ht' b cs' hb =>
 (h t' ht' b cs' hb).far (fun e => by
  have := h t' ht' b cs' hb
  unfold dQ at this hp
  rw [e, hp] at this
  injection this with this
  injection this with _ h2
  exact ht (h2 ▸ ht')) u
end
theorem lW.kt {T : TypeId → Prop} {w w' : World} (h : Kt T w w') {t : TypeId} (ht : T t) {sz : Nat} {A : Option Addr} {n : Nat} {xs : List Value} (k : lW w t sz A n xs) : lW w' t sz A n xs :=
 ⟨k.1, fun hn => by
  obtain ⟨b, off, cs, h1, h2, h3⟩ := k.2 hn
  exact ⟨b, off, cs, h1, h t ht b cs h2, h3⟩⟩
theorem lW.sl {w : World} {t : TypeId} {sz : Nat} {A : Option Addr} {n : Nat} {xs : List Value} (k : lW w t sz A n xs) : Rp w w.heap.size t sz A n xs :=
 ⟨k.1, fun hn => by
  obtain ⟨b, off, cs, h1, h2, h3⟩ := k.2 hn
  exact ⟨b, off, h1, h2.lt, fun j u hu => by rw [h2.cell]; exact h3 j u hu⟩⟩
theorem lW.nil (w : World) (t : TypeId) (sz : Nat) : lW w t sz none 0 [] := ⟨by simp, fun h => absurd h (by omega)⟩
theorem lW.pE {w : World} {g n sz : Nat} {t : TypeId} {cs : Array Value} (h : dQ w g t cs) (hn : cs.size = n * sz) : lW w t sz (some ⟨g, 0, none⟩) n cs.toList :=
 ⟨by simpa using hn, fun _ => ⟨g, 0, cs, rfl, h, fun j u hu => by rw [Nat.zero_add]; simpa using hu⟩⟩
theorem lW.rN {w : World} {base : Nat} {e : TypeId} {size : Nat} {v : Value} {n : Nat} {xs : List Value} (h : w.ownsRow base e size v n xs) : ∃ A c, v = .slice A n c ∧ lW w e size A n xs := by
 have hl := h.1
 rcases h.2 with ⟨rfl, hn⟩ | ⟨g, cap, cur, rfl, hb, hg, _, _, El⟩
 ·exact ⟨none, 0, by rw [hn], hl, fun h => absurd h (by omega)⟩
 ·refine ⟨some ⟨g, 0, none⟩, cap, rfl, hl, fun _ => ⟨g, 0, cur, rfl, ?_, fun j u hu => ?_⟩⟩
  ·exact hg
  ·rw [← El.2, List.getElem?_take] at hu
   rw [Nat.zero_add]
   split at hu
   ·simpa using hu
   ·cases hu
def Ma {α : Type} (R : World → α → List Value → Prop) (w : World) (base : Nat) (t : TypeId) (sz : Nat) (v : Value) (es : List α) : Prop :=
 ∃ rows, Rows (R w) sz es rows ∧ w.ownsRow base t sz v es.length rows.flatten
theorem Ma.push {α : Type} {R : World → α → List Value → Prop} {w w' : World} {base : Nat} {t : TypeId} {sz : Nat} {v' : Value} {es : List α} {rows : List (List Value)} {e : α} {row : List Value}
  (hR : ∀ e r, R w e r → R w' e r) (h : Rows (R w) sz es rows) (hr : row.length = sz) (he : R w' e row) (hown : w'.ownsRow base t sz v' (es.length + 1) (rows.flatten ++ row)) : Ma R w' base t sz v' (es ++ [e]) :=
 ⟨rows ++ [row], (h.mono hR).snoc hr he, by simpa using hown⟩
theorem Ma.kept {α : Type} {R : World → α → List Value → Prop} {w w' : World} {base : Nat} {t : TypeId} {sz : Nat} {v : Value} {es : List α}
  (hR : ∀ e r, R w e r → R w' e r) (h : Ma R w base t sz v es) (hown : ∀ xs, w.ownsRow base t sz v es.length xs → w'.ownsRow base t sz v es.length xs) : Ma R w' base t sz v es := by
 obtain ⟨rows, h1, h2⟩ := h
 exact ⟨rows, h1.mono hR, hown _ h2⟩
def inner (t : TypeId) : Prop := t = 3 ∨ t = 92
theorem iX.kt {w w' : World} (h : Kt inner w w') {c : dG} {r : List Value} (k : iX (lW w) c r) : iX (lW w') c r := by
 obtain ⟨A, n, q, h1, h2, h3⟩ := k
 exact ⟨A, n, q, h1, h2, h3.kt h (.inl rfl)⟩
theorem jQ.kt {w w' : World} (h : Kt inner w w') {c : bB} {r : List Value} (k : jQ (lW w) c r) : jQ (lW w') c r := by
 obtain ⟨A, n, q, A', n', q', h1, h2, h3, h4, h5⟩ := k
 exact ⟨A, n, q, A', n', q', h1, h2, h3, h4.kt h (.inr rfl), h5.kt h (.inl rfl)⟩
theorem eO.kt {α : Type} {T : TypeId → Prop} {w w' : World} (h : Kt T w w') {R R' : α → List Value → Prop} {t : TypeId} (ht : T t) {sz : Nat} {A : Option Addr} {n : Nat} {es : List α} (hR : ∀ e r, R e r → R' e r) (k : eO (lW w) R t sz A n es) : eO (lW w') R' t sz A n es := by
 obtain ⟨rows, h1, h2, h3⟩ := k
 exact ⟨rows, h1.mono hR, h2, h3.kt h ht⟩
theorem mW.kt {w w' : World} (h : Kt (fun t => t ≠ 29) w w') {s : aC} {v : Array Value} (k : mW (lW w) s v) : mW (lW w') s v := by
 have hi : Kt inner w w' := fun t ht => h t (by rcases ht with rfl | rfl <;> decide)
 obtain ⟨A1, n1, k1, A2, n2, k2, A3, n3, k3, A4, n4, k4, h0, h1, h2, h3, h4⟩ := k
 exact ⟨A1, n1, k1, A2, n2, k2, A3, n3, k3, A4, n4, k4, h0, h1.kt h (by decide) (fun _ _ => iX.kt hi), h2.kt h (by decide) (fun _ _ h => h), h3.kt h (by decide) (fun _ _ h => h), h4.kt h (by decide) (fun _ _ => jQ.kt hi)⟩
def dG.fit (i : Nat) (c : dG) : Prop :=
  (∀ f ∈ c.src, 0 ≤ f ∧ f < i) ∧
  ((c.kind = 111 ∧ c.src = [] ∧ 1 ≤ c.rate ∧ c.rate ≤ 1000000 ∧ c.mul = 0 ∧ c.div = 0 ∧ c.lock = 0) ∨
   (c.kind = 112 ∧ c.src.length = 1 ∧ c.rate = 0 ∧ 1 ≤ c.mul ∧ c.mul ≤ 8 ∧ 1 ≤ c.div ∧ c.div ≤ 4 ∧ 0 ≤ c.lock ∧ c.lock ≤ 3) ∨
   (c.kind = 100 ∧ c.src.length = 1 ∧ c.rate = 0 ∧ c.mul = 0 ∧ 1 ≤ c.div ∧ c.div ≤ 8 ∧ c.lock = 0) ∨
   (c.kind = 103 ∧ c.src.length = 1 ∧ c.rate = 0 ∧ c.mul = 0 ∧ c.div = 0 ∧ c.lock = 0) ∨
   (c.kind = 109 ∧ c.src.length = 2 ∧ c.rate = 0 ∧ c.mul = 0 ∧ c.div = 0 ∧ c.lock = 0))
def Dom.fit (i : Nat) (d : Dom) : Prop := (d.above = -1 ∨ (0 ≤ d.above ∧ d.above < i)) ∧ 0 ≤ d.delay ∧ d.delay ≤ 3
def bB.fit (nc nd nr i : Nat) (d : bB) : Prop :=
 0 ≤ d.clock ∧ d.clock < nc ∧ 0 ≤ d.domain ∧ d.domain < nd ∧ 0 ≤ d.reset ∧ d.reset < nr ∧ 0 ≤ d.eS ∧ d.eS ≤ 2 ∧
 d.aQ.length ≤ 4 ∧ (∀ r ∈ d.aQ, 0 ≤ r.reset ∧ r.reset ≤ 6) ∧ d.iO.length ≤ 2 ∧ ∀ f ∈ d.iO, 0 ≤ f ∧ f < i
def Fits {α : Type} (F : Nat → α → Prop) (es : List α) : Prop := ∀ (i : Nat) (e : α), es[i]? = some e → F i e
theorem Fits.nil {α : Type} (F : Nat → α → Prop) : Fits F [] := fun i e h => by simp at h
theorem Fits.snoc {α : Type} {F : Nat → α → Prop} {es : List α} {e : α} (h : Fits F es) (he : F es.length e) : Fits F (es ++ [e]) := fun i x hx => by
 rcases Nat.lt_or_ge i es.length with hl | hl
 ·rw [List.getElem?_append_left hl] at hx
  exact h i x hx
 ·rw [List.getElem?_append_right hl] at hx
  rcases Nat.eq_zero_or_pos (i - es.length) with h0 | h0
  ·rw [h0] at hx
   simp at hx
   subst hx
   rwa [show i = es.length by omega]
  ·rw [List.getElem?_eq_none (by simp; omega)] at hx
   cases hx
structure aC.made (s : aC) : Prop where
 aB : Fits dG.fit s.aB
 domains : Fits Dom.fit s.domains
 aW : ∀ r ∈ s.aW, 0 ≤ r ∧ r ≤ 3
 aA : Fits (bB.fit s.aB.length s.domains.length s.aW.length) s.aA
 nc : 1 ≤ s.aB.length ∧ s.aB.length ≤ 9
 nd : 1 ≤ s.domains.length ∧ s.domains.length ≤ 4
 nr : 1 ≤ s.aW.length ∧ s.aW.length ≤ 3
 nv : 1 ≤ s.aA.length ∧ s.aA.length ≤ 4
end
section
theorem aCX {z d lo hi : Int} (hd : 1 ≤ d) (hlo : lo ≤ 0) (hhi : 0 ≤ hi) (h : lo ≤ z ∧ z ≤ hi) : lo ≤ z.tdiv d ∧ z.tdiv d ≤ hi := by
 obtain ⟨d, rfl⟩ : ∃ e : Nat, d = e := ⟨d.toNat, by omega⟩
 rcases z with m | m
 ·have h1 : Int.tdiv (Int.ofNat m) (d : Int) = ((m / d : Nat) : Int) := rfl
  have h2 : m / d ≤ m := Nat.div_le_self _ _
  have h3 : (Int.ofNat m : Int) = (m : Int) := rfl
  rw [h1]
  generalize m / d = q at *
  omega
 ·have h1 : Int.tdiv (Int.negSucc m) (d : Int) = -(((m + 1) / d : Nat) : Int) := rfl
  have h2 : (m + 1) / d ≤ m + 1 := Nat.div_le_self _ _
  have h3 : (Int.negSucc m : Int) = -((m : Int) + 1) := rfl
  rw [h1]
  generalize (m + 1) / d = q at *
  omega
def tR (ds : List Int) : Prop := ds.length = 120 ∧ ∀ k : Nat, 0 ≤ ds[k]?.getD 0 ∧ ds[k]?.getD 0 < 1000000
theorem tR.zero : tR (List.replicate 120 0) := ⟨by simp, fun k => by rw [List.getElem?_replicate]; split <;> simp⟩
theorem tR.gH {ds : List Int} (h : tR ds) (i : Nat) {r : Int} (h0 : 0 ≤ r) (h1 : r < 1000000) : tR (ds.set i r) :=
 ⟨by simp [h.1], fun k => by
  rw [List.getElem?_set]
  split
  ·split
   ·simp; omega
   ·simp
  ·exact h.2 k⟩
def dv (ds : List Int) (k : Nat) : Int := ds[k]?.getD 0
theorem tR.at_ {ds : List Int} (h : tR ds) (k : Nat) (hk : k < 120) : (aO ds)[k]? = some (.int .i64 (dv ds k)) := Tg ds k (by rw [h.1]; exact hk)
theorem tR.bd {ds : List Int} (h : tR ds) (k : Nat) : 0 ≤ dv ds k ∧ dv ds k < 1000000 := h.2 k
def dU (q : Piece) : oJ := fun _ sz A n xs => aH q sz A n xs
theorem gE {p q : Piece} (h : p.Le q) : ∀ t sz A n xs, dU p t sz A n xs → dU q t sz A n xs := fun _ _ _ _ _ k => aH.le k h
theorem aFi {q : Nat} (h : q < 5) : ∃ b : UInt8, (⟨#[112, 100, 103, 109, 103]⟩ : ByteArray)[q]? = some b ∧ (b.toNat = 112 ∨ b.toNat = 100 ∨ b.toNat = 103 ∨ b.toNat = 109) := by
 match q, h with
 | 0, _ => exact ⟨112, rfl, by decide⟩
 | 1, _ => exact ⟨100, rfl, by decide⟩
 | 2, _ => exact ⟨103, rfl, by decide⟩
 | 3, _ => exact ⟨109, rfl, by decide⟩
 | 4, _ => exact ⟨103, rfl, by decide⟩
theorem xZ (a : Int) {n : Int} (hn : 0 < n) : 0 ≤ a % n ∧ a % n < n := ⟨Int.emod_nonneg _ (by omega), Int.emod_lt_of_pos _ hn⟩
end
section
def HP.emp : HP := ⟨fun _ _ => True, fun _ _ _ _ _ => trivial⟩
def HP.many (ps : List HP) : HP := ⟨fun F w => ∃ G : Nat → Nat → Prop, (∀ (i : Nat) (p : HP), ps[i]? = some p → p.sat (G i) w) ∧ (∀ i b, G i b → F b) ∧ ∀ i j b, i ≠ j → G i b → ¬ G j b,
 fun F w w' h hk => by
  obtain ⟨G, h1, h2, h3⟩ := h
  exact ⟨G, fun i p hp => p.loc _ _ _ (h1 i p hp) (fun b hb => hk b (h2 i b hb)), h2, h3⟩⟩
def kA (w : World) (hs : List HP) (q : Piece) : Prop := ∃ F : Nat → Nat → Prop, (∀ (i : Nat) (p : HP), hs[i]? = some p → p.sat (F i) q.w) ∧ (∀ i b, F i b → w.heap.size ≤ b ∧ b < q.w.heap.size ∧ ¬ q.Z b) ∧ (∀ i j b, i ≠ j → F i b → ¬ F j b) ∧ ∀ b, q.Z b → w.heap.size ≤ b ∧ b < q.w.heap.size
section
variable {P : Program} {N : cN} {w0 w w' : World} {e : Env} {R : List Piece} {H : List HP} {Q : Exit → Act → World → Prop} {ops : Array Oper} {rest : List Oper}
variable {d : Nat} {ty : TypeId} {pos : String} {aJ : Array Edge} {K : Act → World → Prop}
theorem St.take (st : St w0 R H w) {i j : Nat} {ps : List HP} {p : HP} (hj : H[j]? = some (HP.many ps)) (hi : ps[i]? = some p) : St w0 R (p :: H.set j (HP.many (ps.set i HP.emp))) w := by
 obtain ⟨Z, F, hz, hr, hs, hf, hd⟩ := st.ex
 obtain ⟨G, g1, g2, g3⟩ := hs j _ hj
 have hlt : j < H.length := by
  rcases Nat.lt_or_ge j H.length with h | h
  ·exact h
  ·rw [List.getElem?_eq_none h] at hj; cases hj
 refine ⟨st.os, st.tape, st.output, st.size, Z, fun k => match k with | 0 => G i | k + 1 => if k = j then (fun b => F j b ∧ ¬ G i b) else F k, hz, hr, fun k q hk => ?_, fun k b h => ?_, fun k l b Bw h1 h2 => ?_⟩
 ·cases k with
  | zero => simp at hk; subst hk; exact g1 i _ hi
  | succ k =>
   rw [List.getElem?_cons_succ, List.getElem?_set] at hk
   split at hk
   ·rename_i e; subst e
    first | (rw [if_pos hlt] at hk; cases hk) | cases hk
    simp only [if_true]
    refine ⟨fun l b => l ≠ i ∧ G l b, fun l q hl => ?_, fun l b h => ⟨g2 l b h.2, g3 l i b h.1 h.2⟩, fun l l' b uM h h' => g3 l l' b uM h.2 h'.2⟩
    rw [List.getElem?_set] at hl
    split at hl
    ·split at hl
     ·cases hl; trivial
     ·cases hl
    ·rename_i hne
     show q.sat (fun b => l ≠ i ∧ G l b) w
     rw [show (fun b => l ≠ i ∧ G l b) = G l by funext b; simp [Ne.symm hne]]
     exact g1 l q hl
   ·rename_i e
    simp only [if_neg (Ne.symm e)]
    exact hs k q hk
 ·cases k with
  | zero => exact hf j b (g2 i b h)
  | succ k =>
   dsimp only at h
   split at h
   ·exact hf j b h.1
   ·exact hf k b h
 ·cases k with
  | zero => cases l with
   | zero => exact absurd rfl Bw
   | succ l =>
    dsimp only at h1 h2
    split at h2
    ·exact h2.2 h1
    ·rename_i hne; exact hd j l b (Ne.symm hne) (g2 i b h1) h2
  | succ k => cases l with
   | zero =>
    dsimp only at h1 h2
    split at h1
    ·exact h1.2 h2
    ·rename_i hne; exact hd j k b (Ne.symm hne) (g2 i b h2) h1
   | succ l =>
    dsimp only at h1 h2
    split at h1 <;> split at h2
    ·omega
    ·rename_i e1 e2; exact hd j l b (by omega) h1.1 h2
    ·rename_i e1 e2; exact hd k j b (by omega) h1 h2.1
    ·exact hd k l b (by omega) h1 h2
theorem St.aX {p : HP} (st : St w0 R (p :: H) w) {i j : Nat} {ps : List HP} (hj : H[j]? = some (HP.many ps)) (hi : ps[i]? = some HP.emp) : St w0 R (H.set j (HP.many (ps.set i p))) w := by
 obtain ⟨Z, F, hz, hr, hs, hf, hd⟩ := st.ex
 obtain ⟨G, g1, g2, g3⟩ := hs (j + 1) _ (by simpa using hj)
 have hlt : j < H.length := by
  rcases Nat.lt_or_ge j H.length with h | h
  ·exact h
  ·rw [List.getElem?_eq_none h] at hj; cases hj
 have hil : i < ps.length := by
  rcases Nat.lt_or_ge i ps.length with h | h
  ·exact h
  ·rw [List.getElem?_eq_none h] at hi; cases hi
 refine ⟨st.os, st.tape, st.output, st.size, Z, fun k => if k = j then (fun b => F (j + 1) b ∨ F 0 b) else F (k + 1), hz, hr, fun k q hk => ?_, fun k b h => ?_, fun k l b Bw h1 h2 => ?_⟩
 ·rw [List.getElem?_set] at hk
  split at hk
  ·rename_i e; subst e
   first | (rw [if_pos hlt] at hk; cases hk) | cases hk
   simp only [if_true]
   refine ⟨fun l => if l = i then F 0 else G l, fun l q hl => ?_, fun l b h => ?_, fun l l' b uM h h' => ?_⟩
   ·rw [List.getElem?_set] at hl
    split at hl
    ·rename_i e; subst e
     first | (rw [if_pos hil] at hl; cases hl) | cases hl
     simpa using hs 0 p rfl
    ·rename_i hne
     simp only [if_neg (Ne.symm hne)]
     exact g1 l q hl
   ·dsimp only at h
    split at h
    ·exact .inr h
    ·exact .inl (g2 l b h)
   ·dsimp only at h h'
    split at h <;> split at h'
    ·omega
    ·exact hd 0 (j + 1) b (by omega) h (g2 l' b h')
    ·exact hd (j + 1) 0 b (by omega) (g2 l b h) h'
    ·exact g3 l l' b uM h h'
  ·rename_i e
   simp only [if_neg (Ne.symm e)]
   exact hs (k + 1) q (by simpa using hk)
 ·dsimp only at h
  split at h
  ·rcases h with h | h
   ·exact hf _ b h
   ·exact hf _ b h
  ·exact hf _ b h
 ·dsimp only at h1 h2
  split at h1 <;> split at h2
  ·omega
  ·rename_i e1 e2
   rcases h1 with h1 | h1
   ·exact hd (j + 1) (l + 1) b (by omega) h1 h2
   ·exact hd 0 (l + 1) b (by omega) h1 h2
  ·rename_i e1 e2
   rcases h2 with h2 | h2
   ·exact hd (k + 1) (j + 1) b (by omega) h1 h2
   ·exact hd (k + 1) 0 b (by omega) h1 h2
  ·exact hd (k + 1) (l + 1) b (by omega) h1 h2
theorem XK.take (j i : Nat) {ps : List HP} {p : HP} (hj : H[j]? = some (HP.many ps)) (hi : ps[i]? = some p) (h : XK N w0 K e R (p :: H.set j (HP.many (ps.set i HP.emp)))) : XK N w0 K e R H := fun a w hr st => h a w hr (st.take hj hi)
theorem XK.aX (j i : Nat) {ps : List HP} {p : HP} (hj : H[j]? = some (HP.many ps)) (hi : ps[i]? = some HP.emp) (h : XK N w0 K e R (H.set j (HP.many (ps.set i p)))) : XK N w0 K e R (p :: H) := fun a w hr st => h a w hr (st.aX hj hi)
theorem XK.aE4 (n : Nat) (t : TypeId) (sz : Nat) (h : XK N w0 K e R (HP.many (List.replicate n (HP.own t sz (.slice none 0 0) 0 [])) :: H)) : XK N w0 K e R H := fun a w hr st =>
 h a w hr (st.new (w' := w) (Below.refl _ _) (by
  refine ⟨fun _ _ => False, fun i p hp => ?_, fun _ _ h => h.elim, fun _ _ _ _ h => h.elim⟩
  rw [List.getElem?_replicate] at hp
  split at hp
  ·cases hp; exact ⟨fun g hg => by simp [Value.ownBlock] at hg, World.ownsRow_nil _ _ _ _⟩
  ·cases hp))
theorem St.newR (st : St w0 R H w) (hall : all w0 ∈ R) {q : Piece} (hq : q ∈ R) (hf : lA w0 q) : kA w0 H ⟨w, q.Z⟩ := by
 obtain ⟨Z, F, hz, hr, hs, cQ, hd⟩ := st.ex
 refine ⟨F, hs, fun i b hb => ⟨?_, (cQ i b hb).2, fun Em => (cQ i b hb).1 (hr q hq b Em).1⟩, hd, fun b hb => ⟨hf b hb, hz b (hr q hq b hb).1⟩⟩
 rcases Nat.lt_or_ge b w0.heap.size with h | h
 ·exact absurd (hr _ hall b h).1 (cQ i b hb).1
 ·exact h
theorem St.got (st : St w0 R H w) {hs : List HP} {q : Piece} (hb : Below w.heap.size w q.w) (hn : kA w hs q) : St w0 (q :: R) (hs ++ H) q.w ∧ lA w0 q := by
 have s' := st.call hb
 obtain ⟨Z, F, hz, hr, Tw, hf, hd⟩ := st.ex
 obtain ⟨G, g1, g2, g3, g4⟩ := hn
 refine ⟨⟨s'.os, s'.tape, s'.output, s'.size, fun b => Z b ∨ q.Z b, fun i => if i < hs.length then G i else F (i - hs.length), fun b h => ?_, fun p hp b h => ?_, fun i p hi => ?_, fun i b h => ?_, fun i j b hij h1 h2 => ?_⟩, fun b hb => Nat.le_trans st.size (g4 b hb).1⟩
 ·rcases h with h | h
  ·exact Nat.lt_of_lt_of_le (hz b h) hb.size
  ·exact (g4 b h).2
 ·simp only [List.mem_cons] at hp
  rcases hp with rfl | hp
  ·exact ⟨.inr h, rfl⟩
  ·exact ⟨.inl (hr p hp b h).1, (hb.block b (hz b (hr p hp b h).1)).trans (hr p hp b h).2⟩
 ·dsimp only
  split
  ·rename_i hlt
   rw [List.getElem?_append_left hlt] at hi
   exact g1 i p hi
  ·rename_i hge
   rw [List.getElem?_append_right (by omega)] at hi
   exact p.loc _ _ _ (Tw _ p hi) (fun b gK => hb.block b (hf _ b gK).2)
 ·dsimp only at h
  split at h
  ·refine ⟨?_, (g2 i b h).2.1⟩
   rintro (fS | fS)
   ·have := hz b fS; have := (g2 i b h).1; omega
   ·exact (g2 i b h).2.2 fS
  ·refine ⟨?_, Nat.lt_of_lt_of_le (hf _ b h).2 hb.size⟩
   rintro (fS | fS)
   ·exact (hf _ b h).1 fS
   ·have := (g4 b fS).1; have := (hf _ b h).2; omega
 ·dsimp only at h1 h2
  split at h1 <;> split at h2
  ·exact g3 i j b hij h1 h2
  ·have := (g2 i b h1).1; have := (hf _ b h2).2; omega
  ·have := (g2 j b h2).1; have := (hf _ b h1).2; omega
  ·exact hd _ _ b (by omega) h1 h2
theorem dZ {f : FuncId} {x : Operand} {args : List Operand} {fi ca vs : List Value} {tys : Array TypeId} (hf : fK P f = true) (hx : e.ev x = some (.func (.func f) fi.toArray ca.toArray)) (ha : e.cV args = some vs) (hd : d < N.n)
  (Ok : Value → List HP → Piece → Prop) (hc : ∀ w, St w0 R H w → Calls P f (fi ++ vs ++ ca).toArray w fun y w' => (∃ v hs q, y = .returned v ∧ q.w = w' ∧ Ok v hs q ∧ kA w hs q) ∧ Below w.heap.size w w')
  (k : ∀ v hs q, Ok v hs q → lA w0 q → XK N w0 (wpList P ops Q rest) ((d, v) :: e) (q :: R) (hs ++ H)) :
  XK N w0 (wpList P ops Q (⟨some d, .call { callee := .value x, args := args.toArray, argTypes := tys }, ty, pos, aJ, none⟩ :: rest)) e R H := fun a w hr st => wpList_plain rfl fun K hK => by
 unfold fK at hf
 cases hq : P.funcs[f]? with
 | none => simp [hq] at hf
 | some fn =>
  simp [hq] at hf
  obtain ⟨fG, fZ⟩ := hf
  have hrun : (execOp a.eval (⟨some d, .call { callee := .value x, args := args.toArray, argTypes := tys }, ty, pos, aJ, none⟩ : Oper)).run P w = .ok (.enter f (fi ++ vs ++ ca).toArray) w := by
   cases hb : fn.body with
   | none => simp [hb] at fZ
   | some c => simp [execOp, resolve, hr.ev hx, Deferred.ofValue, invoke, callFunc, hq, fG, hb, hr.cV ha]
  unfold Oper.wp
  rw [hrun]
  refine (hc w st).mono fun y w' ⟨⟨v, hs, q, hy, hqw, hok, hnew⟩, hb⟩ => ?_
  subst hy
  subst hqw
  obtain ⟨st', hfr⟩ := st.got hb hnew
  exact hK _ _ (k v hs q hok hfr _ _ (hr.put hd v) st')
end
def oK (S : oJ) (l : List Int) (row : List Value) : Prop := ∃ A n k, row = [.slice A n k] ∧ n = l.length ∧ S 3 1 A n (aO l)
theorem oK.mono {S S' : oJ} (h : ∀ t sz A n xs, S t sz A n xs → S' t sz A n xs) {l : List Int} {r : List Value} (k : oK S l r) : oK S' l r := by
 obtain ⟨A, n, q, h1, h2, h3⟩ := k
 exact ⟨A, n, q, h1, h2, h _ _ _ _ _ h3⟩
def kT (p : Piece) (A : Option Addr) (n : Nat) (g : List (List Int)) : Prop := eO (dU p) (oK (dU p)) 22 1 A n g
theorem kT.le {p q : Piece} {A : Option Addr} {n : Nat} {g : List (List Int)} (h : kT p A n g) (hl : p.Le q) : kT q A n g := eO.mono (gE hl) (fun _ _ => oK.mono (gE hl)) h
theorem Rows.at_ {α : Type} {R : α → List Value → Prop} {sz : Nat} : ∀ {es : List α} {rs : List (List Value)} {i : Nat} {r : List Value}, Rows R sz es rs → rs[i]? = some r → ∃ e, es[i]? = some e ∧ r.length = sz ∧ R e r
 | [], [], i, r, _, h => by simp at h
 | e :: es, x :: rs, 0, r, h, hr => by simp at hr; subst hr; exact ⟨e, rfl, h.1, h.2.1⟩
 | e :: es, x :: rs, i + 1, r, h, hr => by simpa using Rows.at_ h.2.2 (by simpa using hr)
theorem Rows.aCb {α : Type} {R : α → List Value → Prop} {sz : Nat} {es : List α} {rs : List (List Value)} (h : Rows R sz es rs) : ∀ r ∈ rs, r.length = sz := fun r hr => by
 obtain ⟨i, hi⟩ := List.getElem?_of_mem hr
 obtain ⟨e, _, h1, _⟩ := h.at_ hi
 exact h1
theorem kT.row {w : World} {A : Option Addr} {n : Nat} {g : List (List Int)} (h : kT (all w) A n g) {k : Nat} {l : List Int} (hk : g[k]? = some l) :
  ∃ b off B c, A = some ⟨b, off, none⟩ ∧ eW w b (off + k) (.slice B l.length c) ∧ aH (all w) 1 B l.length (aO l) := by
 obtain ⟨rows, h1, h2, h3⟩ := h
 obtain ⟨r, hr, hR, hf⟩ := h1.get hk
 obtain ⟨B, m, c, rfl, hm, hs⟩ := hR
 have hlt : k < n := by
  rw [h2]
  rcases Nat.lt_or_ge k g.length with h | h
  ·exact h
  ·rw [List.getElem?_eq_none h] at hk; cases hk
 obtain ⟨b, off, hA, hz, hc⟩ := aH.at_ h3 hlt
 subst hm
 refine ⟨b, off, B, c, hA, ⟨hz, ?_⟩, hs⟩
 have h4 := hc 0 (.slice B l.length c) (by rw [hf 0 (by omega)]; rfl)
 rw [Nat.mul_one, Nat.add_zero] at h4
 exact h4
end
section
section
variable {P : Program} {N : cN} {w0 w : World} {e : Env} {R : List Piece} {H : List HP} {Q : Exit → Act → World → Prop} {ops : Array Oper} {rest : List Oper}
variable {d : Nat} {ty : TypeId} {pos : String} {aJ : Array Edge}
theorem rG {op : Op} {j : Nat} {want : Bool} {t : Nat} (hj : (ops[j]?).bind (·.dst) = some t) (ht : e.get t = some undef) (hd : d < N.n)
  (k : XK N w0 (wpList P ops Q rest) ((d, undef) :: e) R H) : XK N w0 (wpList P ops Q (⟨some d, op, ty, pos, aJ, some (j, want)⟩ :: rest)) e R H := fun a w hr st => by
 have hw : Region.wanted (⟨some d, op, ty, pos, aJ, some (j, want)⟩ : Oper) (yielded ops a.tmps) = false := by
  simp only [Region.wanted, yielded, hj, Option.bind_some, hr.get t _ ht]
  simp [undef]
 unfold wpList
 rw [if_neg (by rw [hw]; simp)]
 exact k _ _ (hr.put hd undef) st
end
theorem kT.xC {p : Piece} {A : Option Addr} {n : Nat} {g : List (List Int)} (h : kT p A n g) {k : Nat} {l : List Int} (hk : g[k]? = some l) :
  ∃ b off B c, A = some ⟨b, off, none⟩ ∧ p.Z b ∧ p.w.cell? ⟨b, off + k, none⟩ = some (.slice B l.length c) ∧ aH p 1 B l.length (aO l) := by
 obtain ⟨rows, h1, h2, h3⟩ := h
 obtain ⟨r, hr, hR, hf⟩ := h1.get hk
 obtain ⟨B, m, c, rfl, hm, hs⟩ := hR
 have hlt : k < n := by
  rw [h2]
  rcases Nat.lt_or_ge k g.length with h | h
  ·exact h
  ·rw [List.getElem?_eq_none h] at hk; cases hk
 obtain ⟨b, off, hA, hz, hc⟩ := aH.at_ h3 hlt
 subst hm
 refine ⟨b, off, B, c, hA, hz, ?_, hs⟩
 have h4 := hc 0 (.slice B l.length c) (by rw [hf 0 (by omega)]; rfl)
 rw [Nat.mul_one, Nat.add_zero] at h4
 exact h4
end
section
def Lv (P : Program) (t : TypeId) : Option Nat := match P.underlying t with
 | some (.struct _) => (P.info? t).map (·.size)
 | some (.array _ _) => (P.info? t).map (·.size)
 | _ => none
def Xa (P : Program) (t : TypeId) (i : Nat) : Option (Nat × Nat) := match P.underlying t with
 | some (.struct fs) => match fs[i]? with
  | some f => (Lv P f.type).map fun n => (f.offset, n)
  | none => none
 | _ => none
def Nq (P : Program) (t : TypeId) (i : Nat) : Option Nat := match P.underlying t with
 | some (.struct fs) => match fs[i]? with
  | some f => if qM P f.type then some f.offset else none
  | none => none
 | _ => none
def Qg (P : Program) (t : TypeId) : Option (Nat × Nat) := match P.underlying t with
 | some (.array len el) => (Lv P el).map fun n => (len, n)
 | _ => none
section
variable {P : Program} {N : cN} {w0 w : World} {e : Env} {R : List Piece} {H : List HP} {Q : Exit → Act → World → Prop} {ops : Array Oper} {rest : List Oper}
variable {d : Nat} {ty : TypeId} {pos : String} {aJ : Array Edge}
theorem Zn {t : TypeId} {n off : Nat} {cs : Array Value} (h : Lv P t = some n) : (part t cs off).run P w = .ok (.agg (cs.extract off (off + n))) w := by
 unfold Lv at h
 split at h
 ·rename_i hu
  obtain ⟨i, hi, rfl⟩ := Option.map_eq_some_iff.1 h
  simp [part, isAgg, run_underlying hu, sizeOf, typeInfo, hi]
 ·rename_i hu
  obtain ⟨i, hi, rfl⟩ := Option.map_eq_some_iff.1 h
  simp [part, isAgg, run_underlying hu, sizeOf, typeInfo, hi]
 ·cases h
theorem aDl {t : TypeId} {off : Nat} {cs : Array Value} {v : Value} (h : qM P t = true) (hv : cs[off]? = some v) : (part t cs off).run P w = .ok v w := by
 unfold qM at h
 split at h
 ·cases h
 ·cases h
 ·rename_i u h1 h2 hu
  have Vf : (isAgg t).run P w = .ok false w := by
   unfold isAgg
   rw [Sem.run_bind, run_underlying hu]
   cases u <;> first | rfl | exact (h1 _ rfl).elim | exact (h2 _ _ rfl).elim
  simp [part, Sem.run_bind, Vf, hv]
 ·cases h
theorem aDq {t : TypeId} {i off n : Nat} {cs : Array Value} (h : Xa P t i = some (off, n)) : (Instr.field t (.agg cs) i).run P w = .ok (.agg (cs.extract off (off + n))) w := by
 unfold Xa at h
 split at h
 ·rename_i fs hu
  split at h
  ·rename_i f hf
   obtain ⟨m, hm, he⟩ := Option.map_eq_some_iff.1 h
   simp only [Prod.mk.injEq] at he
   obtain ⟨rfl, rfl⟩ := he
   simp [Instr.field, run_underlying hu, hf, asAgg, Zn hm]
  ·cases h
 ·cases h
theorem aDr {t : TypeId} {i off : Nat} {cs : Array Value} {v : Value} (h : Nq P t i = some off) (hv : cs[off]? = some v) : (Instr.field t (.agg cs) i).run P w = .ok v w := by
 unfold Nq at h
 split at h
 ·rename_i fs hu
  split at h
  ·rename_i f hf
   split at h
   ·rename_i ho
    cases h
    simp [Instr.field, run_underlying hu, hf, asAgg, aDl ho hv]
   ·cases h
  ·cases h
 ·cases h
theorem Zr {t : TypeId} {len n k : Nat} {kd : IntKind} {j : Int} {cs : Array Value} (h : Qg P t = some (len, n)) (hj : j = (k : Int)) (hk : k < len) : (Instr.index t (.agg cs) (.int kd j)).run P w = .ok (.agg (cs.extract (k * n) (k * n + n))) w := by
 subst hj
 unfold Qg at h
 split at h
 ·rename_i l el hu
  obtain ⟨m, hm, he⟩ := Option.map_eq_some_iff.1 h
  simp only [Prod.mk.injEq] at he
  obtain ⟨rfl, rfl⟩ := he
  have hsz : (sizeOf el).run P w = .ok m w := by
   unfold Lv at hm
   split at hm
   ·obtain ⟨i, hi, rfl⟩ := Option.map_eq_some_iff.1 hm; simp [sizeOf, typeInfo, hi]
   ·obtain ⟨i, hi, rfl⟩ := Option.map_eq_some_iff.1 hm; simp [sizeOf, typeInfo, hi]
   ·cases hm
  simp [Instr.index, asIntOf, run_underlying hu, hk, hsz, Zn hm]
 ·cases h
theorem aHm {x : Operand} {t : TypeId} {i off n : Nat} {cs vs : List Value} (h : Xa P t i = some (off, n)) (hx : e.ev x = some (.agg cs.toArray)) (hv : (cs.drop off).take n = vs) : bH P N w0 e R H ⟨some d, .field t x i, ty, pos, aJ, none⟩ (.agg vs.toArray) := fO (fun a w hr => by
 simp only [execOp, hr.ev hx, Sem.run_bind, aDq h, Result.andThen_ok, Sem.run_pure]
 simp [← hv, List.extract_toArray, List.extract_eq_take_drop])
theorem aB9 {x : Operand} {t : TypeId} {i off : Nat} {cs : List Value} {v : Value} (h : Nq P t i = some off) (hx : e.ev x = some (.agg cs.toArray)) (hv : cs[off]? = some v) : bH P N w0 e R H ⟨some d, .field t x i, ty, pos, aJ, none⟩ v := fO (fun a w hr => by
 simp only [execOp, hr.ev hx, Sem.run_bind, aDr (cs := cs.toArray) h (by simpa using hv), Result.andThen_ok, Sem.run_pure])
theorem aHl (k : Nat) {x ix : Operand} {t : TypeId} {len n : Nat} {kd : IntKind} {j : Int} {cs vs : List Value} (h : Qg P t = some (len, n)) (hx : e.ev x = some (.agg cs.toArray)) (hi : e.ev ix = some (.int kd j)) (hj : j = (k : Int)) (hk : k < len) (hv : (cs.drop (k * n)).take n = vs) : bH P N w0 e R H ⟨some d, .index t x ix, ty, pos, aJ, none⟩ (.agg vs.toArray) := fO (fun a w hr => by
 simp only [execOp, hr.ev hx, hr.ev hi, Sem.run_bind, Zr h hj hk, Result.andThen_ok, Sem.run_pure]
 simp [← hv, List.extract_toArray, List.extract_eq_take_drop])
theorem Mm (k : Nat) {x ix : Operand} {t : TypeId} {len n : Nat} {kd : IntKind} {j : Int} {cs vs : List Value} (h : Qg P t = some (len, n)) (hx : e.ev x = some (.agg cs.toArray)) (hi : e.ev ix = some (.int kd j)) (hj : j = (k : Int)) (hk : k < len) (hv : (cs.drop (k * n)).take n = vs) (hd : d < N.n) (kk : XK N w0 (wpList P ops Q rest) ((d, .agg vs.toArray) :: e) R H) :
  XK N w0 (wpList P ops Q (⟨some d, .index t x ix, ty, pos, aJ, none⟩ :: rest)) e R H := fW hd (fun a w hr => by
 simp only [execOp, hr.ev hx, hr.ev hi, Sem.run_bind, Zr h hj hk, Result.andThen_ok, Sem.run_pure]
 simp [← hv, List.extract_toArray, List.extract_eq_take_drop]) kk
end
end
section
class bF (s : TypeId) (f : Nat) (off : outParam Nat) : Prop where
 h : Ko Tryz.prog s f = some off
class mK (t : TypeId) (el : outParam TypeId) (sz : outParam Nat) : Prop where
 h : Tryz.prog.underlying t = some (.slice el)
 s : (Tryz.prog.info? el).map (·.size) = some sz
class Mg (t : TypeId) (n : outParam Nat) (el : outParam TypeId) (sz : outParam Nat) : Prop where
 h : Tryz.prog.underlying t = some (.array n el)
 s : (Tryz.prog.info? el).map (·.size) = some sz
class dS (t : TypeId) : Prop where
 h : qM Tryz.prog t = true
class kS (t : TypeId) (n : outParam Nat) : Prop where
 h : vV Tryz.prog t n = true
class Xp (t : TypeId) (i : Nat) (off : outParam Nat) : Prop where
 h : Nq Tryz.prog t i = some off
section
variable {N : cN} {w0 : World} {e e' : Env} {R R' R0 : List Piece} {H H' H0 : List HP} {m fuel : Nat} {listed : Array Bool} {Q : Exit → Act → World → Prop} {ops : Array Oper} {rest : List Oper} {K K' : Act → World → Prop}
variable {d : Nat} {ty : TypeId} {pos : String} {aJ : Array Edge} {op : Op} {j t : Nat} {want : Bool} {o : Oper} {v : Value}
theorem bR {x : Operand} {t : TypeId} {b o : Nat} {v : Value} [hT : dS t] (hx : e.ev x = some (.pointer (some ⟨b, o, none⟩))) (hr : Rd w0 R H b o v := by
  first | assumption | exact Rd.aF 0 rfl rfl | exact Rd.aF 1 rfl rfl | exact Rd.aF 2 rfl rfl | exact Rd.aF 3 rfl rfl | exact Rd.aF 4 rfl rfl | exact Rd.aF 5 rfl rfl | exact Rd.aF 6 rfl rfl | exact Rd.aF 7 rfl rfl | exact Rd.aF 8 rfl rfl | exact Rd.fD (by simp) (by assumption) | (apply Rd.Rz (by simp); assumption; rfl)) :
  bH Tryz.prog N w0 e R H ⟨some d, .load t x, ty, pos, aJ, none⟩ v := iQ hT.h hx hr
theorem Lh {x : Operand} {s : TypeId} {f off b o : Nat} [hO : bF s f off] (hx : e.ev x = some (.pointer (some ⟨b, o, none⟩))) : bH Tryz.prog N w0 e R H ⟨some d, .fieldAddr s x f, ty, pos, aJ, none⟩ (.pointer (some ⟨b, o + off, none⟩)) := jE hO.h hx
theorem Lb {x : Operand} {t el : TypeId} {A : Option Addr} {n c sz : Nat} [hT : mK t el sz] (hx : e.ev x = some (.slice A n c)) : bH Tryz.prog N w0 e R H ⟨some d, .call { callee := .builtin .len, args := #[x], argTypes := #[t] }, ty, pos, aJ, none⟩ (.int .i64 n) := vH hT.h hx
theorem pR {x : Operand} {t : TypeId} {b o n : Nat} {vs : List Value} [hT : kS t n] (hx : e.ev x = some (.pointer (some ⟨b, o, none⟩))) (hr : aD w0 R H b o vs := by
  first | assumption | exact aD.whole 0 rfl | exact aD.whole 1 rfl | exact aD.whole 2 rfl | exact aD.whole 3 rfl | exact aD.whole 4 rfl | exact aD.whole 5 rfl | exact aD.whole 6 rfl | exact aD.whole 7 rfl | exact aD.whole 8 rfl | exact aD.fD (by simp) (by assumption)) (hn : vs.length = n := by rfl) :
  bH Tryz.prog N w0 e R H ⟨some d, .load t x, ty, pos, aJ, none⟩ (.agg vs.toArray) := Wi n hT.h hx hr hn
theorem Li {x : Operand} {t : TypeId} {i off : Nat} {cs : List Value} {v : Value} [hF : Xp t i off] (hx : e.ev x = some (.agg cs.toArray)) (hv : cs[off]? = some v) : bH Tryz.prog N w0 e R H ⟨some d, .field t x i, ty, pos, aJ, none⟩ v := aB9 hF.h hx hv
theorem dat (i o : Nat) {x ix : Operand} {t el : TypeId} {b off n c sz : Nat} {kd : IntKind} {j : Int} [hT : mK t el sz] (hx : e.ev x = some (.slice (some ⟨b, off, none⟩) n c) := by rfl) (hi : e.ev ix = some (.int kd j) := by rfl) (hj : j = (i : Int) := by first | rfl | omega) (hlt : i < n := by omega) (ho : off + i * sz = o := by omega) : bH Tryz.prog N w0 e R H ⟨some d, .indexAddr t x ix, ty, pos, aJ, none⟩ (.pointer (some ⟨b, o, none⟩)) := oH i o hT.h hT.s hx hi hj hlt ho
theorem fJ (i o : Nat) {x ix : Operand} {t el : TypeId} {b off n sz : Nat} {kd : IntKind} {j : Int} [hT : Mg t n el sz] (hx : e.ev x = some (.pointer (some ⟨b, off, none⟩)) := by rfl) (hi : e.ev ix = some (.int kd j) := by rfl) (hj : j = (i : Int) := by first | rfl | omega) (hlt : i < n := by omega) (ho : off + i * sz = o := by omega) : bH Tryz.prog N w0 e R H ⟨some d, .indexAddr t x ix, ty, pos, aJ, none⟩ (.pointer (some ⟨b, o, none⟩)) := aHo i o hT.h hT.s hx hi hj hlt ho
def Sub (cs : List Value) (o : Nat) (r : List Value) : Prop := ∀ k, k < r.length → cs[o + k]? = r[k]?
theorem Rd.sub (i k : Nat) {g o o' : Nat} {t : TypeId} {cs r : List Value} {v : Value} (hi : H[i]? = some (HP.aF g t cs)) (hs : Sub cs o r) (ho : o' = o + k) (hv : r[k]? = some v) : Rd w0 R H g o' v := Rd.aF i hi (by
 rw [ho, hs k (List.getElem?_eq_some_iff.1 hv).1, hv])
theorem Ld {x : Operand} {t : TypeId} {b o : Nat} {v : Value} [hT : dS t] (hx : e.ev x = some (.pointer (some ⟨b, o, none⟩))) (hr : Rd w0 R H b o v := by
  first | exact Rd.sub 0 0 rfl (by assumption) rfl rfl | exact Rd.sub 0 1 rfl (by assumption) rfl rfl | exact Rd.sub 0 2 rfl (by assumption) rfl rfl | exact Rd.sub 0 3 rfl (by assumption) rfl rfl | exact Rd.sub 0 4 rfl (by assumption) rfl rfl | exact Rd.sub 0 5 rfl (by assumption) rfl rfl | exact Rd.sub 0 6 rfl (by assumption) rfl rfl | exact Rd.sub 0 7 rfl (by assumption) rfl rfl | exact Rd.sub 0 8 rfl (by assumption) rfl rfl | exact Rd.sub 0 9 rfl (by assumption) rfl rfl | exact Rd.sub 0 10 rfl (by assumption) rfl rfl | exact Rd.sub 0 11 rfl (by assumption) rfl rfl) :
  bH Tryz.prog N w0 e R H ⟨some d, .load t x, ty, pos, aJ, none⟩ v := iQ hT.h hx hr
theorem Fj {x : Operand} {t u : TypeId} {p : Option Addr} (hx : e.ev x = some (.pointer p)) (ht : Tryz.prog.underlying t = some (.pointer (Tryz.prog.pointee t)) := by kernel_rfl) : bH Tryz.prog N w0 e R H ⟨some d, .binOp .eql t x (.const (.pointer none)) u, ty, pos, aJ, none⟩ (.bool p.isNone) := fO fun a w hr => by
 have h2 := hr.ev (show e.ev (.const (.pointer none)) = some (.pointer none) from rfl)
 simp [execOp, hr.ev hx, h2, eqGuard, run_eql_pointer_nil w t p ht]
theorem Kw {x : Operand} {t u : TypeId} {p : Addr} (hx : e.ev x = some (.pointer (some p))) (ht : Tryz.prog.underlying t = some (.pointer (Tryz.prog.pointee t)) := by kernel_rfl) : bH Tryz.prog N w0 e R H ⟨some d, .binOp .eql t x (.const (.pointer none)) u, ty, pos, aJ, none⟩ (.bool false) := Fj hx ht
theorem Kv {x : Operand} {t u : TypeId} {p : Addr} (hx : e.ev x = some (.pointer (some p))) (ht : Tryz.prog.underlying t = some (.pointer (Tryz.prog.pointee t)) := by kernel_rfl) : bH Tryz.prog N w0 e R H ⟨some d, .binOp .neq t x (.const (.pointer none)) u, ty, pos, aJ, none⟩ (.bool true) := fO fun a w hr => by
 have h2 := hr.ev (show e.ev (.const (.pointer none)) = some (.pointer none) from rfl)
 simp [execOp, hr.ev hx, h2, eqGuard, run_neq_pointer_nil w t (some p) ht]
theorem Gx {x : Operand} (h : bH Tryz.prog N w0 e R H ⟨some d, .move x, ty, pos, aJ, none⟩ v) : bH Tryz.prog N w0 e R H ⟨some d, .move x, ty, pos, aJ, none⟩ v := h
theorem Hi {x : Operand} (h : bH Tryz.prog N w0 e R H ⟨some d, .assign x, ty, pos, aJ, none⟩ v) : bH Tryz.prog N w0 e R H ⟨some d, .assign x, ty, pos, aJ, none⟩ v := h
theorem Gy {x : Operand} {t : TypeId} (h : bH Tryz.prog N w0 e R H ⟨some d, .load t x, ty, pos, aJ, none⟩ v) : bH Tryz.prog N w0 e R H ⟨some d, .load t x, ty, pos, aJ, none⟩ v := h
theorem He {x : Operand} {t : TypeId} {i : Nat} (h : bH Tryz.prog N w0 e R H ⟨some d, .fieldAddr t x i, ty, pos, aJ, none⟩ v) : bH Tryz.prog N w0 e R H ⟨some d, .fieldAddr t x i, ty, pos, aJ, none⟩ v := h
theorem Gw {x : Operand} (h : bH Tryz.prog N w0 e R H ⟨some d, .nilCheck x, ty, pos, aJ, none⟩ v) : bH Tryz.prog N w0 e R H ⟨some d, .nilCheck x, ty, pos, aJ, none⟩ v := h
theorem Gv {x : Operand} {y : Operand} {z : Operand} (h : bH Tryz.prog N w0 e R H ⟨some d, .pick x y z, ty, pos, aJ, none⟩ v) : bH Tryz.prog N w0 e R H ⟨some d, .pick x y z, ty, pos, aJ, none⟩ v := h
theorem Hh {x : Operand} {y : Operand} {t : TypeId} {u : TypeId} {b : BinOp} (h : bH Tryz.prog N w0 e R H ⟨some d, .binOp b t x y u, ty, pos, aJ, none⟩ v) : bH Tryz.prog N w0 e R H ⟨some d, .binOp b t x y u, ty, pos, aJ, none⟩ v := h
theorem Gu {x : Operand} {t : TypeId} {c : UnOp} (h : bH Tryz.prog N w0 e R H ⟨some d, .unOp c t x, ty, pos, aJ, none⟩ v) : bH Tryz.prog N w0 e R H ⟨some d, .unOp c t x, ty, pos, aJ, none⟩ v := h
theorem Gz {x : Operand} {t : TypeId} (h : bH Tryz.prog N w0 e R H ⟨some d, .call { callee := .builtin .len, args := #[x], argTypes := #[t] }, ty, pos, aJ, none⟩ v) : bH Tryz.prog N w0 e R H ⟨some d, .call { callee := .builtin .len, args := #[x], argTypes := #[t] }, ty, pos, aJ, none⟩ v := h
theorem Hg {x : Operand} {i : Nat} (h : bH Tryz.prog N w0 e R H ⟨some d, .extract x i, ty, pos, aJ, none⟩ v) : bH Tryz.prog N w0 e R H ⟨some d, .extract x i, ty, pos, aJ, none⟩ v := h
theorem Hf {x : Operand} {t : TypeId} {i : Nat} (h : bH Tryz.prog N w0 e R H ⟨some d, .field t x i, ty, pos, aJ, none⟩ v) : bH Tryz.prog N w0 e R H ⟨some d, .field t x i, ty, pos, aJ, none⟩ v := h
theorem bJ (k : XK N w0 (wpList Tryz.prog ops Q rest) ((d, v) :: e) R H) (h : bH Tryz.prog N w0 e R H ⟨some d, op, ty, pos, aJ, none⟩ v := by
  first
  | ((with_reducible apply Gx); exact cI rfl)
  | ((with_reducible apply Hi); exact yE rfl)
  | ((with_reducible apply Gy); (first | exact bR rfl | exact pR rfl | exact Ld rfl))
  | ((with_reducible apply He); exact Lh rfl)
  | ((with_reducible apply Gw); exact Kz rfl)
  | ((with_reducible apply Gv); (first | exact yB rfl rfl | exact yC rfl rfl))
  | ((with_reducible apply Hh); (first | exact La rfl rfl | exact Lc rfl rfl | exact Lf rfl rfl | exact Lg rfl rfl | exact zX rfl rfl | exact Cv rfl rfl | exact lN rfl rfl (bA (by omega)) | exact Fi rfl rfl (bA (by omega)) | exact Kw rfl | exact Kv rfl | exact Fj rfl))
  | ((with_reducible apply Gu); (first | exact Kx rfl | exact Ky rfl))
  | ((with_reducible apply Gz); exact Lb rfl)
  | ((with_reducible apply Hg); exact vI rfl rfl)
  | ((with_reducible apply Hf); exact Li rfl rfl)) (hd : d < N.n := by decide) : XK N w0 (wpList Tryz.prog ops Q (⟨some d, op, ty, pos, aJ, none⟩ :: rest)) e R H :=
 qB rfl fun a w hr st => ⟨v, w, h a w hr st, k _ _ (hr.put hd v) st⟩
theorem kd (h : bH Tryz.prog N w0 e R H ⟨some d, op, ty, pos, aJ, none⟩ v) (k : XK N w0 (wpList Tryz.prog ops Q rest) ((d, v) :: e) R H) (hd : d < N.n := by decide) : XK N w0 (wpList Tryz.prog ops Q (⟨some d, op, ty, pos, aJ, none⟩ :: rest)) e R H :=
 qB rfl fun a w hr st => ⟨v, w, h a w hr st, k _ _ (hr.put hd v) st⟩
theorem iE {x y : Operand} {s : TypeId} {g o : Nat} {v : Value} [hT : dS s] (hx : e.ev x = some (.pointer (some ⟨g, o, none⟩))) (hy : e.ev y = some v) (k : XK N w0 (wpList Tryz.prog ops Q rest) e R H') (hs : iG Tryz.prog H s g o v H' := by
  first | (refine iG.mk 0 rfl dS.h rfl ?_; first | (simp; done) | omega | (simp; omega)) | (refine iG.mk 1 rfl dS.h rfl ?_; first | (simp; done) | omega | (simp; omega)) | (refine iG.mk 2 rfl dS.h rfl ?_; first | (simp; done) | omega | (simp; omega)) | (refine iG.mk 3 rfl dS.h rfl ?_; first | (simp; done) | omega | (simp; omega)) | (refine iG.mk 4 rfl dS.h rfl ?_; first | (simp; done) | omega | (simp; omega)) | (refine iG.mk 5 rfl dS.h rfl ?_; first | (simp; done) | omega | (simp; omega)) | (refine iG.mk 6 rfl dS.h rfl ?_; first | (simp; done) | omega | (simp; omega)) | (refine iG.mk 7 rfl dS.h rfl ?_; first | (simp; done) | omega | (simp; omega)) | (refine iG.mk 8 rfl dS.h rfl ?_; first | (simp; done) | omega | (simp; omega))) : XK N w0 (wpList Tryz.prog ops Q (⟨none, .store s x y, ty, pos, aJ, none⟩ :: rest)) e R H := qA hx hy k hs
theorem zH (i : Nat) {x y : Operand} {s t : TypeId} {g n : Nat} {cs vs : List Value} [hT : kS s n] (hi : H[i]? = some (HP.aF g t cs)) (k : XK N w0 (wpList Tryz.prog ops Q rest) e R (H.set i (HP.aF g t vs))) (hx : e.ev x = some (.pointer (some ⟨g, 0, none⟩)) := by rfl) (hy : e.ev y = some (.agg vs.toArray) := by rfl) (hs : (Tryz.prog.info? s).any (·.size == vs.length) = true := by kernel_rfl) (h1 : vs.all Value.oneCell' = true := by rfl) (hl : vs.length = cs.length := by rfl) :
  XK N w0 (wpList Tryz.prog ops Q (⟨none, .store s x y, ty, pos, aJ, none⟩ :: rest)) e R H := by
 refine kC i hi hx hy hs (fun u hu => List.all_eq_true.1 h1 u (by simpa [Value.cells] using hu)) (by simp [Value.cells]; omega) ?_
 have : cC cs 0 (Value.agg vs.toArray).cells.toList = vs := Hy (by simpa [Value.cells] using hl)
 rw [this]
 exact k
theorem aFh {x y : Operand} {s : TypeId} (k : XK N w0 (wpList Tryz.prog ops Q (⟨none, .store s x y, ty, pos, aJ, none⟩ :: rest)) e R H) : XK N w0 (wpList Tryz.prog ops Q (⟨none, .store s x y, ty, pos, aJ, none⟩ :: rest)) e R H := k
theorem kop (k : XK N w0 (wpList Tryz.prog ops Q (o :: rest)) e R H) : XK N w0 (wpList Tryz.prog ops Q (o :: rest)) e R H := k
theorem aFj {c : Operand} {x y : Code} (k : XK N w0 ((Code.cond c x y).wp Tryz.prog Q) e R H) : XK N w0 ((Code.cond c x y).wp Tryz.prog Q) e R H := k
theorem XK.go (k : XK N w0 K' e' R' H') (hk : XK N w0 K' e' R' H' → XK N w0 K e R H := by
    intro h
    repeat' (first
      | ((with_reducible refine kop ?_)
         first
         | refine bJ ?_
         | refine aS rfl rfl ?_
         | refine aP rfl rfl rfl (by decide) ?_
         | refine rG rfl rfl (by decide) ?_
         | ((with_reducible refine aFh ?_); first | (refine iE rfl rfl ?_; dsimp only [List.set]) | (refine zH 0 rfl ?_; dsimp only [List.set]) | (refine zH 1 rfl ?_; dsimp only [List.set]) | (refine zH 2 rfl ?_; dsimp only [List.set]) | (refine zH 3 rfl ?_; dsimp only [List.set])))
      | with_reducible refine XK.nil ?_
      | with_reducible refine XK.iU ?_
      | with_reducible refine XK.Gr ?_
      | with_reducible refine XK.Gq ?_
      | with_reducible refine XK.It ?_
      | with_reducible refine XK.Iv ?_
      | with_reducible refine XK.Is ?_
      | ((with_reducible refine XK.Iu ?_ ?_); rfl)
      | with_reducible refine XK.seq ?_
      | with_reducible refine XK.region ?_
      | with_reducible refine XK.skip ?_
      | with_reducible refine XK.exit ?_
      | with_reducible refine XK.ret ?_
      | with_reducible refine XK.block ?_
      | ((with_reducible refine aFj ?_)
         first
         | (refine XK.cond (b := true) rfl (fun _ => ?_) (fun h => by cases h))
         | (refine XK.cond (b := false) rfl (fun h => by cases h) (fun _ => ?_))))
    exact h) : XK N w0 K e R H := hk k
def XQ (N : cN) (w0 : World) (ops : Array Oper) (Q : Exit → Act → World → Prop) (rest : List Oper) (e : Env) (R : List Piece) (H : List HP) : Prop :=
 ∀ a, cY N e a → wpQuiet Tryz.prog ops (St w0 R H) (fun a' => ∀ w', St w0 R H w' → Q .normal a' w') rest a
theorem XK.jD {id : Nat} {l : List Oper} (h : XQ N w0 l.toArray Q l e R H) (hB : Region.lexB .any l.toArray = true := by kernel_rfl) (hm : Tryz.prog.follows .mixedOrders = true := by kernel_rfl) : XK N w0 ((Code.region id l.toArray true).wp Tryz.prog Q) e R H := fun a w hr st =>
 wp_region_quiet hm hB (C := St w0 R H) st.drew (h a hr)
theorem XQ.nil (k : XK N w0 (Q .normal) e R H) : XQ N w0 ops Q [] e R H := fun a hr => wpQuiet_nil fun w' st => k a w' hr st
theorem XQ.run (k : XQ N w0 ops Q rest ((d, v) :: e) R H) (hd : d < N.n) (h : ∀ a w, cY N e a → St w0 R H w → (⟨some d, op, ty, pos, aJ, none⟩ : Oper).quietAt Tryz.prog a (St w0 R H) w v) : XQ N w0 ops Q (⟨some d, op, ty, pos, aJ, none⟩ :: rest) e R H := fun a hr =>
 wpQuiet_step fun K hK => by
  rw [if_pos (by simp [Region.wanted])]
  exact ⟨v, fun w hw => h a w hr hw, hK _ (k _ (hr.put hd v))⟩
theorem XQ.eH (k : XQ N w0 ops Q rest ((d, v) :: e) R H) (h : bH Tryz.prog N w0 e R H ⟨some d, op, ty, pos, aJ, none⟩ v := by
  first
  | ((with_reducible apply Gx); exact cI rfl)
  | ((with_reducible apply Hi); exact yE rfl)
  | ((with_reducible apply Gy); (first | exact bR rfl | exact pR rfl | exact Ld rfl))
  | ((with_reducible apply He); exact Lh rfl)
  | ((with_reducible apply Gw); exact Kz rfl)
  | ((with_reducible apply Gv); (first | exact yB rfl rfl | exact yC rfl rfl))
  | ((with_reducible apply Hh); (first | exact La rfl rfl | exact Lc rfl rfl | exact Lf rfl rfl | exact Lg rfl rfl | exact zX rfl rfl | exact Cv rfl rfl | exact lN rfl rfl (bA (by omega)) | exact Fi rfl rfl (bA (by omega)) | exact Kw rfl | exact Kv rfl | exact Fj rfl))
  | ((with_reducible apply Gu); (first | exact Kx rfl | exact Ky rfl))
  | ((with_reducible apply Gz); exact Lb rfl)
  | ((with_reducible apply Hg); exact vI rfl rfl)
  | ((with_reducible apply Hf); exact Li rfl rfl)) (hd : d < N.n := by decide) : XQ N w0 ops Q (⟨some d, op, ty, pos, aJ, none⟩ :: rest) e R H := XQ.run k hd fun a w hr st => by
 unfold Oper.quietAt
 rw [h a w hr st]
 exact ⟨rfl, rfl⟩
theorem XQ.kd (h : bH Tryz.prog N w0 e R H ⟨some d, op, ty, pos, aJ, none⟩ v) (k : XQ N w0 ops Q rest ((d, v) :: e) R H) (hd : d < N.n := by decide) : XQ N w0 ops Q (⟨some d, op, ty, pos, aJ, none⟩ :: rest) e R H := XQ.eH k h hd
theorem XQ.gT (k : XQ N w0 ops Q (⟨some d, op, ty, pos, aJ, none⟩ :: rest) e R H) (hj : (ops[j]?).bind (·.dst) = some t := by rfl) (ht : e.get t = some (.bool want) := by rfl) : XQ N w0 ops Q (⟨some d, op, ty, pos, aJ, some (j, want)⟩ :: rest) e R H := fun a hr => by
 have h := k a hr
 have hw : Region.wanted (⟨some d, op, ty, pos, aJ, some (j, want)⟩ : Oper) (yielded ops a.tmps) = true := by
  simp only [Region.wanted, yielded, hj, Option.bind_some, hr.get t _ ht]
  simp
 unfold wpQuiet at h ⊢
 rw [if_pos hw]
 rw [if_pos (by simp [Region.wanted])] at h
 exact h
theorem XQ.gF {b : Bool} (k : XQ N w0 ops Q rest ((d, undef) :: e) R H) (hj : (ops[j]?).bind (·.dst) = some t := by rfl) (ht : e.get t = some (.bool b) := by rfl) (hb : b = !want := by rfl) (hd : d < N.n := by decide) : XQ N w0 ops Q (⟨some d, op, ty, pos, aJ, some (j, want)⟩ :: rest) e R H := fun a hr => by
 have hw : Region.wanted (⟨some d, op, ty, pos, aJ, some (j, want)⟩ : Oper) (yielded ops a.tmps) = false := by
  simp only [Region.wanted, yielded, hj, Option.bind_some, hr.get t _ ht, hb]
  simp
 unfold wpQuiet
 rw [if_neg (by rw [hw]; simp)]
 exact k _ (hr.put hd undef)
theorem XQ.gU (k : XQ N w0 ops Q rest ((d, undef) :: e) R H) (hj : (ops[j]?).bind (·.dst) = some t := by rfl) (ht : e.get t = some undef := by rfl) (hd : d < N.n := by decide) : XQ N w0 ops Q (⟨some d, op, ty, pos, aJ, some (j, want)⟩ :: rest) e R H := fun a hr => by
 have hw : Region.wanted (⟨some d, op, ty, pos, aJ, some (j, want)⟩ : Oper) (yielded ops a.tmps) = false := by
  simp only [Region.wanted, yielded, hj, Option.bind_some, hr.get t _ ht]
  simp [undef]
 unfold wpQuiet
 rw [if_neg (by rw [hw]; simp)]
 exact k _ (hr.put hd undef)
theorem cY.as {a : Act} {u : Value} (h : cY N e a) (ht : e.get t = some u) : cY N ((t, u) :: e) a := ⟨h.size, h.defers, fun s v hs => by
 unfold Env.get at hs
 split at hs
 ·rename_i hk
  have := Nat.eq_of_beq_eq_true hk
  subst this
  cases hs
  exact h.get _ _ ht
 ·exact h.get _ _ hs⟩
theorem XQ.split {p : Prop} [Decidable p] (t : Nat) (ht : e.get t = some (.bool (decide p))) (h1 : p → XQ N w0 ops Q rest ((t, .bool true) :: e) R H) (h2 : ¬ p → XQ N w0 ops Q rest ((t, .bool false) :: e) R H) : XQ N w0 ops Q rest e R H := by
 by_cases hp : p
 ·rw [decide_eq_true hp] at ht
  exact fun a hr => h1 hp a (hr.as ht)
 ·rw [decide_eq_false hp] at ht
  exact fun a hr => h2 hp a (hr.as ht)
theorem XQ.Gt {b : Bool} (t : Nat) (ht : e.get t = some (.bool b)) (h1 : b = true → XQ N w0 ops Q rest ((t, .bool true) :: e) R H) (h2 : b = false → XQ N w0 ops Q rest ((t, .bool false) :: e) R H) : XQ N w0 ops Q rest e R H := by
 cases b
 ·exact fun a hr => h2 rfl a (hr.as ht)
 ·exact fun a hr => h1 rfl a (hr.as ht)
theorem XQ.yM {f : FuncId} {x : Operand} {args : List Operand} {fi ca vs : List Value} {tys : Array TypeId} (hc : ∀ w, St w0 R H w → Calls Tryz.prog f (fi ++ vs ++ ca).toArray w (Rt v w)) (k : XQ N w0 ops Q rest ((d, v) :: e) R H) (hx : e.ev x = some (.func (.func f) fi.toArray ca.toArray) := by rfl) (ha : e.cV args = some vs := by rfl) (hf : fK Tryz.prog f = true := by kernel_rfl) (hd : d < N.n := by decide) :
  XQ N w0 ops Q (⟨some d, .call { callee := .value x, args := args.toArray, argTypes := tys }, ty, pos, aJ, none⟩ :: rest) e R H := XQ.run k hd fun a w hr st => by
 unfold fK at hf
 cases hq : Tryz.prog.funcs[f]? with
 | none => simp [hq] at hf
 | some fn =>
  simp [hq] at hf
  obtain ⟨fG, fZ⟩ := hf
  have hrun : (execOp a.eval (⟨some d, .call { callee := .value x, args := args.toArray, argTypes := tys }, ty, pos, aJ, none⟩ : Oper)).run Tryz.prog w = .ok (.enter f (fi ++ vs ++ ca).toArray) w := by
   cases hb : fn.body with
   | none => simp [hb] at fZ
   | some c => simp [execOp, resolve, hr.ev hx, Deferred.ofValue, invoke, callFunc, hq, fG, hb, hr.cV ha]
  unfold Oper.quietAt
  rw [hrun]
  exact ⟨rfl, (hc w st).mono fun y w' ⟨hy, hb⟩ => ⟨hy, st.call hb⟩⟩
theorem XQ.call {f : FuncId} {x : Operand} {args : List Operand} {vs : List Value} {tys : Array TypeId} (hc : ∀ w, St w0 R H w → Calls Tryz.prog f vs.toArray w (Rt v w)) (k : XQ N w0 ops Q rest ((d, v) :: e) R H) (hx : e.ev x = some (.func (.func f) #[] #[]) := by rfl) (ha : e.cV args = some vs := by rfl) (hf : fK Tryz.prog f = true := by kernel_rfl) (hd : d < N.n := by decide) :
  XQ N w0 ops Q (⟨some d, .call { callee := .value x, args := args.toArray, argTypes := tys }, ty, pos, aJ, none⟩ :: rest) e R H := XQ.yM (fi := []) (ca := []) (fun w st => by simpa using hc w st) k hx ha hf hd
theorem XQ.at_ (k : XQ N w0 ops Q (o :: rest) e R H) : XQ N w0 ops Q (o :: rest) e R H := k
theorem XQ.go {rest' : List Oper} (k : XQ N w0 ops Q rest' e' R H) (hk : XQ N w0 ops Q rest' e' R H → XQ N w0 ops Q rest e R H := by
  intro h
  repeat' ((with_reducible refine XQ.at_ ?_); first | refine XQ.eH ?_ | refine XQ.gT ?_ | refine XQ.gF ?_ | refine XQ.gU ?_)
  exact h) : XQ N w0 ops Q rest e R H := hk k
theorem XQ.end_ (k : XK N w0 K' e' R H) (hk : XK N w0 K' e' R H → XQ N w0 ops Q rest e R H := by
  intro h
  repeat' ((with_reducible refine XQ.at_ ?_); first | refine XQ.eH ?_ | refine XQ.gT ?_ | refine XQ.gF ?_ | refine XQ.gU ?_)
  refine XQ.nil ?_
  exact h) : XQ N w0 ops Q rest e R H := hk k
theorem Oc {f : FuncId} {x : Operand} {args : List Operand} {fi ca vs : List Value} {tys : Array TypeId} (hc : ∀ w, St w0 R H w → Calls Tryz.prog f (fi ++ vs ++ ca).toArray w (Rt v w)) (k : XK N w0 (wpList Tryz.prog ops Q rest) ((d, v) :: e) R H) (hx : e.ev x = some (.func (.func f) fi.toArray ca.toArray) := by rfl) (ha : e.cV args = some vs := by rfl) (hf : fK Tryz.prog f = true := by kernel_rfl) (hd : d < N.n := by decide) :
  XK N w0 (wpList Tryz.prog ops Q (⟨some d, .call { callee := .value x, args := args.toArray, argTypes := tys }, ty, pos, aJ, none⟩ :: rest)) e R H := aY hf hx ha hd hc k
theorem aZ {f : FuncId} {x : Operand} {args : List Operand} {vs : List Value} {tys : Array TypeId} (hc : ∀ w, St w0 R H w → Calls Tryz.prog f vs.toArray w (Rt v w)) (k : XK N w0 (wpList Tryz.prog ops Q rest) ((d, v) :: e) R H) (hx : e.ev x = some (.func (.func f) #[] #[]) := by rfl) (ha : e.cV args = some vs := by rfl) (hf : fK Tryz.prog f = true := by kernel_rfl) (hd : d < N.n := by decide) :
  XK N w0 (wpList Tryz.prog ops Q (⟨some d, .call { callee := .value x, args := args.toArray, argTypes := tys }, ty, pos, aJ, none⟩ :: rest)) e R H := Oc (fi := []) (ca := []) (fun w st => by simpa using hc w st) k hx ha hf hd
theorem XA.q (i : Nat) (k : XA Tryz.prog N w0 ops Q R0 H0 m fuel (listed.setIfInBounds i true) ((d, v) :: e) R H) (hi : ops[i]? = some ⟨some d, op, ty, pos, aJ, none⟩ := by rfl) (dN : bH Tryz.prog N w0 e R0 H0 ⟨some d, op, ty, pos, aJ, none⟩ v := by
  first
  | ((with_reducible apply Gx); exact cI rfl)
  | ((with_reducible apply Hi); exact yE rfl)
  | ((with_reducible apply Gy); (first | exact bR rfl | exact pR rfl | exact Ld rfl))
  | ((with_reducible apply He); exact Lh rfl)
  | ((with_reducible apply Gw); exact Kz rfl)
  | ((with_reducible apply Gv); (first | exact yB rfl rfl | exact yC rfl rfl))
  | ((with_reducible apply Hh); (first | exact La rfl rfl | exact Lc rfl rfl | exact Lf rfl rfl | exact Lg rfl rfl | exact zX rfl rfl | exact Cv rfl rfl | exact lN rfl rfl (bA (by omega)) | exact Fi rfl rfl (bA (by omega)) | exact Kw rfl | exact Kv rfl | exact Fj rfl))
  | ((with_reducible apply Gu); (first | exact Kx rfl | exact Ky rfl))
  | ((with_reducible apply Gz); exact Lb rfl)
  | ((with_reducible apply Hg); exact vI rfl rfl)
  | ((with_reducible apply Hf); exact Li rfl rfl)) (hd : d < N.n := by decide)
  (hc : (Region.free .any ops listed i && (Region.ready .any ops listed).contains i && decide (i < m)) = true := by kernel_rfl) (hQ : ∀ c a w, Q (.panic c) (a.put (some d) v) w → Q (.panic c) a w := by exact fun _ _ _ h => h)
  (hsub : ∀ w, St w0 R H w → St w0 R0 H0 w := by first | exact fun _ h => h | exact fun _ h => h.tail | exact fun _ h => h.aN | exact fun _ h => h.tail.tail | exact fun _ h => h.aN.tail | exact fun _ h => h.aN.aN) : XA Tryz.prog N w0 ops Q R0 H0 m (fuel + 1) listed e R H := XA.eH i hi rfl rfl hd dN hc hQ hsub k
theorem XK.fn {nn : Nat} {f : FuncId} {fn : Func} {c : Code} {vs : List Value} {w : World} {Post : Ending → World → Prop} (h : XK ⟨nn, []⟩ w (c.wp Tryz.prog (bodyPost Tryz.prog fn Post)) (yO 0 vs) [all w] []) (hf : Tryz.prog.funcs[f]? = some fn) (hb : fn.body = some c := by rfl) (hN : fn.ntmps = nn := by rfl) (hl : vs.length ≤ nn := by simp) : Calls Tryz.prog f vs.toArray w Post := XK.enter hf hb hN hl h
theorem XK.bU {nn : Nat} {fn : Func} {t : Nat} {v v' : Value} {w : World} (hR : all w ∈ R) (hv : v = v') (hr : fn.results = #[.tmp t] := by rfl) (ht : e.get t = some v := by rfl) : XK ⟨nn, []⟩ w (bodyPost Tryz.prog fn (Rt v' w) .ret) e R H := XK.aI hr ht fun w1 st => ⟨by rw [hv], st.below hR⟩
end
end
section
instance : dS 3 := ⟨by kernel_rfl⟩
instance : dS 4 := ⟨by kernel_rfl⟩
instance : dS 5 := ⟨by kernel_rfl⟩
instance : dS 22 := ⟨by kernel_rfl⟩
instance : mK 22 3 1 := ⟨by kernel_rfl, by kernel_rfl⟩
instance : dS 24 := ⟨by kernel_rfl⟩
instance : mK 24 118 6 := ⟨by kernel_rfl, by kernel_rfl⟩
instance : dS 25 := ⟨by kernel_rfl⟩
instance : mK 25 75 3 := ⟨by kernel_rfl, by kernel_rfl⟩
instance : dS 26 := ⟨by kernel_rfl⟩
instance : mK 26 120 1 := ⟨by kernel_rfl, by kernel_rfl⟩
instance : dS 27 := ⟨by kernel_rfl⟩
instance : mK 27 78 6 := ⟨by kernel_rfl, by kernel_rfl⟩
instance : bF 29 0 0 := ⟨by kernel_rfl⟩
instance : Xp 29 0 0 := ⟨by kernel_rfl⟩
instance : bF 29 1 1 := ⟨by kernel_rfl⟩
instance : bF 29 2 2 := ⟨by kernel_rfl⟩
instance : bF 29 3 3 := ⟨by kernel_rfl⟩
instance : kS 29 4 := ⟨by kernel_rfl⟩
instance : dS 31 := ⟨by kernel_rfl⟩
instance : dS 39 := ⟨by kernel_rfl⟩
instance : mK 39 44 1 := ⟨by kernel_rfl, by kernel_rfl⟩
instance : bF 43 0 0 := ⟨by kernel_rfl⟩
instance : bF 43 1 1 := ⟨by kernel_rfl⟩
instance : bF 43 2 2 := ⟨by kernel_rfl⟩
instance : bF 43 3 3 := ⟨by kernel_rfl⟩
instance : kS 43 4 := ⟨by kernel_rfl⟩
instance : dS 44 := ⟨by kernel_rfl⟩
instance : mK 52 159 4 := ⟨by kernel_rfl, by kernel_rfl⟩
instance : dS 55 := ⟨by kernel_rfl⟩
instance : dS 57 := ⟨by kernel_rfl⟩
instance : dS 61 := ⟨by kernel_rfl⟩
instance : bF 63 0 0 := ⟨by kernel_rfl⟩
instance : bF 63 1 1 := ⟨by kernel_rfl⟩
instance : kS 63 2 := ⟨by kernel_rfl⟩
instance : dS 66 := ⟨by kernel_rfl⟩
instance : mK 66 4 1 := ⟨by kernel_rfl, by kernel_rfl⟩
instance : bF 68 0 0 := ⟨by kernel_rfl⟩
instance : Xp 68 0 0 := ⟨by kernel_rfl⟩
instance : bF 68 1 1 := ⟨by kernel_rfl⟩
instance : bF 68 2 2 := ⟨by kernel_rfl⟩
instance : kS 68 3 := ⟨by kernel_rfl⟩
instance : Mg 69 2 68 3 := ⟨by kernel_rfl, by kernel_rfl⟩
instance : kS 69 6 := ⟨by kernel_rfl⟩
instance : bF 71 0 0 := ⟨by kernel_rfl⟩
instance : kS 71 6 := ⟨by kernel_rfl⟩
instance : bF 75 0 0 := ⟨by kernel_rfl⟩
instance : bF 75 1 1 := ⟨by kernel_rfl⟩
instance : bF 75 2 2 := ⟨by kernel_rfl⟩
instance : kS 75 3 := ⟨by kernel_rfl⟩
instance : dS 76 := ⟨by kernel_rfl⟩
instance : mK 76 92 2 := ⟨by kernel_rfl, by kernel_rfl⟩
instance : bF 78 0 0 := ⟨by kernel_rfl⟩
instance : bF 78 1 1 := ⟨by kernel_rfl⟩
instance : bF 78 2 2 := ⟨by kernel_rfl⟩
instance : bF 78 3 3 := ⟨by kernel_rfl⟩
instance : bF 78 4 4 := ⟨by kernel_rfl⟩
instance : bF 78 5 5 := ⟨by kernel_rfl⟩
instance : kS 78 6 := ⟨by kernel_rfl⟩
instance : bF 92 0 0 := ⟨by kernel_rfl⟩
instance : bF 92 1 1 := ⟨by kernel_rfl⟩
instance : kS 92 2 := ⟨by kernel_rfl⟩
instance : dS 113 := ⟨by kernel_rfl⟩
instance : bF 118 0 0 := ⟨by kernel_rfl⟩
instance : bF 118 1 1 := ⟨by kernel_rfl⟩
instance : bF 118 2 2 := ⟨by kernel_rfl⟩
instance : bF 118 3 3 := ⟨by kernel_rfl⟩
instance : bF 118 4 4 := ⟨by kernel_rfl⟩
instance : bF 118 5 5 := ⟨by kernel_rfl⟩
instance : kS 118 6 := ⟨by kernel_rfl⟩
instance : bF 120 0 0 := ⟨by kernel_rfl⟩
instance : kS 120 1 := ⟨by kernel_rfl⟩
instance : dS 122 := ⟨by kernel_rfl⟩
instance : dS 125 := ⟨by kernel_rfl⟩
instance : dS 128 := ⟨by kernel_rfl⟩
instance : dS 131 := ⟨by kernel_rfl⟩
instance : dS 132 := ⟨by kernel_rfl⟩
instance : mK 132 141 6 := ⟨by kernel_rfl, by kernel_rfl⟩
instance : bF 134 0 0 := ⟨by kernel_rfl⟩
instance : bF 134 1 1 := ⟨by kernel_rfl⟩
instance : bF 134 2 2 := ⟨by kernel_rfl⟩
instance : bF 134 3 3 := ⟨by kernel_rfl⟩
instance : bF 134 4 4 := ⟨by kernel_rfl⟩
instance : dS 135 := ⟨by kernel_rfl⟩
instance : dS 138 := ⟨by kernel_rfl⟩
instance : bF 141 0 0 := ⟨by kernel_rfl⟩
instance : bF 141 1 1 := ⟨by kernel_rfl⟩
instance : bF 141 2 2 := ⟨by kernel_rfl⟩
instance : bF 141 3 3 := ⟨by kernel_rfl⟩
instance : bF 141 4 4 := ⟨by kernel_rfl⟩
instance : bF 141 5 5 := ⟨by kernel_rfl⟩
instance : kS 141 6 := ⟨by kernel_rfl⟩
instance : bF 147 0 0 := ⟨by kernel_rfl⟩
instance : bF 147 1 1 := ⟨by kernel_rfl⟩
instance : kS 147 2 := ⟨by kernel_rfl⟩
instance : Mg 148 2 147 2 := ⟨by kernel_rfl, by kernel_rfl⟩
instance : bF 150 0 0 := ⟨by kernel_rfl⟩
instance : bF 150 1 1 := ⟨by kernel_rfl⟩
instance : bF 150 2 5 := ⟨by kernel_rfl⟩
instance : bF 150 3 11 := ⟨by kernel_rfl⟩
instance : bF 150 4 15 := ⟨by kernel_rfl⟩
instance : bF 150 5 16 := ⟨by kernel_rfl⟩
instance : bF 150 6 17 := ⟨by kernel_rfl⟩
instance : kS 159 4 := ⟨by kernel_rfl⟩
instance : mK 163 166 2 := ⟨by kernel_rfl, by kernel_rfl⟩
instance : bF 166 0 0 := ⟨by kernel_rfl⟩
instance : bF 166 1 1 := ⟨by kernel_rfl⟩
instance : kS 166 2 := ⟨by kernel_rfl⟩
instance : mK 203 22 1 := ⟨by kernel_rfl, by kernel_rfl⟩
instance : dS 223 := ⟨by kernel_rfl⟩
instance : mK 223 227 11 := ⟨by kernel_rfl, by kernel_rfl⟩
instance : bF 225 0 0 := ⟨by kernel_rfl⟩
instance : bF 227 0 0 := ⟨by kernel_rfl⟩
instance : bF 227 1 6 := ⟨by kernel_rfl⟩
instance : bF 227 2 7 := ⟨by kernel_rfl⟩
instance : bF 227 3 8 := ⟨by kernel_rfl⟩
instance : bF 227 4 9 := ⟨by kernel_rfl⟩
instance : bF 227 5 10 := ⟨by kernel_rfl⟩
instance : kS 227 11 := ⟨by kernel_rfl⟩
instance : dS 228 := ⟨by kernel_rfl⟩
instance : mK 228 232 7 := ⟨by kernel_rfl, by kernel_rfl⟩
instance : bF 230 0 0 := ⟨by kernel_rfl⟩
instance : bF 232 0 0 := ⟨by kernel_rfl⟩
instance : bF 232 1 3 := ⟨by kernel_rfl⟩
instance : bF 232 2 4 := ⟨by kernel_rfl⟩
instance : bF 232 3 5 := ⟨by kernel_rfl⟩
instance : bF 232 4 6 := ⟨by kernel_rfl⟩
instance : dS 233 := ⟨by kernel_rfl⟩
instance : bF 235 0 0 := ⟨by kernel_rfl⟩
instance : bF 237 0 0 := ⟨by kernel_rfl⟩
instance : bF 237 1 1 := ⟨by kernel_rfl⟩
instance : bF 237 2 2 := ⟨by kernel_rfl⟩
instance : bF 237 3 3 := ⟨by kernel_rfl⟩
instance : kS 237 4 := ⟨by kernel_rfl⟩
instance : bF 240 0 0 := ⟨by kernel_rfl⟩
instance : bF 240 1 1 := ⟨by kernel_rfl⟩
instance : bF 240 2 2 := ⟨by kernel_rfl⟩
instance : bF 240 3 3 := ⟨by kernel_rfl⟩
instance : bF 242 0 0 := ⟨by kernel_rfl⟩
instance : bF 242 1 1 := ⟨by kernel_rfl⟩
instance : dS 243 := ⟨by kernel_rfl⟩
instance : mK 243 265 1 := ⟨by kernel_rfl, by kernel_rfl⟩
instance : bF 245 0 0 := ⟨by kernel_rfl⟩
instance : bF 245 1 1 := ⟨by kernel_rfl⟩
instance : bF 260 0 0 := ⟨by kernel_rfl⟩
instance : bF 260 1 1 := ⟨by kernel_rfl⟩
instance : bF 260 2 2 := ⟨by kernel_rfl⟩
instance : bF 260 3 3 := ⟨by kernel_rfl⟩
instance : kS 260 4 := ⟨by kernel_rfl⟩
instance : dS 265 := ⟨by kernel_rfl⟩
instance : mK 265 260 4 := ⟨by kernel_rfl, by kernel_rfl⟩
instance : Mg 270 4 5 1 := ⟨by kernel_rfl, by kernel_rfl⟩
instance : Mg 273 3 5 1 := ⟨by kernel_rfl, by kernel_rfl⟩
instance : bF 275 0 0 := ⟨by kernel_rfl⟩
instance : bF 275 1 1 := ⟨by kernel_rfl⟩
instance : bF 275 2 2 := ⟨by kernel_rfl⟩
instance : kS 275 5 := ⟨by kernel_rfl⟩
instance : mK 345 113 1 := ⟨by kernel_rfl, by kernel_rfl⟩
instance : dS 350 := ⟨by kernel_rfl⟩
end
section
open Go.RowKit Go.Shelf
structure lQ (n₀ mX nP : Nat) (W W' : World) : Prop where
 low : Below n₀ W W'
 high : ∀ k o, mX ≤ k → (o.isCells = true ∨ nP ≤ k) → W.heap[k]? = some o → W'.heap[k]? = some o
section
variable {n₀ mX nP : Nat} {A B C : World}
theorem lQ.refl (n₀ mX nP : Nat) (W : World) : lQ n₀ mX nP W W := ⟨Below.refl _ _, fun _ _ _ _ h => h⟩
theorem lQ.trans (h : lQ n₀ mX nP A B) (k : lQ n₀ mX nP B C) : lQ n₀ mX nP A C := ⟨h.low.trans k.low, fun i o hi h1 h2 => k.high i o hi h1 (h.high i o hi h1 h2)⟩
theorem lQ.drew (h : lQ n₀ mX nP A B) : lQ n₀ mX nP A B.drew := ⟨h.low.drew, h.high⟩
theorem lQ.setCell (h : lQ n₀ mX nP A B) {p : Addr} (hp : n₀ ≤ p.block) (hb : p.block < mX) (u : Value) : lQ n₀ mX nP A (B.setCell p u) :=
 ⟨h.low.setCell hp u, fun i o hi h1 h2 => (Below.heap_setCell B p u i (by omega)).trans (h.high i o hi h1 h2)⟩
theorem lQ.alloc (h : lQ n₀ mX nP A B) (hn : n₀ ≤ B.heap.size) (o : Obj) : lQ n₀ mX nP A (B.alloc o) :=
 ⟨h.low.alloc hn o, fun i o' hi h1 h2 => (Below.heap_alloc B o i (Array.getElem?_eq_some_iff.1 (h.high i o' hi h1 h2)).1).trans (h.high i o' hi h1 h2)⟩
theorem lQ.more {aCt : Nat} (h : lQ n₀ mX nP A B) (hB : nP ≤ aCt) : lQ n₀ mX aCt A B := ⟨h.low, fun i o hi h1 h2 => h.high i o hi (h1.imp id (fun h => Nat.le_trans hB h)) h2⟩
theorem lQ.from {Xu : Nat} (h : lQ n₀ mX nP A B) (h1 : mX ≤ Xu) (h2 : nP ≤ Xu) : KeepsFrom Xu A B := ⟨h.low.size, fun k o hk ho _ => h.high k o (by omega) (.inr (by omega)) ho⟩
end
theorem dQ.putObj {w : World} {g l : Nat} {t : TypeId} {cs : Array Value} (h : dQ w g t cs) (hne : g ≠ l) (o : Obj) : dQ (w.putObj l o) g t cs := (World.putObj_heap_other hne).trans h
section
variable {P : Program} {m : Nat}
end
end
end Go.Proofs.YticjkhagldkejaaGreatDoor
