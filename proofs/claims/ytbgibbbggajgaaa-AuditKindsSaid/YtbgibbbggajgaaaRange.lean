/- A range over a function, in the wide fence: one law for the caller; an iterator's contract that lets an iterator range over another one. -/
import Derived.Test.YtbgibbbggajgaaaMem
import Derived.RangeFuncNested
import Derived.RangeFuncBound
import Derived.RangeFuncCalls
import Derived.RangeFuncLeaves
import Derived.Shelf.Abstract
import Derived.OwnWalkIn
import Derived.TacticsInMore
import Derived.LoopNIn
import Derived.LoopIn
namespace Go.Proofs.Ytbgibbbggajgaaa
set_option linter.all false
open Go.RowKit Go.Shelf

/-- what a round must keep: all below n₀; all cells from B₁ on, which the iterator has laid, and whatever lies from B₂ on -/
structure Keeps (n₀ B₁ B₂ : Nat) (W W' : World) : Prop where
  low : Below n₀ W W'
  high : ∀ k o, B₁ ≤ k → (o.isCells = true ∨ B₂ ≤ k) → W.heap[k]? = some o → W'.heap[k]? = some o
section
variable {n₀ B₁ B₂ : Nat} {A B C : World}
theorem Keeps.refl (n₀ B₁ B₂ : Nat) (W : World) : Keeps n₀ B₁ B₂ W W := ⟨Below.refl _ _, fun _ _ _ _ h => h⟩
theorem Keeps.trans (h : Keeps n₀ B₁ B₂ A B) (k : Keeps n₀ B₁ B₂ B C) : Keeps n₀ B₁ B₂ A C := ⟨h.low.trans k.low, fun i o hi h1 h2 => k.high i o hi h1 (h.high i o hi h1 h2)⟩
theorem Keeps.drew (h : Keeps n₀ B₁ B₂ A B) : Keeps n₀ B₁ B₂ A B.drew := ⟨h.low.drew, h.high⟩
theorem Keeps.setCell (h : Keeps n₀ B₁ B₂ A B) {p : Addr} (hp : n₀ ≤ p.block) (hb : p.block < B₁) (u : Value) : Keeps n₀ B₁ B₂ A (B.setCell p u) :=
  ⟨h.low.setCell hp u, fun i o hi h1 h2 => (Below.heap_setCell B p u i (by omega)).trans (h.high i o hi h1 h2)⟩
theorem Keeps.alloc (h : Keeps n₀ B₁ B₂ A B) (hn : n₀ ≤ B.heap.size) (o : Obj) : Keeps n₀ B₁ B₂ A (B.alloc o) :=
  ⟨h.low.alloc hn o, fun i o' hi h1 h2 => (Below.heap_alloc B o i (Array.getElem?_eq_some_iff.1 (h.high i o' hi h1 h2)).1).trans (h.high i o' hi h1 h2)⟩
theorem Keeps.of_below (hn : n₀ ≤ A.heap.size) (h : Below A.heap.size A B) : Keeps n₀ B₁ B₂ A B :=
  ⟨h.mono hn, fun i o hi h1 h2 => (h.block i (Array.getElem?_eq_some_iff.1 h2).1).trans h2⟩
theorem Keeps.grown {row : Option Nat} {D : World} (h : Keeps n₀ B₁ B₂ A B) (hg : B.grownBy D row) (hn : n₀ ≤ B.heap.size) (hr : ∀ k, row = some k → n₀ ≤ k ∧ (k < B₁ ∨ A.heap.size ≤ k)) : Keeps n₀ B₁ B₂ A D :=
  ⟨h.low.grown hg hn (fun k hk => (hr k hk).1), fun i o hi h1 h2 => by
    have h3 := h.high i o hi h1 h2
    refine (hg.block i (Array.getElem?_eq_some_iff.1 h3).1 (fun e => ?_)).trans h3
    have h4 := (hr i e.symm).2
    have h5 := (Array.getElem?_eq_some_iff.1 h2).1
    omega⟩
theorem Keeps.more {B₂' : Nat} (h : Keeps n₀ B₁ B₂ A B) (hB : B₂ ≤ B₂') : Keeps n₀ B₁ B₂' A B := ⟨h.low, fun i o hi h1 h2 => h.high i o hi (h1.imp id (fun h => Nat.le_trans hB h)) h2⟩
theorem keeps_b {l : Nat} (hn : n₀ ≤ l) (hB : l < B₂) (W : World) (o o' : Obj) (h : W.heap[l]? = some o) (h1 : o.isCells = false) : Keeps n₀ B₁ B₂ W (W.putObj l o') :=
  ⟨(Below.refl n₀ W).grown (grownBy_putObj' W l o') (by have := (Array.getElem?_eq_some_iff.1 h).1; omega) (fun k e => by cases e; omega), fun i o2 _ h4 h3 => by
    refine (World.putObj_heap_other (fun e => ?_)).trans h3
    subst e
    rw [h] at h3
    cases h3
    rcases h4 with h4 | h4
    · rw [h1] at h4
      cases h4
    · omega⟩
theorem Blk.keeps {g : Nat} {t : TypeId} {cs : Array Value} (h : Blk A g t cs) (k : Keeps n₀ B₁ B₂ A B) (hg : B₁ ≤ g) : Blk B g t cs := k.high g _ hg (.inl rfl) h
theorem Keeps.from {B₃ : Nat} (h : Keeps n₀ B₁ B₂ A B) (h1 : B₁ ≤ B₃) (h2 : B₂ ≤ B₃) : KeepsFrom B₃ A B := ⟨h.low.size, fun k o hk ho _ => h.high k o (by omega) (.inr (by omega)) ho⟩
theorem keeps_own {β : Type} {w : World} {B₃ : Nat} (hn : n₀ ≤ w.heap.size) (hB : w.heap.size ≤ B₃) : OwnFrom B₃ (fun (_ : β) W => Keeps n₀ B₁ B₂ w W) := fun _ X Y row hs hg hr =>
  hs.grown hg (by have := hs.low.size; omega) (fun k hk => by have := (hr k hk).1; omega)
theorem own_more {β : Type} {I : β → World → Prop} {B₃ B₄ : Nat} (h : OwnFrom B₃ I) (hB : B₃ ≤ B₄) : OwnFrom B₄ I := fun s X Y row hs hg hr => h s X Y row hs hg (fun r e => ⟨by have := (hr r e).1; omega, (hr r e).2⟩)
end
theorem Blk.putObj {w : World} {g l : Nat} {t : TypeId} {cs : Array Value} (h : Blk w g t cs) (hne : g ≠ l) (o : Obj) : Blk (w.putObj l o) g t cs := (World.putObj_heap_other hne).trans h
theorem blk_own {β : Type} (g : Nat) (t : TypeId) (f : β → Array Value) : Own (fun s W => Blk W g t (f s)) := fun s A B row hs hg hr =>
  hs.grown hg (fun e => by obtain ⟨o, ho, hc⟩ := hr g e.symm; rw [show A.heap[g]? = _ from hs] at ho; cases ho; cases hc)

/-- the contract of an iterator: it hands over items xs of which S says which, in order, or is told to stop at the last of pre, of which Sp speaks; J and Jx are the caller's -/
def Seq {α : Type} (P : Program) (g : Nat) (lb : Array Value) (encs : α → Array Value) (Kp : World → World → Prop) (B₂ : Nat) (S Sp : List α → Prop) (N : Nat) (w : World) : Prop :=
  ∀ (l : Nat) (J Jx : List α → World → Prop) (W : World), Below w.heap.size w W → B₂ ≤ W.heap.size → OwnFrom W.heap.size J → OwnFrom W.heap.size Jx →
    (∀ pre x W1, J pre W1 → pre.length < N → YieldAt Fence.wide 9 P l (encs x) W1 fun e W' =>
      (e = .returned (.bool true) ∧ J (pre ++ [x]) W' ∧ Kp W1 W') ∨ (e = .returned (.bool false) ∧ Jx (pre ++ [x]) W' ∧ KeepsFrom B₂ W1 W')) →
    J [] W →
    CallsIn Fence.wide 9 P g (#[.func (.yield l) #[] #[]] ++ lb) W fun e W' => (∃ v, e = .returned v) ∧ ((∃ xs, S xs ∧ J xs W') ∨ (∃ pre, Sp pre ∧ Jx pre W'))

section
variable {P : Program} {m : Nat}
theorem round_deep {k : Nat} {l : Nat} {f : FuncId} {tmps : Array Value} {assign body : Code} {w : World} {R : Ending → World → Prop} (h : RoundIn Fence.wide m P l f tmps assign body w R) :
    RoundIn Fence.wide k P l f tmps assign body w R := ⟨h.1, fun c cs _ => h.2 c cs (room_wide _)⟩
theorem round_in {k l₂ : Nat} {l : Nat} {f : FuncId} {tmps : Array Value} {assign body : Code} {w : World} {R : Ending → World → Prop} (h : RoundIn Fence.wide m P l f tmps assign body w R) :
    RoundIn (Fence.wide.inRound l₂) k P l f tmps assign body w R := ⟨h.1, fun c cs _ => h.2 c cs (room_wide _)⟩
theorem calls_deep {k : Nat} {f : FuncId} {args : Array Value} {w : World} {R : Ending → World → Prop} (h : CallsIn Fence.wide m P f args w R) : CallsIn Fence.wide k P f args w R := callsIn_wide.2 (callsIn_wide.1 h)
theorem code_deep {k : Nat} {c : Code} {Q : Exit → Act → World → Prop} {a : Act} {w : World} (h : c.wpIn Fence.wide m P Q a w) : c.wpIn Fence.wide k P Q a w := wpIn_wide.2 (wpIn_wide.1 h)

/-- a range over a function, of which the contract is known -/
theorem range_law {α : Type} {g : Operand} {ps : Array Tmp} {assign body : Code} {Q : Exit → Act → World → Prop} {a : Act} {w : World} {gf : Nat} {lb : Array Value} (hg : a.eval g = .func (.func gf) #[] lb)
    (eg : ∀ args w, (callFunc gf args).run P w = .ok (.enter gf args) w)
    {encs : α → Array Value} {Kp : World → World → Prop} {S Sp : List α → Prop} {N : Nat} {w0 : World} (hseq : Seq P gf lb encs Kp (w.heap.size + 1 + 1) S Sp N w0) (hKt : ∀ {A B C : World}, Kp A B → Kp B C → Kp A C)
    (hKb : ∀ (W : World) (o o' : Obj), W.heap[w.heap.size + 1]? = some o → o.isCells = false → Kp W (W.putObj (w.heap.size + 1) o')) (hb0 : Below w0.heap.size w0 w) (hps : ∀ x, (encs x).size = ps.size)
    (I : List α → World → Prop) (Ix : Code → List α → World → Prop) (hI : OwnFrom w.heap.size I) (hIx : ∀ c, OwnFrom w.heap.size (Ix c)) (h0 : I [] w) (a₁ : α → Act)
    (hassign : ∀ (l : Nat) (x : α) (W : World) (K : Act → World → Prop), K (a₁ x) W →
      assign.wpIn (Fence.wide.inRound l) 9 P (Exit.then K (fun _ _ _ => False)) { tmps := (ps.zip (encs x)).foldl (fun t (p, v) => t.setIfInBounds p v) a.tmps, defers := [] } W)
    (hbody : ∀ (l : Nat) (pre : List α) (x : α) (W : World), I pre W → pre.length < N → body.wpIn (Fence.wide.inRound l) 9 P (ownPostG w.heap.size Kp I Ix (pre ++ [x]) W) (a₁ x) W)
    (hdone : ∀ (D : Nat) (xs : List α) (W : World), w.heap.size ≤ D → S xs → I xs W → W.heap[D]? = some (.deferred (some [])) → Q .normal { a with defers := { target := .collected D, args := #[] } :: a.defers } W)
    (hstop : ∀ (D : Nat) (c : Code) (pre : List α) (W : World), w.heap.size ≤ D → Sp pre → Ix c pre W → W.heap[D]? = some (.deferred (some [])) → c.wpIn Fence.wide m P Q { a with defers := { target := .collected D, args := #[] } :: a.defers } W) :
    (Code.rangeFunc g ps assign body).wpIn Fence.wide m P Q a w := by
  refine wpIn_rangeFunc fun fn hfn => ?_
  let rec' : LoopState → Option Code → Loop := fun st pe => { state := st, pending := pe, fn, tmps := a.tmps, params := ps, assign, body, defers := w.heap.size }
  obtain ⟨W1, hW1⟩ : ∃ W1, (w.alloc (.deferred (some []))).alloc (.loop (rec' .ready none)) = W1 := ⟨_, rfl⟩
  have hs1 : W1.heap.size = w.heap.size + 1 + 1 := by rw [← hW1]; simp
  have hL1 : W1.heap[w.heap.size + 1]? = some (.loop (rec' .ready none)) := by
    have := World.alloc_heap_new (w.alloc (.deferred (some []))) (.loop (rec' .ready none))
    rwa [World.size_alloc, hW1] at this
  have hK1 : W1.heap[w.heap.size]? = some (.deferred (some [])) := by
    rw [← hW1]
    exact (Below.heap_alloc _ _ _ (by simp)).trans (World.alloc_heap_new w _)

  let Ok : Option Code → LoopState → World → Prop := fun pe st W => W.heap[w.heap.size + 1]? = some (.loop (rec' st pe)) ∧ W.heap[w.heap.size]? = some (.deferred (some []))
  have okOwn : ∀ pe st, ∀ A B row, Ok pe st A → A.grownBy B row → (∀ r, row = some r → W1.heap.size ≤ r ∧ ∃ o : Obj, A.heap[r]? = some o ∧ o.isCells = false) → Ok pe st B := by
    rintro pe st A B row ⟨h1, h2⟩ hg' hr
    have key : ∀ k o, k < W1.heap.size → A.heap[k]? = some o → B.heap[k]? = some o := fun k o hk ho =>
      (hg'.block k (Array.getElem?_eq_some_iff.1 ho).1 (fun e => by have := (hr k e.symm).1; omega)).trans ho
    exact ⟨key _ _ (by omega) h1, key _ _ (by omega) h2⟩
  have up : ∀ {A : World} {row : Option Nat}, (∀ r, row = some r → W1.heap.size ≤ r ∧ ∃ o : Obj, A.heap[r]? = some o ∧ o.isCells = false) → (∀ r, row = some r → w.heap.size ≤ r ∧ ∃ o : Obj, A.heap[r]? = some o ∧ o.isCells = false) :=
    fun hr r e => ⟨by have := (hr r e).1; omega, (hr r e).2⟩
  refine ⟨w.heap.size + 1, [{ target := .collected w.heap.size, args := #[] }], W1, { target := .fn (.func gf) lb, args := #[.func (.yield (w.heap.size + 1)) #[] #[]] }, W1, gf, #[.func (.yield (w.heap.size + 1)) #[] #[]] ++ lb, W1,
    by rw [← hW1]; exact run_enterLoop_outer _ _ _ _ _, ?_, fun _ _ => trivial, by simp [invoke, go_sem, eg], fun h => by simp [Fence.wide] at h, ?_⟩
  · simp only [resolve, hg]
    simp [go_sem]
  refine calls_deep ((hseq (w.heap.size + 1) (fun pre W => I pre W ∧ Ok none .ready W) (fun pre W => ∃ c, Ix c pre W ∧ Ok (some c) .done W) W1
    (by rw [← hW1]; exact hb0.trans ((((Below.refl _ w).alloc (Nat.le_refl _) _).alloc (by simp) _).mono hb0.size)) (by omega)
    (fun s A B row hs hg' hr => ⟨hI s A B row hs.1 hg' (up hr), okOwn _ _ A B row hs.2 hg' hr⟩)
    (fun s A B row hs hg' hr => by
      obtain ⟨c, hc, ho⟩ := hs
      exact ⟨c, hIx c s A B row hc hg' (up hr), okOwn _ _ A B row ho hg' hr⟩) ?round ⟨by rw [← hW1]; exact hI.alloc _ (hI.alloc _ h0), hL1, hK1⟩).mono ?behind)
  case round =>
    rintro pre x W ⟨hi, hl, hk⟩ hlen
    refine ⟨fn, _, assign, body, run_yield (P := P) (args := encs x) hl (hps x), roundIn_of_wpIn hfn (hassign _ x W _ ⟨_, run_beginRound hl rfl, ?_⟩)⟩
    have hl2 : (W.putObj (w.heap.size + 1) (.loop { rec' .ready none with state := .busy })).heap[w.heap.size + 1]? = some (.loop { rec' .ready none with state := .busy }) := World.putObj_heap_same (Array.getElem?_eq_some_iff.1 hl).1
    have hk2 := (World.putObj_heap_other (o := .loop { rec' .ready none with state := .busy }) (by omega : w.heap.size ≠ w.heap.size + 1)).trans hk
    have hw2 : Kp W (W.putObj (w.heap.size + 1) (.loop { rec' .ready none with state := .busy })) := hKb _ _ _ hl rfl
    refine wpIn_mono (hbody _ pre x _ (hI.putObj _ hi (by omega) hl rfl) hlen) ?_
    have fin : ∀ (jump : Option Code) (W3 : World), KeepsFrom w.heap.size (W.putObj (w.heap.size + 1) (.loop { rec' .ready none with state := .busy })) W3 →
        (Instr.endRound (w.heap.size + 1) jump).run P W3 = .ok (.bool jump.isNone) (W3.putObj (w.heap.size + 1) (.loop (rec' (if jump.isNone then .ready else .done) jump))) ∧
        W3.heap[w.heap.size + 1]? = some (.loop { rec' .ready none with state := .busy }) ∧ Ok jump (if jump.isNone then .ready else .done) (W3.putObj (w.heap.size + 1) (.loop (rec' (if jump.isNone then .ready else .done) jump))) := fun jump W3 hk3 => by
      have hl3 := hk3.same _ _ (by omega) hl2 rfl
      exact ⟨run_endRound (P := P) jump hl3, hl3, World.putObj_heap_same (Array.getElem?_eq_some_iff.1 hl3).1, (World.putObj_heap_other (by omega)).trans (hk3.same _ _ (Nat.le_refl _) hk2 rfl)⟩
    have leave : ∀ (c : Code) (W3 : World), KeepsFrom w.heap.size (W.putObj (w.heap.size + 1) (.loop { rec' .ready none with state := .busy })) W3 → Ix c (pre ++ [x]) W3 → ∃ v W', (Instr.endRound (w.heap.size + 1) (some c)).run P W3 = .ok v W' ∧
        ((.returned v = Ending.returned (.bool true) ∧ (I (pre ++ [x]) W' ∧ Ok none .ready W') ∧ Kp W W') ∨ (.returned v = Ending.returned (.bool false) ∧ (∃ c, Ix c (pre ++ [x]) W' ∧ Ok (some c) .done W') ∧ KeepsFrom (w.heap.size + 1 + 1) W W')) := fun c W3 hk3 hi3 => by
      obtain ⟨hr, hl3, ho⟩ := fin (some c) W3 hk3
      refine ⟨_, _, hr, .inr ⟨rfl, ⟨c, (hIx c).putObj _ hi3 (by omega) hl3 rfl, ho⟩, ?_, fun k o hk ho1 ho2 => ?_⟩⟩
      · have := hk3.size
        simpa using this
      · refine (World.putObj_heap_other (by omega)).trans (hk3.same k o (by omega) ((World.putObj_heap_other (by omega)).trans ho1) ho2)
    rintro e a3 W3 hp
    cases e with
    | normal =>
      obtain ⟨hk3, hkp3, hi3⟩ := hp
      obtain ⟨hr, hl3, ho⟩ := fin none W3 hk3
      exact ⟨_, _, hr, .inl ⟨rfl, ⟨hI.putObj _ hi3 (by omega) hl3 rfl, ho⟩, hKt (hKt hw2 hkp3) (hKb _ _ _ hl3 rfl)⟩⟩
    | ret => exact leave .ret W3 hp.1 hp.2
    | exit id => exact leave (.exit id) W3 hp.1 hp.2
    | goto t => exact leave (.goto t) W3 hp.1 hp.2
    | panic ch => exact hp.elim
    | outgrown => exact hp.elim
  case behind =>
    rintro e W2 ⟨⟨v, rfl⟩, (⟨xs, hS, hi, hl, hk⟩ | ⟨pre, hSp, c, hi, hl, hk⟩)⟩
    · exact ⟨none, _, run_endLoop (P := P) hl (by simp [rec']), hdone _ xs _ (Nat.le_refl _) hS (hI.putObj _ hi (by omega) hl rfl) ((World.putObj_heap_other (by omega)).trans hk)⟩
    · exact ⟨some c, _, run_endLoop (P := P) hl (by simp [rec']), hstop _ c pre _ (Nat.le_refl _) hSp ((hIx c).putObj _ hi (by omega) hl rfl) ((World.putObj_heap_other (by omega)).trans hk)⟩
end

/-- append onto a row of the call's own, in the fence -/
theorem wpListIn_append_sl {F : Fence} {m' : Nat} {P : Program} {ops : Array Oper} {rest : List Oper} {o : Oper} {a : Act} {Q : Exit → Act → World → Prop} {w : World} (hgd : o.guard = none) {s x : Operand} {t : TypeId}
    (ho : o.op = .call { callee := .builtin .append, args := #[s, x], argTypes := #[t, t] })
    {base : Nat} {e : TypeId} {i : TypeInfo} {z : Value} {size bytes : Nat} (ht : P.underlying t = some (.slice e)) (hi : P.info? e = some i) (hz : i.zero = some z)
    (hsize : i.size = size) (hby : i.bytes = bytes) (hzs : z.cells.size = size) (hsz : 0 < size)
    {v : Value} {n : Nat} {xs : List Value} (hs : a.eval s = v) (hown : w.ownsRow base e size v n xs)
    {B : Nat} {A : Option Addr} {m c : Nat} {news : List Value} (hx : a.eval x = .slice A m c) (hr : Sl w B size A m news) (h1 : ∀ u ∈ news, u.oneCell' = true)
    (h63 : n + m ≤ maxLen) (hbytes : (n + m) * bytes ≤ 140737488355328) (hbase : base ≤ w.heap.size)
    (h : ∀ v' w', w'.ownsRow base e size v' (n + m) (xs ++ news) → w.grownBy w' v.ownBlock → (v'.ownBlock = v.ownBlock ∨ v'.ownBlock = some w.heap.size) → wpListIn F m' P ops Q rest (a.put o.dst v') w') : wpListIn F m' P ops Q (o :: rest) a w := by
  refine wpListIn_plain hgd fun _ hK => ?_
  obtain ⟨v', w', hrun, h2, h3, h4⟩ := run_append_sl (P := P) w base t o.type e i z size bytes ht hi hz hsize hby hzs hsz v n xs hown B A m c news hr h1 h63 hbytes hbase
  unfold Oper.wpIn
  refine ⟨?_, ?_⟩
  · simp [Oper.about, ho, resolve, Target.leads, Sem.run_pure]
  · rw [Oper.semAt_plain F _ _ (by rw [ho]; intro c hc'; cases hc')]
    simp only [execOp, ho, resolve, invoke, builtin, Sem.run_bind, Sem.run_pure, Result.andThen_ok, List.map_toArray, List.map_cons, List.map_nil, hs, hx, hrun]
    exact hK _ _ (h v' w' h2 h3 h4)
end Go.Proofs.Ytbgibbbggajgaaa
