/- A chip's description, as data, and as it lies in memory; blocks known by their types. -/
import Derived.Test.YtbgibbbggajgaaaMem
namespace Go.Proofs.Ytbgibbbggajgaaa
set_option linter.all false
open Go.RowKit

structure Clk where
  kind : Int
  src : List Int
  rate : Int
  mul : Int
  div : Int
  lock : Int
structure Dom where
  above : Int
  delay : Int
  ret : Bool
structure Rg where
  reset : Int
  kept : Bool
structure Dev where
  clock : Int
  domain : Int
  reset : Int
  clamp : Int
  regs : List Rg
  needs : List Int
structure Soc where
  clocks : List Clk
  domains : List Dom
  resets : List Int
  devs : List Dev

/-! ### as cells: S says of a slice what it holds -/
abbrev SlP := TypeId → Nat → Option Addr → Nat → List Value → Prop
def ClkR (S : SlP) (c : Clk) (row : List Value) : Prop :=
  ∃ A n k, row = [.int .u8 c.kind, .slice A n k, .int .u64 c.rate, .int .i64 c.mul, .int .i64 c.div, .int .i64 c.lock] ∧ n = c.src.length ∧ S 3 1 A n (intCells c.src)
def DomR (d : Dom) (row : List Value) : Prop := row = [.int .i64 d.above, .int .i64 d.delay, .bool d.ret]
def RstR (d : Int) (row : List Value) : Prop := row = [.int .i64 d]
def Rg.cells (r : Rg) : List Value := [.int .u32 r.reset, .bool r.kept]
def DevR (S : SlP) (d : Dev) (row : List Value) : Prop :=
  ∃ A n k A' n' k', row = [.int .i64 d.clock, .int .i64 d.domain, .int .i64 d.reset, .int .u32 d.clamp, .slice A n k, .slice A' n' k'] ∧ n = d.regs.length ∧ n' = d.needs.length ∧
    S 104 2 A n (d.regs.flatMap Rg.cells) ∧ S 3 1 A' n' (intCells d.needs)
/-- rows of cells, each of which R says what it is -/
def Rows {α : Type} (R : α → List Value → Prop) (sz : Nat) : List α → List (List Value) → Prop
  | [], [] => True
  | e :: es, r :: rs => r.length = sz ∧ R e r ∧ Rows R sz es rs
  | _, _ => False
/-- a slice of elements -/
def RsR {α : Type} (S : SlP) (R : α → List Value → Prop) (t : TypeId) (sz : Nat) (A : Option Addr) (n : Nat) (es : List α) : Prop :=
  ∃ rows, Rows R sz es rows ∧ n = es.length ∧ S t sz A n rows.flatten
section
variable {α : Type} {R R' : α → List Value → Prop} {sz : Nat}
theorem Rows.mono (hR : ∀ e r, R e r → R' e r) : ∀ {es : List α} {rs : List (List Value)}, Rows R sz es rs → Rows R' sz es rs
  | [], [], _ => trivial
  | _ :: _, _ :: _, h => ⟨h.1, hR _ _ h.2.1, Rows.mono hR h.2.2⟩
theorem Rows.snoc : ∀ {es : List α} {rs : List (List Value)} {e : α} {r : List Value}, Rows R sz es rs → r.length = sz → R e r → Rows R sz (es ++ [e]) (rs ++ [r])
  | [], [], _, _, _, h1, h2 => ⟨h1, h2, trivial⟩
  | _ :: _, _ :: _, _, _, h, h1, h2 => ⟨h.1, h.2.1, Rows.snoc h.2.2 h1 h2⟩
theorem Rows.len : ∀ {es : List α} {rs : List (List Value)}, Rows R sz es rs → rs.length = es.length ∧ rs.flatten.length = es.length * sz
  | [], [], _ => ⟨rfl, by simp⟩
  | _ :: es, _ :: _, h => by
    obtain ⟨h1, h2⟩ := Rows.len h.2.2
    refine ⟨by simp [h1], ?_⟩
    rw [List.flatten_cons, List.length_append, h2, h.1, List.length_cons, Nat.succ_mul, Nat.add_comm]
theorem Rows.get : ∀ {es : List α} {rs : List (List Value)} {k : Nat} {e : α}, Rows R sz es rs → es[k]? = some e → ∃ r, r.length = sz ∧ R e r ∧ ∀ f, f < sz → rs.flatten[k * sz + f]? = r[f]?
  | _ :: _, r :: _, 0, e, h, hk => by
    simp at hk
    subst hk
    exact ⟨r, h.1, h.2.1, fun f hf => by rw [List.flatten_cons, Nat.zero_mul, Nat.zero_add, List.getElem?_append_left (by rw [h.1]; exact hf)]⟩
  | _ :: es, r :: rs, k + 1, e, h, hk => by
    simp at hk
    obtain ⟨r', h1, h2, h3⟩ := Rows.get h.2.2 hk
    refine ⟨r', h1, h2, fun f hf => ?_⟩
    rw [List.flatten_cons, List.getElem?_append_right (by rw [h.1, Nat.succ_mul]; omega), h.1, show (k + 1) * sz + f - sz = k * sz + f by rw [Nat.succ_mul]; omega]
    exact h3 f hf
end
def SocR (S : SlP) (s : Soc) (v : Array Value) : Prop :=
  ∃ A1 n1 k1 A2 n2 k2 A3 n3 k3 A4 n4 k4, v = #[.slice A1 n1 k1, .slice A2 n2 k2, .slice A3 n3 k3, .slice A4 n4 k4] ∧
    RsR S (ClkR S) 65 6 A1 n1 s.clocks ∧ RsR S DomR 61 3 A2 n2 s.domains ∧ RsR S RstR 102 1 A3 n3 s.resets ∧ RsR S (DevR S) 83 6 A4 n4 s.devs
section
variable {S S' : SlP} (h : ∀ t sz A n xs, S t sz A n xs → S' t sz A n xs)
include h
theorem ClkR.mono {c : Clk} {r : List Value} (k : ClkR S c r) : ClkR S' c r := by
  obtain ⟨A, n, q, h1, h2, h3⟩ := k
  exact ⟨A, n, q, h1, h2, h _ _ _ _ _ h3⟩
theorem DevR.mono {c : Dev} {r : List Value} (k : DevR S c r) : DevR S' c r := by
  obtain ⟨A, n, q, A', n', q', h1, h2, h3, h4, h5⟩ := k
  exact ⟨A, n, q, A', n', q', h1, h2, h3, h _ _ _ _ _ h4, h _ _ _ _ _ h5⟩
theorem RsR.mono {α : Type} {R R' : α → List Value → Prop} {t : TypeId} {sz : Nat} {A : Option Addr} {n : Nat} {es : List α} (hR : ∀ e r, R e r → R' e r) (k : RsR S R t sz A n es) : RsR S' R' t sz A n es := by
  obtain ⟨rows, h1, h2, h3⟩ := k
  exact ⟨rows, h1.mono hR, h2, h _ _ _ _ _ h3⟩
theorem SocR.mono {s : Soc} {v : Array Value} (k : SocR S s v) : SocR S' s v := by
  obtain ⟨A1, n1, k1, A2, n2, k2, A3, n3, k3, A4, n4, k4, h0, h1, h2, h3, h4⟩ := k
  exact ⟨A1, n1, k1, A2, n2, k2, A3, n3, k3, A4, n4, k4, h0, h1.mono h (fun _ _ => ClkR.mono h), h2.mono h (fun _ _ h => h), h3.mono h (fun _ _ h => h), h4.mono h (fun _ _ => DevR.mono h)⟩
end
/-- whatever is asked of a slice: it lies below B -/
def slB (w : World) (B : Nat) : SlP := fun _ sz A n xs => Sl w B sz A n xs
abbrev SocB (w : World) (s : Soc) (v : Array Value) : Prop := SocR (slB w w.heap.size) s v
theorem SocR.thn {w w' : World} {s : Soc} {v : Array Value} (h : SocB w s v) (hb : Below w.heap.size w w') : SocB w' s v := h.mono (fun _ _ _ _ _ h => h.thn hb)
/-- an element of a slice -/
theorem RsR.at_ {α : Type} {w : World} {B : Nat} {R : α → List Value → Prop} {t : TypeId} {sz : Nat} {A : Option Addr} {n : Nat} {es : List α} (h : RsR (slB w B) R t sz A n es) {k : Nat} {e : α} (hk : es[k]? = some e) :
    ∃ b off r, A = some ⟨b, off, none⟩ ∧ b < B ∧ r.length = sz ∧ R e r ∧ ∀ f u, r[f]? = some u → w.cell? ⟨b, off + k * sz + f, none⟩ = some u := by
  obtain ⟨rows, h1, h2, h3⟩ := h
  have hlt : k < n := by
    rw [h2]
    rcases Nat.lt_or_ge k es.length with h | h
    · exact h
    · rw [List.getElem?_eq_none h] at hk; cases hk
  obtain ⟨b, off, hA, hb, hc⟩ := Sl.at_ h3 hlt
  obtain ⟨r, h4, h5, h6⟩ := h1.get hk
  refine ⟨b, off, r, hA, hb, h4, h5, fun f u hu => hc f u ?_⟩
  have hf : f < sz := by
    rw [← h4]
    rcases Nat.lt_or_ge f r.length with h | h
    · exact h
    · rw [List.getElem?_eq_none h] at hu; cases hu
  rw [h6 f hf, hu]

/-! ### blocks by their types -/
/-- a slice into a block of that type -/
def slT (w : World) : SlP := fun t sz A n xs => xs.length = n * sz ∧ (0 < n → ∃ b off cs, A = some ⟨b, off, none⟩ ∧ Blk w b t cs ∧ ∀ j u, xs[j]? = some u → cs[off + j]? = some u)
/-- all blocks of the types T are as they were -/
def Kt (T : TypeId → Prop) (w w' : World) : Prop := ∀ t, T t → ∀ b cs, Blk w b t cs → Blk w' b t cs
section
variable {T : TypeId → Prop} {w w1 w2 : World}
theorem Kt.refl (T : TypeId → Prop) (w : World) : Kt T w w := fun _ _ _ _ h => h
theorem Kt.trans (h : Kt T w w1) (k : Kt T w1 w2) : Kt T w w2 := fun t ht b cs hb => k t ht b cs (h t ht b cs hb)
theorem Kt.drew (h : Kt T w w1) : Kt T w w1.drew := h
theorem Kt.alloc (h : Kt T w w1) (o : Obj) : Kt T w (w1.alloc o) := fun t ht b cs hb => (h t ht b cs hb).alloc o
theorem Kt.setCell (h : Kt T w w1) {p : Addr} {t : TypeId} {cs : Array Value} (hp : Blk w1 p.block t cs) (ht : ¬ T t) (u : Value) : Kt T w (w1.setCell p u) := fun t' ht' b cs' hb =>
  (h t' ht' b cs' hb).far (fun e => by
    have := h t' ht' b cs' hb
    unfold Blk at this hp
    rw [e, hp] at this
    injection this with this
    injection this with _ h2
    exact ht (h2 ▸ ht')) u
theorem Kt.setNew (h : Kt T w w1) {p : Addr} (hp : w.heap.size ≤ p.block) (u : Value) : Kt T w (w1.setCell p u) := fun t' ht' b cs' hb =>
  (h t' ht' b cs' hb).far (fun e => by have := hb.lt; omega) u
theorem Kt.grown (h : Kt T w w1) {base : Nat} {e : TypeId} {size : Nat} {v : Value} {n : Nat} {xs : List Value} (hown : w1.ownsRow base e size v n xs) (ht : ¬ T e ∨ w.heap.size ≤ base) (hg : w1.grownBy w2 v.ownBlock) : Kt T w w2 := fun t' ht' b cs' hb =>
  (h t' ht' b cs' hb).grown hg (by
    rcases ht with ht | ht
    · exact own_blk hown (h t' ht' b cs' hb) (fun e' => ht (e' ▸ ht'))
    · intro e'
      have := (hown.lt b e'.symm).1
      have := hb.lt
      omega)
end
theorem slT.kt {T : TypeId → Prop} {w w' : World} (h : Kt T w w') {t : TypeId} (ht : T t) {sz : Nat} {A : Option Addr} {n : Nat} {xs : List Value} (k : slT w t sz A n xs) : slT w' t sz A n xs :=
  ⟨k.1, fun hn => by
    obtain ⟨b, off, cs, h1, h2, h3⟩ := k.2 hn
    exact ⟨b, off, cs, h1, h t ht b cs h2, h3⟩⟩
theorem slT.sl {w : World} {t : TypeId} {sz : Nat} {A : Option Addr} {n : Nat} {xs : List Value} (k : slT w t sz A n xs) : slB w w.heap.size t sz A n xs :=
  ⟨k.1, fun hn => by
    obtain ⟨b, off, cs, h1, h2, h3⟩ := k.2 hn
    exact ⟨b, off, h1, h2.lt, fun j u hu => by rw [h2.cell]; exact h3 j u hu⟩⟩
theorem slT.nil (w : World) (t : TypeId) (sz : Nat) : slT w t sz none 0 [] := ⟨by simp, fun h => absurd h (by omega)⟩
theorem slT.of_blk {w : World} {g n sz : Nat} {t : TypeId} {cs : Array Value} (h : Blk w g t cs) (hn : cs.size = n * sz) : slT w t sz (some ⟨g, 0, none⟩) n cs.toList :=
  ⟨by simpa using hn, fun _ => ⟨g, 0, cs, rfl, h, fun j u hu => by rw [Nat.zero_add]; simpa using hu⟩⟩
theorem slT.of_own {w : World} {base : Nat} {e : TypeId} {size : Nat} {v : Value} {n : Nat} {xs : List Value} (h : w.ownsRow base e size v n xs) : ∃ A c, v = .slice A n c ∧ slT w e size A n xs := by
  have hl := h.1
  rcases h.2 with ⟨rfl, hn⟩ | ⟨g, cap, cur, rfl, hb, hg, _, _, hrest⟩
  · exact ⟨none, 0, by rw [hn], hl, fun h => absurd h (by omega)⟩
  · refine ⟨some ⟨g, 0, none⟩, cap, rfl, hl, fun _ => ⟨g, 0, cur, rfl, ?_, fun j u hu => ?_⟩⟩
    · exact hg
    · rw [← hrest.2, List.getElem?_take] at hu
      rw [Nat.zero_add]
      split at hu
      · simpa using hu
      · cases hu
/-- a row of the call's own, whose elements R says -/
def RowsOf {α : Type} (R : World → α → List Value → Prop) (w : World) (base : Nat) (t : TypeId) (sz : Nat) (v : Value) (es : List α) : Prop :=
  ∃ rows, Rows (R w) sz es rows ∧ w.ownsRow base t sz v es.length rows.flatten
theorem RowsOf.push {α : Type} {R : World → α → List Value → Prop} {w w' : World} {base : Nat} {t : TypeId} {sz : Nat} {v' : Value} {es : List α} {rows : List (List Value)} {e : α} {row : List Value}
    (hR : ∀ e r, R w e r → R w' e r) (h : Rows (R w) sz es rows) (hr : row.length = sz) (he : R w' e row) (hown : w'.ownsRow base t sz v' (es.length + 1) (rows.flatten ++ row)) : RowsOf R w' base t sz v' (es ++ [e]) :=
  ⟨rows ++ [row], (h.mono hR).snoc hr he, by simpa using hown⟩
theorem RowsOf.kept {α : Type} {R : World → α → List Value → Prop} {w w' : World} {base : Nat} {t : TypeId} {sz : Nat} {v : Value} {es : List α}
    (hR : ∀ e r, R w e r → R w' e r) (h : RowsOf R w base t sz v es) (hown : ∀ xs, w.ownsRow base t sz v es.length xs → w'.ownsRow base t sz v es.length xs) : RowsOf R w' base t sz v es := by
  obtain ⟨rows, h1, h2⟩ := h
  exact ⟨rows, h1.mono hR, hown _ h2⟩
/-- the types of what descriptions hold inside -/
def inner (t : TypeId) : Prop := t = 3 ∨ t = 104
theorem ClkR.kt {w w' : World} (h : Kt inner w w') {c : Clk} {r : List Value} (k : ClkR (slT w) c r) : ClkR (slT w') c r := by
  obtain ⟨A, n, q, h1, h2, h3⟩ := k
  exact ⟨A, n, q, h1, h2, h3.kt h (.inl rfl)⟩
theorem DevR.kt {w w' : World} (h : Kt inner w w') {c : Dev} {r : List Value} (k : DevR (slT w) c r) : DevR (slT w') c r := by
  obtain ⟨A, n, q, A', n', q', h1, h2, h3, h4, h5⟩ := k
  exact ⟨A, n, q, A', n', q', h1, h2, h3, h4.kt h (.inr rfl), h5.kt h (.inl rfl)⟩

theorem RsR.kt {α : Type} {T : TypeId → Prop} {w w' : World} (h : Kt T w w') {R R' : α → List Value → Prop} {t : TypeId} (ht : T t) {sz : Nat} {A : Option Addr} {n : Nat} {es : List α} (hR : ∀ e r, R e r → R' e r) (k : RsR (slT w) R t sz A n es) : RsR (slT w') R' t sz A n es := by
  obtain ⟨rows, h1, h2, h3⟩ := k
  exact ⟨rows, h1.mono hR, h2, h3.kt h ht⟩
theorem SocR.kt {w w' : World} (h : Kt (fun t => t ≠ 50) w w') {s : Soc} {v : Array Value} (k : SocR (slT w) s v) : SocR (slT w') s v := by
  have hi : Kt inner w w' := fun t ht => h t (by rcases ht with rfl | rfl <;> decide)
  obtain ⟨A1, n1, k1, A2, n2, k2, A3, n3, k3, A4, n4, k4, h0, h1, h2, h3, h4⟩ := k
  exact ⟨A1, n1, k1, A2, n2, k2, A3, n3, k3, A4, n4, k4, h0, h1.kt h (by decide) (fun _ _ => ClkR.kt hi), h2.kt h (by decide) (fun _ _ h => h), h3.kt h (by decide) (fun _ _ h => h), h4.kt h (by decide) (fun _ _ => DevR.kt hi)⟩

/-! ### what a chip that is made is like -/
def Clk.fit (i : Nat) (c : Clk) : Prop :=
  (∀ f ∈ c.src, 0 ≤ f ∧ f < i) ∧
  ((c.kind = 111 ∧ c.src = [] ∧ 1 ≤ c.rate ∧ c.rate ≤ 1000000 ∧ c.mul = 0 ∧ c.div = 0 ∧ c.lock = 0) ∨
   (c.kind = 112 ∧ c.src.length = 1 ∧ c.rate = 0 ∧ 1 ≤ c.mul ∧ c.mul ≤ 8 ∧ 1 ≤ c.div ∧ c.div ≤ 4 ∧ 0 ≤ c.lock ∧ c.lock ≤ 3) ∨
   (c.kind = 100 ∧ c.src.length = 1 ∧ c.rate = 0 ∧ c.mul = 0 ∧ 1 ≤ c.div ∧ c.div ≤ 8 ∧ c.lock = 0) ∨
   (c.kind = 103 ∧ c.src.length = 1 ∧ c.rate = 0 ∧ c.mul = 0 ∧ c.div = 0 ∧ c.lock = 0) ∨
   (c.kind = 109 ∧ c.src.length = 2 ∧ c.rate = 0 ∧ c.mul = 0 ∧ c.div = 0 ∧ c.lock = 0))
def Dom.fit (i : Nat) (d : Dom) : Prop := (d.above = -1 ∨ (0 ≤ d.above ∧ d.above < i)) ∧ 0 ≤ d.delay ∧ d.delay ≤ 3
def Dev.fit (nc nd nr i : Nat) (d : Dev) : Prop :=
  0 ≤ d.clock ∧ d.clock < nc ∧ 0 ≤ d.domain ∧ d.domain < nd ∧ 0 ≤ d.reset ∧ d.reset < nr ∧ 0 ≤ d.clamp ∧ d.clamp ≤ 2 ∧
  d.regs.length ≤ 4 ∧ (∀ r ∈ d.regs, 0 ≤ r.reset ∧ r.reset ≤ 6) ∧ d.needs.length ≤ 2 ∧ ∀ f ∈ d.needs, 0 ≤ f ∧ f < i
/-- each element fits at its place -/
def Fits {α : Type} (F : Nat → α → Prop) (es : List α) : Prop := ∀ (i : Nat) (e : α), es[i]? = some e → F i e
theorem Fits.nil {α : Type} (F : Nat → α → Prop) : Fits F [] := fun i e h => by simp at h
theorem Fits.snoc {α : Type} {F : Nat → α → Prop} {es : List α} {e : α} (h : Fits F es) (he : F es.length e) : Fits F (es ++ [e]) := fun i x hx => by
  rcases Nat.lt_or_ge i es.length with hl | hl
  · rw [List.getElem?_append_left hl] at hx
    exact h i x hx
  · rw [List.getElem?_append_right hl] at hx
    rcases Nat.eq_zero_or_pos (i - es.length) with h0 | h0
    · rw [h0] at hx
      simp at hx
      subst hx
      rwa [show i = es.length by omega]
    · rw [List.getElem?_eq_none (by simp; omega)] at hx
      cases hx
structure Soc.made (s : Soc) : Prop where
  clocks : Fits Clk.fit s.clocks
  domains : Fits Dom.fit s.domains
  resets : ∀ r ∈ s.resets, 0 ≤ r ∧ r ≤ 3
  devs : Fits (Dev.fit s.clocks.length s.domains.length s.resets.length) s.devs
  nc : 1 ≤ s.clocks.length ∧ s.clocks.length ≤ 9
  nd : 1 ≤ s.domains.length ∧ s.domains.length ≤ 4
  nr : 1 ≤ s.resets.length ∧ s.resets.length ≤ 3
  nv : 1 ≤ s.devs.length ∧ s.devs.length ≤ 4

theorem clk_info : (Try.prog.info? 65).map (fun i => (i.zero.map (fun z => z.cells.size), i.size, i.bytes)) = some (some 6, 6, 64) := by kernel_rfl
theorem dom_info : (Try.prog.info? 61).map (fun i => (i.zero.map (fun z => z.cells.size), i.size, i.bytes)) = some (some 3, 3, 24) := by kernel_rfl
theorem rst_info : (Try.prog.info? 102).map (fun i => (i.zero.map (fun z => z.cells.size), i.size, i.bytes)) = some (some 1, 1, 8) := by kernel_rfl
theorem dev_info : (Try.prog.info? 83).map (fun i => (i.zero.map (fun z => z.cells.size), i.size, i.bytes)) = some (some 6, 6, 80) := by kernel_rfl
theorem rg_info : (Try.prog.info? 104).map (fun i => (i.zero.map (fun z => z.cells.size), i.size, i.bytes)) = some (some 2, 2, 8) := by kernel_rfl
theorem i64_info : (Try.prog.info? 3).map (fun i => (i.zero.map (fun z => z.cells.size), i.size, i.bytes)) = some (some 1, 1, 8) := by kernel_rfl
end Go.Proofs.Ytbgibbbggajgaaa
