/- Calls that only make memory, and boxes that closures have caught: more words of the small logic. -/
import Derived.Test.YtbgibbbggajgaaaDraw
namespace Go.Proofs.Ytbgibbbggajgaaa
set_option linter.all false
open Go.RowKit

/-- the call returns v, and leaves all that there was -/
def Rt (v : Value) (w : World) : Ending → World → Prop := fun x w' => x = .returned v ∧ Below w.heap.size w w'
theorem Rt.conv {v v' : Value} {w w' : World} {x : Ending} (h : Rt v w x w') (e : v = v') : Rt v' w x w' := e ▸ h
theorem all_le {w w' : World} (h : Below w.heap.size w w') : (all w).Le (all w') := fun b hb => ⟨Nat.lt_of_lt_of_le hb h.size, h.block b hb⟩
/-- a cell that was there -/
def ROc (w : World) (g o : Nat) (v : Value) : Prop := g < w.heap.size ∧ w.cell? ⟨g, o, none⟩ = some v
def ROn (w : World) (g o : Nat) (vs : List Value) : Prop := g < w.heap.size ∧ w.rangeAt g o vs
theorem ROn.at_ {w : World} {g o j : Nat} {vs : List Value} {v : Value} (h : ROn w g o vs) (hv : vs[j]? = some v) : ROc w g (o + j) v := ⟨h.1, h.2 j v hv⟩
theorem ROn.below {w w' : World} {g o : Nat} {vs : List Value} (h : ROn w g o vs) (hb : Below w.heap.size w w') : ROn w' g o vs :=
  ⟨Nat.lt_of_lt_of_le h.1 hb.size, fun j v hv => (hb.cell (p := ⟨g, o + j, none⟩) h.1).trans (h.2 j v hv)⟩
theorem ROn.le {p : Piece} {w : World} {g o : Nat} {vs : List Value} (hz : p.Z g) (h : p.w.rangeAt g o vs) (hl : p.Le (all w)) : ROn w g o vs :=
  ⟨(hl g hz).1, fun j v hv => (World.cell?_of_block (w := p.w) (a := ⟨g, o + j, none⟩) (hl g hz).2).trans (h j v hv)⟩
section
variable {P : Program} {N : Nat} {w0 w : World} {e : Env} {R : List Piece} {H : List HP} {Q : Exit → Act → World → Prop} {ops : Array Oper} {rest : List Oper}
variable {d : Nat} {ty : TypeId} {pos : String} {aft : Array Edge}
theorem Rd.roc {g o : Nat} {v : Value} (hR : all w0 ∈ R) (h : ROc w0 g o v) : Rd w0 R H g o v := Rd.ro hR h.1 h.2
theorem Rd.rocN {g o : Nat} {vs : List Value} {v : Value} (hR : all w0 ∈ R) (h : ROn w0 g 0 vs) (hv : vs[o]? = some v) : Rd w0 R H g o v := Rd.ro hR h.1 (by have := h.2 o v hv; rwa [Nat.zero_add] at this)
theorem RdN.roc {g o : Nat} {vs : List Value} (hR : all w0 ∈ R) (h : ROn w0 g o vs) : RdN w0 R H g o vs := .of fun j v hv => Rd.ro hR h.1 (h.2 j v hv)
theorem St.box (st : St w0 R H w) {i g : Nat} {t : TypeId} {cs : List Value} (hi : H[i]? = some (HP.blk g t cs)) : ROn w g 0 cs :=
  ⟨(st.blk hi).lt, fun j v hv => by rw [(st.blk hi).cell, Nat.zero_add]; simpa using hv⟩
theorem St.slS (st : St w0 R H w) {i g sz n : Nat} {t : TypeId} {cs : List Value} (hi : H[i]? = some (HP.blk g t cs)) (hl : cs.length = n * sz) : SlS (all w) sz (some ⟨g, 0, none⟩) n cs :=
  ⟨hl, fun _ => ⟨g, 0, rfl, (st.blk hi).lt, fun j u hu => by rw [Nat.zero_add]; show w.cell? _ = _; rw [(st.blk hi).cell]; simpa using hu⟩⟩
theorem St.slO (st : St w0 R H w) {i sz n c : Nat} {t : TypeId} {A : Option Addr} {xs : List Value} (hi : H[i]? = some (HP.own t sz (.slice A n c) n xs)) : SlS (all w) sz A n xs := by
  have h := st.own hi
  refine ⟨h.1, fun hn => ?_⟩
  rcases h.2 with ⟨_, h0⟩ | ⟨g, cap, cur, hv, _, hg, _⟩
  · omega
  · injection hv with hA
    subst hA
    refine ⟨g, 0, rfl, (h.lt g rfl).2, fun j u hu => ?_⟩
    have := h.cells (g := g) rfl j u hu
    rw [Addr.add_mid] at this
    exact this
/-- what was there when the call began is there -/
theorem St.started (st : St w0 R H w) (hR : all w0 ∈ R) : Below w0.heap.size w0 w := st.below hR
theorem xk_callR {f : FuncId} {x : Operand} {args : List Operand} {fi ca vs : List Value} {tys : Array TypeId} {v0 : Value} (hf : callB P f = true) (hx : e.ev x = some (.func (.func f) fi.toArray ca.toArray)) (ha : e.evs args = some vs) (hd : d < N)
    (hc : ∀ w, St w0 R H w → Calls P f (fi ++ vs ++ ca).toArray w (Rt v0 w)) (k : XK N w0 (wpList P ops Q rest) ((d, v0) :: e) R H) :
    XK N w0 (wpList P ops Q (⟨some d, .call { callee := .value x, args := args.toArray, argTypes := tys }, ty, pos, aft, none⟩ :: rest)) e R H :=
  xk_callV hf hx ha hd (fun v => v = v0) (fun w st => (hc w st).mono fun y w' h => ⟨⟨v0, h.1, rfl⟩, h.2⟩) fun v hv => by subst hv; exact k
theorem xk_splitB {K : Act → World → Prop} {t : Nat} {b : Bool} (ht : e.get t = some (.bool b)) (h1 : b = true → XK N w0 K ((t, .bool true) :: e) R H) (h2 : b = false → XK N w0 K ((t, .bool false) :: e) R H) : XK N w0 K e R H := by
  cases b
  · refine xk_split (p := False) (t := t) (by simpa using ht) (fun h => h.elim) (fun _ => h2 rfl)
  · refine xk_split (p := True) (t := t) (by simpa using ht) (fun _ => h1 rfl) (fun h => absurd trivial h)
end
/-- row k of a slice of rows -/
theorem SlS.row {w : World} {sz n : Nat} {A : Option Addr} {rows : List (List Value)} (h : SlS (all w) sz A n rows.flatten) (hl : ∀ r ∈ rows, r.length = sz) {k : Nat} {r : List Value} (hk : rows[k]? = some r) (hn : k < n) :
    ∃ b off, A = some ⟨b, off, none⟩ ∧ ROn w b (off + k * sz) r := by
  obtain ⟨b, off, hA, hz, hc⟩ := h.at_ hn
  refine ⟨b, off, hA, hz, fun f u hu => hc f u ?_⟩
  have hf : f < sz := by
    rw [← hl r (List.mem_of_getElem? hk)]
    rcases Nat.lt_or_ge f r.length with h | h
    · exact h
    · rw [List.getElem?_eq_none h] at hu; cases hu
  have := flat_get (fun x => x) sz rows hl k f r hk hf
  rw [List.flatMap_id'] at this
  rw [this, hu]
/-- the first error -/
def firstE (es : List Int) : Int := (es.find? fun e => decide (e ≠ 0)).getD 0
theorem firstE_at : ∀ {es : List Int} {k : Nat} {e : Int}, (∀ j, j < k → es[j]? = some 0) → es[k]? = some e → e ≠ 0 → firstE es = e
  | x :: xs, 0, e, _, h, hne => by simp at h; subst h; simp [firstE, hne]
  | x :: xs, k + 1, e, hz, h, hne => by
    have h0 := hz 0 (by omega)
    simp at h0
    subst h0
    have := firstE_at (es := xs) (k := k) (fun j hj => by simpa using hz (j + 1) (by omega)) (by simpa using h) hne
    simpa [firstE] using this
  | [], k, e, _, h, _ => by simp at h
theorem firstE_none : ∀ {es : List Int}, (∀ j, j < es.length → es[j]? = some 0) → firstE es = 0
  | [], _ => rfl
  | x :: xs, hz => by
    have h0 := hz 0 (by simp)
    simp at h0
    subst h0
    have := firstE_none (es := xs) (fun j hj => by simpa using hz (j + 1) (by simp; omega))
    simpa [firstE] using this
def whenE (b : Bool) (e : Int) : Int := if b then e else 0
def withinB (n lo hi : Int) : Bool := decide (lo ≤ n) && decide (n ≤ hi)
end Go.Proofs.Ytbgibbbggajgaaa
