/- Iterators: their contract, a call of yield, a range over one. -/
import Derived.KernelRfl
import Derived.Test.YticjkhagldkejaaGreatDoorProg
import Derived.Test.YticjkhagldkejaaGreatDoorFirmWordsK1
namespace Go.Proofs.YticjkhagldkejaaGreatDoor
set_option linter.all false
open Go.RowKit
section
def nt (W : World) (F : Nat → Prop) : Piece := ⟨W, fun b => b < W.heap.size ∧ ¬ F b⟩
structure rK (w w' : World) : Prop where
 os : w'.os = w.os
 tape : w'.tape = w.tape
 output : w'.output = w.output
 size : w.heap.size ≤ w'.heap.size
theorem rK.refl (w : World) : rK w w := ⟨rfl, rfl, rfl, Nat.le_refl _⟩
theorem rK.trans {a b c : World} (h : rK a b) (k : rK b c) : rK a c := ⟨k.os.trans h.os, k.tape.trans h.tape, k.output.trans h.output, Nat.le_trans h.size k.size⟩
theorem bX.same {w w' : World} {F F' : Nat → Prop} (h : bX w w' F F') : rK w w' := ⟨h.os, h.tape, h.output, h.size⟩
theorem bX.refl {w : World} {F : Nat → Prop} (h : ∀ b, F b → b < w.heap.size) : bX w w F F := ⟨rfl, rfl, rfl, Nat.le_refl _, fun b hb => ⟨.inl hb, h b hb⟩, fun _ _ _ => rfl⟩
theorem bX.trans {a b c : World} {F G K : Nat → Prop} (h : bX a b F G) (k : bX b c G K) : bX a c F K := by
 refine ⟨k.os.trans h.os, k.tape.trans h.tape, k.output.trans h.output, Nat.le_trans h.size k.size, fun x hx => ⟨?_, (k.new x hx).2⟩, fun x hx hn => ?_⟩
 ·rcases (k.new x hx).1 with h1 | h1
  ·exact (h.new x h1).1
  ·exact .inr (Nat.le_trans h.size h1)
 ·refine (k.old x (Nat.lt_of_lt_of_le hx h.size) (fun hg => ?_)).trans (h.old x hx hn)
  rcases (h.new x hg).1 with h1 | h1
  ·exact hn h1
  ·omega
structure Tz (w0 W : World) (R : List Piece) (F : Nat → Prop) : Prop where
 same : rK w0 W
 ro : ∀ p ∈ R, ∀ b, p.Z b → b < W.heap.size ∧ ¬ F b ∧ W.heap[b]? = p.w.heap[b]?
section
variable {w0 w W W1 : World} {R : List Piece} {H : List HP} {F F1 : Nat → Prop}
theorem St.join (st : St w0 R H w) : ∃ F, (HP.many H).sat F w ∧ (∀ b, F b → b < w.heap.size) ∧ Tz w0 w R F := by
 obtain ⟨Z, F, hz, hr, hs, hf, hd⟩ := st.ex
 refine ⟨fun b => ∃ i, F i b, ⟨F, hs, fun i b h => ⟨i, h⟩, fun i j b hij h => hd i j b hij h⟩, fun b ⟨i, h⟩ => (hf i b h).2, ⟨⟨st.os, st.tape, st.output, st.size⟩, fun p hp b hb => ⟨hz b (hr p hp b hb).1, fun ⟨i, h⟩ => (hf i b h).1 (hr p hp b hb).1, (hr p hp b hb).2⟩⟩⟩
theorem St.split (hb : Tz w0 W R F) (ht : bX W W1 F F1) (hs : (HP.many H).sat F1 W1) : St w0 R H W1 := by
 obtain ⟨G, h1, h2, h3⟩ := hs
 have h := hb.same.trans ht.same
 refine ⟨h.os, h.tape, h.output, h.size, fun b => ∃ p ∈ R, p.Z b, G, fun b ⟨p, hp, hz⟩ => Nat.lt_of_lt_of_le (hb.ro p hp b hz).1 ht.size, fun p hp b hz => ⟨⟨p, hp, hz⟩, ?_⟩, h1, fun i b hg => ⟨?_, (ht.new b (h2 i b hg)).2⟩, fun i j b hij hg => h3 i j b hij hg⟩
 ·obtain ⟨h4, h5, h6⟩ := hb.ro p hp b hz
  exact (ht.old b h4 h5).trans h6
 ·rintro ⟨p, hp, hz⟩
  obtain ⟨h4, h5, _⟩ := hb.ro p hp b hz
  rcases (ht.new b (h2 i b hg)).1 with h | h
  ·exact h5 h
  ·omega
theorem St.aCA (hb : Tz w0 W R F) (ht : bX W W1 F F1) (hlt : ∀ b, F1 b → b < W1.heap.size) (hs : (HP.many H).sat F1 W1) : St W1 (R ++ [nt W1 F1]) H W1 := by
 obtain ⟨G, h1, h2, h3⟩ := hs
 refine ⟨rfl, rfl, rfl, Nat.le_refl _, fun b => b < W1.heap.size ∧ ¬ F1 b, G, fun b h => h.1, fun p hp b hz => ?_, h1, fun i b hg => ⟨fun h => h.2 (h2 i b hg), hlt b (h2 i b hg)⟩, fun i j b hij hg => h3 i j b hij hg⟩
 simp only [List.mem_append, List.mem_singleton] at hp
 rcases hp with hp | rfl
 ·obtain ⟨h4, h5, h6⟩ := hb.ro p hp b hz
  refine ⟨⟨Nat.lt_of_lt_of_le h4 ht.size, fun h => ?_⟩, (ht.old b h4 h5).trans h6⟩
  rcases (ht.new b h).1 with h | h
  ·exact h5 h
  ·omega
 ·exact ⟨hz, rfl⟩
theorem St.Uy (st : St w0 R H w) (hR : nt w0 F ∈ R) : ∃ F', (HP.many H).sat F' w ∧ (∀ b, F' b → b < w.heap.size) ∧ bX w0 w F F' := by
 obtain ⟨F', h1, h2, hb⟩ := st.join
 refine ⟨F', h1, h2, st.os, st.tape, st.output, st.size, fun b h => ⟨?_, h2 b h⟩, fun b h hn => (hb.ro _ hR b ⟨h, hn⟩).2.2⟩
 rcases Nat.lt_or_ge b w0.heap.size with h3 | h3
 ·exact .inl (Classical.byContradiction fun hn => (hb.ro _ hR b ⟨h3, hn⟩).2.1 h)
 ·exact .inr h3
end
def HP.marks (L : List Nat) : HP := ⟨fun F w => L.Nodup ∧ ∀ D ∈ L, F D ∧ w.heap[D]? = some (.deferred (some [])), fun _ _ _ h hk => ⟨h.1, fun D hD => ⟨(h.2 D hD).1, (hk D (h.2 D hD).1).trans (h.2 D hD).2⟩⟩⟩
def HP.lp (l : Nat) (L : List Nat) (rc : Loop) : HP := ⟨fun F w => (F l ∧ w.heap[l]? = some (.loop rc)) ∧ (HP.marks L).sat F w, fun F w w' h hk => ⟨⟨h.1.1, (hk l h.1.1).trans h.1.2⟩, (HP.marks L).loc F w w' h.2 hk⟩⟩
theorem HP.Xj {l : Nat} {L : List Nat} {rc rc' : Loop} {F : Nat → Prop} {w : World} (h : (HP.lp l L rc).sat F w) : (HP.lp l L rc').sat F (w.putObj l (.loop rc')) := by
 obtain ⟨⟨h1, h2⟩, h3, h4⟩ := h
 refine ⟨⟨h1, World.putObj_heap_same (Array.getElem?_eq_some_iff.1 h2).1⟩, h3, fun D hD => ⟨(h4 D hD).1, ?_⟩⟩
 refine (World.putObj_heap_other (fun e => ?_)).trans (h4 D hD).2
 subst e
 have := (h4 D hD).2
 rw [h2] at this
 cases this
section
variable {P : Program} {nn : Nat} {w0 w : World} {e : Env} {R : List Piece} {H : List HP} {Q : Exit → Act → World → Prop} {ops : Array Oper} {rest : List Oper} {r : Option Nat} {L : List Nat}
theorem Ca {Hs : List HP} {p : HP} : (Hs ++ [p])[Hs.length]? = some p := by simp
theorem Kf {Hs : List HP} {p q : HP} : (Hs ++ [p]).set Hs.length q = Hs ++ [q] := by simp
theorem St.Pj {Hs : List HP} {l : Nat} {rc rc' : Loop} (st : St w0 R (Hs ++ [HP.lp l L rc]) w) : St w0 R (Hs ++ [HP.lp l L rc']) (w.putObj l (.loop rc')) := by
 have := st.rQ (q := HP.lp l L rc') (w' := w.putObj l (.loop rc')) (i := Hs.length) Ca (by simp) rfl rfl rfl (fun F hF hlt => ⟨F, HP.Xj hF, fun b hb => ⟨.inl hb, by simpa using hlt b hb⟩, fun b hb hn => World.putObj_heap_other (fun e => hn (e ▸ hF.1.1))⟩)
 rwa [Kf] at this
theorem St.By {Hs : List HP} {l : Nat} {rc : Loop} (st : St w0 R (Hs ++ [HP.lp l L rc]) w) : w.heap[l]? = some (.loop rc) := (st.sat (i := Hs.length) Ca).choose_spec.1.2
theorem St.Xk {Hs : List HP} {l : Nat} {rc rc' : Loop} (st : St w0 R (Hs ++ [HP.lp l L rc]) w) : St w0 R (Hs ++ [HP.marks L]) (w.putObj l (.loop rc')) := by
 have := st.rQ (q := HP.marks L) (w' := w.putObj l (.loop rc')) (i := Hs.length) Ca (by simp) rfl rfl rfl (fun F hF hlt => ⟨F, (HP.Xj (rc' := rc') hF).2, fun b hb => ⟨.inl hb, by simpa using hlt b hb⟩, fun b hb hn => World.putObj_heap_other (fun e => hn (e ▸ hF.1.1))⟩)
 rwa [Kf] at this
theorem St.aEb {Hs : List HP} {rc : Loop} (st : St w0 R (Hs ++ [HP.marks L]) w) : St w0 R (Hs ++ [HP.lp (w.heap.size + 1) (w.heap.size :: L) rc]) ((w.alloc (.deferred (some []))).alloc (.loop rc)) := by
 have hb : Below w.heap.size w ((w.alloc (.deferred (some []))).alloc (.loop rc)) := ((Below.refl _ w).alloc (Nat.le_refl _) _).alloc (by simp) _
 have hL1 : ((w.alloc (.deferred (some []))).alloc (.loop rc)).heap[w.heap.size + 1]? = some (.loop rc) := by
  have := World.alloc_heap_new (w.alloc (.deferred (some []))) (.loop rc)
  rwa [World.size_alloc] at this
 have hK1 : ((w.alloc (.deferred (some []))).alloc (.loop rc)).heap[w.heap.size]? = some (.deferred (some [])) :=
  (Below.heap_alloc _ _ _ (by simp)).trans (World.alloc_heap_new w _)
 have hsz : ((w.alloc (.deferred (some []))).alloc (.loop rc)).heap.size = w.heap.size + 1 + 1 := by simp
 have := st.rQ (q := HP.lp (w.heap.size + 1) (w.heap.size :: L) rc) (i := Hs.length) Ca hb.size hb.os hb.tape hb.output (fun F hF hlt => by
  refine ⟨fun b => F b ∨ (w.heap.size ≤ b ∧ b < w.heap.size + 1 + 1), ⟨⟨.inr ⟨by omega, by omega⟩, hL1⟩, ?_, ?_⟩, fun b hb' => ?_, fun b hb' _ => hb.block b hb'⟩
  ·rw [List.nodup_cons]
   refine ⟨fun hm => ?_, hF.1⟩
   have := hlt _ (hF.2 _ hm).1
   omega
  ·intro D hD
   rcases List.mem_cons.1 hD with rfl | hD
   ·exact ⟨.inr ⟨by omega, by omega⟩, hK1⟩
   ·obtain ⟨h1, h2⟩ := hF.2 D hD
    exact ⟨.inl h1, (hb.block D (hlt D h1)).trans h2⟩
  ·rcases hb' with h | h
   ·exact ⟨.inl h, by have := hlt b h; omega⟩
   ·exact ⟨.inr h.1, by omega⟩)
 rwa [Kf] at this
def Ti (W1 : World) (F1 : Nat → Prop) (q q' : HP) : Ending → World → Prop := fun y W' => (y = .returned (.bool true) ∧ ∃ F', q.sat F' W' ∧ bX W1 W' F1 F') ∨ (y = .returned (.bool false) ∧ ∃ F', q'.sat F' W' ∧ bX W1 W' F1 F')
theorem bX.st {W' : World} {F' : Nat → Prop} {q : HP} {Z : Nat → Prop} {F : Nat → Nat → Prop} {i : Nat} (hos : w.os = w0.os ∧ w.tape = w0.tape ∧ w.output = w0.output ∧ w0.heap.size ≤ w.heap.size) (hz : ∀ b, Z b → b < w.heap.size)
  (cM : ∀ p ∈ R, ∀ b, p.Z b → Z b ∧ w.heap[b]? = p.w.heap[b]?) (hs : ∀ (i : Nat) (p : HP), H[i]? = some p → p.sat (F i) w) (cN : ∀ i b, F i b → ¬ Z b ∧ b < w.heap.size) (dI : ∀ i j b, i ≠ j → F i b → ¬ F j b)
  (hlt : i < H.length) (lM : q.sat F' W') (ht : bX w W' (F i) F') : St w0 R (H.set i q) W' := by
 refine ⟨ht.os.trans hos.1, ht.tape.trans hos.2.1, ht.output.trans hos.2.2.1, Nat.le_trans hos.2.2.2 ht.size, Z, fun j => if j = i then F' else F j, fun b h => Nat.lt_of_lt_of_le (hz b h) ht.size, fun p hp b h => ?_, fun j r hj => ?_, fun j b h => ?_, fun j k b iU h => ?_⟩
 ·exact ⟨(cM p hp b h).1, (ht.old b (hz b (cM p hp b h).1) (fun mE => (cN i b mE).1 (cM p hp b h).1)).trans (cM p hp b h).2⟩
 ·rw [List.getElem?_set] at hj
  split at hj
  ·rename_i e; subst e
   first | (rw [if_pos hlt] at hj; cases hj) | cases hj
   simpa using lM
  ·rename_i e
   simp only [if_neg (Ne.symm e)]
   exact r.loc _ _ _ (hs j r hj) (fun b hb => ht.old b (cN j b hb).2 (dI j i b (Ne.symm e) hb))
 ·dsimp only at h
  split at h
  ·refine ⟨fun fC => ?_, (ht.new b h).2⟩
   rcases (ht.new b h).1 with h | h
   ·exact (cN i b h).1 fC
   ·have := hz b fC; omega
  ·exact ⟨(cN j b h).1, Nat.lt_of_lt_of_le (cN j b h).2 ht.size⟩
 ·dsimp only at h ⊢
  split at h <;> split
  ·rename_i h1 h2; omega
  ·rename_i e1 e2
   intro hk
   rcases (ht.new b h).1 with h | h
   ·exact dI i k b (by omega) h hk
   ·have := (cN k b hk).2; omega
  ·rename_i e1 e2
   intro hk
   rcases (ht.new b hk).1 with hk | hk
   ·exact dI j i b (by omega) h hk
   ·have := (cN j b h).2; omega
  ·exact dI j k b iU h
theorem XI.yield (i : Nat) {W0 : World} {F0 : Nat → Prop} {d l : Nat} {ty : TypeId} {pos : String} {aJ : Array Edge} {x : Operand} {args : List Operand} {vs : List Value} {tys : Array TypeId} {p q q' : HP}
  (hx : e.ev x = some (.func (.yield l) #[] #[])) (ha : e.cU args = some vs) (hd : d < nn) (hnt : nt W0 F0 ∈ R) (cS : rK W0 w0) (hi : H[i]? = some p)
  (hy : ∀ W1 F1, p.sat F1 W1 → (∀ b, F1 b → b < W1.heap.size) → bX W0 W1 F0 F1 → YieldAt Fence.wide 9 P l vs.toArray W1 (Ti W1 F1 q q'))
  (k1 : XK ⟨nn, []⟩ w0 (KI r L P ops Q rest) ((d, .bool true) :: e) R (H.set i q)) (k2 : XK ⟨nn, []⟩ w0 (KI r L P ops Q rest) ((d, .bool false) :: e) R (H.set i q')) :
  XK ⟨nn, []⟩ w0 (KI r L P ops Q (⟨some d, .call { callee := .value x, args := args.toArray, argTypes := tys }, ty, pos, aJ, none⟩ :: rest)) e R H := fun a w hr st => by
 obtain ⟨Z, F, hz, cM, hs, cN, dI⟩ := st.ex
 have hlt : i < H.length := by
  rcases Nat.lt_or_ge i H.length with h | h
  ·exact h
  ·rw [List.getElem?_eq_none h] at hi; cases hi
 have mU : rK W0 w := cS.trans ⟨st.os, st.tape, st.output, st.size⟩
 obtain ⟨fn, tmps, assign, body, hrun, Yk⟩ := hy w (F i) (hs i p hi) (fun b hb => (cN i b hb).2) ⟨mU.os, mU.tape, mU.output, mU.size, fun b hb => ⟨by
  rcases Nat.lt_or_ge b W0.heap.size with h | h
  ·exact .inl (Classical.byContradiction fun hn => (cN i b hb).1 (cM _ hnt b ⟨h, hn⟩).1)
  ·exact .inr h, (cN i b hb).2⟩, fun b hb hn => (cM _ hnt b ⟨hb, hn⟩).2⟩
 refine wpListIn_plain rfl fun K hK => ?_
 refine ⟨fun _ _ => trivial, ?_⟩
 rw [Vm r _ rfl, Ka]
 have hex : (execOp a.eval (⟨some d, .call { callee := .value x, args := args.toArray, argTypes := tys }, ty, pos, aJ, none⟩ : Oper)).run P w = .ok (.round l fn tmps assign body) w := by
  simp [execOp, resolve, hr.ev hx, Deferred.ofValue, invoke, hr.cU ha, hrun]
 rw [hex]
 refine ⟨fun _ => by omega, ?_⟩
 have aEz : RoundIn (Fr r) 8 P l fn tmps assign body w (Ti w (F i) q q') := ⟨Yk.1, fun c cs _ => Yk.2 c cs (room_wide _)⟩
 refine aEz.mono ?_
 rintro y W' (⟨rfl, F', hq, ht⟩ | ⟨rfl, F', hq, ht⟩)
 ·refine hK _ _ ?_
  rw [vO]
  exact k1 _ _ (hr.put hd _) (bX.st ⟨st.os, st.tape, st.output, st.size⟩ hz cM hs cN dI hlt hq ht)
 ·refine hK _ _ ?_
  rw [vO]
  exact k2 _ _ (hr.put hd _) (bX.st ⟨st.os, st.tape, st.output, st.size⟩ hz cM hs cN dI hlt hq ht)
def Iter (P : Program) (g : FuncId) (lb : List Value) (encs : List (List Value)) (p : Piece) : Prop :=
 ∀ (l : Nat) (J Jx : Nat → HP) (W : World) (F : Nat → Prop), p.Le (all W) → (∀ b, p.Z b → ¬ F b) → (J 0).sat F W → (∀ b, F b → b < W.heap.size) →
  (∀ (k : Nat) (vs : List Value) (W1 : World) (F1 : Nat → Prop), encs[k]? = some vs → (J k).sat F1 W1 → (∀ b, F1 b → b < W1.heap.size) → bX W W1 F F1 → YieldAt Fence.wide 9 P l vs.toArray W1 (Ti W1 F1 (J (k + 1)) (Jx (k + 1)))) →
  Calls P g (Value.func (.yield l) #[] #[] :: lb).toArray W fun y W' => (∃ v, y = .returned v) ∧ ∃ F', bX W W' F F' ∧ ((J encs.length).sat F' W' ∨ ∃ k, k < encs.length ∧ (Jx (k + 1)).sat F' W')
def Mn : List Nat → List Value → Env → Env
 | p :: ps, v :: vs, e => Mn ps vs ((p, v) :: e)
 | _, _, e => e
theorem cW.bind : ∀ {ps : List Nat} {vs : List Value} {e : Env} {a : Act}, cW ⟨nn, []⟩ e a → (∀ p ∈ ps, p < nn) → cW ⟨nn, []⟩ (Mn ps vs e) { tmps := (ps.zip vs).foldl (fun t (p, v) => t.setIfInBounds p v) a.tmps, defers := a.defers }
 | [], vs, e, a, h, _ => h
 | p :: ps, [], e, a, h, _ => h
 | p :: ps, v :: vs, e, a, h, hp => cW.bind (a := a.put (some p) v) (h.put (hp p (by simp)) v) (fun q hq => hp q (by simp [hq]))
theorem XC.range {gf : FuncId} {lb : List Value} {encs : List (List Value)} {p : Piece} {g : Operand} {ps : List Nat} {assign body : Code} (hg : e.ev g = some (.func (.func gf) #[] lb.toArray)) (hf : eY P gf = true) (hit : Iter P gf lb encs p) (hp : p ∈ R)
  (hps : ∀ vs ∈ encs, vs.length = ps.length) (hpN : ∀ q ∈ ps, q < nn) (Hs Hx : Nat → List HP) (Mid : Nat → List Value → Env → List HP → Prop) (h0 : H = Hs 0 ++ [HP.marks L])
  (hassign : ∀ (l k : Nat) (vs : List Value) (W1 : World) (q : Piece) (X : HP), encs[k]? = some vs → rK w0 W1 → XK ⟨nn, []⟩ W1 (KC (some l) [] P assign (Fx fun a w => ∃ e1 H1, Mid k vs e1 H1 ∧ cW ⟨nn, []⟩ e1 a ∧ St W1 (R ++ [q]) (H1 ++ [X]) w)) (Mn ps vs e) (R ++ [q]) (Hs k ++ [X]))
  (hbody : ∀ (l k : Nat) (vs : List Value) (W1 : World) (q : Piece) (X : HP) (e1 : Env) (H1 : List HP), encs[k]? = some vs → rK w0 W1 → Mid k vs e1 H1 →
   XK ⟨nn, []⟩ W1 (KC (some l) [] P body (fun x _ w => (x = .normal ∧ St W1 (R ++ [q]) (Hs (k + 1) ++ [X]) w) ∨ (x = .ret ∧ St W1 (R ++ [q]) (Hx (k + 1) ++ [X]) w))) e1 (R ++ [q]) (H1 ++ [X]))
  (hdone : ∀ D, XK ⟨nn, []⟩ w0 (KQ (D :: L) Q .normal) e R (Hs encs.length ++ [HP.marks (D :: L)])) (Ym : ∀ D k, k < encs.length → XK ⟨nn, []⟩ w0 (KC none (D :: L) P .ret Q) e R (Hx (k + 1) ++ [HP.marks (D :: L)])) :
  XK ⟨nn, []⟩ w0 (KC none L P (Code.rangeFunc g ps.toArray assign body) Q) e R H := fun a w hr st => by
 subst h0
 unfold eY at hf
 cases hq : P.funcs[gf]? with
 | none => simp [hq] at hf
 | some fnn =>
 simp [hq] at hf
 obtain ⟨eR, fM⟩ := hf
 have eg : ∀ args w, (callFunc gf args).run P w = .ok (.enter gf args) w := fun args w => by
  cases hb : fnn.body with
  | none => simp [hb] at fM
  | some c => simp [callFunc, hq, eR, hb]
 refine wpIn_rangeFunc (F := Fence.wide) fun fn hfn => ?_
 let pW : LoopState → Option Code → Loop := fun s pe => { state := s, pending := pe, fn, tmps := a.tmps, params := ps.toArray, assign, body, defers := w.heap.size }
 have iP : St w0 R (Hs 0 ++ [HP.lp (w.heap.size + 1) (w.heap.size :: L) (pW .ready none)]) ((w.alloc (.deferred (some []))).alloc (.loop (pW .ready none))) := st.aEb
 obtain ⟨W1, Zq⟩ : ∃ W1, (w.alloc (.deferred (some []))).alloc (.loop (pW .ready none)) = W1 := ⟨_, rfl⟩
 rw [Zq] at iP
 obtain ⟨F, Qf, hlt, hbase⟩ := iP.join
 refine ⟨w.heap.size + 1, [Pc w.heap.size], W1, { target := .fn (.func gf) lb.toArray, args := #[.func (.yield (w.heap.size + 1)) #[] #[]] }, W1, gf, #[.func (.yield (w.heap.size + 1)) #[] #[]] ++ lb.toArray, W1,
  by rw [← Zq]; exact run_enterLoop_outer _ _ _ _ _, ?_, fun _ _ => trivial, by simp [invoke, go_sem, eg], fun h => by simp [Fence.wide] at h, ?_⟩
 ·have := hr.ev hg
  rw [Ka]
  simp only [resolve, this]
  simp [go_sem]
 refine callsIn_wide.2 ?_
 have uV := hit (w.heap.size + 1) (fun k => HP.many (Hs k ++ [HP.lp (w.heap.size + 1) (w.heap.size :: L) (pW .ready none)])) (fun k => HP.many (Hx k ++ [HP.lp (w.heap.size + 1) (w.heap.size :: L) (pW .done (some .ret))])) W1 F
  (fun b hb => ⟨(hbase.ro p hp b hb).1, (hbase.ro p hp b hb).2.2⟩) (fun b hb => (hbase.ro p hp b hb).2.1) Qf hlt ?_
 ·rw [show (#[Value.func (.yield (w.heap.size + 1)) #[] #[]] ++ lb.toArray) = (Value.func (.yield (w.heap.size + 1)) #[] #[] :: lb).toArray by simp]
  refine uV.mono ?_
  rintro y W2 ⟨⟨v, rfl⟩, F2, ht, h | ⟨k, hk, h⟩⟩
  ·have tE := St.split hbase ht h
   refine ⟨none, _, run_endLoop tE.By (by simp [pW]), ?_⟩
   have := hdone w.heap.size a _ hr (tE.Xk (rc' := { pW .ready none with state := .exhausted }))
   unfold KQ mk at this
   rw [hr.defers] at this
   unfold mk
   rw [hr.defers]
   exact this
  ·have tE := St.split hbase ht h
   refine ⟨some .ret, _, run_endLoop tE.By (by simp [pW]), ?_⟩
   have := Ym w.heap.size k hk a _ hr (tE.Xk (rc' := { pW .done (some .ret) with state := .exhausted }))
   unfold KC mk at this
   rw [hr.defers] at this
   unfold mk
   rw [hr.defers]
   exact this
 ·intro k vs W2 F2 hvs eV Yr Qb
  have tE := St.split hbase Qb eV
  have Fz := tE.By
  have hvl := hps vs (List.mem_of_getElem? hvs)
  refine ⟨fn, _, assign, body, run_yield Fz (by simp [pW, hvl]), roundIn_of_wpIn (F := Fence.wide) hfn ?_⟩
  have Nx := St.aCA hbase Qb Yr eV
  have hsame : rK w0 W2 := hbase.same.trans Qb.same
  have kV : cW ⟨nn, []⟩ (Mn ps vs e) { tmps := (ps.zip vs).foldl (fun t (p, v) => t.setIfInBounds p v) a.tmps, defers := a.defers } := cW.bind hr hpN
  rw [hr.defers] at kV
  have h1 := hassign (w.heap.size + 1) k vs W2 (nt W2 F2) _ hvs hsame _ _ kV Nx
  unfold KC at h1
  rw [Ow] at h1
  simp only [pW, List.zip_toArray, List.foldl_toArray', List.size_toArray]
  refine wpIn_mono h1 ?_
  rintro x a1 W3 hx
  cases x with
  | normal =>
   obtain ⟨e1, H1, hmid, cT, Vf⟩ := hx
   refine ⟨_, run_beginRound Vf.By rfl, ?_⟩
   have st4 := Vf.Pj (rc' := pW .busy none)
   have h2 := hbody (w.heap.size + 1) k vs W2 (nt W2 F2) _ e1 H1 hvs hsame hmid a1 _ cT st4
   unfold KC at h2
   rw [Ow] at h2
   refine wpIn_mono h2 ?_
   rintro x a4 W4 (⟨rfl, Ec⟩ | ⟨rfl, Ec⟩)
   ·refine ⟨_, _, run_endRound none Ec.By, .inl ⟨rfl, ?_⟩⟩
    obtain ⟨F', h3, _, h4⟩ := St.Uy (Ec.Pj (rc' := pW .ready none)) (by simp : nt W2 F2 ∈ R ++ [nt W2 F2])
    exact ⟨F', h3, h4⟩
   ·refine ⟨_, _, run_endRound (some .ret) Ec.By, .inr ⟨rfl, ?_⟩⟩
    obtain ⟨F', h3, _, h4⟩ := St.Uy (Ec.Pj (rc' := pW .done (some .ret))) (by simp : nt W2 F2 ∈ R ++ [nt W2 F2])
    exact ⟨F', h3, h4⟩
  | _ => exact hx.elim
theorem XC.enter {f : FuncId} {fn : Func} {c : Code} {vs : List Value} {w : World} {Post : Ending → World → Prop} (hf : P.funcs[f]? = some fn) (hb : fn.body = some c) (hN : fn.ntmps = nn) (hl : vs.length ≤ nn) {R : List Piece} {H : List HP} (st : St w R H w)
  (h : XK ⟨nn, []⟩ w (KC none [] P c (bodyPostM Fence.wide 9 P fn Post)) (wR 0 vs) R (H ++ [HP.marks []])) : Calls P f vs.toArray w Post := by
 refine (callsIn_wide (n := 9)).1 (callsIn_of_wp_marks hf hb trivial ?_ rfl)
 have := h { tmps := vs.toArray ++ Array.replicate (fn.ntmps - vs.toArray.size) undef, defers := [] } w ⟨?_, rfl, fun t v hv => ?_⟩ ?_
 ·unfold KC at this
  rw [Ow] at this
  exact this
 ·simp; omega
 ·obtain ⟨_, h2⟩ := Hu vs 0 t v hv
  rw [Nat.sub_zero] at h2
  have hlt : t < vs.length := by
   rcases Nat.lt_or_ge t vs.length with h | h
   ·exact h
   ·rw [List.getElem?_eq_none h] at h2; cases h2
  rw [Array.getElem?_append_left (by simpa using hlt)]
  simpa using h2
 ·obtain ⟨Z, F, hz, hr, hs, hf, hd⟩ := st.ex
  refine ⟨st.os, st.tape, st.output, st.size, Z, fun i b => i < H.length ∧ F i b, hz, hr, fun i p hi => ?_, fun i b h => hf i b h.2, fun i j b hij h k => hd i j b hij h.2 k.2⟩
  rcases Nat.lt_or_ge i H.length with h | h
  ·rw [List.getElem?_append_left h] at hi
   have := hs i p hi
   show p.sat (fun b => i < H.length ∧ F i b) w
   rwa [show (fun b => i < H.length ∧ F i b) = F i by funext b; simp [h]]
  ·rw [List.getElem?_append_right h] at hi
   have : i - H.length = 0 := by
    rcases Nat.eq_zero_or_pos (i - H.length) with h | h
    ·exact h
    ·rw [List.getElem?_eq_none (by simp; omega)] at hi; cases hi
   rw [this] at hi
   simp at hi
   subst hi
   exact ⟨List.nodup_nil, fun D hD => by cases hD⟩
theorem Pn {fn : Func} {tmps : Array Value} {Post : Ending → World → Prop} {v : Value} : ∀ (L : List Nat) (Hs : List HP) (w : World), St w0 R (Hs ++ [HP.marks L]) w → (∀ w, St w0 R Hs w → (results fn tmps).run P w = .ok v w ∧ Post (.returned v) w) →
  LeavesInM Fence.wide 9 P fn tmps Post (L.map Pc) .returning w
 | [], Hs, w, st, h => ⟨v, h w (st.weak (fun _ hp => hp) id (fun _ _ _ _ h => h) (fun i p hi => by
   have : i < Hs.length := by
    rcases Nat.lt_or_ge i Hs.length with h | h
    ·exact h
    ·rw [List.getElem?_eq_none h] at hi; cases hi
   show (Hs ++ [HP.marks []])[i]? = some p
   rw [List.getElem?_append_left this]; exact hi))⟩
 | D :: L, Hs, w, st, h => by
  obtain ⟨F, hF⟩ := st.sat (i := Hs.length) Ca
  have hD := (hF.2 D (by simp)).2
  refine ⟨by simp, .inl ⟨D, _, rfl, run_takeDeferred hD, Pn L Hs _ ?_ h⟩⟩
  have := st.rQ (q := HP.marks L) (w' := w.putObj D (.deferred none)) (i := Hs.length) Ca (by simp) rfl rfl rfl (fun F hF hlt => ⟨F, ⟨(List.nodup_cons.1 hF.1).2, fun D' Rx => ⟨(hF.2 D' (by simp [Rx])).1, (World.putObj_heap_other (fun e : D' = D => (List.nodup_cons.1 hF.1).1 (e ▸ Rx))).trans (hF.2 D' (by simp [Rx])).2⟩⟩, fun b hb => ⟨.inl hb, by simpa using hlt b hb⟩, fun b hb hn => World.putObj_heap_other (fun e => hn (e ▸ (hF.2 D (by simp)).1))⟩)
  rwa [Kf] at this
theorem XC.kI {fn : Func} {Post : Ending → World → Prop} {x : Exit} {Hs : List HP} (hx : x = .ret ∨ x = .normal) (hr : fn.results = #[]) (h : ∀ w, St w0 R Hs w → Post (.returned (.tuple #[])) w) : XK ⟨nn, []⟩ w0 (KQ L (bodyPostM Fence.wide 9 P fn Post) x) e R (Hs ++ [HP.marks L]) := fun a w bM st => by
 have := Pn (P := P) (fn := fn) (tmps := a.tmps) (v := .tuple #[]) L Hs w st (fun w st => ⟨results_none hr _ _ _, h w st⟩)
 rcases hx with rfl | rfl
 ·unfold KQ mk; rw [bM.defers]; exact this
 ·unfold KQ mk; rw [bM.defers]; exact this
theorem XC.aK {fn : Func} {Post : Ending → World → Prop} {Hs : List HP} {t : Nat} {v : Value} (hr : fn.results = #[.tmp t]) (ht : e.get t = some v) (h : ∀ w, St w0 R Hs w → Post (.returned v) w) : XK ⟨nn, []⟩ w0 (KQ L (bodyPostM Fence.wide 9 P fn Post) .ret) e R (Hs ++ [HP.marks L]) := fun a w bM st => by
 have := Pn (P := P) (fn := fn) (tmps := a.tmps) (v := v) L Hs w st (fun w st => ⟨by rw [results_tmp hr, Array.getD_eq_getD_getElem?, bM.get t v ht]; rfl, h w st⟩)
 unfold KQ mk; rw [bM.defers]; exact this
theorem XC.fin {x : Exit} (h : ∀ a w, cW ⟨nn, []⟩ e a → St w0 R H w → Q x (mk L a) w) : XK ⟨nn, []⟩ w0 (KQ L Q x) e R H := h
theorem XI.start {K : Act → World → Prop} (h : XK ⟨nn, []⟩ w0 K e R H) : XK ⟨nn, []⟩ w0 (Fx K .normal) e R H := h
end
end
section
def vH (g : List (List Int)) : Bool := g.any fun l => l.any fun u => decide (u < 0) || decide ((g.length : Int) ≤ u)
def lG (g : List (List Int)) : Int := if 100 < g.length then 1 else if vH g then 4 else 0
def hstep (v : Nat) (s : List Int × List (List Int) × List Int) (u : Int) : List Int × List (List Int) × List Int :=
 if s.2.2.contains u then s else (s.1.set v (s.1[v]?.getD 0 + 1), s.2.1.set u.toNat (s.2.1[u.toNat]?.getD [] ++ [(v : Int)]), s.2.2 ++ [u])
def hrow (v : Nat) (s : List Int × List (List Int)) (l : List Int) : List Int × List (List Int) × List Int := l.foldl (hstep v) (s.1, s.2, [])
def dX (g : List (List Int)) : Nat → List Int × List (List Int)
 | 0 => (List.replicate g.length 0, List.replicate g.length [])
 | k + 1 => let r := hrow k (dX g k) (g[k]?.getD []); (r.1, r.2.1)
def xI (g : List (List Int)) (M : List Nat) : Option Nat := (List.range g.length).find? fun v => !(M.contains v) && (g[v]?.getD []).all fun u => M.contains u.toNat
def nL (g : List (List Int)) : Nat → List Nat → Option (List Nat)
 | 0, M => some M
 | k + 1, M => match xI g M with
  | none => none
  | some v => nL g k (M ++ [v])
def wI (l : List Int) : List Int := l.foldl (fun a u => if a.contains u then a else a ++ [u]) []
theorem aAN {g : List (List Int)} {k j : Nat} {l : List Int} {u : Int} (hk : g[k]? = some l) (hj : l[j]? = some u) (hu : u < 0 ∨ (g.length : Int) ≤ u) : vH g = true := by
 unfold vH
 simp only [List.any_eq_true, Bool.or_eq_true, decide_eq_true_eq]
 exact ⟨l, List.mem_of_getElem? hk, u, List.mem_of_getElem? hj, hu⟩
theorem aAO {g : List (List Int)} (h : ∀ (k : Nat) (l : List Int), g[k]? = some l → ∀ (j : Nat) (u : Int), l[j]? = some u → 0 ≤ u ∧ u < g.length) : vH g = false := by
 cases hb : vH g with
 | false => rfl
 | true =>
  unfold vH at hb
  simp only [List.any_eq_true, Bool.or_eq_true, decide_eq_true_eq] at hb
  obtain ⟨l, hl, u, hu, Zm⟩ := hb
  obtain ⟨k, hk⟩ := List.getElem?_of_mem hl
  obtain ⟨j, hj⟩ := List.getElem?_of_mem hu
  have := h k l hk j u hj
  omega
def rM (g : List (List Int)) : Prop := ∀ l ∈ g, ∀ u ∈ l, 0 ≤ u ∧ u < g.length
theorem rM.of {g : List (List Int)} (h : vH g = false) : rM g := by
 intro l hl u hu
 by_cases h0 : u < 0 ∨ (g.length : Int) ≤ u
 ·have hb : vH g = true := by
   unfold vH
   simp only [List.any_eq_true, Bool.or_eq_true, decide_eq_true_eq]
   exact ⟨l, hl, u, hu, h0⟩
  rw [h] at hb
  cases hb
 ·omega
theorem Qc (v : Nat) (s : List Int × List (List Int) × List Int) (u : Int) : (hstep v s u).1.length = s.1.length ∧ (hstep v s u).2.1.length = s.2.1.length := by
 unfold hstep; split <;> simp
theorem Qk (v : Nat) : ∀ (l : List Int) (s : List Int × List (List Int) × List Int), (l.foldl (hstep v) s).1.length = s.1.length ∧ (l.foldl (hstep v) s).2.1.length = s.2.1.length
 | [], s => ⟨rfl, rfl⟩
 | u :: l, s => by rw [List.foldl_cons]; have h1 := Qk v l (hstep v s u); have h2 := Qc v s u; exact ⟨h1.1.trans h2.1, h1.2.trans h2.2⟩
theorem Cg (g : List (List Int)) : ∀ k, (dX g k).1.length = g.length ∧ (dX g k).2.length = g.length
 | 0 => by simp [dX]
 | k + 1 => by
  have h := Cg g k
  have h1 := Qk k (g[k]?.getD []) ((dX g k).1, (dX g k).2, [])
  exact ⟨h1.1.trans h.1, h1.2.trans h.2⟩
theorem Ye (v : Nat) (s : List Int × List (List Int) × List Int) (u : Int) : (hstep v s u).2.2 = if s.2.2.contains u then s.2.2 else s.2.2 ++ [u] := by unfold hstep; split <;> rfl
theorem Yj (v : Nat) : ∀ (l : List Int) (s : List Int × List (List Int) × List Int), (l.foldl (hstep v) s).2.2 = l.foldl (fun a u => if a.contains u then a else a ++ [u]) s.2.2
 | [], s => rfl
 | u :: l, s => by rw [List.foldl_cons, List.foldl_cons, Yj v l, Ye]
theorem Qj (v : Nat) : ∀ (l : List Int) (s : List Int × List (List Int) × List Int), v < s.1.length → s.1[v]? = some (s.2.2.length : Int) → (l.foldl (hstep v) s).1[v]? = some ((l.foldl (hstep v) s).2.2.length : Int)
 | [], s, _, h => h
 | u :: l, s, hv, h => by
  rw [List.foldl_cons]
  refine Qj v l _ (by rw [(Qc v s u).1]; exact hv) ?_
  unfold hstep
  split
  ·exact h
  ·simp only [h, Option.getD_some]
   rw [List.getElem?_set_self hv]
   simp
theorem Yh (v : Nat) : ∀ (l : List Int) (s : List Int × List (List Int) × List Int) (x : Nat), x ≠ v → (l.foldl (hstep v) s).1[x]? = s.1[x]?
 | [], s, x, _ => rfl
 | u :: l, s, x, hx => by
  rw [List.foldl_cons, Yh v l _ x hx]
  unfold hstep
  split
  ·rfl
  ·exact List.getElem?_set_ne (Ne.symm hx)
theorem Qi (v : Nat) : ∀ (l : List Int) (s : List Int × List (List Int) × List Int) (x : Nat), (∀ u ∈ l, 0 ≤ u ∧ u < s.2.1.length) → x < s.2.1.length →
  (l.foldl (hstep v) s).2.1[x]? = some (s.2.1[x]?.getD [] ++ if (x : Int) ∈ l ∧ (x : Int) ∉ s.2.2 then [(v : Int)] else [])
 | [], s, x, _, hx => by simp [List.getElem?_eq_getElem hx]
 | u :: l, s, x, hl, hx => by
  have hu := hl u (by simp)
  have hlen := (Qc v s u).2
  rw [List.foldl_cons, Qi v l (hstep v s u) x (fun y hy => by rw [hlen]; exact hl y (by simp [hy])) (by rw [hlen]; exact hx)]
  unfold hstep
  by_cases hc : s.2.2.contains u = true
  ·have zV : u ∈ s.2.2 := by simpa using hc
   simp only [hc, if_true, List.mem_cons]
   congr 2
   by_cases Fj : (x : Int) = u
   ·rw [Fj]; simp [zV]
   ·simp [Fj]
  ·have zV : u ∉ s.2.2 := by simpa using hc
   simp only [hc, Bool.false_eq_true, if_false, List.mem_cons, List.mem_append, List.mem_singleton, List.not_mem_nil, or_false]
   by_cases Fj : (x : Int) = u
   ·subst Fj
    have e : ((x : Int)).toNat = x := by simp
    rw [e, List.getElem?_set_self hx]
    simp [zV]
   ·have hne : u.toNat ≠ x := by omega
    rw [List.getElem?_set_ne hne]
    simp [Fj]
theorem Gn {g : List (List Int)} (hg : rM g) : ∀ k, k ≤ g.length → (∀ v, v < g.length → (dX g k).1[v]? = some (if v < k then ((wI (g[v]?.getD [])).length : Int) else 0)) ∧
  ∀ u, u < g.length → (dX g k).2[u]? = some (((List.range k).filter fun v => (g[v]?.getD []).contains (u : Int)).map Int.ofNat)
 | 0, _ => by
  refine ⟨fun v hv => ?_, fun u hu => ?_⟩
  ·simp [dX, hv]
  ·simp [dX, hu]
 | k + 1, hk => by
  obtain ⟨h1, h2⟩ := Gn hg k (by omega)
  have hl := Cg g k
  have hin : ∀ u ∈ g[k]?.getD [], 0 ≤ u ∧ u < (dX g k).2.length := fun u hu => by
   rw [hl.2]
   have : g[k]? = some (g[k]'(by omega)) := List.getElem?_eq_getElem _
   rw [this] at hu
   exact hg _ (List.getElem_mem _) u hu
  refine ⟨fun v hv => ?_, fun u hu => ?_⟩
  ·show (((g[k]?.getD []).foldl (hstep k) ((dX g k).1, (dX g k).2, [])).1)[v]? = _
   by_cases Ya : v = k
   ·subst Ya
    have := Qj v (g[v]?.getD []) ((dX g v).1, (dX g v).2, []) (by rw [hl.1]; exact hv) (by rw [h1 v hv]; simp)
    rw [this, Yj]
    simp [wI]
   ·rw [Yh k _ _ v Ya, h1 v hv]
    congr 1
    by_cases h : v < k
    ·rw [if_pos h, if_pos (by omega)]
    ·rw [if_neg h, if_neg (by omega)]
  ·show (((g[k]?.getD []).foldl (hstep k) ((dX g k).1, (dX g k).2, [])).2.1)[u]? = _
   rw [Qi k _ _ u hin (by rw [hl.2]; exact hu), h2 u hu, List.range_succ, List.filter_append, List.map_append]
   simp only [Option.getD_some, List.not_mem_nil, not_false_eq_true, and_true]
   congr 2
   by_cases h : (u : Int) ∈ g[k]?.getD []
   ·simp [h]
   ·simp [h]
theorem aFb {g : List (List Int)} (hg : rM g) {k u : Nat} (hk : k ≤ g.length) {l : List Int} (hu : (dX g k).2[u]? = some l) : l.length ≤ k := by
 have hlt : u < g.length := by
  rw [← (Cg g k).2]
  rcases Nat.lt_or_ge u (dX g k).2.length with h | h
  ·exact h
  ·rw [List.getElem?_eq_none h] at hu; cases hu
 rw [(Gn hg k hk).2 u hlt] at hu
 cases hu
 rw [List.length_map]
 have := List.length_filter_le (fun v => (g[v]?.getD []).contains (u : Int)) (List.range k)
 simpa using this
end
section
def jA (ks : List Int) : List (Int × Value) := ks.map fun k => (k, .agg #[])
theorem Pb : ∀ (ks : List Int) (k : Int), jK (jA ks) k = if ks.contains k then some (.agg #[]) else none
 | [], k => by simp [jA, jK]
 | a :: ks, k => by
  rw [jA, List.map_cons, Ex]
  have := Pb ks k
  rw [jA] at this
  rw [this]
  by_cases h : a = k
  ·subst h; simp
  ·simp [h, Ne.symm h]
theorem Wz : ∀ (ks : List Int) (k : Int), kQ (jA ks) k (.agg #[]) = jA (if ks.contains k then ks else ks ++ [k])
 | [], k => by simp [jA, kQ]
 | a :: ks, k => by
  have ih := Wz ks k
  rw [jA, List.map_cons, kQ]
  rw [jA] at ih
  by_cases h : a = k
  ·subst h; simp [jA]
  ·rw [if_neg h, ih]
   have hk : ¬ k = a := fun e => h e.symm
   by_cases hc : ks.contains k = true
   ·have : (a :: ks).contains k = true := by simp at hc ⊢; exact .inr hc
    rw [if_pos hc, if_pos this]; rfl
   ·have hm : k ∉ ks := by simpa using hc
    have : ¬ (a :: ks).contains k = true := by simp [hk, hm]
    rw [if_neg hc, if_neg this]; rfl
theorem Mq {p : Nat → Prop} {k : Nat} (h : ∀ i, i < k → p i) (hk : p k) : ∀ i, i < k + 1 → p i := fun i hi => by
 rcases Nat.lt_or_ge i k with h1 | h1
 ·exact h i h1
 ·have : i = k := by omega
  exact this ▸ hk
theorem aCm (ks : List Int) (k : Int) : (jK (jA ks) k).isSome = ks.contains k := by rw [Pb]; split <;> simp_all
theorem aCl (ks : List Int) (k : Int) : (jK (jA ks) k).getD (.agg #[]) = .agg #[] := by rw [Pb]; split <;> rfl
theorem Xe (r : Nat) (v : Int) (ks : List Int) (w : World) (hm : rL w r (jA ks)) :
  Calls Tryz.prog 195 #[.map (some r), .int .i64 v] w (Rt (.bool (ks.contains v)) w) := by
 refine XK.enter (vs := [.map (some r), .int .i64 v]) Tryz.func195 rfl Tryz.ntmps195 (by simp) ?_
 refine XK.seq ?_
 refine XK.region ?_
 refine aH rfl (by decide) ?_
 refine XK.aA ?_
 refine XK.seq ?_
 refine XK.region ?_
 refine aF rfl (by decide) ?_
 refine aF rfl (by decide) ?_
 refine Nb (kt := 3) (et := 330) (kd := .i64) (z := .agg #[]) (l := jA ks) true (by kernel_rfl) (by kernel_rfl) (by kernel_rfl) rfl rfl (fun w1 st => hm.below (st.started (by simp))) (by decide) ?_
 rw [aCm, aCl]
 refine aF rfl (by decide) ?_
 refine nG rfl rfl (by decide) ?_
 refine nG rfl rfl (by decide) ?_
 refine cD (cs := []) (aM (by kernel_rfl)) (by decide) fun g1 => ?_
 refine eA rfl rfl ?_; simp only [bZ, Value.cells, List.set, List.take, List.drop, List.nil_append, List.append_nil, List.length_cons, List.length_nil, List.cons_append, Nat.reduceAdd]
 refine aH rfl (by decide) ?_
 refine XK.aA ?_
 refine XK.seq ?_
 refine XK.region ?_
 refine aF rfl (by decide) ?_
 refine aH rfl (by decide) ?_
 refine XK.aA ?_
 refine XK.ret ?_
 refine XK.norm ?_
 exact XK.aK rfl rfl fun w1 st => ⟨rfl, st.below (by simp)⟩
theorem Xf (r : Nat) (v : Int) (ks : List Int) (w : World) (F : Nat → Prop) (hp : (HP.map r (jA ks)).sat F w) (hF : ∀ b, F b → b < w.heap.size) :
  Calls Tryz.prog 194 #[.map (some r), .int .i64 v] w (fun y w' => y = .returned (.tuple #[]) ∧ ∃ F', (HP.map r (jA (if ks.contains v then ks else ks ++ [v]))).sat F' w' ∧ bX w w' F F') := by
 refine XK.dY (p := HP.map r (jA ks)) (F := F) (vs := [.map (some r), .int .i64 v]) Tryz.func194 rfl Tryz.ntmps194 (by simp) hp hF ?_
 refine XK.region ?_
 refine aF rfl (by decide) ?_
 refine aF rfl (by decide) ?_
 refine dJ (zs := []) (L := []) (aM (by kernel_rfl)) (by kernel_rfl) rfl (by simp [aS, aT, Value.cells]; rfl) (by decide) ?_
 refine Bi (kt := 3) (et := 330) (kd := .i64) (l := jA ks) 0 (by kernel_rfl) (by kernel_rfl) rfl rfl rfl rfl ?_
 rw [Wz]
 refine XK.aA ?_
 exact XK.kI (.inr rfl) rfl fun w1 st => ⟨rfl, st.turns hF (by simp) (i := 0) rfl⟩
theorem aD4 (A : Option Addr) (n c : Nat) (g : List (List Int)) (w : World) (hg : kD (all w) A n g) (hn : n = g.length) (hn2 : (n : Int) ≤ 9223372036854775806) (hlen : ∀ l ∈ g, (l.length : Int) ≤ 9223372036854775806) :
  Calls Tryz.prog 256 #[.slice A n c] w (Rt (.int .i64 (lG g)) w) := by
 refine XK.enter (vs := [.slice A n c]) Tryz.func256 rfl Tryz.ntmps256 (by simp) ?_
 refine XK.seq ?_
 refine XK.region ?_
 refine aH rfl (by decide) ?_
 refine XK.aA ?_
 refine XK.seq ?_
 refine XK.seq ?_
 refine XK.region ?_
 refine aF rfl (by decide) ?_
 refine cY (el := 22) (by kernel_rfl) rfl (by decide) ?_
 refine qM rfl rfl (by decide) ?_
 refine XK.aA ?_
 refine XK.if_ rfl (fun h => ?_) (fun h => ?_)
 ·
  refine XK.seq ?_
  refine XK.region ?_
  refine aH rfl (by decide) ?_
  refine XK.aA ?_
  refine XK.ret ?_
  refine XK.norm ?_
  exact XK.aK rfl rfl fun w1 st => ⟨by simp [lG, ← hn]; omega, st.below (by simp)⟩
 ·
  refine XK.skip ?_
  refine XK.norm ?_
  refine XK.seq ?_
  refine XK.seq ?_
  refine XK.region ?_
  refine aF rfl (by decide) ?_
  refine cY (el := 22) (by kernel_rfl) rfl (by decide) ?_
  refine aF rfl (by decide) ?_
  refine XK.aA ?_
  refine XK.aL [(12, .int .i64 0), (11, .int .i64 n), (10, .slice A n c), (0, .slice A n c)] ?_
  refine XK.block ?_
  refine XK.loop (fun m e R H => ∃ k : Nat, k ≤ n ∧ m = n - k ∧ (∀ (i : Nat), i < k → ∀ l : List Int, g[i]? = some l → ∀ (j : Nat) (u : Int), l[j]? = some u → 0 ≤ u ∧ u < g.length) ∧ e = [(12, .int .i64 k), (11, .int .i64 n), (10, .slice A n c), (0, .slice A n c)] ∧ R = [all w] ∧ H = []) n ⟨0, by omega, rfl, (fun i h => absurd h (by omega)), rfl, rfl, rfl⟩ fun m e R H hI => ?_
  obtain ⟨k, hk, rfl, hin, rfl, rfl, rfl⟩ := hI
  refine XK.seq ?_
  refine XK.region ?_
  refine fB rfl rfl (by decide) ?_
  refine XK.aA ?_
  refine XK.seq ?_
  refine XK.if_ rfl (fun h => ?_) (fun h => ?_)
  ·
   refine XK.skip ?_
   refine XK.norm ?_
   refine XK.seq ?_
   refine XK.block ?_
   refine XK.seq ?_
   have hkn : k < n := by omega
   obtain ⟨l, hl⟩ : ∃ l, g[k]? = some l := ⟨g[k]'(by omega), List.getElem?_eq_getElem _⟩
   obtain ⟨b, off, B, c2, rfl, c1, oL⟩ := hg.row hl
   have tL := hlen l (List.mem_of_getElem? hl)
   refine XK.region ?_
   refine dB (k) (off + k) (el := 22) (sz := 1) (by kernel_rfl) (by kernel_rfl) rfl rfl (by omega) (by omega) (by omega) (by decide) ?_
   refine aZ rfl ?_
   refine aH rfl (by decide) ?_
   refine XK.aA ?_
   refine XK.seq ?_
   refine XK.region ?_
   refine aF rfl (by decide) ?_
   refine cY (el := 3) (by kernel_rfl) rfl (by decide) ?_
   refine aF rfl (by decide) ?_
   refine XK.aA ?_
   refine XK.aL [(18, .int .i64 0), (17, .int .i64 l.length), (16, .slice B l.length c2), (12, .int .i64 k), (11, .int .i64 n), (10, .slice (some ⟨b, off, none⟩) n c), (0, .slice (some ⟨b, off, none⟩) n c)] ?_
   refine XK.block ?_
   refine XK.loop (fun m e R H => ∃ j : Nat, j ≤ l.length ∧ m = l.length - j ∧ (∀ (i : Nat), i < j → ∀ u : Int, l[i]? = some u → 0 ≤ u ∧ u < g.length) ∧ e = [(18, .int .i64 j), (17, .int .i64 l.length), (16, .slice B l.length c2), (12, .int .i64 k), (11, .int .i64 n), (10, .slice (some ⟨b, off, none⟩) n c), (0, .slice (some ⟨b, off, none⟩) n c)] ∧ R = [all w] ∧ H = []) l.length ⟨0, by omega, rfl, (fun i h => absurd h (by omega)), rfl, rfl, rfl⟩ fun m e R H hI => ?_
   obtain ⟨j, hj, rfl, Ga, rfl, rfl, rfl⟩ := hI
   refine XK.seq ?_
   refine XK.region ?_
   refine fB rfl rfl (by decide) ?_
   refine XK.aA ?_
   refine XK.seq ?_
   refine XK.if_ rfl (fun h => ?_) (fun h => ?_)
   ·
    refine XK.skip ?_
    refine XK.norm ?_
    refine XK.seq ?_
    refine XK.block ?_
    refine XK.seq ?_
    have hjl : j < l.length := by omega
    obtain ⟨b2, off2, rfl, kR, tT⟩ := oL.2 (by omega)
    obtain ⟨u, hu⟩ : ∃ u, l[j]? = some u := ⟨l[j]'(by omega), List.getElem?_eq_getElem _⟩
    have c3 : eK w b2 (off2 + j) (.int .i64 u) := ⟨kR, tT j _ (by simp [aR, hu])⟩
    refine XK.region ?_
    refine dB (j) (off2 + j) (el := 3) (sz := 1) (by kernel_rfl) (by kernel_rfl) rfl rfl (by omega) (by omega) (by omega) (by decide) ?_
    refine aZ rfl ?_
    refine aH rfl (by decide) ?_
    refine XK.aA ?_
    refine XK.seq ?_
    refine XK.region ?_
    refine aF rfl (by decide) ?_
    refine fB rfl rfl (by decide) ?_
    refine aF rfl (by decide) ?_
    refine bO (t := 24) rfl (fun hg => ?_) (fun hg => ?_)
    ·
     refine aN rfl rfl rfl (by decide) ?_
     refine aN rfl rfl rfl (by decide) ?_
     refine aN rfl rfl rfl (by decide) ?_
     refine aN rfl rfl rfl (by decide) ?_
     (first | refine bJ rfl rfl (by decide) ?_ | refine bK rfl rfl (by decide) ?_)
     refine XK.aA ?_
     refine XK.cond rfl (fun _ => ?_) (fun h => by cases h)
     refine XK.seq ?_
     refine XK.region ?_
     refine aH rfl (by decide) ?_
     refine XK.aA ?_
     refine XK.ret ?_
     refine XK.norm ?_
     exact XK.aK rfl rfl fun w1 st => ⟨by rw [show lG g = 4 by simp [lG, ← hn, aAN hl hu (by omega)]; omega], st.below (by simp)⟩
    ·
     refine aO rfl rfl ?_; refine aF rfl (by decide) ?_
     refine aO rfl rfl ?_; refine aF rfl (by decide) ?_
     refine aO rfl rfl ?_; refine cY (el := 22) (by kernel_rfl) rfl (by decide) ?_
     refine aO rfl rfl ?_; refine uK rfl rfl (by decide) ?_
     (first | refine bJ rfl rfl (by decide) ?_ | refine bK rfl rfl (by decide) ?_)
     refine XK.aA ?_
     refine XK.if_ rfl (fun h => ?_) (fun h => ?_)
     ·
      refine XK.seq ?_
      refine XK.region ?_
      refine aH rfl (by decide) ?_
      refine XK.aA ?_
      refine XK.ret ?_
      refine XK.norm ?_
      exact XK.aK rfl rfl fun w1 st => ⟨by rw [show lG g = 4 by simp [lG, ← hn, aAN hl hu (by omega)]; omega], st.below (by simp)⟩
     ·
      refine XK.skip ?_
      refine XK.norm ?_
      refine XK.region ?_
      refine dD rfl rfl (aY (by omega)) (by decide) ?_
      refine aF rfl (by decide) ?_
      refine XK.aA ?_
      exact XK.aL [(18, .int .i64 (j + 1)), (17, .int .i64 l.length), (16, .slice (some ⟨b2, off2, none⟩) l.length c2), (12, .int .i64 k), (11, .int .i64 n), (10, .slice (some ⟨b, off, none⟩) n c), (0, .slice (some ⟨b, off, none⟩) n c)] (XK.round (l.length - (j + 1)) (by omega) ⟨j + 1, by omega, rfl, Mq Ga (fun x hx => by rw [hu] at hx; cases hx; omega), rfl, rfl, rfl⟩)
   ·
    refine XK.exit ?_
    refine XK.norm ?_
    refine XK.region ?_
    refine dD rfl rfl (aY (by omega)) (by decide) ?_
    refine aF rfl (by decide) ?_
    refine XK.aA ?_
    exact XK.aL [(12, .int .i64 (k + 1)), (11, .int .i64 n), (10, .slice (some ⟨b, off, none⟩) n c), (0, .slice (some ⟨b, off, none⟩) n c)] (XK.round (n - (k + 1)) (by omega) ⟨k + 1, by omega, rfl, Mq hin (fun x hx j u Ys => by rw [hl] at hx; cases hx; exact Ga j (by have := (List.getElem?_eq_some_iff.1 Ys).1; omega) u Ys), rfl, rfl, rfl⟩)
  ·
   refine XK.exit ?_
   refine XK.norm ?_
   refine XK.seq ?_
   refine XK.region ?_
   refine aH rfl (by decide) ?_
   refine XK.aA ?_
   refine XK.ret ?_
   refine XK.norm ?_
   exact XK.aK rfl rfl fun w1 st => ⟨by rw [show lG g = 0 by simp [lG, ← hn, aAO (fun i l hi => hin i (by have := (List.getElem?_eq_some_iff.1 hi).1; omega) l hi)]; omega], st.below (by simp)⟩
end
section
def HU (vals : List Value) (U : List (List Int)) : List HP := List.zipWith (fun v l => HP.own 3 1 v l.length (aR l)) vals U
theorem aBf {vals : List Value} {U : List (List Int)} {i : Nat} {v : Value} {l : List Int} (hv : vals[i]? = some v) (hl : U[i]? = some l) : (HU vals U)[i]? = some (HP.own 3 1 v l.length (aR l)) := by
 simp [HU, List.getElem?_zipWith, hv, hl]
theorem aBe : ∀ (vals : List Value) (U : List (List Int)) (i : Nat) (v : Value) (l : List Int), (HU vals U).set i (HP.own 3 1 v l.length (aR l)) = HU (vals.set i v) (U.set i l)
 | [], U, i, v, l => by cases U <;> simp [HU]
 | a :: vals, [], i, v, l => by cases i <;> simp [HU]
 | a :: vals, b :: U, 0, v, l => by simp [HU]
 | a :: vals, b :: U, i + 1, v, l => by
  have := aBe vals U i v l
  simpa [HU] using this
theorem aHd (n : Nat) : HU (List.replicate n (.slice none 0 0)) (List.replicate n []) = List.replicate n (HP.own 3 1 (.slice none 0 0) 0 []) := by
 simp [HU, aR]
theorem Xo (W : List Int) (i : Nat) (v : Int) : (aR W).set i (.int .i64 v) = aR (W.set i v) := by simp [aR, List.map_set]
theorem Kj {W : List Int} {i : Nat} {v : Int} (h : W[i]? = some v) : (aR W)[i]? = some (.int .i64 v) := by simp [aR, h]
theorem aEm (n : Nat) : List.replicate n (Value.int .i64 0) = aR (List.replicate n 0) := by simp [aR]
theorem Xn (W : List Int) (v : Int) : aR W ++ [.int .i64 v] = aR (W ++ [v]) := by simp [aR]
theorem kD.of {q : Piece} {gU n : Nat} {vals : List Value} {U : List (List Int)} (h1 : ∃ F, (HP.aE gU 22 vals).sat F q.w ∧ ∀ b, F b → q.Z b) (h2 : ∃ F, (HP.many (HU vals U)).sat F q.w ∧ ∀ b, F b → q.Z b) (hv : vals.length = n) (hU : U.length = n) : kD q (some ⟨gU, 0, none⟩) n U := by
 obtain ⟨F1, s1, z1⟩ := h1
 obtain ⟨F2, ⟨G, s2, g2, _⟩, z2⟩ := h2
 refine ⟨vals.map fun v => [v], ?_, hU.symm, ?_⟩
 ·have key : ∀ (vals : List Value) (U : List (List Int)), vals.length = U.length → (∀ (i : Nat) (v : Value) (l : List Int), vals[i]? = some v → U[i]? = some l → nW (dR q) l [v]) → Rows (nW (dR q)) 1 U (vals.map fun v => [v]) := by
   intro vals
   induction vals with
   | nil => intro U h _; cases U with
    | nil => trivial
    | cons => simp at h
   | cons v vals ih => intro U h hk; cases U with
    | nil => simp at h
    | cons l U => exact ⟨rfl, hk 0 v l rfl rfl, ih U (by simpa using h) (fun i v l h1 h2 => hk (i + 1) v l (by simpa using h1) (by simpa using h2))⟩
  refine key vals U (hv.trans hU.symm) fun i v l h1 h2 => ?_
  obtain ⟨A, c, rfl, hs⟩ := aI.qS (Y := q.Z) (s2 i _ (aBf h1 h2)) (fun b hb => z2 b (g2 i b hb))
  exact ⟨A, l.length, c, rfl, rfl, hs⟩
 ·rw [show (vals.map fun v => [v]).flatten = vals by clear s1 s2 hv; induction vals <;> simp_all]
  exact aI.oG (c := 0) s1 z1 (by omega)
theorem Yi (v : Nat) : ∀ (l : List Int) (s : List Int × List (List Int) × List Int), (l.foldl (hstep v) s).2.2.length ≤ s.2.2.length + l.length
 | [], s => by simp
 | u :: l, s => by
  have := Yi v l (hstep v s u)
  have h2 : (hstep v s u).2.2.length ≤ s.2.2.length + 1 := by rw [Ye]; split <;> simp
  simp only [List.foldl_cons, List.length_cons]
  omega
theorem aFc {g : List (List Int)} (hg : rM g) {k j : Nat} {l : List Int} (hl : g[k]? = some l) {s : List Int × List (List Int) × List Int} (hs : s = (l.take j).foldl (hstep k) ((dX g k).1, (dX g k).2, [])) :
  s.1.length = g.length ∧ s.2.1.length = g.length ∧ s.1[k]? = some (s.2.2.length : Int) ∧ s.2.2.length ≤ j ∧ ∀ (u : Nat) x, s.2.1[u]? = some x → x.length ≤ k + 1 := by
 have hk : k < g.length := (List.getElem?_eq_some_iff.1 hl).1
 have h1 := Qk k (l.take j) ((dX g k).1, (dX g k).2, [])
 have h2 := Cg g k
 have h3 := Gn hg k (by omega)
 have hmem : ∀ u ∈ l, 0 ≤ u ∧ u < g.length := hg l (List.mem_of_getElem? hl)
 subst hs
 refine ⟨h1.1.trans h2.1, h1.2.trans h2.2, ?_, ?_, fun u x hx => ?_⟩
 ·exact Qj k _ _ (by rw [h2.1]; exact hk) (by rw [h3.1 k hk]; simp)
 ·have := Yi k (l.take j) ((dX g k).1, (dX g k).2, [])
  simp only [List.length_nil, List.length_take] at this
  omega
 ·have hu : u < g.length := by
   have := (List.getElem?_eq_some_iff.1 hx).1
   rw [h1.2, h2.2] at this
   exact this
  have h4 := Qi k (l.take j) ((dX g k).1, (dX g k).2, []) u (fun y hy => by rw [h2.2]; exact hmem y (List.mem_of_mem_take hy)) (by rw [h2.2]; exact hu)
  rw [h4] at hx
  cases hx
  obtain ⟨z, hz⟩ : ∃ z, (dX g k).2[u]? = some z := ⟨_, List.getElem?_eq_getElem (by rw [h2.2]; exact hu)⟩
  have h5 := aFb hg (by omega : k ≤ g.length) hz
  simp only [hz, Option.getD_some, List.length_append]
  split <;> simp <;> omega
theorem aEZ {g : List (List Int)} {k j : Nat} {l : List Int} {u : Int} (hu : l[j]? = some u) (s0 : List Int × List (List Int) × List Int) : (l.take (j + 1)).foldl (hstep k) s0 = hstep k ((l.take j).foldl (hstep k) s0) u := by
 rw [List.take_add_one, hu, Option.toList_some, List.foldl_append]; rfl
theorem aEY {g : List (List Int)} {k : Nat} {l : List Int} (hl : g[k]? = some l) : dX g (k + 1) = (((l.take l.length).foldl (hstep k) ((dX g k).1, (dX g k).2, [])).1, ((l.take l.length).foldl (hstep k) ((dX g k).1, (dX g k).2, [])).2.1) := by
 rw [List.take_length, dX, hl]; rfl
def aBd (g : List (List Int)) (n : Nat) (v : Value) (hs : List HP) (q : Piece) : Prop := ∃ gW gU : Nat, v = .tuple #[.slice (some ⟨gW, 0, none⟩) n n, .slice (some ⟨gU, 0, none⟩) n n] ∧ hs = [HP.aE gW 3 (aR (dX g n).1)] ∧ kD q (some ⟨gU, 0, none⟩) n (dX g n).2
theorem aFa (A : Option Addr) (n c : Nat) (g : List (List Int)) (w : World) (hg : kD (all w) A n g) (hn : n = g.length) (hn2 : n ≤ 100) (hin : rM g) (hlen : ∀ l ∈ g, (l.length : Int) ≤ 9223372036854775806) :
  Calls Tryz.prog 257 #[.slice A n c] w (fun y w' => (∃ v hs q, y = .returned v ∧ q.w = w' ∧ aBd g n v hs q ∧ jN w hs q) ∧ Below w.heap.size w w') := by
 refine XK.enter (vs := [.slice A n c]) Tryz.func257 rfl Tryz.ntmps257 (by simp) ?_
 refine XK.seq ?_
 refine XK.region ?_
 refine aH rfl (by decide) ?_
 refine aH rfl (by decide) ?_
 refine XK.aA ?_
 refine XK.seq ?_
 refine XK.region ?_
 refine aF rfl (by decide) ?_
 refine cY (el := 22) (by kernel_rfl) rfl (by decide) ?_
 refine jQ 8 (el := 3) (z := .int .i64 0) (by kernel_rfl) (by kernel_rfl) rfl rfl rfl (by omega) (by omega) (by decide) fun gW => ?_
 refine aH rfl (by decide) ?_
 refine XK.aA ?_
 refine XK.seq ?_
 refine XK.region ?_
 refine aF rfl (by decide) ?_
 refine cY (el := 22) (by kernel_rfl) rfl (by decide) ?_
 refine jQ 24 (el := 22) (z := .slice none 0 0) (by kernel_rfl) (by kernel_rfl) rfl rfl rfl (by omega) (by omega) (by decide) fun gU => ?_
 refine aH rfl (by decide) ?_
 refine XK.aA ?_
 refine XK.seq ?_
 refine XK.seq ?_
 refine XK.region ?_
 refine aF rfl (by decide) ?_
 refine cY (el := 22) (by kernel_rfl) rfl (by decide) ?_
 refine aF rfl (by decide) ?_
 refine XK.aA ?_
 refine XK.aL [(17, .int .i64 0), (16, .int .i64 n), (15, .slice A n c), (3, .slice (some ⟨gU, 0, none⟩) n n), (2, .slice (some ⟨gW, 0, none⟩) n n)] ?_
 refine XK.aD8 n 3 1 ?_
 refine XK.block ?_
 refine XK.loop (fun m e R H => ∃ (k : Nat) (vals : List Value), k ≤ n ∧ m = n - k ∧ vals.length = n ∧ e = [(17, .int .i64 k), (16, .int .i64 n), (15, .slice A n c), (3, .slice (some ⟨gU, 0, none⟩) n n), (2, .slice (some ⟨gW, 0, none⟩) n n)] ∧ R = [all w] ∧ H = [HP.many (HU vals (dX g k).2), HP.aE gU 22 vals, HP.aE gW 3 (aR (dX g k).1)]) n ⟨0, List.replicate n (.slice none 0 0), by omega, rfl, by simp, rfl, rfl, by rw [dX, ← hn, aHd, ← aEm]⟩ fun m e R H hI => ?_
 obtain ⟨k, vals, hk, rfl, hv, rfl, rfl, rfl⟩ := hI
 refine XK.seq ?_
 refine XK.region ?_
 refine fB rfl rfl (by decide) ?_
 refine XK.aA ?_
 refine XK.seq ?_
 refine XK.if_ rfl (fun h => ?_) (fun h => ?_)
 ·
  refine XK.skip ?_
  refine XK.norm ?_
  refine XK.seq ?_
  refine XK.block ?_
  refine XK.seq ?_
  have hkn : k < n := by omega
  obtain ⟨l, hl⟩ : ∃ l, g[k]? = some l := ⟨g[k]'(by omega), List.getElem?_eq_getElem _⟩
  obtain ⟨b, off, B, c2, rfl, c1, oL⟩ := hg.row hl
  have tL := hlen l (List.mem_of_getElem? hl)
  have hmem := hin l (List.mem_of_getElem? hl)
  refine XK.region ?_
  refine aF rfl (by decide) ?_
  refine dB (k) (off + k) (el := 22) (sz := 1) (by kernel_rfl) (by kernel_rfl) rfl rfl (by omega) (by omega) (by omega) (by decide) ?_
  refine aZ rfl ?_
  refine aH rfl (by decide) ?_
  refine aH rfl (by decide) ?_
  refine XK.aA ?_
  refine XK.seq ?_
  refine XK.region ?_
  refine Uj (by decide) fun r => ?_
  refine aH rfl (by decide) ?_
  refine XK.aA ?_
  refine XK.seq ?_
  refine XK.region ?_
  refine aF rfl (by decide) ?_
  refine cY (el := 3) (by kernel_rfl) rfl (by decide) ?_
  refine aF rfl (by decide) ?_
  refine XK.aA ?_
  refine XK.aL [(25, .int .i64 0), (24, .int .i64 l.length), (23, .slice B l.length c2), (6, .map (some r)), (4, .int .i64 k), (17, .int .i64 k), (16, .int .i64 n), (15, .slice (some ⟨b, off, none⟩) n c), (3, .slice (some ⟨gU, 0, none⟩) n n), (2, .slice (some ⟨gW, 0, none⟩) n n)] ?_
  refine XK.block ?_
  refine XK.loop (fun m e R H => ∃ (j : Nat) (vals : List Value) (s : List Int × List (List Int) × List Int), j ≤ l.length ∧ m = l.length - j ∧ vals.length = n ∧ s = (l.take j).foldl (hstep k) ((dX g k).1, (dX g k).2, []) ∧ e = [(25, .int .i64 j), (24, .int .i64 l.length), (23, .slice B l.length c2), (6, .map (some r)), (4, .int .i64 k), (17, .int .i64 k), (16, .int .i64 n), (15, .slice (some ⟨b, off, none⟩) n c), (3, .slice (some ⟨gU, 0, none⟩) n n), (2, .slice (some ⟨gW, 0, none⟩) n n)] ∧ R = [all w] ∧ H = [HP.map r (jA s.2.2), HP.many (HU vals s.2.1), HP.aE gU 22 vals, HP.aE gW 3 (aR s.1)]) l.length ⟨0, vals, _, by omega, rfl, hv, rfl, rfl, rfl, rfl⟩ fun m e R H hI => ?_
  obtain ⟨j, vals, s, hj, rfl, hv, hs, rfl, rfl, rfl⟩ := hI
  refine XK.seq ?_
  refine XK.region ?_
  refine fB rfl rfl (by decide) ?_
  refine XK.aA ?_
  refine XK.seq ?_
  refine XK.if_ rfl (fun h => ?_) (fun h => ?_)
  ·
   refine XK.skip ?_
   refine XK.norm ?_
   refine XK.seq ?_
   refine XK.block ?_
   refine XK.seq ?_
   have hjl : j < l.length := by omega
   obtain ⟨b2, off2, rfl, kR, tT⟩ := oL.2 (by omega)
   obtain ⟨u, hu⟩ : ∃ u, l[j]? = some u := ⟨l[j]'(by omega), List.getElem?_eq_getElem _⟩
   have c3 : eK w b2 (off2 + j) (.int .i64 u) := ⟨kR, tT j _ (by simp [aR, hu])⟩
   obtain ⟨hW, hU, Zp, hM, Zr⟩ := aFc hin hl hs
   obtain ⟨hu0, hun⟩ := hmem u (List.mem_of_getElem? hu)
   obtain ⟨vu, Xz⟩ : ∃ v, vals[u.toNat]? = some v := ⟨_, List.getElem?_eq_getElem (by omega)⟩
   obtain ⟨Uu, Rq⟩ : ∃ x, s.2.1[u.toNat]? = some x := ⟨_, List.getElem?_eq_getElem (by omega)⟩
   have aHu := Zr _ _ Rq
   have qX := aEZ (g := g) (k := k) hu ((dX g k).1, (dX g k).2, [])
   rw [← hs] at qX
   refine XK.region ?_
   refine dB (j) (off2 + j) (el := 3) (sz := 1) (by kernel_rfl) (by kernel_rfl) rfl rfl (by omega) (by omega) (by omega) (by decide) ?_
   refine aZ rfl ?_
   refine aH rfl (by decide) ?_
   refine XK.aA ?_
   refine XK.seq ?_
   refine XK.seq ?_
   refine XK.region ?_
   refine aF rfl (by decide) ?_
   refine aF rfl (by decide) ?_
   refine bA (f := 195) (fi := []) (ca := []) (by kernel_rfl) rfl rfl (by decide) (fun w1 st => Xe r u s.2.2 w1 (st.map (i := 0) rfl)) ?_
   refine XK.aA ?_
   refine XK.cond rfl (fun h => ?_) (fun h => ?_)
   ·
    refine XK.exit ?_
    refine XK.norm ?_
    refine XK.region ?_
    refine dD rfl rfl (aY (by omega)) (by decide) ?_
    refine aF rfl (by decide) ?_
    refine XK.aA ?_
    exact XK.aL [(25, .int .i64 (j + 1)), (24, .int .i64 l.length), (23, .slice (some ⟨b2, off2, none⟩) l.length c2), (6, .map (some r)), (4, .int .i64 k), (17, .int .i64 k), (16, .int .i64 n), (15, .slice (some ⟨b, off, none⟩) n c), (3, .slice (some ⟨gU, 0, none⟩) n n), (2, .slice (some ⟨gW, 0, none⟩) n n)] (XK.round (l.length - (j + 1)) (by omega) ⟨j + 1, vals, _, by omega, rfl, hv, qX.symm, rfl, rfl, by rw [hstep, if_pos h]⟩)
   ·
    refine XK.skip ?_
    refine XK.norm ?_
    refine XK.seq ?_
    refine XK.region ?_
    refine aF rfl (by decide) ?_
    refine aF rfl (by decide) ?_
    refine Ng (f := 194) (fi := []) (ca := []) 0 (HP.map r (jA (if s.2.2.contains u then s.2.2 else s.2.2 ++ [u]))) (by kernel_rfl) rfl rfl rfl ⟨by decide, rfl⟩ (fun w1 F st hp hF => Xf r u s.2.2 w1 F hp hF) ?_
    dsimp only [List.set]
    refine XK.aA ?_
    refine XK.seq ?_
    refine XK.region ?_
    refine aF rfl (by decide) ?_
    refine aF rfl (by decide) ?_
    refine dB (k) (k) (el := 3) (sz := 1) (by kernel_rfl) (by kernel_rfl) rfl rfl (by omega) (by omega) (by omega) (by decide) ?_
    refine fI (by kernel_rfl) rfl (Rd.aE 3 rfl (Kj Zp)) (by decide) ?_
    refine dD rfl rfl (aY (by omega)) (by decide) ?_
    refine dB (k) (k) (el := 3) (sz := 1) (by kernel_rfl) (by kernel_rfl) rfl rfl (by omega) (by omega) (by omega) (by decide) ?_
    refine wW 3 rfl (by kernel_rfl) rfl rfl rfl (by simp [aR]; omega) ?_
    dsimp only [List.set]
    rw [Xo]
    refine XK.aA ?_
    refine XK.region ?_
    refine aF rfl (by decide) ?_
    refine aF rfl (by decide) ?_
    refine aF rfl (by decide) ?_
    refine aF rfl (by decide) ?_
    refine dB (u.toNat) (u.toNat) (el := 22) (sz := 1) (by kernel_rfl) (by kernel_rfl) rfl rfl (by omega) (by omega) (by omega) (by decide) ?_
    refine fI (by kernel_rfl) rfl (Rd.aE 2 rfl Xz) (by decide) ?_
    refine XK.take 1 u.toNat rfl (aBf Xz Rq) ?_
    dsimp only [List.set]
    refine aF rfl (by decide) ?_
    refine eZ (el := 3) (sz := 1) (zs := [.int .i64 0]) (by kernel_rfl) (aM (by kernel_rfl)) (by kernel_rfl) rfl (by decide) (by decide) rfl (by simp [aS, aT, Value.cells, List.range_succ, List.set]; rfl) (by decide) fun g3 => ?_
    refine fA 1 1 8 1 (n' := Uu.length + 1) (el := 3) (by kernel_rfl) (by kernel_rfl) (by decide) rfl rfl rfl (jY 0 rfl rfl) (by simp [Value.oneCell']) rfl (by omega) (by omega) (by decide) fun A' k' => ?_
    dsimp only [List.set]
    rw [Xn]
    refine dB (u.toNat) (u.toNat) (el := 22) (sz := 1) (by kernel_rfl) (by kernel_rfl) rfl rfl (by omega) (by omega) (by omega) (by decide) ?_
    refine wW 4 rfl (by kernel_rfl) rfl rfl rfl (by omega) ?_
    dsimp only [List.set]
    refine XK.weak [1, 2, 3, 4, 5] rfl (by decide) (fun _ hp => hp) ?_
    refine XK.bF 1 u.toNat rfl (by rw [List.getElem?_set_self (by simp [HU]; omega)]) ?_
    dsimp only [List.set]
    rw [List.set_set, show Uu.length + 1 = (Uu ++ [(k : Int)]).length by simp, aBe]
    refine XK.aA ?_
    refine XK.region ?_
    refine dD rfl rfl (aY (by omega)) (by decide) ?_
    refine aF rfl (by decide) ?_
    refine XK.aA ?_
    exact XK.aL [(25, .int .i64 (j + 1)), (24, .int .i64 l.length), (23, .slice (some ⟨b2, off2, none⟩) l.length c2), (6, .map (some r)), (4, .int .i64 k), (17, .int .i64 k), (16, .int .i64 n), (15, .slice (some ⟨b, off, none⟩) n c), (3, .slice (some ⟨gU, 0, none⟩) n n), (2, .slice (some ⟨gW, 0, none⟩) n n)] (XK.round (l.length - (j + 1)) (by omega) ⟨j + 1, vals.set u.toNat (.slice A' (Uu ++ [(k : Int)]).length k'), _, by omega, rfl, by simpa using hv, qX.symm, rfl, rfl, by rw [hstep, if_neg (by rw [h]; decide), if_neg (by rw [h]; decide), Zp, Rq]; rfl⟩)
  ·
   refine XK.exit ?_
   refine XK.norm ?_
   refine XK.region ?_
   obtain rfl : j = l.length := by omega
   have hrw := aEY hl
   rw [← hs] at hrw
   refine dD rfl rfl (aY (by omega)) (by decide) ?_
   refine aF rfl (by decide) ?_
   refine XK.aA ?_
   exact XK.weak [1, 2, 3] rfl (by decide) (by simp) (XK.aL [(17, .int .i64 (k + 1)), (16, .int .i64 n), (15, .slice (some ⟨b, off, none⟩) n c), (3, .slice (some ⟨gU, 0, none⟩) n n), (2, .slice (some ⟨gW, 0, none⟩) n n)] (XK.round (n - (k + 1)) (by omega) ⟨k + 1, vals, by omega, rfl, hv, rfl, rfl, by rw [hrw]⟩))
 ·
  refine XK.exit ?_
  refine XK.norm ?_
  refine XK.seq ?_
  obtain rfl : k = n := by omega
  have Zr := (Cg g k).2
  refine XK.region ?_
  refine aF rfl (by decide) ?_
  refine aF rfl (by decide) ?_
  refine aH rfl (by decide) ?_
  refine aH rfl (by decide) ?_
  refine XK.aA ?_
  refine XK.ret ?_
  refine XK.norm ?_
  refine XK.still [] [0, 1] [2] (by simp) rfl (by decide) (by decide) fun q hq _ hfr => ?_
  refine XK.fQ rfl rfl rfl fun w1 st => ⟨⟨_, _, ⟨w1, q.Z⟩, rfl, rfl, ⟨gW, gU, rfl, rfl, ?_⟩, st.newR (by simp) (by simp) (hfr (by simp) (by simp))⟩, st.below (by simp)⟩
  exact (kD.of (hq 1 _ (by simp) rfl) (hq 0 _ (by simp) rfl) hv (by omega)).le fun b hb => ⟨hb, st.ro (by simp) hb⟩
end
section
def gJ (M : List Nat) : List Int := M.map Int.ofNat
def oF (g : List (List Int)) (M : List Nat) (v : Nat) : Bool := !(M.contains v) && (g[v]?.getD []).all fun u => M.contains u.toNat
def pS (g : List (List Int)) (M : List Nat) (v : Nat) : Nat := ((wI (g[v]?.getD [])).filter fun u => !(M.contains u.toNat)).length
def qO (g : List (List Int)) (M : List Nat) : List Int := (List.range g.length).map fun v => (pS g M v : Int)
def nB (W : List Int) (us : List Int) : List Int := us.foldl (fun W u => W.set u.toNat (W[u.toNat]?.getD 0 - 1)) W
def iB (g : List (List Int)) (v : Nat) : List Int := ((List.range g.length).filter fun x => (g[x]?.getD []).contains (v : Int)).map Int.ofNat
def kO (g : List (List Int)) : Int × List Nat := if lG g ≠ 0 then (lG g, []) else match nL g g.length [] with
 | some M => (0, M)
 | none => (5, [])
theorem Ww (M : List Nat) (v : Nat) : (gJ M).contains (v : Int) = M.contains v := by
 rw [Bool.eq_iff_iff]
 simp only [gJ, List.contains_iff_mem, List.mem_map]
 constructor
 ·rintro ⟨a, h, e⟩
  have : a = v := Int.ofNat.inj e
  exact this ▸ h
 ·exact fun h => ⟨v, h, rfl⟩
theorem Wv (M : List Nat) (v : Nat) : gJ (M ++ [v]) = gJ M ++ [(v : Int)] := by simp [gJ]
theorem Dx {g : List (List Int)} {M : List Nat} {v : Nat} (h : v < g.length) : (qO g M)[v]? = some (pS g M v : Int) := by simp [qO, h]
theorem Bk (g : List (List Int)) (M : List Nat) : (qO g M).length = g.length := by simp [qO]
theorem Sm (l : List Int) : ∀ (a : List Int), (∀ u, u ∈ l.foldl (fun a u => if a.contains u then a else a ++ [u]) a ↔ u ∈ a ∨ u ∈ l) ∧ (a.Nodup → (l.foldl (fun a u => if a.contains u then a else a ++ [u]) a).Nodup) ∧ (l.foldl (fun a u => if a.contains u then a else a ++ [u]) a).length ≤ a.length + l.length := by
 induction l with
 | nil => intro a; simp
 | cons x l ih =>
  intro a
  rw [List.foldl_cons]
  obtain ⟨h1, h2, h3⟩ := ih (if a.contains x then a else a ++ [x])
  refine ⟨fun u => ?_, fun hn => h2 ?_, ?_⟩
  ·rw [h1]
   split
   ·rename_i hc
    have : x ∈ a := by simpa using hc
    constructor
    ·rintro (h | h)
     ·exact .inl h
     ·exact .inr (by simp [h])
    ·rintro (h | h)
     ·exact .inl h
     ·rcases List.mem_cons.1 h with rfl | h
      ·exact .inl this
      ·exact .inr h
   ·simp [or_assoc]
  ·split
   ·exact hn
   ·rename_i hc
    have : x ∉ a := by simpa using hc
    rw [List.nodup_append]
    refine ⟨hn, by simp, fun y hy z hz => ?_⟩
    simp at hz
    subst hz
    exact fun e => this (e ▸ hy)
  ·refine Nat.le_trans h3 ?_
   split <;> simp <;> omega
theorem Ls (l : List Int) (u : Int) : u ∈ wI l ↔ u ∈ l := by have := (Sm l []).1 u; simpa [wI] using this
theorem aFS (l : List Int) : (wI l).Nodup := (Sm l []).2.1 List.nodup_nil
theorem aFT (l : List Int) : (wI l).length ≤ l.length := by have := (Sm l []).2.2; simpa [wI] using this
theorem aBM (g : List (List Int)) (M : List Nat) (v : Nat) : pS g M v ≤ (g[v]?.getD []).length := Nat.le_trans (List.length_filter_le _ _) (aFT _)
theorem Us (g : List (List Int)) (M : List Nat) (v : Nat) : pS g M v = 0 ↔ ((g[v]?.getD []).all fun u => M.contains u.toNat) = true := by
 unfold pS
 rw [List.length_eq_zero_iff, List.filter_eq_nil_iff, List.all_eq_true]
 constructor
 ·intro h u hu
  have := h u ((Ls _ _).2 hu)
  simpa using this
 ·intro h u hu
  have := h u ((Ls _ _).1 hu)
  simpa using this
theorem Oo {g : List (List Int)} {M : List Nat} {v : Nat} (h : M.contains v = true) : oF g M v = false := by rw [oF, h]; rfl
theorem aDz {g : List (List Int)} {M : List Nat} {v : Nat} (h : (pS g M v : Int) > 0) : oF g M v = false := by
 have : ¬ pS g M v = 0 := by omega
 rw [Us] at this
 rw [oF]
 simp only [Bool.not_eq_true] at this
 rw [this, Bool.and_false]
theorem aD0 {g : List (List Int)} {M : List Nat} {v : Nat} (h : M.contains v = false) (h2 : ¬ (pS g M v : Int) > 0) : oF g M v = true := by
 have : pS g M v = 0 := by omega
 rw [Us] at this
 rw [oF, h, this]
 rfl
theorem aDA {g : List (List Int)} {M : List Nat} (h : ∀ j, j < g.length → oF g M j = false) : xI g M = none := by
 unfold xI
 rw [List.find?_eq_none]
 intro x hx
 have := h x (by simpa using hx)
 unfold oF at this
 rw [this]
 simp
theorem Wu {g : List (List Int)} {M : List Nat} {v : Nat} (hv : v < g.length) (h : ∀ j, j < v → oF g M j = false) (hk : oF g M v = true) : xI g M = some v := by
 unfold xI
 rw [List.find?_range_eq_some]
 refine ⟨hk, by simpa using hv, fun j hj => ?_⟩
 have := h j hj
 unfold oF at this
 rw [this]
 rfl
theorem aDt {g : List (List Int)} {M : List Nat} {v k : Nat} (h : xI g M = some v) : nL g (k + 1) M = nL g k (M ++ [v]) := by rw [nL, h]
theorem aDs {g : List (List Int)} {M : List Nat} {k : Nat} (h : xI g M = none) : nL g (k + 1) M = none := by rw [nL, h]
theorem Ss : ∀ (us W : List Int), (nB W us).length = W.length
 | [], W => rfl
 | u :: us, W => by rw [nB, List.foldl_cons]; have := Ss us (W.set u.toNat (W[u.toNat]?.getD 0 - 1)); rw [nB] at this; rw [this]; simp
theorem aGr {us W : List Int} {j : Nat} {u : Int} (h : us[j]? = some u) : nB W (us.take (j + 1)) = (nB W (us.take j)).set u.toNat ((nB W (us.take j))[u.toNat]?.getD 0 - 1) := by
 rw [List.take_add_one, h, Option.toList_some, nB, List.foldl_append]; rfl
theorem Su : ∀ (us W : List Int) (x : Nat), (∀ u ∈ us, 0 ≤ u) → x < W.length → (nB W us)[x]? = some (W[x]?.getD 0 - (us.count (x : Int) : Int))
 | [], W, x, _, h => by simp [nB, h]
 | u :: us, W, x, hu, h => by
  rw [nB, List.foldl_cons]
  have := Su us (W.set u.toNat (W[u.toNat]?.getD 0 - 1)) x (fun y hy => hu y (by simp [hy])) (by simpa using h)
  rw [nB] at this
  rw [this]
  have h0 := hu u (by simp)
  congr 1
  by_cases e : u = (x : Int)
  ·subst e
   have e2 : ((x : Int)).toNat = x := by simp
   rw [e2, List.getElem?_set_self h, List.count_cons_self]
   simp only [Option.getD_some]
   omega
  ·have e2 : u.toNat ≠ x := by omega
   rw [List.getElem?_set_ne e2, List.count_cons_of_ne e]
theorem Nr {g : List (List Int)} {v : Nat} {u : Int} (h : u ∈ iB g v) : 0 ≤ u ∧ u < g.length := by
 simp only [iB, List.mem_map, List.mem_filter, List.mem_range] at h
 obtain ⟨a, ⟨h1, _⟩, rfl⟩ := h
 simp; omega
theorem aBP (g : List (List Int)) (v : Nat) : (iB g v).length ≤ g.length := by
 rw [iB, List.length_map]
 have := List.length_filter_le (fun x => (g[x]?.getD []).contains (v : Int)) (List.range g.length)
 simpa using this
theorem aBQ {g : List (List Int)} {v x : Nat} (hx : x < g.length) : (iB g v).count (x : Int) = if (g[x]?.getD []).contains (v : Int) then 1 else 0 := by
 have hnd : (iB g v).Nodup := List.Pairwise.map _ (fun a b h e => h (Int.ofNat.inj e)) (List.Pairwise.filter _ List.nodup_range)
 rw [List.Nodup.count hnd]
 have : ((x : Int) ∈ iB g v) ↔ (g[x]?.getD []).contains (v : Int) = true := by
  simp only [iB, List.mem_map, List.mem_filter, List.mem_range]
  constructor
  ·rintro ⟨a, ⟨_, h⟩, e⟩
   have : a = x := Int.ofNat.inj e
   exact this ▸ h
  ·intro h; exact ⟨x, ⟨hx, h⟩, rfl⟩
 by_cases h : (g[x]?.getD []).contains (v : Int) = true
 ·rw [if_pos (this.2 h), if_pos h]
 ·rw [if_neg (fun e => h (this.1 e)), if_neg h]
theorem filter_one {l : List Int} (hn : l.Nodup) {p q : Int → Bool} {a : Int} (ha : p a = true) (hq : ∀ u ∈ l, q u = (p u && decide (u ≠ a))) : (l.filter p).length = (l.filter q).length + if l.contains a then 1 else 0 := by
 induction l with
 | nil => simp
 | cons x l ih =>
  have hn' := List.nodup_cons.1 hn
  have ih := ih hn'.2 (fun u hu => hq u (by simp [hu]))
  have hx := hq x (by simp)
  by_cases e : x = a
  ·subst e
   have hc : ¬ l.contains x = true := by simpa using hn'.1
   rw [if_neg hc] at ih
   have tT : (x :: l).contains x = true := by simp
   rw [if_pos tT, List.filter_cons_of_pos ha, List.filter_cons_of_neg (by rw [hx]; simp), List.length_cons, ih]
  ·have hc : (x :: l).contains a = l.contains a := by
    rw [List.contains_cons]
    have : (a == x) = false := by simp; exact fun h => e h.symm
    rw [this, Bool.false_or]
   rw [hc]
   by_cases hp : p x = true
   ·rw [List.filter_cons_of_pos hp, List.filter_cons_of_pos (by rw [hx, hp]; simp [e]), List.length_cons, List.length_cons, ih]
    omega
   ·rw [List.filter_cons_of_neg hp, List.filter_cons_of_neg (by rw [hx]; simp [hp]), ih]
theorem aBL {g : List (List Int)} (hg : rM g) {M : List Nat} {v x : Nat} (hv : M.contains v = false) (hx : x < g.length) : (pS g M x : Int) - (if (g[x]?.getD []).contains (v : Int) then 1 else 0) = pS g (M ++ [v]) x := by
 have hin : ∀ u ∈ g[x]?.getD [], 0 ≤ u := fun u hu => by
  have h1 : g[x]? = some (g[x]'hx) := List.getElem?_eq_getElem _
  rw [h1] at hu
  exact (hg _ (List.getElem_mem _) u hu).1
 have key := filter_one (aFS (g[x]?.getD [])) (p := fun u => !(M.contains u.toNat)) (q := fun u => !((M ++ [v]).contains u.toNat)) (a := (v : Int)) (by simp only [Int.toNat_natCast]; rw [hv]; rfl) (fun u hu => by
  have h0 := hin u ((Ls _ _).1 hu)
  have hiff : (u.toNat = v) ↔ u = (v : Int) := by omega
  simp only [List.contains_eq_mem, List.mem_append, List.mem_singleton, hiff, Bool.decide_or, Bool.not_or, decide_not])
 have hc : (wI (g[x]?.getD [])).contains (v : Int) = (g[x]?.getD []).contains (v : Int) := by
  rw [Bool.eq_iff_iff]; simp only [List.contains_iff_mem]; exact Ls _ _
 rw [hc] at key
 unfold pS
 rw [key]
 split <;> omega
theorem aBJ {g : List (List Int)} (hg : rM g) {M : List Nat} {v : Nat} (hv : M.contains v = false) : nB (qO g M) (iB g v) = qO g (M ++ [v]) := by
 apply List.ext_getElem?
 intro x
 rcases Nat.lt_or_ge x g.length with hx | hx
 ·rw [Su _ _ _ (fun u hu => (Nr hu).1) (by rw [Bk]; exact hx), Dx hx, Dx hx, aBQ hx]
  congr 1
  have := aBL hg hv hx
  simp only [Option.getD_some]
  rw [← this]
  split <;> rfl
 ·rw [List.getElem?_eq_none (by rw [Ss, Bk]; exact hx), List.getElem?_eq_none (by rw [Bk]; exact hx)]
theorem aBI {g : List (List Int)} (hg : rM g) : (dX g g.length).1 = qO g [] := by
 apply List.ext_getElem?
 intro x
 rcases Nat.lt_or_ge x g.length with hx | hx
 ·rw [(Gn hg g.length (Nat.le_refl _)).1 x hx, Dx hx, if_pos hx]
  congr 2
  unfold pS
  rw [List.filter_eq_self.2 (by simp)]
 ·rw [List.getElem?_eq_none (by rw [(Cg g _).1]; exact hx), List.getElem?_eq_none (by rw [Bk]; exact hx)]
theorem aBO {g : List (List Int)} (hg : rM g) {v : Nat} (hv : v < g.length) : (dX g g.length).2[v]? = some (iB g v) := (Gn hg g.length (Nat.le_refl _)).2 v hv
end
section
theorem aBK (W us : List Int) (j : Nat) (u x : Int) (hj : us[j]? = some u) (hx : (nB W (us.take j))[u.toNat]? = some x) : (aR (nB W (us.take j))).set u.toNat (.int .i64 (x - 1)) = aR (nB W (us.take (j + 1))) := by
 rw [Xo, aGr hj, hx]; rfl
theorem aDw {g : List (List Int)} (h : lG g ≠ 0) : kO g = (lG g, []) := by unfold kO; rw [if_pos h]
theorem aDv {g : List (List Int)} (h0 : lG g = 0) (h : nL g g.length [] = none) : kO g = (5, []) := by unfold kO; rw [if_neg (by simp [h0]), h]
theorem aDu {g : List (List Int)} {M : List Nat} (h0 : lG g = 0) (h : nL g g.length [] = some M) : kO g = (0, M) := by unfold kO; rw [if_neg (by simp [h0]), h]
theorem aD3 {g : List (List Int)} (h : lG g = 0) : g.length ≤ 100 ∧ rM g := by
 unfold lG at h
 split at h
 ·cases h
 ·split at h
  ·cases h
  ·rename_i h1 h2; exact ⟨by omega, rM.of (by simpa using h2)⟩
def Ii (w : World) (M : List Nat) (err : Int) (y : Ending) (w' : World) : Prop := (∃ A m c, y = .returned (.tuple #[.slice A m c, .int .i64 err]) ∧ m = M.length ∧ aI (fresh w w') 1 A m (aR (gJ M))) ∧ Below w.heap.size w w'
theorem Ii.nil {w w' : World} {err : Int} (h : Below w.heap.size w w') : Ii w [] err (.returned (.tuple #[.slice none 0 0, .int .i64 err])) w' := ⟨⟨none, 0, 0, rfl, rfl, aI.nil _ 1⟩, h⟩
theorem aDr (A : Option Addr) (n c : Nat) (g : List (List Int)) (w : World) (hg : kD (all w) A n g) (hn : n = g.length) (hn2 : (n : Int) ≤ 9223372036854775806) (hlen : ∀ l ∈ g, (l.length : Int) ≤ 9223372036854775806) :
  Calls Tryz.prog 241 #[.slice A n c] w (Ii w (kO g).2 (kO g).1) := by
 refine XK.enter (vs := [.slice A n c]) Tryz.func241 rfl Tryz.ntmps241 (by simp) ?_
 refine XK.seq ?_
 refine XK.region ?_
 refine aH rfl (by decide) ?_
 refine aH rfl (by decide) ?_
 refine XK.aA ?_
 refine XK.seq ?_
 refine XK.seq ?_
 refine XK.region ?_
 refine aF rfl (by decide) ?_
 refine bA (f := 256) (fi := []) (ca := []) (by kernel_rfl) rfl rfl (by decide) (fun w1 st => aD4 A n c g w1 (hg.le (fF (st.started (by simp)))) hn hn2 hlen) ?_
 refine aH rfl (by decide) ?_
 refine XK.aA ?_
 refine XK.seq ?_
 refine XK.region ?_
 refine aF rfl (by decide) ?_
 refine mQ rfl rfl (by decide) ?_
 refine XK.aA ?_
 refine XK.if_ rfl (fun h => ?_) (fun h => ?_)
 ·
  refine XK.seq ?_
  refine XK.region ?_
  refine aF rfl (by decide) ?_
  refine aH rfl (by decide) ?_
  refine aH rfl (by decide) ?_
  refine XK.aA ?_
  refine XK.ret ?_
  refine XK.norm ?_
  exact XK.fQ rfl rfl rfl fun w1 st => by
   rw [aDw h]
   exact Ii.nil (st.below (by simp))
 ·
  have h0 : lG g = 0 := Classical.byContradiction h
  obtain ⟨aHm, hin⟩ := aD3 h0
  refine XK.skip ?_
  refine XK.norm ?_
  refine XK.seq ?_
  refine XK.region ?_
  refine aF rfl (by decide) ?_
  refine dU (f := 257) (fi := []) (ca := []) (by kernel_rfl) rfl rfl (by decide) (aBd g n) (fun w1 st => aFa A n c g w1 (hg.le (fF (st.started (by simp)))) hn (by omega) hin hlen) ?_
  rintro _ _ q ⟨gW, gU, rfl, rfl, hq⟩ uU
  refine aF rfl (by decide) ?_
  refine nG rfl rfl (by decide) ?_
  refine nG rfl rfl (by decide) ?_
  refine aH rfl (by decide) ?_
  refine aH rfl (by decide) ?_
  refine XK.aA ?_
  refine XK.seq ?_
  refine XK.region ?_
  refine Uj (by decide) fun r => ?_
  refine aH rfl (by decide) ?_
  refine XK.aA ?_
  refine XK.seq ?_
  refine XK.region ?_
  refine aH rfl (by decide) ?_
  refine XK.aA ?_
  refine XK.seq ?_
  refine XK.kA 3 1 ?_
  refine XK.aL [(8, .slice none 0 0), (7, .map (some r)), (6, .slice (some ⟨gU, 0, none⟩) n n), (5, .slice (some ⟨gW, 0, none⟩) n n), (0, .slice A n c)] ?_
  refine XK.block ?_
  refine XK.loop (fun m e R H => ∃ (M : List Nat) (A' : Option Addr) (c' : Nat), M.length ≤ n ∧ m = n - M.length ∧ nL g (n - M.length) M = nL g g.length [] ∧ e = [(8, .slice A' M.length c'), (7, .map (some r)), (6, .slice (some ⟨gU, 0, none⟩) n n), (5, .slice (some ⟨gW, 0, none⟩) n n), (0, .slice A n c)] ∧ R = [q, all w] ∧ H = [HP.own 3 1 (.slice A' M.length c') M.length (aR (gJ M)), HP.map r (jA (gJ M)), HP.aE gW 3 (aR (qO g M))]) n ⟨[], none, 0, by simp, rfl, by rw [hn]; rfl, rfl, rfl, by rw [hn, aBI hin]; rfl⟩ fun m e R H hI => ?_
  obtain ⟨M, A', c', hM, rfl, Qq, rfl, rfl, rfl⟩ := hI
  refine XK.seq ?_
  refine XK.seq ?_
  refine XK.region ?_
  refine aF rfl (by decide) ?_
  refine cY (el := 3) (by kernel_rfl) rfl (by decide) ?_
  refine aF rfl (by decide) ?_
  refine cY (el := 22) (by kernel_rfl) rfl (by decide) ?_
  refine fB rfl rfl (by decide) ?_
  refine XK.aA ?_
  refine XK.if_ rfl (fun h => ?_) (fun h => ?_)
  ·
   refine XK.skip ?_
   refine XK.norm ?_
   refine XK.block ?_
   refine XK.seq ?_
   refine XK.region ?_
   refine aH rfl (by decide) ?_
   refine XK.aA ?_
   refine XK.cut (fun e R H => ∃ v : Nat, v ≤ n ∧ (∀ j, j < v → oF g M j = false) ∧ (v < n → oF g M v = true) ∧ e = [(9, .int .i64 v), (8, .slice A' M.length c'), (7, .map (some r)), (6, .slice (some ⟨gU, 0, none⟩) n n), (5, .slice (some ⟨gW, 0, none⟩) n n), (0, .slice A n c)] ∧ R = [q, all w] ∧ H = [HP.own 3 1 (.slice A' M.length c') M.length (aR (gJ M)), HP.map r (jA (gJ M)), HP.aE gW 3 (aR (qO g M))]) ?_ ?_
   ·
    refine XK.aL [(9, .int .i64 0), (8, .slice A' M.length c'), (7, .map (some r)), (6, .slice (some ⟨gU, 0, none⟩) n n), (5, .slice (some ⟨gW, 0, none⟩) n n), (0, .slice A n c)] ?_
    refine XK.block ?_
    refine XK.loop (fun m e R H => ∃ v : Nat, v ≤ n ∧ m = n - v ∧ (∀ j, j < v → oF g M j = false) ∧ e = [(9, .int .i64 v), (8, .slice A' M.length c'), (7, .map (some r)), (6, .slice (some ⟨gU, 0, none⟩) n n), (5, .slice (some ⟨gW, 0, none⟩) n n), (0, .slice A n c)] ∧ R = [q, all w] ∧ H = [HP.own 3 1 (.slice A' M.length c') M.length (aR (gJ M)), HP.map r (jA (gJ M)), HP.aE gW 3 (aR (qO g M))]) n ⟨0, by omega, rfl, fun j h => absurd h (by omega), rfl, rfl, rfl⟩ fun m e R H hI => ?_
    obtain ⟨v, hv, rfl, hno, rfl, rfl, rfl⟩ := hI
    refine XK.seq ?_
    refine XK.seq ?_
    refine XK.region ?_
    refine aF rfl (by decide) ?_
    refine aF rfl (by decide) ?_
    refine cY (el := 22) (by kernel_rfl) rfl (by decide) ?_
    refine fB rfl rfl (by decide) ?_
    refine aF rfl (by decide) ?_
    refine bO (t := 32) rfl (fun hlt => ?_) (fun hlt => ?_)
    ·
     refine aO rfl rfl ?_; refine aF rfl (by decide) ?_
     refine aO rfl rfl ?_; refine aF rfl (by decide) ?_
     refine aO rfl rfl ?_; refine bA (f := 195) (fi := []) (ca := []) (by kernel_rfl) rfl rfl (by decide) (fun w1 st => (Ww M v) ▸ Xe r v (gJ M) w1 (st.map (i := 1) rfl)) ?_
     refine aO rfl rfl ?_; refine aF rfl (by decide) ?_
     refine iX (t := 36) rfl (fun hc => ?_) (fun hc => ?_)
     ·
      refine aN rfl rfl rfl (by decide) ?_
      refine aN rfl rfl rfl (by decide) ?_
      refine aN rfl rfl rfl (by decide) ?_
      refine aN rfl rfl rfl (by decide) ?_
      refine aN rfl rfl rfl (by decide) ?_
      refine aO rfl rfl ?_; (first | refine bJ rfl rfl (by decide) ?_ | refine bK rfl rfl (by decide) ?_)
      (first | refine bJ rfl rfl (by decide) ?_ | refine bK rfl rfl (by decide) ?_)
      refine XK.aA ?_
      refine XK.cond rfl (fun _ => ?_) (fun h => by cases h)
      refine XK.skip ?_
      refine XK.norm ?_
      refine XK.block ?_
      refine XK.region ?_
      refine aF rfl (by decide) ?_
      refine dD rfl rfl (aY (by omega)) (by decide) ?_
      refine aH rfl (by decide) ?_
      refine XK.aA ?_
      exact XK.aL [(9, .int .i64 (v + 1)), (8, .slice A' M.length c'), (7, .map (some r)), (6, .slice (some ⟨gU, 0, none⟩) n n), (5, .slice (some ⟨gW, 0, none⟩) n n), (0, .slice A n c)] (XK.round (n - (v + 1)) (by omega) ⟨v + 1, by omega, rfl, Mq hno (Oo hc), rfl, rfl, rfl⟩)
     ·
      refine aO rfl rfl ?_; refine aF rfl (by decide) ?_
      refine aO rfl rfl ?_; refine aF rfl (by decide) ?_
      have Pz : v < g.length := by omega
      refine aO rfl rfl ?_; refine dB (v) (v) (el := 3) (sz := 1) (by kernel_rfl) (by kernel_rfl) rfl rfl (by omega) (by omega) (by omega) (by decide) ?_
      refine aO rfl rfl ?_; refine fI (by kernel_rfl) rfl (Rd.aE 2 rfl (Kj (Dx Pz))) (by decide) ?_
      refine aO rfl rfl ?_; refine qM rfl rfl (by decide) ?_
      refine aO rfl rfl ?_; (first | refine bJ rfl rfl (by decide) ?_ | refine bK rfl rfl (by decide) ?_)
      (first | refine bJ rfl rfl (by decide) ?_ | refine bK rfl rfl (by decide) ?_)
      refine XK.aA ?_
      refine XK.if_ rfl (fun h => ?_) (fun h => ?_)
      ·
       refine XK.skip ?_
       refine XK.norm ?_
       refine XK.block ?_
       refine XK.region ?_
       refine aF rfl (by decide) ?_
       refine dD rfl rfl (aY (by omega)) (by decide) ?_
       refine aH rfl (by decide) ?_
       refine XK.aA ?_
       exact XK.aL [(9, .int .i64 (v + 1)), (8, .slice A' M.length c'), (7, .map (some r)), (6, .slice (some ⟨gU, 0, none⟩) n n), (5, .slice (some ⟨gW, 0, none⟩) n n), (0, .slice A n c)] (XK.round (n - (v + 1)) (by omega) ⟨v + 1, by omega, rfl, Mq hno (aDz h), rfl, rfl, rfl⟩)
      ·
       refine XK.exit ?_
       refine XK.norm ?_
       exact XK.aL [(9, .int .i64 v), (8, .slice A' M.length c'), (7, .map (some r)), (6, .slice (some ⟨gU, 0, none⟩) n n), (5, .slice (some ⟨gW, 0, none⟩) n n), (0, .slice A n c)] (XK.meet ⟨v, hv, hno, fun _ => aD0 hc h, rfl, rfl, rfl⟩)
    ·
     refine aN rfl rfl rfl (by decide) ?_
     refine aN rfl rfl rfl (by decide) ?_
     refine aN rfl rfl rfl (by decide) ?_
     refine aN rfl rfl rfl (by decide) ?_
     refine qL rfl rfl (by decide) ?_
     refine qL rfl rfl (by decide) ?_
     refine qL rfl rfl (by decide) ?_
     refine qL rfl rfl (by decide) ?_
     refine qL rfl rfl (by decide) ?_
     refine aN rfl rfl rfl (by decide) ?_
     (first | refine bJ rfl rfl (by decide) ?_ | refine bK rfl rfl (by decide) ?_)
     refine XK.aA ?_
     refine XK.cond rfl (fun h => by cases h) (fun _ => ?_)
     refine XK.exit ?_
     refine XK.norm ?_
     exact XK.aL [(9, .int .i64 v), (8, .slice A' M.length c'), (7, .map (some r)), (6, .slice (some ⟨gU, 0, none⟩) n n), (5, .slice (some ⟨gW, 0, none⟩) n n), (0, .slice A n c)] (XK.meet ⟨v, hv, hno, fun h => absurd h (by omega), rfl, rfl, rfl⟩)
   rintro _ _ _ ⟨v, hv, hno, hok, rfl, rfl, rfl⟩
   refine XK.seq ?_
   refine XK.seq ?_
   refine XK.region ?_
   refine aF rfl (by decide) ?_
   refine aF rfl (by decide) ?_
   refine cY (el := 22) (by kernel_rfl) rfl (by decide) ?_
   refine eH rfl rfl (by decide) ?_
   refine XK.aA ?_
   refine XK.if_ rfl (fun h => ?_) (fun h => ?_)
   ·
    refine XK.seq ?_
    refine XK.region ?_
    refine aH rfl (by decide) ?_
    refine aH rfl (by decide) ?_
    refine XK.aA ?_
    refine XK.ret ?_
    refine XK.norm ?_
    exact XK.fQ rfl rfl rfl fun w1 st => by
     have hnone : nL g g.length [] = none := by
      rw [← Qq, show n - M.length = (n - M.length - 1) + 1 by omega]
      exact aDs (aDA fun j hj => hno j (by omega))
     rw [aDv h0 hnone]
     exact Ii.nil (st.below (by simp))
   ·
    have Pz : v < n := by omega
    have Fm := hok Pz
    have Zt : M.contains v = false := by
     cases hb : M.contains v with
     | false => rfl
     | true => rw [Oo hb] at Fm; cases Fm
    have qX := Wu (by omega : v < g.length) hno Fm
    have hU := aBO hin (by omega : v < g.length)
    rw [← hn] at hU
    obtain ⟨b1, o1, B1, d1, hA1, kS, zU, hs1⟩ := hq.vM hU
    cases hA1
    have Yc := aBP g v
    refine XK.skip ?_
    refine XK.norm ?_
    refine XK.seq ?_
    refine XK.region ?_
    refine aF rfl (by decide) ?_
    refine aF rfl (by decide) ?_
    refine Ng (f := 194) (fi := []) (ca := []) 1 (HP.map r (jA (if (gJ M).contains (v : Int) then gJ M else gJ M ++ [(v : Int)]))) (by kernel_rfl) rfl rfl rfl ⟨by decide, rfl⟩ (fun w1 F st hp hF => Xf r v (gJ M) w1 F hp hF) ?_
    dsimp only [List.set]
    rw [if_neg (by rw [Ww, Zt]; decide), ← Wv]
    refine XK.aA ?_
    refine XK.seq ?_
    refine XK.region ?_
    refine aF rfl (by decide) ?_
    refine aF rfl (by decide) ?_
    refine eZ (el := 3) (sz := 1) (zs := [.int .i64 0]) (by kernel_rfl) (aM (by kernel_rfl)) (by kernel_rfl) rfl (by decide) (by decide) rfl (by simp [aS, aT, Value.cells, List.range_succ, List.set]; rfl) (by decide) fun g1 => ?_
    refine fA 1 1 8 1 (n' := (M ++ [v]).length) (el := 3) (by kernel_rfl) (by kernel_rfl) (by decide) rfl rfl rfl (jY 0 rfl rfl) (by simp [Value.oneCell']) (by simp) (by simp; omega) (by simp; omega) (by decide) fun A2 c2 => ?_
    dsimp only [List.set]
    rw [Xn, ← Wv]
    refine aH rfl (by decide) ?_
    refine XK.aA ?_
    refine XK.seq ?_
    refine XK.region ?_
    refine aF rfl (by decide) ?_
    refine aF rfl (by decide) ?_
    refine dB (v) (v) (el := 22) (sz := 1) (by kernel_rfl) (by kernel_rfl) rfl rfl (by omega) (by omega) (by omega) (by decide) ?_
    refine fI (by kernel_rfl) rfl (Rd.ro (p := q) (by simp) kS (by simpa using zU)) (by decide) ?_
    refine cY (el := 3) (by kernel_rfl) rfl (by decide) ?_
    refine aF rfl (by decide) ?_
    refine XK.aA ?_
    refine XK.weak [1, 2, 3] rfl (by decide) (fun _ hp => hp) ?_
    refine XK.aL [(62, .int .i64 0), (61, .int .i64 (iB g v).length), (60, .slice B1 (iB g v).length d1), (8, .slice A2 (M ++ [v]).length c2), (7, .map (some r)), (6, .slice (some ⟨gU, 0, none⟩) n n), (5, .slice (some ⟨gW, 0, none⟩) n n), (0, .slice A n c)] ?_
    refine XK.block ?_
    refine XK.loop (fun m e R H => ∃ j : Nat, j ≤ (iB g v).length ∧ m = (iB g v).length - j ∧ e = [(62, .int .i64 j), (61, .int .i64 (iB g v).length), (60, .slice B1 (iB g v).length d1), (8, .slice A2 (M ++ [v]).length c2), (7, .map (some r)), (6, .slice (some ⟨gU, 0, none⟩) n n), (5, .slice (some ⟨gW, 0, none⟩) n n), (0, .slice A n c)] ∧ R = [q, all w] ∧ H = [HP.own 3 1 (.slice A2 (M ++ [v]).length c2) (M ++ [v]).length (aR (gJ (M ++ [v]))), HP.map r (jA (gJ (M ++ [v]))), HP.aE gW 3 (aR (nB (qO g M) ((iB g v).take j)))]) (iB g v).length ⟨0, by omega, rfl, rfl, rfl, rfl⟩ fun m e R H hI => ?_
    obtain ⟨j, hj, rfl, rfl, rfl, rfl⟩ := hI
    refine XK.seq ?_
    refine XK.region ?_
    refine fB rfl rfl (by decide) ?_
    refine XK.aA ?_
    refine XK.seq ?_
    refine XK.if_ rfl (fun h => ?_) (fun h => ?_)
    ·
     refine XK.skip ?_
     refine XK.norm ?_
     refine XK.seq ?_
     refine XK.block ?_
     refine XK.seq ?_
     have hjl : j < (iB g v).length := by omega
     obtain ⟨b2, off2, rfl, kR, tT⟩ := hs1.2 (by omega)
     obtain ⟨u, hu⟩ : ∃ u, (iB g v)[j]? = some u := ⟨_, List.getElem?_eq_getElem hjl⟩
     have c3 := tT j _ (Kj hu)
     obtain ⟨hu0, hun⟩ := Nr (List.mem_of_getElem? hu)
     have Ko : u.toNat < g.length := by omega
     have hx := Su ((iB g v).take j) (qO g M) u.toNat (fun y hy => (Nr (List.mem_of_mem_take hy)).1) (by rw [Bk]; exact Ko)
     rw [Dx Ko] at hx
     have aHr : ((iB g v).take j).count ((u.toNat : Nat) : Int) ≤ j := Nat.le_trans List.count_le_length (by simp; omega)
     obtain ⟨x, Xu⟩ : ∃ x : Int, x = (some (pS g M u.toNat : Int)).getD 0 - (((iB g v).take j).count ((u.toNat : Nat) : Int) : Int) := ⟨_, rfl⟩
     rw [← Xu] at hx
     have Fl := aBM g M u.toNat
     have mW : ((g[u.toNat]?.getD []).length : Int) ≤ 9223372036854775806 := by
      rw [List.getElem?_eq_getElem Ko]; exact hlen _ (List.getElem_mem _)
     simp only [Option.getD_some] at Xu
     refine XK.region ?_
     refine dB (j) (off2 + j) (el := 3) (sz := 1) (by kernel_rfl) (by kernel_rfl) rfl rfl (by omega) (by omega) (by omega) (by decide) ?_
     refine fI (by kernel_rfl) rfl (Rd.ro (p := q) (by simp) kR c3) (by decide) ?_
     refine aH rfl (by decide) ?_
     refine XK.aA ?_
     refine XK.region ?_
     refine aF rfl (by decide) ?_
     refine aF rfl (by decide) ?_
     refine dB (u.toNat) (u.toNat) (el := 3) (sz := 1) (by kernel_rfl) (by kernel_rfl) rfl rfl (by omega) (by omega) (by omega) (by decide) ?_
     refine fI (by kernel_rfl) rfl (Rd.aE 2 rfl (Kj hx)) (by decide) ?_
     refine vL rfl rfl (aY (by omega)) (by decide) ?_
     refine dB (u.toNat) (u.toNat) (el := 3) (sz := 1) (by kernel_rfl) (by kernel_rfl) rfl rfl (by omega) (by omega) (by omega) (by decide) ?_
     refine wW 2 rfl (by kernel_rfl) rfl rfl rfl (by rw [show (aR (nB (qO g M) ((iB g v).take j))).length = g.length by simp [aR, Ss, Bk]]; exact Ko) ?_
     dsimp only [List.set]
     rw [aBK _ _ j u x hu hx]
     refine XK.aA ?_
     refine XK.region ?_
     refine dD rfl rfl (aY (by omega)) (by decide) ?_
     refine aF rfl (by decide) ?_
     refine XK.aA ?_
     exact XK.aL [(62, .int .i64 (j + 1)), (61, .int .i64 (iB g v).length), (60, .slice (some ⟨b2, off2, none⟩) (iB g v).length d1), (8, .slice A2 (M ++ [v]).length c2), (7, .map (some r)), (6, .slice (some ⟨gU, 0, none⟩) n n), (5, .slice (some ⟨gW, 0, none⟩) n n), (0, .slice A n c)] (XK.round ((iB g v).length - (j + 1)) (by omega) ⟨j + 1, by omega, rfl, rfl, rfl, rfl⟩)
    ·
     refine XK.exit ?_
     refine XK.norm ?_
     exact XK.aL [(8, .slice A2 (M ++ [v]).length c2), (7, .map (some r)), (6, .slice (some ⟨gU, 0, none⟩) n n), (5, .slice (some ⟨gW, 0, none⟩) n n), (0, .slice A n c)] (XK.round (n - (M ++ [v]).length) (by simp; omega) ⟨M ++ [v], A2, c2, (by simp; omega), rfl, by rw [← Qq, show n - M.length = (n - (M ++ [v]).length) + 1 by simp; omega, aDt qX], rfl, rfl, by rw [show j = (iB g v).length by omega, List.take_length, aBJ hin Zt]⟩)
  ·
   refine XK.exit ?_
   refine XK.norm ?_
   refine XK.seq ?_
   refine XK.region ?_
   refine aF rfl (by decide) ?_
   refine aH rfl (by decide) ?_
   refine aH rfl (by decide) ?_
   refine XK.aA ?_
   refine XK.ret ?_
   refine XK.norm ?_
   refine XK.still [] [0] [] (by simp) rfl (by decide) (by decide) fun p hp _ hfr => ?_
   refine XK.fQ rfl rfl rfl fun w1 st => ?_
   have hsome : nL g g.length [] = some M := by rw [← Qq, show n - M.length = 0 by omega]; rfl
   rw [aDu h0 hsome]
   exact ⟨⟨_, _, _, rfl, rfl, (aI.own (hp 0 _ (by simp) rfl)).le (st.kX (by simp) (hfr (by simp) (by simp)))⟩, st.below (by simp)⟩
end
section
theorem Bg {es : List Int} {k : Nat} (hz : ∀ j, j < k → es[j]? = some 0) (h : es[k]? = some 0) : ∀ j, j < k + 1 → es[j]? = some 0 := fun j hj => by
 rcases Nat.lt_or_ge j k with h1 | h1
 ·exact hz j h1
 ·have : j = k := by omega
  rw [this]
  exact h
theorem pR (b : Bool) (e : Int) (w : World) :
  Calls Tryz.prog 199 #[.bool b, .int .i64 e] w (Rt (.int .i64 (eL b e)) w) := by
 refine XK.enter (vs := [.bool b, .int .i64 e]) Tryz.func199 rfl Tryz.ntmps199 (by simp) ?_
 refine XK.seq ?_
 refine XK.region ?_
 refine aH rfl (by decide) ?_
 refine XK.aA ?_
 refine XK.seq ?_
 refine XK.seq ?_
 refine XK.region ?_
 refine aF rfl (by decide) ?_
 refine XK.aA ?_
 refine XK.cond rfl (fun h => ?_) (fun h => ?_)
 ·
  refine XK.seq ?_
  refine XK.region ?_
  refine aF rfl (by decide) ?_
  refine aH rfl (by decide) ?_
  refine XK.aA ?_
  refine XK.ret ?_
  refine XK.norm ?_
  exact XK.aK rfl rfl fun w1 st => ⟨by simp [eL, h], st.below (by simp)⟩
 ·
  refine XK.skip ?_
  refine XK.norm ?_
  refine XK.seq ?_
  refine XK.region ?_
  refine aH rfl (by decide) ?_
  refine XK.aA ?_
  refine XK.ret ?_
  refine XK.norm ?_
  exact XK.aK rfl rfl fun w1 st => ⟨by simp [eL, h], st.below (by simp)⟩
theorem nX (n lo hi : Int) (w : World) :
  Calls Tryz.prog 205 #[.int .i64 n, .int .i64 lo, .int .i64 hi] w (Rt (.bool (eI n lo hi)) w) := by
 refine XK.enter (vs := [.int .i64 n, .int .i64 lo, .int .i64 hi]) Tryz.func205 rfl Tryz.ntmps205 (by simp) ?_
 refine XK.seq ?_
 refine XK.region ?_
 refine aH rfl (by decide) ?_
 refine XK.aA ?_
 refine XK.seq ?_
 refine XK.region ?_
 refine aF rfl (by decide) ?_
 refine aF rfl (by decide) ?_
 refine uK rfl rfl (by decide) ?_
 refine aF rfl (by decide) ?_
 refine bO (t := 10) rfl (fun hg => ?_) (fun hg => ?_)
 ·
  refine aO rfl rfl ?_; refine aF rfl (by decide) ?_
  refine aO rfl rfl ?_; refine aF rfl (by decide) ?_
  refine aO rfl rfl ?_; refine Nc rfl rfl (by decide) ?_
  (first | refine bJ rfl rfl (by decide) ?_ | refine bK rfl rfl (by decide) ?_)
  refine aH rfl (by decide) ?_
  refine XK.aA ?_
  refine XK.ret ?_
  refine XK.norm ?_
  exact XK.aK rfl rfl fun w1 st => ⟨by simp [eI, hg], st.below (by simp)⟩
 ·
  refine aN rfl rfl rfl (by decide) ?_
  refine aN rfl rfl rfl (by decide) ?_
  refine aN rfl rfl rfl (by decide) ?_
  (first | refine bJ rfl rfl (by decide) ?_ | refine bK rfl rfl (by decide) ?_)
  refine aH rfl (by decide) ?_
  refine XK.aA ?_
  refine XK.ret ?_
  refine XK.norm ?_
  exact XK.aK rfl rfl fun w1 st => ⟨by simp [eI, hg], st.below (by simp)⟩
theorem Ln (A : Option Addr) (n c : Nat) (fs : List (FuncId × List Value)) (es : List Int) (w : World) (hs : aI (all w) 1 A n (fs.map fun f => .func (.func f.1) #[] f.2.toArray)) (hn : fs.length = n) (hl : es.length = n) (hn2 : (n : Int) ≤ 9223372036854775806) (hc : ∀ f ∈ fs, eY Tryz.prog f.1 = true)
  (hf : ∀ (i : Nat) (f : FuncId × List Value) (e : Int), fs[i]? = some f → es[i]? = some e → ∀ w', Below w.heap.size w w' → Calls Tryz.prog f.1 f.2.toArray w' (Rt (.int .i64 e) w')) :
  Calls Tryz.prog 117 #[.slice A n c] w (Rt (.int .i64 (fY es)) w) := by
 refine XK.enter (vs := [.slice A n c]) Tryz.func117 rfl Tryz.ntmps117 (by simp) ?_
 refine XK.seq ?_
 refine XK.region ?_
 refine aH rfl (by decide) ?_
 refine XK.aA ?_
 refine XK.seq ?_
 refine XK.seq ?_
 refine XK.region ?_
 refine aF rfl (by decide) ?_
 refine cY (el := 113) (by kernel_rfl) rfl (by decide) ?_
 refine aF rfl (by decide) ?_
 refine XK.aA ?_
 refine XK.aL [(8, .int .i64 0), (7, .int .i64 n), (6, .slice A n c)] ?_
 refine XK.block ?_
 refine XK.loop (fun m e R H => ∃ k : Nat, k ≤ n ∧ m = n - k ∧ (∀ j, j < k → es[j]? = some 0) ∧ e = [(8, .int .i64 k), (7, .int .i64 n), (6, .slice A n c)] ∧ R = [all w] ∧ H = []) n ⟨0, by omega, rfl, fun j hj => absurd hj (by omega), rfl, rfl, rfl⟩ fun m e R H hI => ?_
 obtain ⟨k, hk, rfl, hz, rfl, rfl, rfl⟩ := hI
 refine XK.seq ?_
 refine XK.region ?_
 refine fB rfl rfl (by decide) ?_
 refine XK.aA ?_
 refine XK.seq ?_
 refine XK.if_ rfl (fun h => ?_) (fun h => ?_)
 ·
  refine XK.skip ?_
  refine XK.norm ?_
  refine XK.seq ?_
  refine XK.block ?_
  refine XK.seq ?_
  have hkn : k < n := by omega
  obtain ⟨f, eR⟩ : ∃ f, fs[k]? = some f := ⟨fs[k]'(by omega), List.getElem?_eq_getElem _⟩
  obtain ⟨e1, jV⟩ : ∃ e, es[k]? = some e := ⟨es[k]'(by omega), List.getElem?_eq_getElem _⟩
  obtain ⟨b, off, rfl, fC, Ri⟩ := hs.2 (by omega)
  have c1 : eK w b (off + k) (.func (.func f.1) #[] f.2.toArray) := ⟨fC, Ri k _ (by simp [eR])⟩
  refine XK.region ?_
  refine dB (k) (off + k) (el := 113) (sz := 1) (by kernel_rfl) (by kernel_rfl) rfl rfl (by omega) (by omega) (by omega) (by decide) ?_
  refine aZ rfl ?_
  refine aH rfl (by decide) ?_
  refine XK.aA ?_
  refine XK.seq ?_
  refine XK.region ?_
  refine aF rfl (by decide) ?_
  refine bA (f := f.1) (fi := []) (ca := f.2) (hc f (List.mem_of_getElem? eR)) rfl rfl (by decide) (fun w1 st => by have := hf k f e1 eR jV w1 (st.started (by simp)); simpa using this) ?_
  refine aH rfl (by decide) ?_
  refine XK.aA ?_
  refine XK.seq ?_
  refine XK.region ?_
  refine aF rfl (by decide) ?_
  refine mQ rfl rfl (by decide) ?_
  refine XK.aA ?_
  refine XK.if_ rfl (fun h => ?_) (fun h => ?_)
  ·
   refine XK.seq ?_
   refine XK.region ?_
   refine aF rfl (by decide) ?_
   refine aH rfl (by decide) ?_
   refine XK.aA ?_
   refine XK.ret ?_
   refine XK.norm ?_
   exact XK.aK rfl rfl fun w1 st => ⟨by rw [Ak hz jV h], st.below (by simp)⟩
  ·
   refine XK.skip ?_
   refine XK.norm ?_
   refine XK.region ?_
   refine dD rfl rfl (aY (by omega)) (by decide) ?_
   refine aF rfl (by decide) ?_
   refine XK.aA ?_
   exact XK.aL [(8, .int .i64 (k + 1)), (7, .int .i64 n), (6, .slice (some ⟨b, off, none⟩) n c)] (XK.round (n - (k + 1)) (by omega) ⟨k + 1, by omega, rfl, (Bg hz (by rw [jV, show e1 = 0 by omega])), rfl, rfl, rfl⟩)
 ·
  refine XK.exit ?_
  refine XK.norm ?_
  refine XK.seq ?_
  refine XK.region ?_
  refine aH rfl (by decide) ?_
  refine XK.aA ?_
  refine XK.ret ?_
  refine XK.norm ?_
  exact XK.aK rfl rfl fun w1 st => ⟨by rw [xU (fun j hj => hz j (by omega))], st.below (by simp)⟩
theorem aAv (A : Option Addr) (n c : Nat) (id : FuncId) (ca : List Value) (rows : List (List Value)) (es : List Int) (w : World) (hs : aI (all w) 1 A n rows.flatten) (hr : ∀ r ∈ rows, r.length = 1) (hn : rows.length = n) (hl : es.length = n) (hn2 : (n : Int) ≤ 9223372036854775806) (hc : eY Tryz.prog id = true)
  (hf : ∀ (i : Nat) (r : List Value) (e : Int), rows[i]? = some r → es[i]? = some e → ∀ w', Below w.heap.size w w' → Calls Tryz.prog id (r ++ ca).toArray w' (Rt (.int .i64 e) w')) :
  Calls Tryz.prog 203 #[.slice A n c, .func (.func id) #[] ca.toArray] w (Rt (.int .i64 (fY es)) w) := by
 refine XK.enter (vs := [.slice A n c, .func (.func id) #[] ca.toArray]) Tryz.func203 rfl Tryz.ntmps203 (by simp) ?_
 refine XK.seq ?_
 refine XK.region ?_
 refine aH rfl (by decide) ?_
 refine XK.aA ?_
 refine XK.seq ?_
 refine XK.seq ?_
 refine XK.region ?_
 refine aF rfl (by decide) ?_
 refine cY (el := 3) (by kernel_rfl) rfl (by decide) ?_
 refine aF rfl (by decide) ?_
 refine XK.aA ?_
 refine XK.aL [(10, .int .i64 0), (9, .int .i64 n), (8, .slice A n c), (1, .func (.func id) #[] ca.toArray)] ?_
 refine XK.block ?_
 refine XK.loop (fun m e R H => ∃ k : Nat, k ≤ n ∧ m = n - k ∧ (∀ j, j < k → es[j]? = some 0) ∧ e = [(10, .int .i64 k), (9, .int .i64 n), (8, .slice A n c), (1, .func (.func id) #[] ca.toArray)] ∧ R = [all w] ∧ H = []) n ⟨0, by omega, rfl, fun j hj => absurd hj (by omega), rfl, rfl, rfl⟩ fun m e R H hI => ?_
 obtain ⟨k, hk, rfl, hz, rfl, rfl, rfl⟩ := hI
 refine XK.seq ?_
 refine XK.region ?_
 refine fB rfl rfl (by decide) ?_
 refine XK.aA ?_
 refine XK.seq ?_
 refine XK.if_ rfl (fun h => ?_) (fun h => ?_)
 ·
  refine XK.skip ?_
  refine XK.norm ?_
  refine XK.seq ?_
  refine XK.block ?_
  refine XK.seq ?_
  have hkn : k < n := by omega
  obtain ⟨r, cT⟩ : ∃ r, rows[k]? = some r := ⟨rows[k]'(by omega), List.getElem?_eq_getElem _⟩
  obtain ⟨e1, jV⟩ : ∃ e, es[k]? = some e := ⟨es[k]'(by omega), List.getElem?_eq_getElem _⟩
  obtain ⟨b, off, rfl, c1⟩ := hs.row hr cT hkn
  have dW := hr r (List.mem_of_getElem? cT)
  obtain ⟨v, rfl⟩ : ∃ v, r = [v] := by match r, dW with | [v], _ => exact ⟨v, rfl⟩
  have c2 := c1.at_ (j := 0) rfl
  refine XK.region ?_
  refine dB (k) (off + k * 1) (el := 3) (sz := 1) (by kernel_rfl) (by kernel_rfl) rfl rfl (by omega) (by omega) (by omega) (by decide) ?_
  refine fI (by kernel_rfl) rfl (Rd.eM (by simp) (by simpa using c2)) (by decide) ?_
  refine aH rfl (by decide) ?_
  refine XK.aA ?_
  refine XK.seq ?_
  refine XK.region ?_
  refine aF rfl (by decide) ?_
  refine aF rfl (by decide) ?_
  refine bA (f := id) (fi := []) (ca := ca) hc rfl rfl (by decide) (fun w1 st => by have := hf k [v] e1 cT jV w1 (st.started (by simp)); simpa using this) ?_
  refine aH rfl (by decide) ?_
  refine XK.aA ?_
  refine XK.seq ?_
  refine XK.region ?_
  refine aF rfl (by decide) ?_
  refine mQ rfl rfl (by decide) ?_
  refine XK.aA ?_
  refine XK.if_ rfl (fun h => ?_) (fun h => ?_)
  ·
   refine XK.seq ?_
   refine XK.region ?_
   refine aF rfl (by decide) ?_
   refine aH rfl (by decide) ?_
   refine XK.aA ?_
   refine XK.ret ?_
   refine XK.norm ?_
   exact XK.aK rfl rfl fun w1 st => ⟨by rw [Ak hz jV h], st.below (by simp)⟩
  ·
   refine XK.skip ?_
   refine XK.norm ?_
   refine XK.region ?_
   refine dD rfl rfl (aY (by omega)) (by decide) ?_
   refine aF rfl (by decide) ?_
   refine XK.aA ?_
   exact XK.aL [(10, .int .i64 (k + 1)), (9, .int .i64 n), (8, .slice (some ⟨b, off, none⟩) n c), (1, .func (.func id) #[] ca.toArray)] (XK.round (n - (k + 1)) (by omega) ⟨k + 1, by omega, rfl, (Bg hz (by rw [jV, show e1 = 0 by omega])), rfl, rfl, rfl⟩)
 ·
  refine XK.exit ?_
  refine XK.norm ?_
  refine XK.seq ?_
  refine XK.region ?_
  refine aH rfl (by decide) ?_
  refine XK.aA ?_
  refine XK.ret ?_
  refine XK.norm ?_
  exact XK.aK rfl rfl fun w1 st => ⟨by rw [xU (fun j hj => hz j (by omega))], st.below (by simp)⟩
theorem aFN (A : Option Addr) (n c : Nat) (id : FuncId) (ca : List Value) (rows : List (List Value)) (es : List Int) (w : World) (hs : aI (all w) 6 A n rows.flatten) (hr : ∀ r ∈ rows, r.length = 6) (hone : ∀ r ∈ rows, ∀ u ∈ r, u.oneCell' = true) (hn : rows.length = n) (hl : es.length = n) (hn2 : (n : Int) ≤ 9223372036854775806) (hc : eY Tryz.prog id = true)
  (hf : ∀ (i : Nat) (r : List Value) (e : Int), rows[i]? = some r → es[i]? = some e → ∀ w', Below w.heap.size w w' → Calls Tryz.prog id ([Value.agg r.toArray] ++ ca).toArray w' (Rt (.int .i64 e) w')) :
  Calls Tryz.prog 121 #[.slice A n c, .func (.func id) #[] ca.toArray] w (Rt (.int .i64 (fY es)) w) := by
 refine XK.enter (vs := [.slice A n c, .func (.func id) #[] ca.toArray]) Tryz.func121 rfl Tryz.ntmps121 (by simp) ?_
 refine XK.seq ?_
 refine XK.region ?_
 refine aH rfl (by decide) ?_
 refine XK.aA ?_
 refine XK.seq ?_
 refine XK.seq ?_
 refine XK.region ?_
 refine aF rfl (by decide) ?_
 refine cY (el := 118) (by kernel_rfl) rfl (by decide) ?_
 refine aF rfl (by decide) ?_
 refine XK.aA ?_
 refine XK.aL [(10, .int .i64 0), (9, .int .i64 n), (8, .slice A n c), (1, .func (.func id) #[] ca.toArray)] ?_
 refine XK.block ?_
 refine XK.loop (fun m e R H => ∃ k : Nat, k ≤ n ∧ m = n - k ∧ (∀ j, j < k → es[j]? = some 0) ∧ e = [(10, .int .i64 k), (9, .int .i64 n), (8, .slice A n c), (1, .func (.func id) #[] ca.toArray)] ∧ R = [all w] ∧ H = []) n ⟨0, by omega, rfl, fun j hj => absurd hj (by omega), rfl, rfl, rfl⟩ fun m e R H hI => ?_
 obtain ⟨k, hk, rfl, hz, rfl, rfl, rfl⟩ := hI
 refine XK.seq ?_
 refine XK.region ?_
 refine fB rfl rfl (by decide) ?_
 refine XK.aA ?_
 refine XK.seq ?_
 refine XK.if_ rfl (fun h => ?_) (fun h => ?_)
 ·
  refine XK.skip ?_
  refine XK.norm ?_
  refine XK.seq ?_
  refine XK.block ?_
  refine XK.seq ?_
  have hkn : k < n := by omega
  obtain ⟨r, cT⟩ : ∃ r, rows[k]? = some r := ⟨rows[k]'(by omega), List.getElem?_eq_getElem _⟩
  obtain ⟨e1, jV⟩ : ∃ e, es[k]? = some e := ⟨es[k]'(by omega), List.getElem?_eq_getElem _⟩
  obtain ⟨b, off, rfl, c1⟩ := hs.row hr cT hkn
  have dW := hr r (List.mem_of_getElem? cT)
  refine XK.region ?_
  refine dB (k) (off + k * 6) (el := 118) (sz := 6) (by kernel_rfl) (by kernel_rfl) rfl rfl (by omega) (by omega) (by omega) (by decide) ?_
  refine tC 6 (by kernel_rfl) rfl (by first | assumption | exact aC.whole 0 rfl | exact aC.whole 1 rfl | exact aC.whole 2 rfl | exact aC.whole 3 rfl | exact aC.whole 4 rfl | exact aC.whole 5 rfl | exact aC.whole 6 rfl | exact aC.whole 7 rfl | exact aC.whole 8 rfl | exact aC.eM (by simp) (by assumption)) dW (by decide) ?_
  refine cD (cs := [.int .u8 0, .slice none 0 0, .int .u64 0, .int .i64 0, .int .i64 0, .int .i64 0]) (aM (by kernel_rfl)) (by decide) fun g1 => ?_
  refine jP 0 rfl rfl rfl (by rw [show (Value.agg r.toArray).cells.size = 6 by simp [Value.cells, dW]]; kernel_rfl) (hone r (List.mem_of_getElem? cT)) (by simp [Value.cells, dW]) ?_
  rw [En (by simp [Value.cells, dW])]
  dsimp only [List.set, Value.cells]
  refine XK.aA ?_
  refine XK.seq ?_
  refine XK.region ?_
  refine aF rfl (by decide) ?_
  refine tC 6 (by kernel_rfl) rfl (by first | assumption | exact aC.whole 0 rfl | exact aC.whole 1 rfl | exact aC.whole 2 rfl | exact aC.whole 3 rfl | exact aC.whole 4 rfl | exact aC.whole 5 rfl | exact aC.whole 6 rfl | exact aC.whole 7 rfl | exact aC.whole 8 rfl | exact aC.eM (by simp) (by assumption)) dW (by decide) ?_
  refine bA (f := id) (fi := []) (ca := ca) hc rfl rfl (by decide) (fun w1 st => by have := hf k r e1 cT jV w1 (st.started (by simp)); simpa using this) ?_
  refine aH rfl (by decide) ?_
  refine XK.aA ?_
  refine XK.seq ?_
  refine XK.region ?_
  refine aF rfl (by decide) ?_
  refine mQ rfl rfl (by decide) ?_
  refine XK.aA ?_
  refine XK.if_ rfl (fun h => ?_) (fun h => ?_)
  ·
   refine XK.seq ?_
   refine XK.region ?_
   refine aF rfl (by decide) ?_
   refine aH rfl (by decide) ?_
   refine XK.aA ?_
   refine XK.ret ?_
   refine XK.norm ?_
   exact XK.aK rfl rfl fun w1 st => ⟨by rw [Ak hz jV h], st.below (by simp)⟩
  ·
   refine XK.skip ?_
   refine XK.norm ?_
   refine XK.region ?_
   refine dD rfl rfl (aY (by omega)) (by decide) ?_
   refine aF rfl (by decide) ?_
   refine XK.aA ?_
   exact XK.weak [] rfl (by decide) (by simp) (XK.aL [(10, .int .i64 (k + 1)), (9, .int .i64 n), (8, .slice (some ⟨b, off, none⟩) n c), (1, .func (.func id) #[] ca.toArray)] (XK.round (n - (k + 1)) (by omega) ⟨k + 1, by omega, rfl, (Bg hz (by rw [jV, show e1 = 0 by omega])), rfl, rfl, rfl⟩))
 ·
  refine XK.exit ?_
  refine XK.norm ?_
  refine XK.seq ?_
  refine XK.region ?_
  refine aH rfl (by decide) ?_
  refine XK.aA ?_
  refine XK.ret ?_
  refine XK.norm ?_
  exact XK.aK rfl rfl fun w1 st => ⟨by rw [xU (fun j hj => hz j (by omega))], st.below (by simp)⟩
theorem aFM (A : Option Addr) (n c : Nat) (id : FuncId) (ca : List Value) (rows : List (List Value)) (es : List Int) (w : World) (hs : aI (all w) 3 A n rows.flatten) (hr : ∀ r ∈ rows, r.length = 3) (hone : ∀ r ∈ rows, ∀ u ∈ r, u.oneCell' = true) (hn : rows.length = n) (hl : es.length = n) (hn2 : (n : Int) ≤ 9223372036854775806) (hc : eY Tryz.prog id = true)
  (hf : ∀ (i : Nat) (r : List Value) (e : Int), rows[i]? = some r → es[i]? = some e → ∀ w', Below w.heap.size w w' → Calls Tryz.prog id ([Value.agg r.toArray] ++ ca).toArray w' (Rt (.int .i64 e) w')) :
  Calls Tryz.prog 128 #[.slice A n c, .func (.func id) #[] ca.toArray] w (Rt (.int .i64 (fY es)) w) := by
 refine XK.enter (vs := [.slice A n c, .func (.func id) #[] ca.toArray]) Tryz.func128 rfl Tryz.ntmps128 (by simp) ?_
 refine XK.seq ?_
 refine XK.region ?_
 refine aH rfl (by decide) ?_
 refine XK.aA ?_
 refine XK.seq ?_
 refine XK.seq ?_
 refine XK.region ?_
 refine aF rfl (by decide) ?_
 refine cY (el := 75) (by kernel_rfl) rfl (by decide) ?_
 refine aF rfl (by decide) ?_
 refine XK.aA ?_
 refine XK.aL [(10, .int .i64 0), (9, .int .i64 n), (8, .slice A n c), (1, .func (.func id) #[] ca.toArray)] ?_
 refine XK.block ?_
 refine XK.loop (fun m e R H => ∃ k : Nat, k ≤ n ∧ m = n - k ∧ (∀ j, j < k → es[j]? = some 0) ∧ e = [(10, .int .i64 k), (9, .int .i64 n), (8, .slice A n c), (1, .func (.func id) #[] ca.toArray)] ∧ R = [all w] ∧ H = []) n ⟨0, by omega, rfl, fun j hj => absurd hj (by omega), rfl, rfl, rfl⟩ fun m e R H hI => ?_
 obtain ⟨k, hk, rfl, hz, rfl, rfl, rfl⟩ := hI
 refine XK.seq ?_
 refine XK.region ?_
 refine fB rfl rfl (by decide) ?_
 refine XK.aA ?_
 refine XK.seq ?_
 refine XK.if_ rfl (fun h => ?_) (fun h => ?_)
 ·
  refine XK.skip ?_
  refine XK.norm ?_
  refine XK.seq ?_
  refine XK.block ?_
  refine XK.seq ?_
  have hkn : k < n := by omega
  obtain ⟨r, cT⟩ : ∃ r, rows[k]? = some r := ⟨rows[k]'(by omega), List.getElem?_eq_getElem _⟩
  obtain ⟨e1, jV⟩ : ∃ e, es[k]? = some e := ⟨es[k]'(by omega), List.getElem?_eq_getElem _⟩
  obtain ⟨b, off, rfl, c1⟩ := hs.row hr cT hkn
  have dW := hr r (List.mem_of_getElem? cT)
  refine XK.region ?_
  refine dB (k) (off + k * 3) (el := 75) (sz := 3) (by kernel_rfl) (by kernel_rfl) rfl rfl (by omega) (by omega) (by omega) (by decide) ?_
  refine tC 3 (by kernel_rfl) rfl (by first | assumption | exact aC.whole 0 rfl | exact aC.whole 1 rfl | exact aC.whole 2 rfl | exact aC.whole 3 rfl | exact aC.whole 4 rfl | exact aC.whole 5 rfl | exact aC.whole 6 rfl | exact aC.whole 7 rfl | exact aC.whole 8 rfl | exact aC.eM (by simp) (by assumption)) dW (by decide) ?_
  refine cD (cs := [.int .i64 0, .int .i64 0, .bool false]) (aM (by kernel_rfl)) (by decide) fun g1 => ?_
  refine jP 0 rfl rfl rfl (by rw [show (Value.agg r.toArray).cells.size = 3 by simp [Value.cells, dW]]; kernel_rfl) (hone r (List.mem_of_getElem? cT)) (by simp [Value.cells, dW]) ?_
  rw [En (by simp [Value.cells, dW])]
  dsimp only [List.set, Value.cells]
  refine XK.aA ?_
  refine XK.seq ?_
  refine XK.region ?_
  refine aF rfl (by decide) ?_
  refine tC 3 (by kernel_rfl) rfl (by first | assumption | exact aC.whole 0 rfl | exact aC.whole 1 rfl | exact aC.whole 2 rfl | exact aC.whole 3 rfl | exact aC.whole 4 rfl | exact aC.whole 5 rfl | exact aC.whole 6 rfl | exact aC.whole 7 rfl | exact aC.whole 8 rfl | exact aC.eM (by simp) (by assumption)) dW (by decide) ?_
  refine bA (f := id) (fi := []) (ca := ca) hc rfl rfl (by decide) (fun w1 st => by have := hf k r e1 cT jV w1 (st.started (by simp)); simpa using this) ?_
  refine aH rfl (by decide) ?_
  refine XK.aA ?_
  refine XK.seq ?_
  refine XK.region ?_
  refine aF rfl (by decide) ?_
  refine mQ rfl rfl (by decide) ?_
  refine XK.aA ?_
  refine XK.if_ rfl (fun h => ?_) (fun h => ?_)
  ·
   refine XK.seq ?_
   refine XK.region ?_
   refine aF rfl (by decide) ?_
   refine aH rfl (by decide) ?_
   refine XK.aA ?_
   refine XK.ret ?_
   refine XK.norm ?_
   exact XK.aK rfl rfl fun w1 st => ⟨by rw [Ak hz jV h], st.below (by simp)⟩
  ·
   refine XK.skip ?_
   refine XK.norm ?_
   refine XK.region ?_
   refine dD rfl rfl (aY (by omega)) (by decide) ?_
   refine aF rfl (by decide) ?_
   refine XK.aA ?_
   exact XK.weak [] rfl (by decide) (by simp) (XK.aL [(10, .int .i64 (k + 1)), (9, .int .i64 n), (8, .slice (some ⟨b, off, none⟩) n c), (1, .func (.func id) #[] ca.toArray)] (XK.round (n - (k + 1)) (by omega) ⟨k + 1, by omega, rfl, (Bg hz (by rw [jV, show e1 = 0 by omega])), rfl, rfl, rfl⟩))
 ·
  refine XK.exit ?_
  refine XK.norm ?_
  refine XK.seq ?_
  refine XK.region ?_
  refine aH rfl (by decide) ?_
  refine XK.aA ?_
  refine XK.ret ?_
  refine XK.norm ?_
  exact XK.aK rfl rfl fun w1 st => ⟨by rw [xU (fun j hj => hz j (by omega))], st.below (by simp)⟩
theorem aFL (A : Option Addr) (n c : Nat) (id : FuncId) (ca : List Value) (rows : List (List Value)) (es : List Int) (w : World) (hs : aI (all w) 1 A n rows.flatten) (hr : ∀ r ∈ rows, r.length = 1) (hone : ∀ r ∈ rows, ∀ u ∈ r, u.oneCell' = true) (hn : rows.length = n) (hl : es.length = n) (hn2 : (n : Int) ≤ 9223372036854775806) (hc : eY Tryz.prog id = true)
  (hf : ∀ (i : Nat) (r : List Value) (e : Int), rows[i]? = some r → es[i]? = some e → ∀ w', Below w.heap.size w w' → Calls Tryz.prog id ([Value.agg r.toArray] ++ ca).toArray w' (Rt (.int .i64 e) w')) :
  Calls Tryz.prog 134 #[.slice A n c, .func (.func id) #[] ca.toArray] w (Rt (.int .i64 (fY es)) w) := by
 refine XK.enter (vs := [.slice A n c, .func (.func id) #[] ca.toArray]) Tryz.func134 rfl Tryz.ntmps134 (by simp) ?_
 refine XK.seq ?_
 refine XK.region ?_
 refine aH rfl (by decide) ?_
 refine XK.aA ?_
 refine XK.seq ?_
 refine XK.seq ?_
 refine XK.region ?_
 refine aF rfl (by decide) ?_
 refine cY (el := 120) (by kernel_rfl) rfl (by decide) ?_
 refine aF rfl (by decide) ?_
 refine XK.aA ?_
 refine XK.aL [(10, .int .i64 0), (9, .int .i64 n), (8, .slice A n c), (1, .func (.func id) #[] ca.toArray)] ?_
 refine XK.block ?_
 refine XK.loop (fun m e R H => ∃ k : Nat, k ≤ n ∧ m = n - k ∧ (∀ j, j < k → es[j]? = some 0) ∧ e = [(10, .int .i64 k), (9, .int .i64 n), (8, .slice A n c), (1, .func (.func id) #[] ca.toArray)] ∧ R = [all w] ∧ H = []) n ⟨0, by omega, rfl, fun j hj => absurd hj (by omega), rfl, rfl, rfl⟩ fun m e R H hI => ?_
 obtain ⟨k, hk, rfl, hz, rfl, rfl, rfl⟩ := hI
 refine XK.seq ?_
 refine XK.region ?_
 refine fB rfl rfl (by decide) ?_
 refine XK.aA ?_
 refine XK.seq ?_
 refine XK.if_ rfl (fun h => ?_) (fun h => ?_)
 ·
  refine XK.skip ?_
  refine XK.norm ?_
  refine XK.seq ?_
  refine XK.block ?_
  refine XK.seq ?_
  have hkn : k < n := by omega
  obtain ⟨r, cT⟩ : ∃ r, rows[k]? = some r := ⟨rows[k]'(by omega), List.getElem?_eq_getElem _⟩
  obtain ⟨e1, jV⟩ : ∃ e, es[k]? = some e := ⟨es[k]'(by omega), List.getElem?_eq_getElem _⟩
  obtain ⟨b, off, rfl, c1⟩ := hs.row hr cT hkn
  have dW := hr r (List.mem_of_getElem? cT)
  refine XK.region ?_
  refine dB (k) (off + k * 1) (el := 120) (sz := 1) (by kernel_rfl) (by kernel_rfl) rfl rfl (by omega) (by omega) (by omega) (by decide) ?_
  refine tC 1 (by kernel_rfl) rfl (by first | assumption | exact aC.whole 0 rfl | exact aC.whole 1 rfl | exact aC.whole 2 rfl | exact aC.whole 3 rfl | exact aC.whole 4 rfl | exact aC.whole 5 rfl | exact aC.whole 6 rfl | exact aC.whole 7 rfl | exact aC.whole 8 rfl | exact aC.eM (by simp) (by assumption)) dW (by decide) ?_
  refine cD (cs := [.int .i64 0]) (aM (by kernel_rfl)) (by decide) fun g1 => ?_
  refine jP 0 rfl rfl rfl (by rw [show (Value.agg r.toArray).cells.size = 1 by simp [Value.cells, dW]]; kernel_rfl) (hone r (List.mem_of_getElem? cT)) (by simp [Value.cells, dW]) ?_
  rw [En (by simp [Value.cells, dW])]
  dsimp only [List.set, Value.cells]
  refine XK.aA ?_
  refine XK.seq ?_
  refine XK.region ?_
  refine aF rfl (by decide) ?_
  refine tC 1 (by kernel_rfl) rfl (by first | assumption | exact aC.whole 0 rfl | exact aC.whole 1 rfl | exact aC.whole 2 rfl | exact aC.whole 3 rfl | exact aC.whole 4 rfl | exact aC.whole 5 rfl | exact aC.whole 6 rfl | exact aC.whole 7 rfl | exact aC.whole 8 rfl | exact aC.eM (by simp) (by assumption)) dW (by decide) ?_
  refine bA (f := id) (fi := []) (ca := ca) hc rfl rfl (by decide) (fun w1 st => by have := hf k r e1 cT jV w1 (st.started (by simp)); simpa using this) ?_
  refine aH rfl (by decide) ?_
  refine XK.aA ?_
  refine XK.seq ?_
  refine XK.region ?_
  refine aF rfl (by decide) ?_
  refine mQ rfl rfl (by decide) ?_
  refine XK.aA ?_
  refine XK.if_ rfl (fun h => ?_) (fun h => ?_)
  ·
   refine XK.seq ?_
   refine XK.region ?_
   refine aF rfl (by decide) ?_
   refine aH rfl (by decide) ?_
   refine XK.aA ?_
   refine XK.ret ?_
   refine XK.norm ?_
   exact XK.aK rfl rfl fun w1 st => ⟨by rw [Ak hz jV h], st.below (by simp)⟩
  ·
   refine XK.skip ?_
   refine XK.norm ?_
   refine XK.region ?_
   refine dD rfl rfl (aY (by omega)) (by decide) ?_
   refine aF rfl (by decide) ?_
   refine XK.aA ?_
   exact XK.weak [] rfl (by decide) (by simp) (XK.aL [(10, .int .i64 (k + 1)), (9, .int .i64 n), (8, .slice (some ⟨b, off, none⟩) n c), (1, .func (.func id) #[] ca.toArray)] (XK.round (n - (k + 1)) (by omega) ⟨k + 1, by omega, rfl, (Bg hz (by rw [jV, show e1 = 0 by omega])), rfl, rfl, rfl⟩))
 ·
  refine XK.exit ?_
  refine XK.norm ?_
  refine XK.seq ?_
  refine XK.region ?_
  refine aH rfl (by decide) ?_
  refine XK.aA ?_
  refine XK.ret ?_
  refine XK.norm ?_
  exact XK.aK rfl rfl fun w1 st => ⟨by rw [xU (fun j hj => hz j (by omega))], st.below (by simp)⟩
theorem aAw (A : Option Addr) (n c : Nat) (id : FuncId) (ca : List Value) (rows : List (List Value)) (es : List Int) (w : World) (hs : aI (all w) 6 A n rows.flatten) (hr : ∀ r ∈ rows, r.length = 6) (hone : ∀ r ∈ rows, ∀ u ∈ r, u.oneCell' = true) (hn : rows.length = n) (hl : es.length = n) (hn2 : (n : Int) ≤ 9223372036854775806) (hc : eY Tryz.prog id = true)
  (hf : ∀ (i : Nat) (r : List Value) (e : Int), rows[i]? = some r → es[i]? = some e → ∀ w', Below w.heap.size w w' → Calls Tryz.prog id ([Value.agg r.toArray] ++ ca).toArray w' (Rt (.int .i64 e) w')) :
  Calls Tryz.prog 137 #[.slice A n c, .func (.func id) #[] ca.toArray] w (Rt (.int .i64 (fY es)) w) := by
 refine XK.enter (vs := [.slice A n c, .func (.func id) #[] ca.toArray]) Tryz.func137 rfl Tryz.ntmps137 (by simp) ?_
 refine XK.seq ?_
 refine XK.region ?_
 refine aH rfl (by decide) ?_
 refine XK.aA ?_
 refine XK.seq ?_
 refine XK.seq ?_
 refine XK.region ?_
 refine aF rfl (by decide) ?_
 refine cY (el := 78) (by kernel_rfl) rfl (by decide) ?_
 refine aF rfl (by decide) ?_
 refine XK.aA ?_
 refine XK.aL [(10, .int .i64 0), (9, .int .i64 n), (8, .slice A n c), (1, .func (.func id) #[] ca.toArray)] ?_
 refine XK.block ?_
 refine XK.loop (fun m e R H => ∃ k : Nat, k ≤ n ∧ m = n - k ∧ (∀ j, j < k → es[j]? = some 0) ∧ e = [(10, .int .i64 k), (9, .int .i64 n), (8, .slice A n c), (1, .func (.func id) #[] ca.toArray)] ∧ R = [all w] ∧ H = []) n ⟨0, by omega, rfl, fun j hj => absurd hj (by omega), rfl, rfl, rfl⟩ fun m e R H hI => ?_
 obtain ⟨k, hk, rfl, hz, rfl, rfl, rfl⟩ := hI
 refine XK.seq ?_
 refine XK.region ?_
 refine fB rfl rfl (by decide) ?_
 refine XK.aA ?_
 refine XK.seq ?_
 refine XK.if_ rfl (fun h => ?_) (fun h => ?_)
 ·
  refine XK.skip ?_
  refine XK.norm ?_
  refine XK.seq ?_
  refine XK.block ?_
  refine XK.seq ?_
  have hkn : k < n := by omega
  obtain ⟨r, cT⟩ : ∃ r, rows[k]? = some r := ⟨rows[k]'(by omega), List.getElem?_eq_getElem _⟩
  obtain ⟨e1, jV⟩ : ∃ e, es[k]? = some e := ⟨es[k]'(by omega), List.getElem?_eq_getElem _⟩
  obtain ⟨b, off, rfl, c1⟩ := hs.row hr cT hkn
  have dW := hr r (List.mem_of_getElem? cT)
  refine XK.region ?_
  refine dB (k) (off + k * 6) (el := 78) (sz := 6) (by kernel_rfl) (by kernel_rfl) rfl rfl (by omega) (by omega) (by omega) (by decide) ?_
  refine tC 6 (by kernel_rfl) rfl (by first | assumption | exact aC.whole 0 rfl | exact aC.whole 1 rfl | exact aC.whole 2 rfl | exact aC.whole 3 rfl | exact aC.whole 4 rfl | exact aC.whole 5 rfl | exact aC.whole 6 rfl | exact aC.whole 7 rfl | exact aC.whole 8 rfl | exact aC.eM (by simp) (by assumption)) dW (by decide) ?_
  refine cD (cs := [.int .i64 0, .int .i64 0, .int .i64 0, .int .u32 0, .slice none 0 0, .slice none 0 0]) (aM (by kernel_rfl)) (by decide) fun g1 => ?_
  refine jP 0 rfl rfl rfl (by rw [show (Value.agg r.toArray).cells.size = 6 by simp [Value.cells, dW]]; kernel_rfl) (hone r (List.mem_of_getElem? cT)) (by simp [Value.cells, dW]) ?_
  rw [En (by simp [Value.cells, dW])]
  dsimp only [List.set, Value.cells]
  refine XK.aA ?_
  refine XK.seq ?_
  refine XK.region ?_
  refine aF rfl (by decide) ?_
  refine tC 6 (by kernel_rfl) rfl (by first | assumption | exact aC.whole 0 rfl | exact aC.whole 1 rfl | exact aC.whole 2 rfl | exact aC.whole 3 rfl | exact aC.whole 4 rfl | exact aC.whole 5 rfl | exact aC.whole 6 rfl | exact aC.whole 7 rfl | exact aC.whole 8 rfl | exact aC.eM (by simp) (by assumption)) dW (by decide) ?_
  refine bA (f := id) (fi := []) (ca := ca) hc rfl rfl (by decide) (fun w1 st => by have := hf k r e1 cT jV w1 (st.started (by simp)); simpa using this) ?_
  refine aH rfl (by decide) ?_
  refine XK.aA ?_
  refine XK.seq ?_
  refine XK.region ?_
  refine aF rfl (by decide) ?_
  refine mQ rfl rfl (by decide) ?_
  refine XK.aA ?_
  refine XK.if_ rfl (fun h => ?_) (fun h => ?_)
  ·
   refine XK.seq ?_
   refine XK.region ?_
   refine aF rfl (by decide) ?_
   refine aH rfl (by decide) ?_
   refine XK.aA ?_
   refine XK.ret ?_
   refine XK.norm ?_
   exact XK.aK rfl rfl fun w1 st => ⟨by rw [Ak hz jV h], st.below (by simp)⟩
  ·
   refine XK.skip ?_
   refine XK.norm ?_
   refine XK.region ?_
   refine dD rfl rfl (aY (by omega)) (by decide) ?_
   refine aF rfl (by decide) ?_
   refine XK.aA ?_
   exact XK.weak [] rfl (by decide) (by simp) (XK.aL [(10, .int .i64 (k + 1)), (9, .int .i64 n), (8, .slice (some ⟨b, off, none⟩) n c), (1, .func (.func id) #[] ca.toArray)] (XK.round (n - (k + 1)) (by omega) ⟨k + 1, by omega, rfl, (Bg hz (by rw [jV, show e1 = 0 by omega])), rfl, rfl, rfl⟩))
 ·
  refine XK.exit ?_
  refine XK.norm ?_
  refine XK.seq ?_
  refine XK.region ?_
  refine aH rfl (by decide) ?_
  refine XK.aA ?_
  refine XK.ret ?_
  refine XK.norm ?_
  exact XK.aK rfl rfl fun w1 st => ⟨by rw [xU (fun j hj => hz j (by omega))], st.below (by simp)⟩
end
section
def gP (kind : Int) (n : Nat) : Bool := if kind = 111 then decide (n = 0) else if kind = 112 ∨ kind = 100 ∨ kind = 103 then decide (n = 1) else if kind = 109 then eI n 1 4 else false
def nM (kind rate mul div lock : Int) : Bool :=
 if kind = 111 then decide (1 ≤ rate) && decide (rate ≤ 1099511627776) else if kind = 112 then eI mul 1 1000 && eI div 1 1000 && eI lock 0 20 else if kind = 100 then eI div 1 1000 else true
def Ay (n1 : Nat) (c : cZ) : Int := fY [eL (!gP c.kind c.src.length) 1, fY (c.src.map fun f => eL (!eI f 0 ((n1 : Int) - 1)) 4), eL (!nM c.kind c.rate c.mul c.div c.lock) 3]
def Cr (n2 : Nat) (d : Dom) : Int := fY [eL (decide (¬ d.above = -1) && !eI d.above 0 ((n2 : Int) - 1)) 4, eL (!eI d.delay 0 20) 3]
def Jo (r : Int) : Int := eL (!eI r 0 20) 3
def Cw (n1 n2 n3 n4 : Nat) (d : bN) : Int :=
 fY [eL (!eI d.clock 0 ((n1 : Int) - 1)) 4, eL (!eI d.domain 0 ((n2 : Int) - 1)) 4, eL (!eI d.reset 0 ((n3 : Int) - 1)) 4, fY (d.iC.map fun f => eL (!eI f 0 ((n4 : Int) - 1)) 4)]
def Bx (d : bN) : Int := eL (decide ((8 : Int) < d.aQ.length) || decide ((6 : Int) < d.iC.length)) 8
theorem aAl (l : List Value) : (l.map fun v => [v]).flatten = l := by induction l <;> simp_all
theorem aCi (kind rate mul div lock : Int) (A : Option Addr) (n k : Nat) (w : World) :
  Calls Tryz.prog 201 #[.agg #[.int .u8 kind, .slice A n k, .int .u64 rate, .int .i64 mul, .int .i64 div, .int .i64 lock]] w (Rt (.bool (gP kind n)) w) := by
 refine XK.enter (vs := [.agg #[.int .u8 kind, .slice A n k, .int .u64 rate, .int .i64 mul, .int .i64 div, .int .i64 lock]]) Tryz.func201 rfl Tryz.ntmps201 (by simp) ?_
 refine XK.seq ?_
 refine XK.region ?_
 refine bY rfl (by decide) fun g1 => ?_
 refine aH rfl (by decide) ?_
 refine XK.aA ?_
 refine XK.seq ?_
 refine XK.seq ?_
 refine XK.region ?_
 refine aW (off := 0) (by kernel_rfl) rfl (by decide) ?_
 refine aZ rfl ?_
 refine XK.aA ?_
 refine XK.block ?_
 refine XK.seq ?_
 refine XK.region ?_
 refine eH rfl rfl (by decide) ?_
 refine aH rfl (by decide) ?_
 refine XK.aA ?_
 refine XK.if_ rfl (fun h => ?_) (fun h => ?_)
 ·
  refine XK.seq ?_
  refine XK.region ?_
  refine aW (off := 1) (by kernel_rfl) rfl (by decide) ?_
  refine aZ rfl ?_
  refine cY (el := 3) (by kernel_rfl) rfl (by decide) ?_
  refine eH rfl rfl (by decide) ?_
  refine aH rfl (by decide) ?_
  refine XK.aA ?_
  refine XK.ret ?_
  refine XK.norm ?_
  exact XK.aK rfl rfl fun w1 st => ⟨by first | (exfalso; omega) | (simp [gP, *]; done) | (simp [gP, *]; omega), st.below (by simp)⟩
 ·
  refine XK.seq ?_
  refine XK.seq ?_
  refine XK.region ?_
  refine eH rfl rfl (by decide) ?_
  refine aH rfl (by decide) ?_
  refine XK.aA ?_
  refine XK.if_ rfl (fun h => ?_) (fun h => ?_)
  ·
   refine XK.skip ?_
   refine XK.norm ?_
   refine XK.if_ rfl (fun h => ?_) (fun h => ?_)
   ·
    refine XK.seq ?_
    refine XK.region ?_
    refine aW (off := 1) (by kernel_rfl) rfl (by decide) ?_
    refine aZ rfl ?_
    refine cY (el := 3) (by kernel_rfl) rfl (by decide) ?_
    refine eH rfl rfl (by decide) ?_
    refine aH rfl (by decide) ?_
    refine XK.aA ?_
    refine XK.ret ?_
    refine XK.norm ?_
    exact XK.aK rfl rfl fun w1 st => ⟨by first | (exfalso; omega) | (simp [gP, *]; done) | (simp [gP, *]; omega), st.below (by simp)⟩
   ·
    refine XK.seq ?_
    refine XK.region ?_
    refine eH rfl rfl (by decide) ?_
    refine aH rfl (by decide) ?_
    refine XK.aA ?_
    refine XK.if_ rfl (fun h => ?_) (fun h => ?_)
    ·
     refine XK.seq ?_
     refine XK.region ?_
     refine aW (off := 1) (by kernel_rfl) rfl (by decide) ?_
     refine aZ rfl ?_
     refine cY (el := 3) (by kernel_rfl) rfl (by decide) ?_
     refine bA (f := 205) (fi := []) (ca := []) (by kernel_rfl) rfl rfl (by decide) (fun w1 st => nX _ _ _ w1) ?_
     refine aH rfl (by decide) ?_
     refine XK.aA ?_
     refine XK.ret ?_
     refine XK.norm ?_
     exact XK.aK rfl rfl fun w1 st => ⟨by first | (exfalso; omega) | (simp [gP, *]; done) | (simp [gP, *]; omega), st.below (by simp)⟩
    ·
     refine XK.skip ?_
     refine XK.norm ?_
     refine XK.seq ?_
     refine XK.region ?_
     refine aH rfl (by decide) ?_
     refine XK.aA ?_
     refine XK.ret ?_
     refine XK.norm ?_
     exact XK.aK rfl rfl fun w1 st => ⟨by first | (exfalso; omega) | (simp [gP, *]; done) | (simp [gP, *]; omega), st.below (by simp)⟩
  ·
   refine XK.seq ?_
   refine XK.region ?_
   refine eH rfl rfl (by decide) ?_
   refine aH rfl (by decide) ?_
   refine XK.aA ?_
   refine XK.if_ rfl (fun h => ?_) (fun h => ?_)
   ·
    refine XK.skip ?_
    refine XK.norm ?_
    refine XK.if_ rfl (fun h => ?_) (fun h => ?_)
    ·
     refine XK.seq ?_
     refine XK.region ?_
     refine aW (off := 1) (by kernel_rfl) rfl (by decide) ?_
     refine aZ rfl ?_
     refine cY (el := 3) (by kernel_rfl) rfl (by decide) ?_
     refine eH rfl rfl (by decide) ?_
     refine aH rfl (by decide) ?_
     refine XK.aA ?_
     refine XK.ret ?_
     refine XK.norm ?_
     exact XK.aK rfl rfl fun w1 st => ⟨by first | (exfalso; omega) | (simp [gP, *]; done) | (simp [gP, *]; omega), st.below (by simp)⟩
    ·
     refine XK.seq ?_
     refine XK.region ?_
     refine eH rfl rfl (by decide) ?_
     refine aH rfl (by decide) ?_
     refine XK.aA ?_
     refine XK.if_ rfl (fun h => ?_) (fun h => ?_)
     ·
      refine XK.seq ?_
      refine XK.region ?_
      refine aW (off := 1) (by kernel_rfl) rfl (by decide) ?_
      refine aZ rfl ?_
      refine cY (el := 3) (by kernel_rfl) rfl (by decide) ?_
      refine bA (f := 205) (fi := []) (ca := []) (by kernel_rfl) rfl rfl (by decide) (fun w1 st => nX _ _ _ w1) ?_
      refine aH rfl (by decide) ?_
      refine XK.aA ?_
      refine XK.ret ?_
      refine XK.norm ?_
      exact XK.aK rfl rfl fun w1 st => ⟨by first | (exfalso; omega) | (simp [gP, *]; done) | (simp [gP, *]; omega), st.below (by simp)⟩
     ·
      refine XK.skip ?_
      refine XK.norm ?_
      refine XK.seq ?_
      refine XK.region ?_
      refine aH rfl (by decide) ?_
      refine XK.aA ?_
      refine XK.ret ?_
      refine XK.norm ?_
      exact XK.aK rfl rfl fun w1 st => ⟨by first | (exfalso; omega) | (simp [gP, *]; done) | (simp [gP, *]; omega), st.below (by simp)⟩
   ·
    refine XK.region ?_
    refine eH rfl rfl (by decide) ?_
    refine aH rfl (by decide) ?_
    refine XK.aA ?_
    refine XK.if_ rfl (fun h => ?_) (fun h => ?_)
    ·
     refine XK.seq ?_
     refine XK.region ?_
     refine aW (off := 1) (by kernel_rfl) rfl (by decide) ?_
     refine aZ rfl ?_
     refine cY (el := 3) (by kernel_rfl) rfl (by decide) ?_
     refine eH rfl rfl (by decide) ?_
     refine aH rfl (by decide) ?_
     refine XK.aA ?_
     refine XK.ret ?_
     refine XK.norm ?_
     exact XK.aK rfl rfl fun w1 st => ⟨by first | (exfalso; omega) | (simp [gP, *]; done) | (simp [gP, *]; omega), st.below (by simp)⟩
    ·
     refine XK.seq ?_
     refine XK.region ?_
     refine eH rfl rfl (by decide) ?_
     refine aH rfl (by decide) ?_
     refine XK.aA ?_
     refine XK.if_ rfl (fun h => ?_) (fun h => ?_)
     ·
      refine XK.seq ?_
      refine XK.region ?_
      refine aW (off := 1) (by kernel_rfl) rfl (by decide) ?_
      refine aZ rfl ?_
      refine cY (el := 3) (by kernel_rfl) rfl (by decide) ?_
      refine bA (f := 205) (fi := []) (ca := []) (by kernel_rfl) rfl rfl (by decide) (fun w1 st => nX _ _ _ w1) ?_
      refine aH rfl (by decide) ?_
      refine XK.aA ?_
      refine XK.ret ?_
      refine XK.norm ?_
      exact XK.aK rfl rfl fun w1 st => ⟨by first | (exfalso; omega) | (simp [gP, *]; done) | (simp [gP, *]; omega), st.below (by simp)⟩
     ·
      refine XK.skip ?_
      refine XK.norm ?_
      refine XK.seq ?_
      refine XK.region ?_
      refine aH rfl (by decide) ?_
      refine XK.aA ?_
      refine XK.ret ?_
      refine XK.norm ?_
      exact XK.aK rfl rfl fun w1 st => ⟨by first | (exfalso; omega) | (simp [gP, *]; done) | (simp [gP, *]; omega), st.below (by simp)⟩
theorem aD2 (kind rate mul div lock : Int) (A : Option Addr) (n k : Nat) (w : World) :
  Calls Tryz.prog 207 #[.agg #[.int .u8 kind, .slice A n k, .int .u64 rate, .int .i64 mul, .int .i64 div, .int .i64 lock]] w (Rt (.bool (nM kind rate mul div lock)) w) := by
 refine XK.enter (vs := [.agg #[.int .u8 kind, .slice A n k, .int .u64 rate, .int .i64 mul, .int .i64 div, .int .i64 lock]]) Tryz.func207 rfl Tryz.ntmps207 (by simp) ?_
 refine XK.seq ?_
 refine XK.region ?_
 refine bY rfl (by decide) fun g1 => ?_
 refine aH rfl (by decide) ?_
 refine XK.aA ?_
 refine XK.seq ?_
 refine XK.seq ?_
 refine XK.region ?_
 refine aW (off := 0) (by kernel_rfl) rfl (by decide) ?_
 refine aZ rfl ?_
 refine XK.aA ?_
 refine XK.block ?_
 refine XK.seq ?_
 refine XK.region ?_
 refine eH rfl rfl (by decide) ?_
 refine aH rfl (by decide) ?_
 refine XK.aA ?_
 refine XK.if_ rfl (fun h => ?_) (fun h => ?_)
 ·
  refine XK.seq ?_
  refine XK.region ?_
  refine aW (off := 2) (by kernel_rfl) rfl (by decide) ?_
  refine aZ rfl ?_
  refine uK rfl rfl (by decide) ?_
  refine aF rfl (by decide) ?_
  refine iX (t := 10) rfl (fun hg => ?_) (fun hg => ?_)
  ·
   refine aO rfl rfl ?_; refine aW (off := 2) (by kernel_rfl) rfl (by decide) ?_
   refine aO rfl rfl ?_; refine aZ rfl ?_
   refine aO rfl rfl ?_; refine Nc rfl rfl (by decide) ?_
   (first | refine bJ rfl rfl (by decide) ?_ | refine bK rfl rfl (by decide) ?_)
   refine aH rfl (by decide) ?_
   refine XK.aA ?_
   refine XK.ret ?_
   refine XK.norm ?_
   exact XK.aK rfl rfl fun w1 st => ⟨by simp [nM, *], st.below (by simp)⟩
  ·
   refine aN rfl rfl rfl (by decide) ?_
   refine aN rfl rfl rfl (by decide) ?_
   refine aN rfl rfl rfl (by decide) ?_
   (first | refine bJ rfl rfl (by decide) ?_ | refine bK rfl rfl (by decide) ?_)
   refine aH rfl (by decide) ?_
   refine XK.aA ?_
   refine XK.ret ?_
   refine XK.norm ?_
   exact XK.aK rfl rfl fun w1 st => ⟨by simp [nM, *], st.below (by simp)⟩
 ·
  refine XK.seq ?_
  refine XK.region ?_
  refine eH rfl rfl (by decide) ?_
  refine aH rfl (by decide) ?_
  refine XK.aA ?_
  refine XK.if_ rfl (fun h => ?_) (fun h => ?_)
  ·
   refine XK.seq ?_
   refine XK.region ?_
   refine aW (off := 3) (by kernel_rfl) rfl (by decide) ?_
   refine aZ rfl ?_
   refine bA (f := 205) (fi := []) (ca := []) (by kernel_rfl) rfl rfl (by decide) (fun w1 st => nX _ _ _ w1) ?_
   refine aF rfl (by decide) ?_
   refine iX (t := 20) rfl (fun hg => ?_) (fun hg => ?_)
   ·
    refine aO rfl rfl ?_; refine aW (off := 4) (by kernel_rfl) rfl (by decide) ?_
    refine aO rfl rfl ?_; refine aZ rfl ?_
    refine aO rfl rfl ?_; refine bA (f := 205) (fi := []) (ca := []) (by kernel_rfl) rfl rfl (by decide) (fun w1 st => nX _ _ _ w1) ?_
    (first | refine bJ rfl rfl (by decide) ?_ | refine bK rfl rfl (by decide) ?_)
    refine aF rfl (by decide) ?_
    refine iX (t := 25) rfl (fun hg => ?_) (fun hg => ?_)
    ·
     refine aO rfl rfl ?_; refine aW (off := 5) (by kernel_rfl) rfl (by decide) ?_
     refine aO rfl rfl ?_; refine aZ rfl ?_
     refine aO rfl rfl ?_; refine bA (f := 205) (fi := []) (ca := []) (by kernel_rfl) rfl rfl (by decide) (fun w1 st => nX _ _ _ w1) ?_
     (first | refine bJ rfl rfl (by decide) ?_ | refine bK rfl rfl (by decide) ?_)
     refine aH rfl (by decide) ?_
     refine XK.aA ?_
     refine XK.ret ?_
     refine XK.norm ?_
     exact XK.aK rfl rfl fun w1 st => ⟨by simp [nM, *], st.below (by simp)⟩
    ·
     refine aN rfl rfl rfl (by decide) ?_
     refine aN rfl rfl rfl (by decide) ?_
     refine aN rfl rfl rfl (by decide) ?_
     (first | refine bJ rfl rfl (by decide) ?_ | refine bK rfl rfl (by decide) ?_)
     refine aH rfl (by decide) ?_
     refine XK.aA ?_
     refine XK.ret ?_
     refine XK.norm ?_
     exact XK.aK rfl rfl fun w1 st => ⟨by simp [nM, *], st.below (by simp)⟩
   ·
    refine aN rfl rfl rfl (by decide) ?_
    refine aN rfl rfl rfl (by decide) ?_
    refine aN rfl rfl rfl (by decide) ?_
    (first | refine bJ rfl rfl (by decide) ?_ | refine bK rfl rfl (by decide) ?_)
    refine aF rfl (by decide) ?_
    refine aN rfl rfl rfl (by decide) ?_
    refine aN rfl rfl rfl (by decide) ?_
    refine aN rfl rfl rfl (by decide) ?_
    (first | refine bJ rfl rfl (by decide) ?_ | refine bK rfl rfl (by decide) ?_)
    refine aH rfl (by decide) ?_
    refine XK.aA ?_
    refine XK.ret ?_
    refine XK.norm ?_
    exact XK.aK rfl rfl fun w1 st => ⟨by simp [nM, *], st.below (by simp)⟩
  ·
   refine XK.seq ?_
   refine XK.region ?_
   refine eH rfl rfl (by decide) ?_
   refine aH rfl (by decide) ?_
   refine XK.aA ?_
   refine XK.if_ rfl (fun h => ?_) (fun h => ?_)
   ·
    refine XK.seq ?_
    refine XK.region ?_
    refine aW (off := 4) (by kernel_rfl) rfl (by decide) ?_
    refine aZ rfl ?_
    refine bA (f := 205) (fi := []) (ca := []) (by kernel_rfl) rfl rfl (by decide) (fun w1 st => nX _ _ _ w1) ?_
    refine aH rfl (by decide) ?_
    refine XK.aA ?_
    refine XK.ret ?_
    refine XK.norm ?_
    exact XK.aK rfl rfl fun w1 st => ⟨by simp [nM, *], st.below (by simp)⟩
   ·
    refine XK.skip ?_
    refine XK.norm ?_
    refine XK.seq ?_
    refine XK.region ?_
    refine aH rfl (by decide) ?_
    refine XK.aA ?_
    refine XK.ret ?_
    refine XK.norm ?_
    exact XK.aK rfl rfl fun w1 st => ⟨by simp [nM, *], st.below (by simp)⟩
theorem aGz (kind rate mul div lock : Int) (A : Option Addr) (n k : Nat) (gc : Nat) (w : World) (hb : cX w gc 0 [.int .u8 kind, .slice A n k, .int .u64 rate, .int .i64 mul, .int .i64 div, .int .i64 lock]) :
  Calls Tryz.prog 200 #[.pointer (some ⟨gc, 0, none⟩)] w (Rt (.int .i64 (eL (!gP kind n) 1)) w) := by
 refine XK.enter (vs := [.pointer (some ⟨gc, 0, none⟩)]) Tryz.func200 rfl Tryz.ntmps200 (by simp) ?_
 refine XK.seq ?_
 refine XK.region ?_
 refine aH rfl (by decide) ?_
 refine XK.aA ?_
 refine XK.seq ?_
 refine XK.region ?_
 refine gB 6 rfl ?_
 refine bA (f := 201) (fi := []) (ca := []) (by kernel_rfl) rfl rfl (by decide) (fun w1 st => aCi _ _ _ _ _ _ _ _ w1) ?_
 (first | refine mO rfl (by decide) ?_ | refine mP rfl (by decide) ?_)
 refine bA (f := 199) (fi := []) (ca := []) (by kernel_rfl) rfl rfl (by decide) (fun w1 st => pR _ _ w1) ?_
 refine aH rfl (by decide) ?_
 refine XK.aA ?_
 refine XK.ret ?_
 refine XK.norm ?_
 exact XK.aK rfl rfl fun w1 st => ⟨rfl, st.below (by simp)⟩
theorem aGw (kind rate mul div lock : Int) (A : Option Addr) (n k : Nat) (gc : Nat) (w : World) (hb : cX w gc 0 [.int .u8 kind, .slice A n k, .int .u64 rate, .int .i64 mul, .int .i64 div, .int .i64 lock]) :
  Calls Tryz.prog 206 #[.pointer (some ⟨gc, 0, none⟩)] w (Rt (.int .i64 (eL (!nM kind rate mul div lock) 3)) w) := by
 refine XK.enter (vs := [.pointer (some ⟨gc, 0, none⟩)]) Tryz.func206 rfl Tryz.ntmps206 (by simp) ?_
 refine XK.seq ?_
 refine XK.region ?_
 refine aH rfl (by decide) ?_
 refine XK.aA ?_
 refine XK.seq ?_
 refine XK.region ?_
 refine gB 6 rfl ?_
 refine bA (f := 207) (fi := []) (ca := []) (by kernel_rfl) rfl rfl (by decide) (fun w1 st => aD2 _ _ _ _ _ _ _ _ w1) ?_
 (first | refine mO rfl (by decide) ?_ | refine mP rfl (by decide) ?_)
 refine bA (f := 199) (fi := []) (ca := []) (by kernel_rfl) rfl rfl (by decide) (fun w1 st => pR _ _ w1) ?_
 refine aH rfl (by decide) ?_
 refine XK.aA ?_
 refine XK.ret ?_
 refine XK.norm ?_
 exact XK.aK rfl rfl fun w1 st => ⟨rfl, st.below (by simp)⟩
theorem aGx (f : Int) (A1 A2 A3 A4 : Option Addr) (n1 k1 n2 k2 n3 k3 n4 k4 : Nat) (gs : Nat) (w : World) (hs : cX w gs 0 [.slice A1 n1 k1, .slice A2 n2 k2, .slice A3 n3 k3, .slice A4 n4 k4]) (kS : (n1 : Int) ≤ 9223372036854775806) :
  Calls Tryz.prog 204 #[.int .i64 f, .pointer (some ⟨gs, 0, none⟩)] w (Rt (.int .i64 (eL (!eI f 0 ((n1 : Int) - 1)) 4)) w) := by
 refine XK.enter (vs := [.int .i64 f, .pointer (some ⟨gs, 0, none⟩)]) Tryz.func204 rfl Tryz.ntmps204 (by simp) ?_
 refine XK.seq ?_
 refine XK.region ?_
 refine aH rfl (by decide) ?_
 refine XK.aA ?_
 refine XK.seq ?_
 refine XK.region ?_
 refine aF rfl (by decide) ?_
 refine aW (off := 0) (by kernel_rfl) rfl (by decide) ?_
 refine aZ rfl ?_
 refine cY (el := 118) (by kernel_rfl) rfl (by decide) ?_
 refine vL rfl rfl (aY (by omega)) (by decide) ?_
 refine bA (f := 205) (fi := []) (ca := []) (by kernel_rfl) rfl rfl (by decide) (fun w1 st => nX _ _ _ w1) ?_
 (first | refine mO rfl (by decide) ?_ | refine mP rfl (by decide) ?_)
 refine bA (f := 199) (fi := []) (ca := []) (by kernel_rfl) rfl rfl (by decide) (fun w1 st => pR _ _ w1) ?_
 refine aH rfl (by decide) ?_
 refine XK.aA ?_
 refine XK.ret ?_
 refine XK.norm ?_
 exact XK.aK rfl rfl fun w1 st => ⟨rfl, st.below (by simp)⟩
theorem aGy (kind rate mul div lock : Int) (A : Option Addr) (n k : Nat) (A1 A2 A3 A4 : Option Addr) (n1 k1 n2 k2 n3 k3 n4 k4 : Nat) (gc gs : Nat) (w : World) (hb : cX w gc 0 [.int .u8 kind, .slice A n k, .int .u64 rate, .int .i64 mul, .int .i64 div, .int .i64 lock]) (hs : cX w gs 0 [.slice A1 n1 k1, .slice A2 n2 k2, .slice A3 n3 k3, .slice A4 n4 k4]) (kS : (n1 : Int) ≤ 9223372036854775806) (zs : List Int) (hA : aI (all w) 1 A n (aR zs)) (hn : n = zs.length) (hz : (n : Int) ≤ 9223372036854775806) :
  Calls Tryz.prog 202 #[.pointer (some ⟨gc, 0, none⟩), .pointer (some ⟨gs, 0, none⟩)] w (Rt (.int .i64 (fY (zs.map fun f => eL (!eI f 0 ((n1 : Int) - 1)) 4))) w) := by
 refine XK.enter (vs := [.pointer (some ⟨gc, 0, none⟩), .pointer (some ⟨gs, 0, none⟩)]) Tryz.func202 rfl Tryz.ntmps202 (by simp) ?_
 refine XK.seq ?_
 refine XK.region ?_
 refine aH rfl (by decide) ?_
 refine XK.aA ?_
 refine XK.seq ?_
 refine XK.region ?_
 refine aW (off := 1) (by kernel_rfl) rfl (by decide) ?_
 refine aZ rfl ?_
 refine iA (vf := []) (vc := [.pointer (some ⟨gs, 0, none⟩)]) rfl rfl (by decide) ?_
 refine bA (f := 203) (fi := []) (ca := []) (by kernel_rfl) rfl rfl (by decide) (fun w1 st => aAv _ _ _ 204 [.pointer (some ⟨gs, 0, none⟩)] ((aR zs).map fun v => [v]) (zs.map fun f => eL (!eI f 0 ((n1 : Int) - 1)) 4) w1 (by rw [aAl]; exact hA.le (fF (st.started (by simp)))) (by simp) (by simp [aR]; omega) (by simp; omega) (by omega) (by kernel_rfl) (fun i r x hr hx w2 cV => by
  obtain ⟨f, hf, rfl⟩ : ∃ f, zs[i]? = some f ∧ r = [.int .i64 f] := by
   rw [List.getElem?_map, aR, List.getElem?_map] at hr
   cases hq : zs[i]? with
   | none => simp [hq] at hr
   | some f => simp [hq] at hr; exact ⟨f, rfl, hr.symm⟩
  rw [List.getElem?_map, hf] at hx
  cases hx
  exact aGx f A1 A2 A3 A4 n1 k1 n2 k2 n3 k3 n4 k4 gs w2 ((hs.below (st.started (by simp))).below cV) kS)) ?_
 refine aH rfl (by decide) ?_
 refine XK.aA ?_
 refine XK.ret ?_
 refine XK.norm ?_
 exact XK.aK rfl rfl fun w1 st => ⟨rfl, st.below (by simp)⟩
theorem aGv (kind rate mul div lock : Int) (A : Option Addr) (n k : Nat) (A1 A2 A3 A4 : Option Addr) (n1 k1 n2 k2 n3 k3 n4 k4 : Nat) (w : World) (kS : (n1 : Int) ≤ 9223372036854775806) (zs : List Int) (hA : aI (all w) 1 A n (aR zs)) (hn : n = zs.length) (hz : (n : Int) ≤ 9223372036854775806) :
  Calls Tryz.prog 123 #[.agg #[.slice A1 n1 k1, .slice A2 n2 k2, .slice A3 n3 k3, .slice A4 n4 k4], .agg #[.int .u8 kind, .slice A n k, .int .u64 rate, .int .i64 mul, .int .i64 div, .int .i64 lock]] w (Rt (.int .i64 (Ay n1 ⟨kind, zs, rate, mul, div, lock⟩)) w) := by
 refine XK.enter (vs := [.agg #[.slice A1 n1 k1, .slice A2 n2 k2, .slice A3 n3 k3, .slice A4 n4 k4], .agg #[.int .u8 kind, .slice A n k, .int .u64 rate, .int .i64 mul, .int .i64 div, .int .i64 lock]]) Tryz.func123 rfl Tryz.ntmps123 (by simp) ?_
 refine XK.seq ?_
 refine XK.region ?_
 refine bY rfl (by decide) fun g1 => ?_
 refine bY rfl (by decide) fun g2 => ?_
 refine aH rfl (by decide) ?_
 refine XK.aA ?_
 refine XK.seq ?_
 refine XK.region ?_
 refine iA (vf := []) (vc := [.pointer (some ⟨g2, 0, none⟩)]) rfl rfl (by decide) ?_
 refine iA (vf := []) (vc := [.pointer (some ⟨g2, 0, none⟩), .pointer (some ⟨g1, 0, none⟩)]) rfl rfl (by decide) ?_
 refine iA (vf := []) (vc := [.pointer (some ⟨g2, 0, none⟩)]) rfl rfl (by decide) ?_
 refine eZ (el := 113) (sz := 1) (zs := [.nilFunc]) (by kernel_rfl) (aM (by kernel_rfl)) (by kernel_rfl) rfl (by decide) (by decide) rfl (by simp [aS, aT, Value.cells, List.range_succ, List.set]; rfl) (by decide) fun g3 => ?_
 refine bA (f := 117) (fi := []) (ca := []) (by kernel_rfl) rfl rfl (by decide) (fun w1 st => Ln _ _ _ [(200, [.pointer (some ⟨g2, 0, none⟩)]), (202, [.pointer (some ⟨g2, 0, none⟩), .pointer (some ⟨g1, 0, none⟩)]), (206, [.pointer (some ⟨g2, 0, none⟩)])] [eL (!gP kind n) 1, fY (zs.map fun f => eL (!eI f 0 ((n1 : Int) - 1)) 4), eL (!nM kind rate mul div lock) 3] w1 (st.yR (i := 0) (n := 3) (sz := 1) (cs := [.func (.func 200) #[] #[.pointer (some ⟨g2, 0, none⟩)], .func (.func 202) #[] #[.pointer (some ⟨g2, 0, none⟩), .pointer (some ⟨g1, 0, none⟩)], .func (.func 206) #[] #[.pointer (some ⟨g2, 0, none⟩)]]) rfl rfl) rfl rfl (by decide) (by simp only [List.mem_cons, List.not_mem_nil, or_false]; rintro f (rfl | rfl | rfl) <;> kernel_rfl) (fun i f x hf hx w2 cV => by
  have fE := (st.started (by simp)).trans (cV.mono st.size)
  match i, hf, hx with
  | 0, hf, hx => cases hf; cases hx; exact aGz kind rate mul div lock A n k g2 w2 (st.box (cs := [.int .u8 kind, .slice A n k, .int .u64 rate, .int .i64 mul, .int .i64 div, .int .i64 lock]) (i := 1) rfl |>.below cV)
  | 1, hf, hx => cases hf; cases hx; exact aGy kind rate mul div lock A n k A1 A2 A3 A4 n1 k1 n2 k2 n3 k3 n4 k4 g2 g1 w2 (st.box (cs := [.int .u8 kind, .slice A n k, .int .u64 rate, .int .i64 mul, .int .i64 div, .int .i64 lock]) (i := 1) rfl |>.below cV) (st.box (cs := [.slice A1 n1 k1, .slice A2 n2 k2, .slice A3 n3 k3, .slice A4 n4 k4]) (i := 2) rfl |>.below cV) kS zs (hA.le (fF fE)) hn hz
  | 2, hf, hx => cases hf; cases hx; exact aGw kind rate mul div lock A n k g2 w2 (st.box (cs := [.int .u8 kind, .slice A n k, .int .u64 rate, .int .i64 mul, .int .i64 div, .int .i64 lock]) (i := 1) rfl |>.below cV)
  | i + 3, hf, _ => simp at hf)) ?_
 refine aH rfl (by decide) ?_
 refine XK.aA ?_
 refine XK.ret ?_
 refine XK.norm ?_
 exact XK.aK rfl rfl fun w1 st => ⟨by simp [Ay, hn], st.below (by simp)⟩
theorem aFY (above delay : Int) (ret : Bool) (A1 A2 A3 A4 : Option Addr) (n1 k1 n2 k2 n3 k3 n4 k4 : Nat) (gd gs : Nat) (w : World) (hd : cX w gd 0 [.int .i64 above, .int .i64 delay, .bool ret]) (hs : cX w gs 0 [.slice A1 n1 k1, .slice A2 n2 k2, .slice A3 n3 k3, .slice A4 n4 k4]) (kR : (n2 : Int) ≤ 9223372036854775806) :
  Calls Tryz.prog 209 #[.pointer (some ⟨gd, 0, none⟩), .pointer (some ⟨gs, 0, none⟩)] w (Rt (.int .i64 (eL (decide (¬ above = -1) && !eI above 0 ((n2 : Int) - 1)) 4)) w) := by
 refine XK.enter (vs := [.pointer (some ⟨gd, 0, none⟩), .pointer (some ⟨gs, 0, none⟩)]) Tryz.func209 rfl Tryz.ntmps209 (by simp) ?_
 refine XK.seq ?_
 refine XK.region ?_
 refine aH rfl (by decide) ?_
 refine XK.aA ?_
 refine XK.seq ?_
 refine XK.region ?_
 refine aW (off := 0) (by kernel_rfl) rfl (by decide) ?_
 refine aZ rfl ?_
 refine mQ rfl rfl (by decide) ?_
 refine aF rfl (by decide) ?_
 refine bO (t := 6) rfl (fun hg => ?_) (fun hg => ?_)
 ·
  refine aO rfl rfl ?_; refine aW (off := 0) (by kernel_rfl) rfl (by decide) ?_
  refine aO rfl rfl ?_; refine aZ rfl ?_
  refine aO rfl rfl ?_; refine aW (off := 1) (by kernel_rfl) rfl (by decide) ?_
  refine aO rfl rfl ?_; refine aZ rfl ?_
  refine aO rfl rfl ?_; refine cY (el := 75) (by kernel_rfl) rfl (by decide) ?_
  refine aO rfl rfl ?_; refine vL rfl rfl (aY (by omega)) (by decide) ?_
  refine aO rfl rfl ?_; refine bA (f := 205) (fi := []) (ca := []) (by kernel_rfl) rfl rfl (by decide) (fun w1 st => nX _ _ _ w1) ?_
  refine aO rfl rfl ?_; (first | refine mO rfl (by decide) ?_ | refine mP rfl (by decide) ?_)
  (first | refine bJ rfl rfl (by decide) ?_ | refine bK rfl rfl (by decide) ?_)
  refine bA (f := 199) (fi := []) (ca := []) (by kernel_rfl) rfl rfl (by decide) (fun w1 st => pR _ _ w1) ?_
  refine aH rfl (by decide) ?_
  refine XK.aA ?_
  refine XK.ret ?_
  refine XK.norm ?_
  exact XK.aK rfl rfl fun w1 st => ⟨by simp [hg], st.below (by simp)⟩
 ·
  refine aN rfl rfl rfl (by decide) ?_
  refine aN rfl rfl rfl (by decide) ?_
  refine aN rfl rfl rfl (by decide) ?_
  refine aN rfl rfl rfl (by decide) ?_
  refine aN rfl rfl rfl (by decide) ?_
  refine aN rfl rfl rfl (by decide) ?_
  refine aN rfl rfl rfl (by decide) ?_
  refine aN rfl rfl rfl (by decide) ?_
  (first | refine bJ rfl rfl (by decide) ?_ | refine bK rfl rfl (by decide) ?_)
  refine bA (f := 199) (fi := []) (ca := []) (by kernel_rfl) rfl rfl (by decide) (fun w1 st => pR _ _ w1) ?_
  refine aH rfl (by decide) ?_
  refine XK.aA ?_
  refine XK.ret ?_
  refine XK.norm ?_
  exact XK.aK rfl rfl fun w1 st => ⟨by simp [hg], st.below (by simp)⟩
theorem aFX (above delay : Int) (ret : Bool) (gd : Nat) (w : World) (hd : cX w gd 0 [.int .i64 above, .int .i64 delay, .bool ret]) :
  Calls Tryz.prog 210 #[.pointer (some ⟨gd, 0, none⟩)] w (Rt (.int .i64 (eL (!eI delay 0 20) 3)) w) := by
 refine XK.enter (vs := [.pointer (some ⟨gd, 0, none⟩)]) Tryz.func210 rfl Tryz.ntmps210 (by simp) ?_
 refine XK.seq ?_
 refine XK.region ?_
 refine aH rfl (by decide) ?_
 refine XK.aA ?_
 refine XK.seq ?_
 refine XK.region ?_
 refine aW (off := 1) (by kernel_rfl) rfl (by decide) ?_
 refine aZ rfl ?_
 refine bA (f := 205) (fi := []) (ca := []) (by kernel_rfl) rfl rfl (by decide) (fun w1 st => nX _ _ _ w1) ?_
 (first | refine mO rfl (by decide) ?_ | refine mP rfl (by decide) ?_)
 refine bA (f := 199) (fi := []) (ca := []) (by kernel_rfl) rfl rfl (by decide) (fun w1 st => pR _ _ w1) ?_
 refine aH rfl (by decide) ?_
 refine XK.aA ?_
 refine XK.ret ?_
 refine XK.norm ?_
 exact XK.aK rfl rfl fun w1 st => ⟨rfl, st.below (by simp)⟩
theorem aFW (above delay : Int) (ret : Bool) (A1 A2 A3 A4 : Option Addr) (n1 k1 n2 k2 n3 k3 n4 k4 : Nat) (w : World) (kR : (n2 : Int) ≤ 9223372036854775806) :
  Calls Tryz.prog 130 #[.agg #[.slice A1 n1 k1, .slice A2 n2 k2, .slice A3 n3 k3, .slice A4 n4 k4], .agg #[.int .i64 above, .int .i64 delay, .bool ret]] w (Rt (.int .i64 (Cr n2 ⟨above, delay, ret⟩)) w) := by
 refine XK.enter (vs := [.agg #[.slice A1 n1 k1, .slice A2 n2 k2, .slice A3 n3 k3, .slice A4 n4 k4], .agg #[.int .i64 above, .int .i64 delay, .bool ret]]) Tryz.func130 rfl Tryz.ntmps130 (by simp) ?_
 refine XK.seq ?_
 refine XK.region ?_
 refine bY rfl (by decide) fun g1 => ?_
 refine bY rfl (by decide) fun g2 => ?_
 refine aH rfl (by decide) ?_
 refine XK.aA ?_
 refine XK.seq ?_
 refine XK.region ?_
 refine iA (vf := []) (vc := [.pointer (some ⟨g2, 0, none⟩), .pointer (some ⟨g1, 0, none⟩)]) rfl rfl (by decide) ?_
 refine iA (vf := []) (vc := [.pointer (some ⟨g2, 0, none⟩)]) rfl rfl (by decide) ?_
 refine eZ (el := 113) (sz := 1) (zs := [.nilFunc]) (by kernel_rfl) (aM (by kernel_rfl)) (by kernel_rfl) rfl (by decide) (by decide) rfl (by simp [aS, aT, Value.cells, List.range_succ, List.set]; rfl) (by decide) fun g3 => ?_
 refine bA (f := 117) (fi := []) (ca := []) (by kernel_rfl) rfl rfl (by decide) (fun w1 st => Ln _ _ _ [(209, [.pointer (some ⟨g2, 0, none⟩), .pointer (some ⟨g1, 0, none⟩)]), (210, [.pointer (some ⟨g2, 0, none⟩)])] [eL (decide (¬ above = -1) && !eI above 0 ((n2 : Int) - 1)) 4, eL (!eI delay 0 20) 3] w1 (st.yR (i := 0) (n := 2) (sz := 1) (cs := [.func (.func 209) #[] #[.pointer (some ⟨g2, 0, none⟩), .pointer (some ⟨g1, 0, none⟩)], .func (.func 210) #[] #[.pointer (some ⟨g2, 0, none⟩)]]) rfl rfl) rfl rfl (by decide) (by simp only [List.mem_cons, List.not_mem_nil, or_false]; rintro f (rfl | rfl) <;> kernel_rfl) (fun i f x hf hx w2 cV => by
  have fE := (st.started (by simp)).trans (cV.mono st.size)
  match i, hf, hx with
  | 0, hf, hx => cases hf; cases hx; exact aFY above delay ret A1 A2 A3 A4 n1 k1 n2 k2 n3 k3 n4 k4 g2 g1 w2 (st.box (cs := [.int .i64 above, .int .i64 delay, .bool ret]) (i := 1) rfl |>.below cV) (st.box (cs := [.slice A1 n1 k1, .slice A2 n2 k2, .slice A3 n3 k3, .slice A4 n4 k4]) (i := 2) rfl |>.below cV) kR
  | 1, hf, hx => cases hf; cases hx; exact aFX above delay ret g2 w2 (st.box (cs := [.int .i64 above, .int .i64 delay, .bool ret]) (i := 1) rfl |>.below cV)
  | i + 2, hf, _ => simp at hf)) ?_
 refine aH rfl (by decide) ?_
 refine XK.aA ?_
 refine XK.ret ?_
 refine XK.norm ?_
 exact XK.aK rfl rfl fun w1 st => ⟨rfl, st.below (by simp)⟩
theorem aCD (r : Int) (w : World) :
  Calls Tryz.prog 135 #[.agg #[.int .i64 r]] w (Rt (.int .i64 (Jo r)) w) := by
 refine XK.enter (vs := [.agg #[.int .i64 r]]) Tryz.func135 rfl Tryz.ntmps135 (by simp) ?_
 refine XK.seq ?_
 refine XK.region ?_
 refine bY rfl (by decide) fun g1 => ?_
 refine aH rfl (by decide) ?_
 refine XK.aA ?_
 refine XK.seq ?_
 refine XK.region ?_
 refine aW (off := 0) (by kernel_rfl) rfl (by decide) ?_
 refine aZ rfl ?_
 refine bA (f := 205) (fi := []) (ca := []) (by kernel_rfl) rfl rfl (by decide) (fun w1 st => nX _ _ _ w1) ?_
 (first | refine mO rfl (by decide) ?_ | refine mP rfl (by decide) ?_)
 refine bA (f := 199) (fi := []) (ca := []) (by kernel_rfl) rfl rfl (by decide) (fun w1 st => pR _ _ w1) ?_
 refine aH rfl (by decide) ?_
 refine XK.aA ?_
 refine XK.ret ?_
 refine XK.norm ?_
 exact XK.aK rfl rfl fun w1 st => ⟨rfl, st.below (by simp)⟩
theorem aGj (clock domain reset eX : Int) (A B : Option Addr) (n k nb kb : Nat) (A1 A2 A3 A4 : Option Addr) (n1 k1 n2 k2 n3 k3 n4 k4 : Nat) (gd gs : Nat) (w : World) (hd : cX w gd 0 [.int .i64 clock, .int .i64 domain, .int .i64 reset, .int .u32 eX, .slice B nb kb, .slice A n k]) (hs : cX w gs 0 [.slice A1 n1 k1, .slice A2 n2 k2, .slice A3 n3 k3, .slice A4 n4 k4]) (kS : (n1 : Int) ≤ 9223372036854775806) :
  Calls Tryz.prog 211 #[.pointer (some ⟨gd, 0, none⟩), .pointer (some ⟨gs, 0, none⟩)] w (Rt (.int .i64 (eL (!eI clock 0 ((n1 : Int) - 1)) 4)) w) := by
 refine XK.enter (vs := [.pointer (some ⟨gd, 0, none⟩), .pointer (some ⟨gs, 0, none⟩)]) Tryz.func211 rfl Tryz.ntmps211 (by simp) ?_
 refine XK.seq ?_
 refine XK.region ?_
 refine aH rfl (by decide) ?_
 refine XK.aA ?_
 refine XK.seq ?_
 refine XK.region ?_
 refine aW (off := 0) (by kernel_rfl) rfl (by decide) ?_
 refine aZ rfl ?_
 refine aW (off := 0) (by kernel_rfl) rfl (by decide) ?_
 refine aZ rfl ?_
 refine cY (el := 118) (by kernel_rfl) rfl (by decide) ?_
 refine vL rfl rfl (aY (by omega)) (by decide) ?_
 refine bA (f := 205) (fi := []) (ca := []) (by kernel_rfl) rfl rfl (by decide) (fun w1 st => nX _ _ _ w1) ?_
 (first | refine mO rfl (by decide) ?_ | refine mP rfl (by decide) ?_)
 refine bA (f := 199) (fi := []) (ca := []) (by kernel_rfl) rfl rfl (by decide) (fun w1 st => pR _ _ w1) ?_
 refine aH rfl (by decide) ?_
 refine XK.aA ?_
 refine XK.ret ?_
 refine XK.norm ?_
 exact XK.aK rfl rfl fun w1 st => ⟨rfl, st.below (by simp)⟩
theorem aGi (clock domain reset eX : Int) (A B : Option Addr) (n k nb kb : Nat) (A1 A2 A3 A4 : Option Addr) (n1 k1 n2 k2 n3 k3 n4 k4 : Nat) (gd gs : Nat) (w : World) (hd : cX w gd 0 [.int .i64 clock, .int .i64 domain, .int .i64 reset, .int .u32 eX, .slice B nb kb, .slice A n k]) (hs : cX w gs 0 [.slice A1 n1 k1, .slice A2 n2 k2, .slice A3 n3 k3, .slice A4 n4 k4]) (kR : (n2 : Int) ≤ 9223372036854775806) :
  Calls Tryz.prog 212 #[.pointer (some ⟨gd, 0, none⟩), .pointer (some ⟨gs, 0, none⟩)] w (Rt (.int .i64 (eL (!eI domain 0 ((n2 : Int) - 1)) 4)) w) := by
 refine XK.enter (vs := [.pointer (some ⟨gd, 0, none⟩), .pointer (some ⟨gs, 0, none⟩)]) Tryz.func212 rfl Tryz.ntmps212 (by simp) ?_
 refine XK.seq ?_
 refine XK.region ?_
 refine aH rfl (by decide) ?_
 refine XK.aA ?_
 refine XK.seq ?_
 refine XK.region ?_
 refine aW (off := 1) (by kernel_rfl) rfl (by decide) ?_
 refine aZ rfl ?_
 refine aW (off := 1) (by kernel_rfl) rfl (by decide) ?_
 refine aZ rfl ?_
 refine cY (el := 75) (by kernel_rfl) rfl (by decide) ?_
 refine vL rfl rfl (aY (by omega)) (by decide) ?_
 refine bA (f := 205) (fi := []) (ca := []) (by kernel_rfl) rfl rfl (by decide) (fun w1 st => nX _ _ _ w1) ?_
 (first | refine mO rfl (by decide) ?_ | refine mP rfl (by decide) ?_)
 refine bA (f := 199) (fi := []) (ca := []) (by kernel_rfl) rfl rfl (by decide) (fun w1 st => pR _ _ w1) ?_
 refine aH rfl (by decide) ?_
 refine XK.aA ?_
 refine XK.ret ?_
 refine XK.norm ?_
 exact XK.aK rfl rfl fun w1 st => ⟨rfl, st.below (by simp)⟩
theorem aGh (clock domain reset eX : Int) (A B : Option Addr) (n k nb kb : Nat) (A1 A2 A3 A4 : Option Addr) (n1 k1 n2 k2 n3 k3 n4 k4 : Nat) (gd gs : Nat) (w : World) (hd : cX w gd 0 [.int .i64 clock, .int .i64 domain, .int .i64 reset, .int .u32 eX, .slice B nb kb, .slice A n k]) (hs : cX w gs 0 [.slice A1 n1 k1, .slice A2 n2 k2, .slice A3 n3 k3, .slice A4 n4 k4]) (Kk : (n3 : Int) ≤ 9223372036854775806) :
  Calls Tryz.prog 213 #[.pointer (some ⟨gd, 0, none⟩), .pointer (some ⟨gs, 0, none⟩)] w (Rt (.int .i64 (eL (!eI reset 0 ((n3 : Int) - 1)) 4)) w) := by
 refine XK.enter (vs := [.pointer (some ⟨gd, 0, none⟩), .pointer (some ⟨gs, 0, none⟩)]) Tryz.func213 rfl Tryz.ntmps213 (by simp) ?_
 refine XK.seq ?_
 refine XK.region ?_
 refine aH rfl (by decide) ?_
 refine XK.aA ?_
 refine XK.seq ?_
 refine XK.region ?_
 refine aW (off := 2) (by kernel_rfl) rfl (by decide) ?_
 refine aZ rfl ?_
 refine aW (off := 2) (by kernel_rfl) rfl (by decide) ?_
 refine aZ rfl ?_
 refine cY (el := 120) (by kernel_rfl) rfl (by decide) ?_
 refine vL rfl rfl (aY (by omega)) (by decide) ?_
 refine bA (f := 205) (fi := []) (ca := []) (by kernel_rfl) rfl rfl (by decide) (fun w1 st => nX _ _ _ w1) ?_
 (first | refine mO rfl (by decide) ?_ | refine mP rfl (by decide) ?_)
 refine bA (f := 199) (fi := []) (ca := []) (by kernel_rfl) rfl rfl (by decide) (fun w1 st => pR _ _ w1) ?_
 refine aH rfl (by decide) ?_
 refine XK.aA ?_
 refine XK.ret ?_
 refine XK.norm ?_
 exact XK.aK rfl rfl fun w1 st => ⟨rfl, st.below (by simp)⟩
theorem aGf (f : Int) (A1 A2 A3 A4 : Option Addr) (n1 k1 n2 k2 n3 k3 n4 k4 : Nat) (gs : Nat) (w : World) (hs : cX w gs 0 [.slice A1 n1 k1, .slice A2 n2 k2, .slice A3 n3 k3, .slice A4 n4 k4]) (Cc : (n4 : Int) ≤ 9223372036854775806) :
  Calls Tryz.prog 215 #[.int .i64 f, .pointer (some ⟨gs, 0, none⟩)] w (Rt (.int .i64 (eL (!eI f 0 ((n4 : Int) - 1)) 4)) w) := by
 refine XK.enter (vs := [.int .i64 f, .pointer (some ⟨gs, 0, none⟩)]) Tryz.func215 rfl Tryz.ntmps215 (by simp) ?_
 refine XK.seq ?_
 refine XK.region ?_
 refine aH rfl (by decide) ?_
 refine XK.aA ?_
 refine XK.seq ?_
 refine XK.region ?_
 refine aF rfl (by decide) ?_
 refine aW (off := 3) (by kernel_rfl) rfl (by decide) ?_
 refine aZ rfl ?_
 refine cY (el := 78) (by kernel_rfl) rfl (by decide) ?_
 refine vL rfl rfl (aY (by omega)) (by decide) ?_
 refine bA (f := 205) (fi := []) (ca := []) (by kernel_rfl) rfl rfl (by decide) (fun w1 st => nX _ _ _ w1) ?_
 (first | refine mO rfl (by decide) ?_ | refine mP rfl (by decide) ?_)
 refine bA (f := 199) (fi := []) (ca := []) (by kernel_rfl) rfl rfl (by decide) (fun w1 st => pR _ _ w1) ?_
 refine aH rfl (by decide) ?_
 refine XK.aA ?_
 refine XK.ret ?_
 refine XK.norm ?_
 exact XK.aK rfl rfl fun w1 st => ⟨rfl, st.below (by simp)⟩
theorem aGg (clock domain reset eX : Int) (A B : Option Addr) (n k nb kb : Nat) (A1 A2 A3 A4 : Option Addr) (n1 k1 n2 k2 n3 k3 n4 k4 : Nat) (gd gs : Nat) (w : World) (hd : cX w gd 0 [.int .i64 clock, .int .i64 domain, .int .i64 reset, .int .u32 eX, .slice B nb kb, .slice A n k]) (hs : cX w gs 0 [.slice A1 n1 k1, .slice A2 n2 k2, .slice A3 n3 k3, .slice A4 n4 k4]) (Cc : (n4 : Int) ≤ 9223372036854775806) (zs : List Int) (hA : aI (all w) 1 A n (aR zs)) (hn : n = zs.length) (hz : (n : Int) ≤ 9223372036854775806) :
  Calls Tryz.prog 214 #[.pointer (some ⟨gd, 0, none⟩), .pointer (some ⟨gs, 0, none⟩)] w (Rt (.int .i64 (fY (zs.map fun f => eL (!eI f 0 ((n4 : Int) - 1)) 4))) w) := by
 refine XK.enter (vs := [.pointer (some ⟨gd, 0, none⟩), .pointer (some ⟨gs, 0, none⟩)]) Tryz.func214 rfl Tryz.ntmps214 (by simp) ?_
 refine XK.seq ?_
 refine XK.region ?_
 refine aH rfl (by decide) ?_
 refine XK.aA ?_
 refine XK.seq ?_
 refine XK.region ?_
 refine aW (off := 5) (by kernel_rfl) rfl (by decide) ?_
 refine aZ rfl ?_
 refine iA (vf := []) (vc := [.pointer (some ⟨gs, 0, none⟩)]) rfl rfl (by decide) ?_
 refine bA (f := 203) (fi := []) (ca := []) (by kernel_rfl) rfl rfl (by decide) (fun w1 st => aAv _ _ _ 215 [.pointer (some ⟨gs, 0, none⟩)] ((aR zs).map fun v => [v]) (zs.map fun f => eL (!eI f 0 ((n4 : Int) - 1)) 4) w1 (by rw [aAl]; exact hA.le (fF (st.started (by simp)))) (by simp) (by simp [aR]; omega) (by simp; omega) (by omega) (by kernel_rfl) (fun i r x hr hx w2 cV => by
  obtain ⟨f, hf, rfl⟩ : ∃ f, zs[i]? = some f ∧ r = [.int .i64 f] := by
   rw [List.getElem?_map, aR, List.getElem?_map] at hr
   cases hq : zs[i]? with
   | none => simp [hq] at hr
   | some f => simp [hq] at hr; exact ⟨f, rfl, hr.symm⟩
  rw [List.getElem?_map, hf] at hx
  cases hx
  exact aGf f A1 A2 A3 A4 n1 k1 n2 k2 n3 k3 n4 k4 gs w2 ((hs.below (st.started (by simp))).below cV) Cc)) ?_
 refine aH rfl (by decide) ?_
 refine XK.aA ?_
 refine XK.ret ?_
 refine XK.norm ?_
 exact XK.aK rfl rfl fun w1 st => ⟨rfl, st.below (by simp)⟩
theorem aGe (rg : List Rg) (clock domain reset eX : Int) (A B : Option Addr) (n k nb kb : Nat) (A1 A2 A3 A4 : Option Addr) (n1 k1 n2 k2 n3 k3 n4 k4 : Nat) (w : World) (kS : (n1 : Int) ≤ 9223372036854775806) (kR : (n2 : Int) ≤ 9223372036854775806) (Kk : (n3 : Int) ≤ 9223372036854775806) (Cc : (n4 : Int) ≤ 9223372036854775806) (zs : List Int) (hA : aI (all w) 1 A n (aR zs)) (hn : n = zs.length) (hz : (n : Int) ≤ 9223372036854775806) :
  Calls Tryz.prog 139 #[.agg #[.slice A1 n1 k1, .slice A2 n2 k2, .slice A3 n3 k3, .slice A4 n4 k4], .agg #[.int .i64 clock, .int .i64 domain, .int .i64 reset, .int .u32 eX, .slice B nb kb, .slice A n k]] w (Rt (.int .i64 (Cw n1 n2 n3 n4 ⟨clock, domain, reset, eX, rg, zs⟩)) w) := by
 refine XK.enter (vs := [.agg #[.slice A1 n1 k1, .slice A2 n2 k2, .slice A3 n3 k3, .slice A4 n4 k4], .agg #[.int .i64 clock, .int .i64 domain, .int .i64 reset, .int .u32 eX, .slice B nb kb, .slice A n k]]) Tryz.func139 rfl Tryz.ntmps139 (by simp) ?_
 refine XK.seq ?_
 refine XK.region ?_
 refine bY rfl (by decide) fun g1 => ?_
 refine bY rfl (by decide) fun g2 => ?_
 refine aH rfl (by decide) ?_
 refine XK.aA ?_
 refine XK.seq ?_
 refine XK.region ?_
 refine iA (vf := []) (vc := [.pointer (some ⟨g2, 0, none⟩), .pointer (some ⟨g1, 0, none⟩)]) rfl rfl (by decide) ?_
 refine iA (vf := []) (vc := [.pointer (some ⟨g2, 0, none⟩), .pointer (some ⟨g1, 0, none⟩)]) rfl rfl (by decide) ?_
 refine iA (vf := []) (vc := [.pointer (some ⟨g2, 0, none⟩), .pointer (some ⟨g1, 0, none⟩)]) rfl rfl (by decide) ?_
 refine iA (vf := []) (vc := [.pointer (some ⟨g2, 0, none⟩), .pointer (some ⟨g1, 0, none⟩)]) rfl rfl (by decide) ?_
 refine eZ (el := 113) (sz := 1) (zs := [.nilFunc]) (by kernel_rfl) (aM (by kernel_rfl)) (by kernel_rfl) rfl (by decide) (by decide) rfl (by simp [aS, aT, Value.cells, List.range_succ, List.set]; rfl) (by decide) fun g3 => ?_
 refine bA (f := 117) (fi := []) (ca := []) (by kernel_rfl) rfl rfl (by decide) (fun w1 st => Ln _ _ _ [(211, [.pointer (some ⟨g2, 0, none⟩), .pointer (some ⟨g1, 0, none⟩)]), (212, [.pointer (some ⟨g2, 0, none⟩), .pointer (some ⟨g1, 0, none⟩)]), (213, [.pointer (some ⟨g2, 0, none⟩), .pointer (some ⟨g1, 0, none⟩)]), (214, [.pointer (some ⟨g2, 0, none⟩), .pointer (some ⟨g1, 0, none⟩)])] [eL (!eI clock 0 ((n1 : Int) - 1)) 4, eL (!eI domain 0 ((n2 : Int) - 1)) 4, eL (!eI reset 0 ((n3 : Int) - 1)) 4, fY (zs.map fun f => eL (!eI f 0 ((n4 : Int) - 1)) 4)] w1 (st.yR (i := 0) (n := 4) (sz := 1) (cs := [.func (.func 211) #[] #[.pointer (some ⟨g2, 0, none⟩), .pointer (some ⟨g1, 0, none⟩)], .func (.func 212) #[] #[.pointer (some ⟨g2, 0, none⟩), .pointer (some ⟨g1, 0, none⟩)], .func (.func 213) #[] #[.pointer (some ⟨g2, 0, none⟩), .pointer (some ⟨g1, 0, none⟩)], .func (.func 214) #[] #[.pointer (some ⟨g2, 0, none⟩), .pointer (some ⟨g1, 0, none⟩)]]) rfl rfl) rfl rfl (by decide) (by simp only [List.mem_cons, List.not_mem_nil, or_false]; rintro f (rfl | rfl | rfl | rfl) <;> kernel_rfl) (fun i f x hf hx w2 cV => by
  have fE := (st.started (by simp)).trans (cV.mono st.size)
  match i, hf, hx with
  | 0, hf, hx => cases hf; cases hx; exact aGj clock domain reset eX A B n k nb kb A1 A2 A3 A4 n1 k1 n2 k2 n3 k3 n4 k4 g2 g1 w2 (st.box (cs := [.int .i64 clock, .int .i64 domain, .int .i64 reset, .int .u32 eX, .slice B nb kb, .slice A n k]) (i := 1) rfl |>.below cV) (st.box (cs := [.slice A1 n1 k1, .slice A2 n2 k2, .slice A3 n3 k3, .slice A4 n4 k4]) (i := 2) rfl |>.below cV) kS
  | 1, hf, hx => cases hf; cases hx; exact aGi clock domain reset eX A B n k nb kb A1 A2 A3 A4 n1 k1 n2 k2 n3 k3 n4 k4 g2 g1 w2 (st.box (cs := [.int .i64 clock, .int .i64 domain, .int .i64 reset, .int .u32 eX, .slice B nb kb, .slice A n k]) (i := 1) rfl |>.below cV) (st.box (cs := [.slice A1 n1 k1, .slice A2 n2 k2, .slice A3 n3 k3, .slice A4 n4 k4]) (i := 2) rfl |>.below cV) kR
  | 2, hf, hx => cases hf; cases hx; exact aGh clock domain reset eX A B n k nb kb A1 A2 A3 A4 n1 k1 n2 k2 n3 k3 n4 k4 g2 g1 w2 (st.box (cs := [.int .i64 clock, .int .i64 domain, .int .i64 reset, .int .u32 eX, .slice B nb kb, .slice A n k]) (i := 1) rfl |>.below cV) (st.box (cs := [.slice A1 n1 k1, .slice A2 n2 k2, .slice A3 n3 k3, .slice A4 n4 k4]) (i := 2) rfl |>.below cV) Kk
  | 3, hf, hx => cases hf; cases hx; exact aGg clock domain reset eX A B n k nb kb A1 A2 A3 A4 n1 k1 n2 k2 n3 k3 n4 k4 g2 g1 w2 (st.box (cs := [.int .i64 clock, .int .i64 domain, .int .i64 reset, .int .u32 eX, .slice B nb kb, .slice A n k]) (i := 1) rfl |>.below cV) (st.box (cs := [.slice A1 n1 k1, .slice A2 n2 k2, .slice A3 n3 k3, .slice A4 n4 k4]) (i := 2) rfl |>.below cV) Cc zs (hA.le (fF fE)) hn hz
  | i + 4, hf, _ => simp at hf)) ?_
 refine aH rfl (by decide) ?_
 refine XK.aA ?_
 refine XK.ret ?_
 refine XK.norm ?_
 exact XK.aK rfl rfl fun w1 st => ⟨rfl, st.below (by simp)⟩
theorem aFo (rg : List Rg) (zs : List Int) (clock domain reset eX : Int) (A B : Option Addr) (n k nb kb : Nat) (w : World) (Yl : nb = rg.length) (hn : n = zs.length) :
  Calls Tryz.prog 198 #[.agg #[.int .i64 clock, .int .i64 domain, .int .i64 reset, .int .u32 eX, .slice B nb kb, .slice A n k]] w (Rt (.int .i64 (Bx ⟨clock, domain, reset, eX, rg, zs⟩)) w) := by
 refine XK.enter (vs := [.agg #[.int .i64 clock, .int .i64 domain, .int .i64 reset, .int .u32 eX, .slice B nb kb, .slice A n k]]) Tryz.func198 rfl Tryz.ntmps198 (by simp) ?_
 refine XK.seq ?_
 refine XK.region ?_
 refine bY rfl (by decide) fun g1 => ?_
 refine aH rfl (by decide) ?_
 refine XK.aA ?_
 refine XK.seq ?_
 refine XK.region ?_
 refine aW (off := 4) (by kernel_rfl) rfl (by decide) ?_
 refine aZ rfl ?_
 refine cY (el := 92) (by kernel_rfl) rfl (by decide) ?_
 refine qM rfl rfl (by decide) ?_
 refine aF rfl (by decide) ?_
 refine bO (t := 7) rfl (fun hg => ?_) (fun hg => ?_)
 ·
  refine aN rfl rfl rfl (by decide) ?_
  refine aN rfl rfl rfl (by decide) ?_
  refine aN rfl rfl rfl (by decide) ?_
  refine aN rfl rfl rfl (by decide) ?_
  (first | refine bJ rfl rfl (by decide) ?_ | refine bK rfl rfl (by decide) ?_)
  refine bA (f := 199) (fi := []) (ca := []) (by kernel_rfl) rfl rfl (by decide) (fun w1 st => pR _ _ w1) ?_
  refine aH rfl (by decide) ?_
  refine XK.aA ?_
  refine XK.ret ?_
  refine XK.norm ?_
  exact XK.aK rfl rfl fun w1 st => ⟨by subst Yl hn; simp [Bx, hg], st.below (by simp)⟩
 ·
  refine aO rfl rfl ?_; refine aW (off := 5) (by kernel_rfl) rfl (by decide) ?_
  refine aO rfl rfl ?_; refine aZ rfl ?_
  refine aO rfl rfl ?_; refine cY (el := 3) (by kernel_rfl) rfl (by decide) ?_
  refine aO rfl rfl ?_; refine qM rfl rfl (by decide) ?_
  (first | refine bJ rfl rfl (by decide) ?_ | refine bK rfl rfl (by decide) ?_)
  refine bA (f := 199) (fi := []) (ca := []) (by kernel_rfl) rfl rfl (by decide) (fun w1 st => pR _ _ w1) ?_
  refine aH rfl (by decide) ?_
  refine XK.aA ?_
  refine XK.ret ?_
  refine XK.norm ?_
  exact XK.aK rfl rfl fun w1 st => ⟨by subst Yl hn; simp [Bx, hg], st.below (by simp)⟩
end
section
def aD.small (s : aD) : Prop := s.aB.length ≤ 1000000 ∧ s.domains.length ≤ 1000000 ∧ s.aU.length ≤ 1000000 ∧ s.aG.length ≤ 1000000 ∧ (∀ c ∈ s.aB, c.src.length ≤ 1000000) ∧ ∀ d ∈ s.aG, d.iC.length ≤ 1000000
structure eO (w : World) (s : aD) (A1 : Option Addr) (n1 : Nat) (A2 : Option Addr) (n2 : Nat) (A3 : Option Addr) (n3 : Nat) (A4 : Option Addr) (n4 : Nat) : Prop where
 gX : fG (dR (all w)) (iO (dR (all w))) 118 6 A1 n1 s.aB
 dom : fG (dR (all w)) sV 75 3 A2 n2 s.domains
 nZ : fG (dR (all w)) sQ 120 1 A3 n3 s.aU
 dev : fG (dR (all w)) (jF (dR (all w))) 78 6 A4 n4 s.aG
 small : s.small
section
variable {w w' : World} {s : aD} {A1 A2 A3 A4 : Option Addr} {n1 n2 n3 n4 : Nat}
theorem eO.le (h : eO w s A1 n1 A2 n2 A3 n3 A4 n4) (hb : Below w.heap.size w w') : eO w' s A1 n1 A2 n2 A3 n3 A4 n4 :=
 ⟨h.gX.mono (fV (fF hb)) (fun _ _ => iO.mono (fV (fF hb))), h.dom.mono (fV (fF hb)) (fun _ _ h => h), h.nZ.mono (fV (fF hb)) (fun _ _ h => h), h.dev.mono (fV (fF hb)) (fun _ _ => jF.mono (fV (fF hb))), h.small⟩
theorem eO.pY (h : eO w s A1 n1 A2 n2 A3 n3 A4 n4) : n1 = s.aB.length := by obtain ⟨_, _, h, _⟩ := h.gX; exact h
theorem eO.qT (h : eO w s A1 n1 A2 n2 A3 n3 A4 n4) : n2 = s.domains.length := by obtain ⟨_, _, h, _⟩ := h.dom; exact h
theorem eO.tH (h : eO w s A1 n1 A2 n2 A3 n3 A4 n4) : n3 = s.aU.length := by obtain ⟨_, _, h, _⟩ := h.nZ; exact h
theorem eO.rX (h : eO w s A1 n1 A2 n2 A3 n3 A4 n4) : n4 = s.aG.length := by obtain ⟨_, _, h, _⟩ := h.dev; exact h
end
theorem fG.row {α : Type} {w : World} {R : α → List Value → Prop} {t : TypeId} {sz n : Nat} {A : Option Addr} {es : List α} (h : fG (dR (all w)) R t sz A n es) {k : Nat} {e : α} (hk : es[k]? = some e) :
  ∃ b off r, A = some ⟨b, off, none⟩ ∧ r.length = sz ∧ R e r ∧ cX w b (off + k * sz) r := by
 obtain ⟨rows, h1, h2, h3⟩ := h
 have hke := (List.getElem?_eq_some_iff.1 hk).1
 have hl := h1.len.1
 obtain ⟨r, hr⟩ : ∃ r, rows[k]? = some r := ⟨_, List.getElem?_eq_getElem (by omega)⟩
 obtain ⟨e', he, hrl, hR⟩ := h1.at_ hr
 rw [hk] at he
 cases he
 obtain ⟨b, off, hA, hro⟩ := aI.row h3 h1.aAR hr (by omega)
 exact ⟨b, off, r, hA, hrl, hR, hro⟩
def lT (s : aD) : List (List Int) := s.aB.map (·.src)
def lQ (s : aD) : List (List Int) := s.domains.map fun d => if d.above = -1 then [] else [d.above]
def lI (s : aD) : List (List Int) := s.aG.map (·.iC)
def vD (g : List (List Int)) : Int := eL (decide ((kO g).1 = 5)) 5
theorem Sg {vs : List Value} {v z : Value} {k n : Nat} (h : vs.length = k) (hk : k < n) : (vs ++ List.replicate (n - k) z).set k v = (vs ++ [v]) ++ List.replicate (n - (k + 1)) z := by
 rw [List.set_append_right _ _ (by omega), h, Nat.sub_self, show n - k = (n - (k + 1)) + 1 by omega, List.replicate_succ, List.set_cons_zero, List.append_assoc]; rfl
theorem aF9 {vs : List Value} {z : Value} {k n : Nat} (hk : k < n) : vs ++ List.replicate (n - k) z = (vs ++ [z]) ++ List.replicate (n - (k + 1)) z := by
 rw [show n - k = (n - (k + 1)) + 1 by omega, List.replicate_succ, List.append_assoc]; rfl
theorem Jm {g : List (List Int)} {k : Nat} {vs : List Value} {q q' : Piece} {l : List Int} {v : Value} (h : Rows (nW (dR q)) 1 (g.take k) (vs.map fun v => [v])) (hl : q.Le q') (hg : g[k]? = some l) (hv : nW (dR q') l [v]) : Rows (nW (dR q')) 1 (g.take (k + 1)) ((vs ++ [v]).map fun v => [v]) := by
 rw [List.take_add_one, hg, Option.toList_some, List.map_append]
 exact (h.mono (fun _ _ => nW.mono (fV hl))).snoc rfl hv
theorem kD.Ot {q q2 : Piece} {g : List (List Int)} {vs : List Value} {gG n : Nat} {t : TypeId} (h : Rows (nW (dR q)) 1 g (vs.map fun v => [v])) (hl : q.Le q2) (h1 : ∃ F, (HP.aE gG t vs).sat F q2.w ∧ ∀ b, F b → q2.Z b) (hn : n = g.length) : kD q2 (some ⟨gG, 0, none⟩) n g := by
 obtain ⟨F, hs, hz⟩ := h1
 refine ⟨_, h.mono (fun _ _ => nW.mono (fV hl)), hn, ?_⟩
 rw [show (vs.map fun v => [v]).flatten = vs by clear h hs; induction vs <;> simp_all]
 refine aI.oG (c := 0) hs hz ?_
 have := h.len.1
 simp at this
 omega
def Tn (zs : List Int) (v : Value) (w w' : World) : Prop := ∃ A c, v = .slice A zs.length c ∧ aI (fresh w w') 1 A zs.length (aR zs)
def Dk (g : List (List Int)) (v : Value) (w w' : World) : Prop := ∃ A c, v = .slice A g.length c ∧ kD (fresh w w') A g.length g
theorem aG9 (A : Option Addr) (n c : Nat) (g : List (List Int)) (w : World) (hg : kD (all w) A n g) (hn : n = g.length) (hn2 : (n : Int) ≤ 9223372036854775806) (hlen : ∀ l ∈ g, (l.length : Int) ≤ 9223372036854775806) :
  Calls Tryz.prog 208 #[.slice A n c] w (Rt (.int .i64 (kO g).1) w) := by
 refine XK.enter (vs := [.slice A n c]) Tryz.func208 rfl Tryz.ntmps208 (by simp) ?_
 refine XK.seq ?_
 refine XK.region ?_
 refine aH rfl (by decide) ?_
 refine XK.aA ?_
 refine XK.seq ?_
 refine XK.region ?_
 refine aF rfl (by decide) ?_
 refine Ip (f := 241) (fi := []) (ca := []) (by kernel_rfl) rfl rfl (by decide) (fun v => ∃ A m c, v = .tuple #[.slice A m c, .int .i64 (kO g).1]) (fun w1 st => (aDr A n c g w1 (hg.le (fF (st.started (by simp)))) hn hn2 hlen).mono fun y w2 h => ?_) ?_
 ·obtain ⟨⟨A', m, c', hy, _, _⟩, hb⟩ := h
  exact ⟨⟨_, hy, A', m, c', rfl⟩, hb⟩
 rintro _ ⟨A', m, c', rfl⟩
 refine aF rfl (by decide) ?_
 refine nG rfl rfl (by decide) ?_
 refine nG rfl rfl (by decide) ?_
 refine aH rfl (by decide) ?_
 refine aH rfl (by decide) ?_
 refine XK.aA ?_
 refine XK.seq ?_
 refine XK.region ?_
 refine aF rfl (by decide) ?_
 refine aH rfl (by decide) ?_
 refine XK.aA ?_
 refine XK.ret ?_
 refine XK.norm ?_
 exact XK.aK rfl rfl fun w1 st => ⟨rfl, st.below (by simp)⟩
theorem Sv (A : Option Addr) (n c : Nat) (g : List (List Int)) (w : World) (hg : kD (all w) A n g) (hn : n = g.length) (hn2 : (n : Int) ≤ 9223372036854775806) (hlen : ∀ l ∈ g, (l.length : Int) ≤ 9223372036854775806) :
  Calls Tryz.prog 125 #[.slice A n c] w (Rt (.int .i64 (vD g)) w) := by
 refine XK.enter (vs := [.slice A n c]) Tryz.func125 rfl Tryz.ntmps125 (by simp) ?_
 refine XK.seq ?_
 refine XK.region ?_
 refine aH rfl (by decide) ?_
 refine XK.aA ?_
 refine XK.seq ?_
 refine XK.region ?_
 refine aF rfl (by decide) ?_
 refine bA (f := 208) (fi := []) (ca := []) (by kernel_rfl) rfl rfl (by decide) (fun w1 st => aG9 A n c g w1 (hg.le (fF (st.started (by simp)))) hn hn2 hlen) ?_
 refine eH rfl rfl (by decide) ?_
 refine bA (f := 199) (fi := []) (ca := []) (by kernel_rfl) rfl rfl (by decide) (fun w1 st => pR _ _ w1) ?_
 refine aH rfl (by decide) ?_
 refine XK.aA ?_
 refine XK.ret ?_
 refine XK.norm ?_
 exact XK.aK rfl rfl fun w1 st => ⟨rfl, st.below (by simp)⟩
theorem Wk (A : Option Addr) (n c : Nat) (zs : List Int) (w : World) (hs : aI (all w) 1 A n (aR zs)) (hn : n = zs.length) (hn2 : n ≤ 1000000) :
  Calls Tryz.prog 147 #[.slice A n c] w (fun y w' => (∃ v, y = .returned v ∧ Tn zs v w w') ∧ Below w.heap.size w w') := by
 refine XK.enter (vs := [.slice A n c]) Tryz.func147 rfl Tryz.ntmps147 (by simp) ?_
 refine XK.seq ?_
 refine XK.region ?_
 refine aH rfl (by decide) ?_
 refine XK.aA ?_
 refine XK.seq ?_
 refine XK.region ?_
 refine aF rfl (by decide) ?_
 refine XK.kA 3 1 ?_
 refine fA 0 1 8 n (n' := n) (v := .slice none 0 0) (el := 3) (by kernel_rfl) (by kernel_rfl) (by decide) rfl rfl rfl (qQ (by simp) hs) (by simp [aR, Value.oneCell']) (by omega) (by omega) (by omega) (by decide) fun A' k' => ?_
 refine aH rfl (by decide) ?_
 refine XK.aA ?_
 refine XK.ret ?_
 refine XK.norm ?_
 refine XK.still [] [0] [] (by simp) rfl (by decide) (by decide) fun q hq _ hfr => ?_
 subst hn
 exact XK.aK rfl rfl fun w1 st => ⟨⟨_, rfl, A', k', rfl, (aI.own (hq 0 _ (by simp) rfl)).le (st.kX (by simp) (hfr (by simp) (by simp)))⟩, st.below (by simp)⟩
theorem aGu (s : aD) (A1 A2 A3 A4 : Option Addr) (n1 k1 n2 k2 n3 k3 n4 k4 : Nat) (w : World) (hW : eO w s A1 n1 A2 n2 A3 n3 A4 n4) :
  Calls Tryz.prog 126 #[.agg #[.slice A1 n1 k1, .slice A2 n2 k2, .slice A3 n3 k3, .slice A4 n4 k4]] w (fun y w' => (∃ v, y = .returned v ∧ Dk (lT s) v w w') ∧ Below w.heap.size w w') := by
 have hn := hW.pY
 have cS := hW.small
 unfold aD.small at cS
 obtain ⟨hs1, eV, kL, lK, kU, pZ⟩ := cS
 refine XK.enter (vs := [.agg #[.slice A1 n1 k1, .slice A2 n2 k2, .slice A3 n3 k3, .slice A4 n4 k4]]) Tryz.func126 rfl Tryz.ntmps126 (by simp) ?_
 refine XK.seq ?_
 refine XK.region ?_
 refine bY rfl (by decide) fun g1 => ?_
 refine aH rfl (by decide) ?_
 refine XK.aA ?_
 refine XK.seq ?_
 refine XK.region ?_
 refine aW (off := 0) (by kernel_rfl) rfl (by decide) ?_
 refine aZ rfl ?_
 refine cY (el := 118) (by kernel_rfl) rfl (by decide) ?_
 refine jQ 24 (el := 22) (z := .slice none 0 0) (by kernel_rfl) (by kernel_rfl) rfl rfl rfl (by omega) (by omega) (by decide) fun g2 => ?_
 refine aH rfl (by decide) ?_
 refine XK.aA ?_
 refine XK.seq ?_
 refine XK.seq ?_
 refine XK.region ?_
 refine aW (off := 0) (by kernel_rfl) rfl (by decide) ?_
 refine aZ rfl ?_
 refine cY (el := 118) (by kernel_rfl) rfl (by decide) ?_
 refine aF rfl (by decide) ?_
 refine XK.aA ?_
 refine XK.aL [(13, .int .i64 0), (12, .int .i64 n1), (11, .slice A1 n1 k1), (3, .slice (some ⟨g2, 0, none⟩) n1 n1), (1, .pointer (some ⟨g1, 0, none⟩))] ?_
 refine XK.still [] [] [0, 1] (by simp) rfl (by decide) (by decide) fun q0 _ _ Ge => ?_
 refine XK.block ?_
 refine XK.loop (fun m e R H => ∃ (k : Nat) (vs : List Value) (q : Piece), k ≤ n1 ∧ m = n1 - k ∧ kM w q ∧ Rows (nW (dR q)) 1 ((lT s).take k) (vs.map fun v => [v]) ∧ vs.length = k ∧ e = [(13, .int .i64 k), (12, .int .i64 n1), (11, .slice A1 n1 k1), (3, .slice (some ⟨g2, 0, none⟩) n1 n1), (1, .pointer (some ⟨g1, 0, none⟩))] ∧ R = [q, all w] ∧ H = [HP.aE g2 22 (vs ++ List.replicate (n1 - k) (.slice none 0 0)), HP.aE g1 29 [.slice A1 n1 k1, .slice A2 n2 k2, .slice A3 n3 k3, .slice A4 n4 k4]]) n1 ⟨0, [], _, by omega, rfl, Ge (by simp) (by simp), trivial, rfl, rfl, rfl, rfl⟩ fun m e R H hI => ?_
 obtain ⟨k, vs, q, hk, rfl, uU, hrows, hvl, rfl, rfl, rfl⟩ := hI
 refine XK.seq ?_
 refine XK.region ?_
 refine fB rfl rfl (by decide) ?_
 refine XK.aA ?_
 refine XK.seq ?_
 refine XK.if_ rfl (fun h => ?_) (fun h => ?_)
 ·
  refine XK.skip ?_
  refine XK.norm ?_
  refine XK.seq ?_
  refine XK.block ?_
  refine XK.seq ?_
  have hkn : k < s.aB.length := by omega
  obtain ⟨e, he⟩ : ∃ e, s.aB[k]? = some e := ⟨_, List.getElem?_eq_getElem hkn⟩
  obtain ⟨b, off, r, rfl, hrl, hR, hro⟩ := hW.gX.row he
  obtain ⟨Af, nf, kf, rfl, hnf, rZ⟩ := hR
  have Ce : (lT s)[k]? = some (e.src) := by simp [lT, he]
  refine XK.region ?_
  refine aF rfl (by decide) ?_
  refine dB (k) (off + k * 6) (el := 118) (sz := 6) (by kernel_rfl) (by kernel_rfl) rfl rfl (by omega) (by omega) (by omega) (by decide) ?_
  refine gB 6 rfl ?_
  refine cD (cs := [.int .u8 0, .slice none 0 0, .int .u64 0, .int .i64 0, .int .i64 0, .int .i64 0]) (aM (by kernel_rfl)) (by decide) fun g3 => ?_
  refine aH rfl (by decide) ?_
  refine eA rfl rfl ?_; simp only [bZ, Value.cells, List.set, List.take, List.drop, List.nil_append, List.append_nil, List.length_cons, List.length_nil, List.cons_append, Nat.reduceAdd]
  refine XK.aA ?_
  refine XK.region ?_
  refine aF rfl (by decide) ?_
  refine aF rfl (by decide) ?_
  refine aW (off := 1) (by kernel_rfl) rfl (by decide) ?_
  refine aZ rfl ?_
  refine jX [q] (f := 147) (fi := []) (ca := []) (by kernel_rfl) rfl rfl (by decide) (by simp) (Tn e.src) (fun w1 st => Wk Af nf kf e.src w1 (aI.le rZ (fF (st.started (by simp)))) hnf (by have := kU e (List.mem_of_getElem? he); omega)) ?_
  rintro _ w1 q' ⟨Ao, co, rfl, uR⟩ hf' hle Ra
  refine dB (k) (k) (el := 22) (sz := 1) (by kernel_rfl) (by kernel_rfl) rfl rfl (by omega) (by omega) (by omega) (by decide) ?_
  refine wW 1 rfl (by kernel_rfl) rfl rfl rfl (by simp; omega) ?_
  dsimp only [List.set]
  rw [Sg hvl (by omega)]
  refine XK.aA ?_
  refine XK.region ?_
  refine dD rfl rfl (aY (by omega)) (by decide) ?_
  refine aF rfl (by decide) ?_
  refine XK.aA ?_
  exact XK.weak [1, 2] rfl (by decide) (by simp) (XK.aL [(13, .int .i64 (k + 1)), (12, .int .i64 n1), (11, .slice (some ⟨b, off, none⟩) n1 k1), (3, .slice (some ⟨g2, 0, none⟩) n1 n1), (1, .pointer (some ⟨g1, 0, none⟩))] (XK.round (n1 - (k + 1)) (by omega) ⟨k + 1, vs ++ [_], q', by omega, rfl, Ra (by simpa using uU), Jm hrows (hle q (by simp)) Ce ⟨Ao, _, co, rfl, rfl, aI.le uR hf'⟩, by simp [hvl], rfl, rfl, rfl⟩))
 ·
  refine XK.exit ?_
  refine XK.norm ?_
  refine XK.seq ?_
  obtain rfl : k = n1 := by omega
  rw [Nat.sub_self, List.replicate_zero, List.append_nil]
  rw [List.take_of_length_le (by simp [lT]; omega)] at hrows
  refine XK.region ?_
  refine aF rfl (by decide) ?_
  refine aH rfl (by decide) ?_
  refine XK.aA ?_
  refine XK.ret ?_
  refine XK.norm ?_
  refine XK.still [q] [0] [] (by simp) rfl (by decide) (by decide) fun q2 hq hle hfr => ?_
  have mW : k = (lT s).length := by simp [lT]; omega
  exact XK.aK rfl rfl fun w1 st => ⟨⟨_, rfl, some ⟨g2, 0, none⟩, k, by rw [← mW], by rw [← mW]; exact (kD.Ot hrows (hle q (by simp)) (hq 0 _ (by simp) rfl) mW).le (st.kX (by simp) (hfr (by simp) (by simpa using uU)))⟩, st.below (by simp)⟩
theorem aDC (s : aD) (A1 A2 A3 A4 : Option Addr) (n1 k1 n2 k2 n3 k3 n4 k4 : Nat) (w : World) (hW : eO w s A1 n1 A2 n2 A3 n3 A4 n4) :
  Calls Tryz.prog 112 #[.agg #[.slice A1 n1 k1, .slice A2 n2 k2, .slice A3 n3 k3, .slice A4 n4 k4]] w (fun y w' => (∃ v, y = .returned v ∧ Dk (lI s) v w w') ∧ Below w.heap.size w w') := by
 have hn := hW.rX
 have cS := hW.small
 unfold aD.small at cS
 obtain ⟨hs1, eV, kL, lK, kU, pZ⟩ := cS
 refine XK.enter (vs := [.agg #[.slice A1 n1 k1, .slice A2 n2 k2, .slice A3 n3 k3, .slice A4 n4 k4]]) Tryz.func112 rfl Tryz.ntmps112 (by simp) ?_
 refine XK.seq ?_
 refine XK.region ?_
 refine bY rfl (by decide) fun g1 => ?_
 refine aH rfl (by decide) ?_
 refine XK.aA ?_
 refine XK.seq ?_
 refine XK.region ?_
 refine aW (off := 3) (by kernel_rfl) rfl (by decide) ?_
 refine aZ rfl ?_
 refine cY (el := 78) (by kernel_rfl) rfl (by decide) ?_
 refine jQ 24 (el := 22) (z := .slice none 0 0) (by kernel_rfl) (by kernel_rfl) rfl rfl rfl (by omega) (by omega) (by decide) fun g2 => ?_
 refine aH rfl (by decide) ?_
 refine XK.aA ?_
 refine XK.seq ?_
 refine XK.seq ?_
 refine XK.region ?_
 refine aW (off := 3) (by kernel_rfl) rfl (by decide) ?_
 refine aZ rfl ?_
 refine cY (el := 78) (by kernel_rfl) rfl (by decide) ?_
 refine aF rfl (by decide) ?_
 refine XK.aA ?_
 refine XK.aL [(13, .int .i64 0), (12, .int .i64 n4), (11, .slice A4 n4 k4), (3, .slice (some ⟨g2, 0, none⟩) n4 n4), (1, .pointer (some ⟨g1, 0, none⟩))] ?_
 refine XK.still [] [] [0, 1] (by simp) rfl (by decide) (by decide) fun q0 _ _ Ge => ?_
 refine XK.block ?_
 refine XK.loop (fun m e R H => ∃ (k : Nat) (vs : List Value) (q : Piece), k ≤ n4 ∧ m = n4 - k ∧ kM w q ∧ Rows (nW (dR q)) 1 ((lI s).take k) (vs.map fun v => [v]) ∧ vs.length = k ∧ e = [(13, .int .i64 k), (12, .int .i64 n4), (11, .slice A4 n4 k4), (3, .slice (some ⟨g2, 0, none⟩) n4 n4), (1, .pointer (some ⟨g1, 0, none⟩))] ∧ R = [q, all w] ∧ H = [HP.aE g2 22 (vs ++ List.replicate (n4 - k) (.slice none 0 0)), HP.aE g1 29 [.slice A1 n1 k1, .slice A2 n2 k2, .slice A3 n3 k3, .slice A4 n4 k4]]) n4 ⟨0, [], _, by omega, rfl, Ge (by simp) (by simp), trivial, rfl, rfl, rfl, rfl⟩ fun m e R H hI => ?_
 obtain ⟨k, vs, q, hk, rfl, uU, hrows, hvl, rfl, rfl, rfl⟩ := hI
 refine XK.seq ?_
 refine XK.region ?_
 refine fB rfl rfl (by decide) ?_
 refine XK.aA ?_
 refine XK.seq ?_
 refine XK.if_ rfl (fun h => ?_) (fun h => ?_)
 ·
  refine XK.skip ?_
  refine XK.norm ?_
  refine XK.seq ?_
  refine XK.block ?_
  refine XK.seq ?_
  have hkn : k < s.aG.length := by omega
  obtain ⟨e, he⟩ : ∃ e, s.aG[k]? = some e := ⟨_, List.getElem?_eq_getElem hkn⟩
  obtain ⟨b, off, r, rfl, hrl, hR, hro⟩ := hW.dev.row he
  obtain ⟨Ar, nr, kr, Af, nf, kf, rfl, _, hnf, _, rZ⟩ := hR
  have Ce : (lI s)[k]? = some (e.iC) := by simp [lI, he]
  refine XK.region ?_
  refine aF rfl (by decide) ?_
  refine dB (k) (off + k * 6) (el := 78) (sz := 6) (by kernel_rfl) (by kernel_rfl) rfl rfl (by omega) (by omega) (by omega) (by decide) ?_
  refine gB 6 rfl ?_
  refine cD (cs := [.int .i64 0, .int .i64 0, .int .i64 0, .int .u32 0, .slice none 0 0, .slice none 0 0]) (aM (by kernel_rfl)) (by decide) fun g3 => ?_
  refine aH rfl (by decide) ?_
  refine eA rfl rfl ?_; simp only [bZ, Value.cells, List.set, List.take, List.drop, List.nil_append, List.append_nil, List.length_cons, List.length_nil, List.cons_append, Nat.reduceAdd]
  refine XK.aA ?_
  refine XK.region ?_
  refine aF rfl (by decide) ?_
  refine aF rfl (by decide) ?_
  refine aW (off := 5) (by kernel_rfl) rfl (by decide) ?_
  refine aZ rfl ?_
  refine jX [q] (f := 147) (fi := []) (ca := []) (by kernel_rfl) rfl rfl (by decide) (by simp) (Tn e.iC) (fun w1 st => Wk Af nf kf e.iC w1 (aI.le rZ (fF (st.started (by simp)))) hnf (by have := pZ e (List.mem_of_getElem? he); omega)) ?_
  rintro _ w1 q' ⟨Ao, co, rfl, uR⟩ hf' hle Ra
  refine dB (k) (k) (el := 22) (sz := 1) (by kernel_rfl) (by kernel_rfl) rfl rfl (by omega) (by omega) (by omega) (by decide) ?_
  refine wW 1 rfl (by kernel_rfl) rfl rfl rfl (by simp; omega) ?_
  dsimp only [List.set]
  rw [Sg hvl (by omega)]
  refine XK.aA ?_
  refine XK.region ?_
  refine dD rfl rfl (aY (by omega)) (by decide) ?_
  refine aF rfl (by decide) ?_
  refine XK.aA ?_
  exact XK.weak [1, 2] rfl (by decide) (by simp) (XK.aL [(13, .int .i64 (k + 1)), (12, .int .i64 n4), (11, .slice (some ⟨b, off, none⟩) n4 k4), (3, .slice (some ⟨g2, 0, none⟩) n4 n4), (1, .pointer (some ⟨g1, 0, none⟩))] (XK.round (n4 - (k + 1)) (by omega) ⟨k + 1, vs ++ [_], q', by omega, rfl, Ra (by simpa using uU), Jm hrows (hle q (by simp)) Ce ⟨Ao, _, co, rfl, rfl, aI.le uR hf'⟩, by simp [hvl], rfl, rfl, rfl⟩))
 ·
  refine XK.exit ?_
  refine XK.norm ?_
  refine XK.seq ?_
  obtain rfl : k = n4 := by omega
  rw [Nat.sub_self, List.replicate_zero, List.append_nil]
  rw [List.take_of_length_le (by simp [lI]; omega)] at hrows
  refine XK.region ?_
  refine aF rfl (by decide) ?_
  refine aH rfl (by decide) ?_
  refine XK.aA ?_
  refine XK.ret ?_
  refine XK.norm ?_
  refine XK.still [q] [0] [] (by simp) rfl (by decide) (by decide) fun q2 hq hle hfr => ?_
  have mW : k = (lI s).length := by simp [lI]; omega
  exact XK.aK rfl rfl fun w1 st => ⟨⟨_, rfl, some ⟨g2, 0, none⟩, k, by rw [← mW], by rw [← mW]; exact (kD.Ot hrows (hle q (by simp)) (hq 0 _ (by simp) rfl) mW).le (st.kX (by simp) (hfr (by simp) (by simpa using uU)))⟩, st.below (by simp)⟩
theorem aFV (s : aD) (A1 A2 A3 A4 : Option Addr) (n1 k1 n2 k2 n3 k3 n4 k4 : Nat) (w : World) (hW : eO w s A1 n1 A2 n2 A3 n3 A4 n4) :
  Calls Tryz.prog 132 #[.agg #[.slice A1 n1 k1, .slice A2 n2 k2, .slice A3 n3 k3, .slice A4 n4 k4]] w (fun y w' => (∃ v, y = .returned v ∧ Dk (lQ s) v w w') ∧ Below w.heap.size w w') := by
 have hn := hW.qT
 have cS := hW.small
 unfold aD.small at cS
 obtain ⟨hs1, eV, kL, lK, kU, pZ⟩ := cS
 refine XK.enter (vs := [.agg #[.slice A1 n1 k1, .slice A2 n2 k2, .slice A3 n3 k3, .slice A4 n4 k4]]) Tryz.func132 rfl Tryz.ntmps132 (by simp) ?_
 refine XK.seq ?_
 refine XK.region ?_
 refine bY rfl (by decide) fun g1 => ?_
 refine aH rfl (by decide) ?_
 refine XK.aA ?_
 refine XK.seq ?_
 refine XK.region ?_
 refine aW (off := 1) (by kernel_rfl) rfl (by decide) ?_
 refine aZ rfl ?_
 refine cY (el := 75) (by kernel_rfl) rfl (by decide) ?_
 refine jQ 24 (el := 22) (z := .slice none 0 0) (by kernel_rfl) (by kernel_rfl) rfl rfl rfl (by omega) (by omega) (by decide) fun g2 => ?_
 refine aH rfl (by decide) ?_
 refine XK.aA ?_
 refine XK.seq ?_
 refine XK.seq ?_
 refine XK.region ?_
 refine aW (off := 1) (by kernel_rfl) rfl (by decide) ?_
 refine aZ rfl ?_
 refine cY (el := 75) (by kernel_rfl) rfl (by decide) ?_
 refine aF rfl (by decide) ?_
 refine XK.aA ?_
 refine XK.aL [(13, .int .i64 0), (12, .int .i64 n2), (11, .slice A2 n2 k2), (3, .slice (some ⟨g2, 0, none⟩) n2 n2), (1, .pointer (some ⟨g1, 0, none⟩))] ?_
 refine XK.still [] [] [0, 1] (by simp) rfl (by decide) (by decide) fun q0 _ _ Ge => ?_
 refine XK.block ?_
 refine XK.loop (fun m e R H => ∃ (k : Nat) (vs : List Value) (q : Piece), k ≤ n2 ∧ m = n2 - k ∧ kM w q ∧ Rows (nW (dR q)) 1 ((lQ s).take k) (vs.map fun v => [v]) ∧ vs.length = k ∧ e = [(13, .int .i64 k), (12, .int .i64 n2), (11, .slice A2 n2 k2), (3, .slice (some ⟨g2, 0, none⟩) n2 n2), (1, .pointer (some ⟨g1, 0, none⟩))] ∧ R = [q, all w] ∧ H = [HP.aE g2 22 (vs ++ List.replicate (n2 - k) (.slice none 0 0)), HP.aE g1 29 [.slice A1 n1 k1, .slice A2 n2 k2, .slice A3 n3 k3, .slice A4 n4 k4]]) n2 ⟨0, [], _, by omega, rfl, Ge (by simp) (by simp), trivial, rfl, rfl, rfl, rfl⟩ fun m e R H hI => ?_
 obtain ⟨k, vs, q, hk, rfl, uU, hrows, hvl, rfl, rfl, rfl⟩ := hI
 refine XK.seq ?_
 refine XK.region ?_
 refine fB rfl rfl (by decide) ?_
 refine XK.aA ?_
 refine XK.seq ?_
 refine XK.if_ rfl (fun h => ?_) (fun h => ?_)
 ·
  refine XK.skip ?_
  refine XK.norm ?_
  refine XK.seq ?_
  refine XK.block ?_
  refine XK.seq ?_
  have hkn : k < s.domains.length := by omega
  obtain ⟨e, he⟩ : ∃ e, s.domains[k]? = some e := ⟨_, List.getElem?_eq_getElem hkn⟩
  obtain ⟨b, off, r, rfl, hrl, hR, hro⟩ := hW.dom.row he
  obtain rfl := hR
  have Ce : (lQ s)[k]? = some (if e.above = -1 then [] else [e.above]) := by simp [lQ, he]
  refine XK.region ?_
  refine aF rfl (by decide) ?_
  refine dB (k) (off + k * 3) (el := 75) (sz := 3) (by kernel_rfl) (by kernel_rfl) rfl rfl (by omega) (by omega) (by omega) (by decide) ?_
  refine gB 3 rfl ?_
  refine cD (cs := [.int .i64 0, .int .i64 0, .bool false]) (aM (by kernel_rfl)) (by decide) fun g3 => ?_
  refine aH rfl (by decide) ?_
  refine eA rfl rfl ?_; simp only [bZ, Value.cells, List.set, List.take, List.drop, List.nil_append, List.append_nil, List.length_cons, List.length_nil, List.cons_append, Nat.reduceAdd]
  refine XK.aA ?_
  refine XK.seq ?_
  refine XK.region ?_
  refine aW (off := 0) (by kernel_rfl) rfl (by decide) ?_
  refine aZ rfl ?_
  refine mQ rfl rfl (by decide) ?_
  refine XK.aA ?_
  refine XK.if_ rfl (fun h => ?_) (fun h => ?_)
  ·
   refine XK.region ?_
   refine aF rfl (by decide) ?_
   refine aF rfl (by decide) ?_
   refine aW (off := 0) (by kernel_rfl) rfl (by decide) ?_
   refine aZ rfl ?_
   refine eZ (el := 3) (sz := 1) (zs := [.int .i64 0]) (by kernel_rfl) (aM (by kernel_rfl)) (by kernel_rfl) rfl (by decide) (by decide) rfl (by simp [aS, aT, Value.cells, List.range_succ, List.set]; rfl) (by decide) fun g4 => ?_
   refine dB (k) (k) (el := 22) (sz := 1) (by kernel_rfl) (by kernel_rfl) rfl rfl (by omega) (by omega) (by omega) (by decide) ?_
   refine wW 2 rfl (by kernel_rfl) rfl rfl rfl (by simp; omega) ?_
   dsimp only [List.set]
   rw [Sg hvl (by omega)]
   refine XK.aA ?_
   refine XK.region ?_
   refine dD rfl rfl (aY (by omega)) (by decide) ?_
   refine aF rfl (by decide) ?_
   refine XK.aA ?_
   refine XK.still [q] [0] [2, 3] (by simp) rfl (by decide) (by decide) fun q' lM hle Lb => ?_
   obtain ⟨Fg, hsg, hzg⟩ := lM 0 _ (by simp) rfl
   have uR := aI.oG (n := 1) (sz := 1) (c := 0) hsg hzg rfl
   exact XK.weak [0, 1] rfl (by decide) (by simp) (XK.aL [(13, .int .i64 (k + 1)), (12, .int .i64 n2), (11, .slice (some ⟨b, off, none⟩) n2 k2), (3, .slice (some ⟨g2, 0, none⟩) n2 n2), (1, .pointer (some ⟨g1, 0, none⟩))] (XK.round (n2 - (k + 1)) (by omega) ⟨k + 1, vs ++ [_], q', by omega, rfl, Lb (by simp) (by simpa using uU), Jm hrows (hle q (by simp)) Ce (by rw [if_neg h]; exact ⟨_, 1, 1, rfl, rfl, uR⟩), by simp [hvl], rfl, rfl, rfl⟩))
  ·
   refine XK.skip ?_
   refine XK.norm ?_
   refine XK.region ?_
   refine dD rfl rfl (aY (by omega)) (by decide) ?_
   refine aF rfl (by decide) ?_
   refine XK.aA ?_
   rw [aF9 (k := k) (by omega)]
   exact XK.weak [1, 2] rfl (by decide) (by simp) (XK.aL [(13, .int .i64 (k + 1)), (12, .int .i64 n2), (11, .slice (some ⟨b, off, none⟩) n2 k2), (3, .slice (some ⟨g2, 0, none⟩) n2 n2), (1, .pointer (some ⟨g1, 0, none⟩))] (XK.round (n2 - (k + 1)) (by omega) ⟨k + 1, vs ++ [_], q, by omega, rfl, uU, Jm hrows (fun b hb => ⟨hb, rfl⟩) Ce (by rw [if_pos (Classical.not_not.1 h)]; exact ⟨_, 0, 0, rfl, rfl, aI.nil _ 1⟩), by simp [hvl], rfl, rfl, rfl⟩))
 ·
  refine XK.exit ?_
  refine XK.norm ?_
  refine XK.seq ?_
  obtain rfl : k = n2 := by omega
  rw [Nat.sub_self, List.replicate_zero, List.append_nil]
  rw [List.take_of_length_le (by simp [lQ]; omega)] at hrows
  refine XK.region ?_
  refine aF rfl (by decide) ?_
  refine aH rfl (by decide) ?_
  refine XK.aA ?_
  refine XK.ret ?_
  refine XK.norm ?_
  refine XK.still [q] [0] [] (by simp) rfl (by decide) (by decide) fun q2 hq hle hfr => ?_
  have mW : k = (lQ s).length := by simp [lQ]; omega
  exact XK.aK rfl rfl fun w1 st => ⟨⟨_, rfl, some ⟨g2, 0, none⟩, k, by rw [← mW], by rw [← mW]; exact (kD.Ot hrows (hle q (by simp)) (hq 0 _ (by simp) rfl) mW).le (st.kX (by simp) (hfr (by simp) (by simpa using uU)))⟩, st.below (by simp)⟩
end
section
def wF (s : aD) : Int := if (12 : Int) < s.aB.length ∨ (6 : Int) < s.domains.length ∨ (6 : Int) < s.aU.length ∨ (6 : Int) < s.aG.length then 8 else fY (s.aG.map Bx)
def Mk (s : aD) : List Int := [wF s, fY (s.aB.map (Ay s.aB.length)), vD (lT s), fY (s.domains.map (Cr s.domains.length)), vD (lQ s), fY (s.aU.map Jo),
 fY (s.aG.map (Cw s.aB.length s.domains.length s.aU.length s.aG.length)), vD (lI s)]
def Mj (s : aD) : Int := fY (Mk s)
theorem fG.rows {α : Type} {w : World} {R : α → List Value → Prop} {t : TypeId} {sz n : Nat} {A : Option Addr} {es : List α} (h : fG (dR (all w)) R t sz A n es) (h1 : ∀ e r, R e r → ∀ u ∈ r, u.oneCell' = true) :
  ∃ rows : List (List Value), aI (all w) sz A n rows.flatten ∧ (∀ r ∈ rows, r.length = sz) ∧ (∀ r ∈ rows, ∀ u ∈ r, u.oneCell' = true) ∧ rows.length = n ∧ n = es.length ∧ ∀ (i : Nat) (r : List Value), rows[i]? = some r → ∃ e, es[i]? = some e ∧ R e r := by
 obtain ⟨rows, h2, h3, h4⟩ := h
 refine ⟨rows, h4, h2.aAR, fun r hr => ?_, by rw [h2.len.1, h3], h3, fun i r hr => ?_⟩
 ·obtain ⟨i, hi⟩ := List.getElem?_of_mem hr
  obtain ⟨e, _, _, hR⟩ := h2.at_ hi
  exact h1 e r hR
 ·obtain ⟨e, he, _, hR⟩ := h2.at_ hr
  exact ⟨e, he, hR⟩
theorem iO.one {S : nV} (e : cZ) (r : List Value) (h : iO S e r) : ∀ u ∈ r, u.oneCell' = true := by obtain ⟨A, n, k, rfl, _⟩ := h; simp [Value.oneCell']
theorem sV.one (e : Dom) (r : List Value) (h : sV e r) : ∀ u ∈ r, u.oneCell' = true := by cases h; simp [Value.oneCell']
theorem sQ.one (e : Int) (r : List Value) (h : sQ e r) : ∀ u ∈ r, u.oneCell' = true := by cases h; simp [Value.oneCell']
theorem jF.one {S : nV} (e : bN) (r : List Value) (h : jF S e r) : ∀ u ∈ r, u.oneCell' = true := by obtain ⟨A, n, k, A', n', k', rfl, _⟩ := h; simp [Value.oneCell']
theorem aFn (s : aD) (A1 A2 A3 A4 : Option Addr) (n1 k1 n2 k2 n3 k3 n4 k4 : Nat) (w : World) (hW : eO w s A1 n1 A2 n2 A3 n3 A4 n4) :
    Calls Tryz.prog 119 #[.agg #[.slice A1 n1 k1, .slice A2 n2 k2, .slice A3 n3 k3, .slice A4 n4 k4]] w (Rt (.int .i64 (wF s)) w) := by
  have oP := hW.pY
  have hn2 := hW.qT
  have qD := hW.tH
  have qC := hW.rX
  have cS := hW.small
  unfold aD.small at cS
  obtain ⟨hs1, eV, kL, lK, kU, pZ⟩ := cS
  obtain ⟨rows, cT, dW, oM, sA, Kr, vX⟩ := hW.dev.rows jF.one
  refine XK.enter (vs := [.agg #[.slice A1 n1 k1, .slice A2 n2 k2, .slice A3 n3 k3, .slice A4 n4 k4]]) Tryz.func119 rfl Tryz.ntmps119 (by simp) ?_
  refine XK.seq ?_
  refine XK.region ?_
  refine bY rfl (by decide) fun g1 => ?_
  refine aH rfl (by decide) ?_
  refine XK.aA ?_
  refine XK.seq ?_
  refine XK.seq ?_
  refine XK.region ?_
  refine aW (off := 0) (by kernel_rfl) rfl (by decide) ?_
  refine aZ rfl ?_
  refine cY (el := 118) (by kernel_rfl) rfl (by decide) ?_
  refine qM rfl rfl (by decide) ?_
  refine aF rfl (by decide) ?_
  refine bO (t := 7) rfl (fun hg => ?_) (fun hg => ?_)
  ·
    refine aN rfl rfl rfl (by decide) ?_
    refine aN rfl rfl rfl (by decide) ?_
    refine aN rfl rfl rfl (by decide) ?_
    refine aN rfl rfl rfl (by decide) ?_
    (first | refine bJ rfl rfl (by decide) ?_ | refine bK rfl rfl (by decide) ?_)
    refine aF rfl (by decide) ?_
    refine aN rfl rfl rfl (by decide) ?_
    refine aN rfl rfl rfl (by decide) ?_
    refine aN rfl rfl rfl (by decide) ?_
    refine aN rfl rfl rfl (by decide) ?_
    (first | refine bJ rfl rfl (by decide) ?_ | refine bK rfl rfl (by decide) ?_)
    refine aF rfl (by decide) ?_
    refine aN rfl rfl rfl (by decide) ?_
    refine aN rfl rfl rfl (by decide) ?_
    refine aN rfl rfl rfl (by decide) ?_
    refine aN rfl rfl rfl (by decide) ?_
    (first | refine bJ rfl rfl (by decide) ?_ | refine bK rfl rfl (by decide) ?_)
    refine XK.aA ?_
    refine XK.cond rfl (fun _ => ?_) (fun h => by cases h)
    refine XK.seq ?_
    refine XK.region ?_
    refine aH rfl (by decide) ?_
    refine XK.aA ?_
    refine XK.ret ?_
    refine XK.norm ?_
    exact XK.aK rfl rfl fun w1 st => ⟨by rw [wF, if_pos (by omega)], st.below (by simp)⟩
  ·
    refine aO rfl rfl ?_; refine aW (off := 1) (by kernel_rfl) rfl (by decide) ?_
    refine aO rfl rfl ?_; refine aZ rfl ?_
    refine aO rfl rfl ?_; refine cY (el := 75) (by kernel_rfl) rfl (by decide) ?_
    refine aO rfl rfl ?_; refine qM rfl rfl (by decide) ?_
    (first | refine bJ rfl rfl (by decide) ?_ | refine bK rfl rfl (by decide) ?_)
    refine aF rfl (by decide) ?_
    refine bO (t := 13) rfl (fun hg => ?_) (fun hg => ?_)
    ·
      refine aN rfl rfl rfl (by decide) ?_
      refine aN rfl rfl rfl (by decide) ?_
      refine aN rfl rfl rfl (by decide) ?_
      refine aN rfl rfl rfl (by decide) ?_
      (first | refine bJ rfl rfl (by decide) ?_ | refine bK rfl rfl (by decide) ?_)
      refine aF rfl (by decide) ?_
      refine aN rfl rfl rfl (by decide) ?_
      refine aN rfl rfl rfl (by decide) ?_
      refine aN rfl rfl rfl (by decide) ?_
      refine aN rfl rfl rfl (by decide) ?_
      (first | refine bJ rfl rfl (by decide) ?_ | refine bK rfl rfl (by decide) ?_)
      refine XK.aA ?_
      refine XK.cond rfl (fun _ => ?_) (fun h => by cases h)
      refine XK.seq ?_
      refine XK.region ?_
      refine aH rfl (by decide) ?_
      refine XK.aA ?_
      refine XK.ret ?_
      refine XK.norm ?_
      exact XK.aK rfl rfl fun w1 st => ⟨by rw [wF, if_pos (by omega)], st.below (by simp)⟩
    ·
      refine aO rfl rfl ?_; refine aW (off := 2) (by kernel_rfl) rfl (by decide) ?_
      refine aO rfl rfl ?_; refine aZ rfl ?_
      refine aO rfl rfl ?_; refine cY (el := 120) (by kernel_rfl) rfl (by decide) ?_
      refine aO rfl rfl ?_; refine qM rfl rfl (by decide) ?_
      (first | refine bJ rfl rfl (by decide) ?_ | refine bK rfl rfl (by decide) ?_)
      refine aF rfl (by decide) ?_
      refine bO (t := 19) rfl (fun hg => ?_) (fun hg => ?_)
      ·
        refine aN rfl rfl rfl (by decide) ?_
        refine aN rfl rfl rfl (by decide) ?_
        refine aN rfl rfl rfl (by decide) ?_
        refine aN rfl rfl rfl (by decide) ?_
        (first | refine bJ rfl rfl (by decide) ?_ | refine bK rfl rfl (by decide) ?_)
        refine XK.aA ?_
        refine XK.cond rfl (fun _ => ?_) (fun h => by cases h)
        refine XK.seq ?_
        refine XK.region ?_
        refine aH rfl (by decide) ?_
        refine XK.aA ?_
        refine XK.ret ?_
        refine XK.norm ?_
        exact XK.aK rfl rfl fun w1 st => ⟨by rw [wF, if_pos (by omega)], st.below (by simp)⟩
      ·
        refine aO rfl rfl ?_; refine aW (off := 3) (by kernel_rfl) rfl (by decide) ?_
        refine aO rfl rfl ?_; refine aZ rfl ?_
        refine aO rfl rfl ?_; refine cY (el := 78) (by kernel_rfl) rfl (by decide) ?_
        refine aO rfl rfl ?_; refine qM rfl rfl (by decide) ?_
        (first | refine bJ rfl rfl (by decide) ?_ | refine bK rfl rfl (by decide) ?_)
        refine XK.aA ?_
        refine XK.if_ rfl (fun h => ?_) (fun h => ?_)
        ·
          refine XK.seq ?_
          refine XK.region ?_
          refine aH rfl (by decide) ?_
          refine XK.aA ?_
          refine XK.ret ?_
          refine XK.norm ?_
          exact XK.aK rfl rfl fun w1 st => ⟨by rw [wF, if_pos (by omega)], st.below (by simp)⟩
        ·
          refine XK.skip ?_
          refine XK.norm ?_
          refine XK.seq ?_
          refine XK.region ?_
          refine aW (off := 3) (by kernel_rfl) rfl (by decide) ?_
          refine aZ rfl ?_
          refine bA (f := 137) (fi := []) (ca := []) (by kernel_rfl) rfl rfl (by decide) (fun w1 st => aAw A4 n4 k4 198 [] rows (s.aG.map Bx) w1 (cT.le (fF (st.started (by simp)))) dW oM sA (by simp; omega) (by omega) (by kernel_rfl) (fun i r x hr hx w2 cV => by
    have fE := (st.started (by simp)).trans (cV.mono st.size)
    obtain ⟨e, he, hR⟩ := vX i r hr
    rw [List.getElem?_map, he] at hx
    cases hx
    obtain ⟨Ar, nr, kr, Af, nf, kf, rfl, gS, hnf, _, rZ⟩ := hR
    exact aFo e.aQ e.iC _ _ _ _ _ _ _ _ _ _ w2 gS hnf)) ?_
          refine aH rfl (by decide) ?_
          refine XK.aA ?_
          refine XK.ret ?_
          refine XK.norm ?_
          exact XK.aK rfl rfl fun w1 st => ⟨by rw [wF, if_neg (by omega)], st.below (by simp)⟩
theorem check_1 (s : aD) (A1 A2 A3 A4 : Option Addr) (n1 k1 n2 k2 n3 k3 n4 k4 : Nat) (w : World) (hW : eO w s A1 n1 A2 n2 A3 n3 A4 n4) (gs : Nat) (hs : cX w gs 0 [.slice A1 n1 k1, .slice A2 n2 k2, .slice A3 n3 k3, .slice A4 n4 k4]) :
  Calls Tryz.prog 118 #[.pointer (some ⟨gs, 0, none⟩)] w (Rt (.int .i64 (wF s)) w) := by
 have oP := hW.pY
 have hn2 := hW.qT
 have qD := hW.tH
 have qC := hW.rX
 have cS := hW.small
 unfold aD.small at cS
 obtain ⟨hs1, eV, kL, lK, kU, pZ⟩ := cS
 refine XK.enter (vs := [.pointer (some ⟨gs, 0, none⟩)]) Tryz.func118 rfl Tryz.ntmps118 (by simp) ?_
 refine XK.seq ?_
 refine XK.region ?_
 refine aH rfl (by decide) ?_
 refine XK.aA ?_
 refine XK.seq ?_
 refine XK.region ?_
 refine gB 4 rfl ?_
 refine bA (f := 119) (fi := []) (ca := []) (by kernel_rfl) rfl rfl (by decide) (fun w1 st => aFn s A1 A2 A3 A4 n1 k1 n2 k2 n3 k3 n4 k4 w1 (hW.le (st.started (by simp)))) ?_
 refine aH rfl (by decide) ?_
 refine XK.aA ?_
 refine XK.ret ?_
 refine XK.norm ?_
 exact XK.aK rfl rfl fun w1 st => ⟨rfl, st.below (by simp)⟩
theorem aGI (kind rate mul div lock : Int) (A : Option Addr) (n k : Nat) (A1 A2 A3 A4 : Option Addr) (n1 k1 n2 k2 n3 k3 n4 k4 : Nat) (gs : Nat) (w : World) (hs : cX w gs 0 [.slice A1 n1 k1, .slice A2 n2 k2, .slice A3 n3 k3, .slice A4 n4 k4]) (kS : (n1 : Int) ≤ 9223372036854775806) (zs : List Int) (hA : aI (all w) 1 A n (aR zs)) (hn : n = zs.length) (hz : (n : Int) ≤ 9223372036854775806) :
  Calls Tryz.prog 122 #[.agg #[.int .u8 kind, .slice A n k, .int .u64 rate, .int .i64 mul, .int .i64 div, .int .i64 lock], .pointer (some ⟨gs, 0, none⟩)] w (Rt (.int .i64 (Ay n1 ⟨kind, zs, rate, mul, div, lock⟩)) w) := by
 refine XK.enter (vs := [.agg #[.int .u8 kind, .slice A n k, .int .u64 rate, .int .i64 mul, .int .i64 div, .int .i64 lock], .pointer (some ⟨gs, 0, none⟩)]) Tryz.func122 rfl Tryz.ntmps122 (by simp) ?_
 refine XK.seq ?_
 refine XK.region ?_
 refine bY rfl (by decide) fun g1 => ?_
 refine aH rfl (by decide) ?_
 refine XK.aA ?_
 refine XK.seq ?_
 refine XK.region ?_
 refine gB 4 rfl ?_
 refine gB 6 rfl ?_
 refine bA (f := 123) (fi := []) (ca := []) (by kernel_rfl) rfl rfl (by decide) (fun w1 st => aGv kind rate mul div lock A n k A1 A2 A3 A4 n1 k1 n2 k2 n3 k3 n4 k4 w1 kS zs (hA.le (fF (st.started (by simp)))) hn hz) ?_
 refine aH rfl (by decide) ?_
 refine XK.aA ?_
 refine XK.ret ?_
 refine XK.norm ?_
 exact XK.aK rfl rfl fun w1 st => ⟨rfl, st.below (by simp)⟩
theorem aGF (above delay : Int) (ret : Bool) (A1 A2 A3 A4 : Option Addr) (n1 k1 n2 k2 n3 k3 n4 k4 : Nat) (gs : Nat) (w : World) (hs : cX w gs 0 [.slice A1 n1 k1, .slice A2 n2 k2, .slice A3 n3 k3, .slice A4 n4 k4]) (kR : (n2 : Int) ≤ 9223372036854775806) :
  Calls Tryz.prog 129 #[.agg #[.int .i64 above, .int .i64 delay, .bool ret], .pointer (some ⟨gs, 0, none⟩)] w (Rt (.int .i64 (Cr n2 ⟨above, delay, ret⟩)) w) := by
 refine XK.enter (vs := [.agg #[.int .i64 above, .int .i64 delay, .bool ret], .pointer (some ⟨gs, 0, none⟩)]) Tryz.func129 rfl Tryz.ntmps129 (by simp) ?_
 refine XK.seq ?_
 refine XK.region ?_
 refine bY rfl (by decide) fun g1 => ?_
 refine aH rfl (by decide) ?_
 refine XK.aA ?_
 refine XK.seq ?_
 refine XK.region ?_
 refine gB 4 rfl ?_
 refine gB 3 rfl ?_
 refine bA (f := 130) (fi := []) (ca := []) (by kernel_rfl) rfl rfl (by decide) (fun w1 st => aFW above delay ret A1 A2 A3 A4 n1 k1 n2 k2 n3 k3 n4 k4 w1 kR) ?_
 refine aH rfl (by decide) ?_
 refine XK.aA ?_
 refine XK.ret ?_
 refine XK.norm ?_
 exact XK.aK rfl rfl fun w1 st => ⟨rfl, st.below (by simp)⟩
theorem aGB (rg : List Rg) (clock domain reset eX : Int) (A B : Option Addr) (n k nb kb : Nat) (A1 A2 A3 A4 : Option Addr) (n1 k1 n2 k2 n3 k3 n4 k4 : Nat) (gs : Nat) (w : World) (hs : cX w gs 0 [.slice A1 n1 k1, .slice A2 n2 k2, .slice A3 n3 k3, .slice A4 n4 k4]) (kS : (n1 : Int) ≤ 9223372036854775806) (kR : (n2 : Int) ≤ 9223372036854775806) (Kk : (n3 : Int) ≤ 9223372036854775806) (Cc : (n4 : Int) ≤ 9223372036854775806) (zs : List Int) (hA : aI (all w) 1 A n (aR zs)) (hn : n = zs.length) (hz : (n : Int) ≤ 9223372036854775806) :
  Calls Tryz.prog 138 #[.agg #[.int .i64 clock, .int .i64 domain, .int .i64 reset, .int .u32 eX, .slice B nb kb, .slice A n k], .pointer (some ⟨gs, 0, none⟩)] w (Rt (.int .i64 (Cw n1 n2 n3 n4 ⟨clock, domain, reset, eX, rg, zs⟩)) w) := by
 refine XK.enter (vs := [.agg #[.int .i64 clock, .int .i64 domain, .int .i64 reset, .int .u32 eX, .slice B nb kb, .slice A n k], .pointer (some ⟨gs, 0, none⟩)]) Tryz.func138 rfl Tryz.ntmps138 (by simp) ?_
 refine XK.seq ?_
 refine XK.region ?_
 refine bY rfl (by decide) fun g1 => ?_
 refine aH rfl (by decide) ?_
 refine XK.aA ?_
 refine XK.seq ?_
 refine XK.region ?_
 refine gB 4 rfl ?_
 refine gB 6 rfl ?_
 refine bA (f := 139) (fi := []) (ca := []) (by kernel_rfl) rfl rfl (by decide) (fun w1 st => aGe rg clock domain reset eX A B n k nb kb A1 A2 A3 A4 n1 k1 n2 k2 n3 k3 n4 k4 w1 kS kR Kk Cc zs (hA.le (fF (st.started (by simp)))) hn hz) ?_
 refine aH rfl (by decide) ?_
 refine XK.aA ?_
 refine XK.ret ?_
 refine XK.norm ?_
 exact XK.aK rfl rfl fun w1 st => ⟨rfl, st.below (by simp)⟩
theorem aGJ (s : aD) (A1 A2 A3 A4 : Option Addr) (n1 k1 n2 k2 n3 k3 n4 k4 : Nat) (w : World) (hW : eO w s A1 n1 A2 n2 A3 n3 A4 n4) (gs : Nat) (hs : cX w gs 0 [.slice A1 n1 k1, .slice A2 n2 k2, .slice A3 n3 k3, .slice A4 n4 k4]) :
  Calls Tryz.prog 120 #[.pointer (some ⟨gs, 0, none⟩)] w (Rt (.int .i64 (fY (s.aB.map (Ay s.aB.length)))) w) := by
 have oP := hW.pY
 have hn2 := hW.qT
 have qD := hW.tH
 have qC := hW.rX
 have cS := hW.small
 unfold aD.small at cS
 obtain ⟨hs1, eV, kL, lK, kU, pZ⟩ := cS
 obtain ⟨rows, cT, dW, oM, sA, Kr, vX⟩ := hW.gX.rows iO.one
 rw [← oP]
 refine XK.enter (vs := [.pointer (some ⟨gs, 0, none⟩)]) Tryz.func120 rfl Tryz.ntmps120 (by simp) ?_
 refine XK.seq ?_
 refine XK.region ?_
 refine aH rfl (by decide) ?_
 refine XK.aA ?_
 refine XK.seq ?_
 refine XK.region ?_
 refine aW (off := 0) (by kernel_rfl) rfl (by decide) ?_
 refine aZ rfl ?_
 refine iA (vf := []) (vc := [.pointer (some ⟨gs, 0, none⟩)]) rfl rfl (by decide) ?_
 refine bA (f := 121) (fi := []) (ca := []) (by kernel_rfl) rfl rfl (by decide) (fun w1 st => aFN A1 n1 k1 122 [.pointer (some ⟨gs, 0, none⟩)] rows (s.aB.map (Ay n1)) w1 (cT.le (fF (st.started (by simp)))) dW oM sA (by simp; omega) (by omega) (by kernel_rfl) (fun i r x hr hx w2 cV => by
  have fE := (st.started (by simp)).trans (cV.mono st.size)
  obtain ⟨e, he, hR⟩ := vX i r hr
  rw [List.getElem?_map, he] at hx
  cases hx
  obtain ⟨Af, nf, kf, rfl, hnf, rZ⟩ := hR
  exact aGI _ _ _ _ _ _ _ _ A1 A2 A3 A4 n1 k1 n2 k2 n3 k3 n4 k4 gs w2 (hs.below fE) (by omega) e.src (aI.le rZ (fF fE)) hnf (by have := kU e (List.mem_of_getElem? he); omega))) ?_
 refine aH rfl (by decide) ?_
 refine XK.aA ?_
 refine XK.ret ?_
 refine XK.norm ?_
 exact XK.aK rfl rfl fun w1 st => ⟨rfl, st.below (by simp)⟩
theorem aGG (s : aD) (A1 A2 A3 A4 : Option Addr) (n1 k1 n2 k2 n3 k3 n4 k4 : Nat) (w : World) (hW : eO w s A1 n1 A2 n2 A3 n3 A4 n4) (gs : Nat) (hs : cX w gs 0 [.slice A1 n1 k1, .slice A2 n2 k2, .slice A3 n3 k3, .slice A4 n4 k4]) :
  Calls Tryz.prog 127 #[.pointer (some ⟨gs, 0, none⟩)] w (Rt (.int .i64 (fY (s.domains.map (Cr s.domains.length)))) w) := by
 have oP := hW.pY
 have hn2 := hW.qT
 have qD := hW.tH
 have qC := hW.rX
 have cS := hW.small
 unfold aD.small at cS
 obtain ⟨hs1, eV, kL, lK, kU, pZ⟩ := cS
 obtain ⟨rows, cT, dW, oM, sA, Kr, vX⟩ := hW.dom.rows sV.one
 rw [← hn2]
 refine XK.enter (vs := [.pointer (some ⟨gs, 0, none⟩)]) Tryz.func127 rfl Tryz.ntmps127 (by simp) ?_
 refine XK.seq ?_
 refine XK.region ?_
 refine aH rfl (by decide) ?_
 refine XK.aA ?_
 refine XK.seq ?_
 refine XK.region ?_
 refine aW (off := 1) (by kernel_rfl) rfl (by decide) ?_
 refine aZ rfl ?_
 refine iA (vf := []) (vc := [.pointer (some ⟨gs, 0, none⟩)]) rfl rfl (by decide) ?_
 refine bA (f := 128) (fi := []) (ca := []) (by kernel_rfl) rfl rfl (by decide) (fun w1 st => aFM A2 n2 k2 129 [.pointer (some ⟨gs, 0, none⟩)] rows (s.domains.map (Cr n2)) w1 (cT.le (fF (st.started (by simp)))) dW oM sA (by simp; omega) (by omega) (by kernel_rfl) (fun i r x hr hx w2 cV => by
  have fE := (st.started (by simp)).trans (cV.mono st.size)
  obtain ⟨e, he, hR⟩ := vX i r hr
  rw [List.getElem?_map, he] at hx
  cases hx
  obtain rfl := hR
  exact aGF _ _ _ A1 A2 A3 A4 n1 k1 n2 k2 n3 k3 n4 k4 gs w2 (hs.below fE) (by omega))) ?_
 refine aH rfl (by decide) ?_
 refine XK.aA ?_
 refine XK.ret ?_
 refine XK.norm ?_
 exact XK.aK rfl rfl fun w1 st => ⟨rfl, st.below (by simp)⟩
theorem aGD (s : aD) (A1 A2 A3 A4 : Option Addr) (n1 k1 n2 k2 n3 k3 n4 k4 : Nat) (w : World) (hW : eO w s A1 n1 A2 n2 A3 n3 A4 n4) (gs : Nat) (hs : cX w gs 0 [.slice A1 n1 k1, .slice A2 n2 k2, .slice A3 n3 k3, .slice A4 n4 k4]) :
  Calls Tryz.prog 133 #[.pointer (some ⟨gs, 0, none⟩)] w (Rt (.int .i64 (fY (s.aU.map Jo))) w) := by
 have oP := hW.pY
 have hn2 := hW.qT
 have qD := hW.tH
 have qC := hW.rX
 have cS := hW.small
 unfold aD.small at cS
 obtain ⟨hs1, eV, kL, lK, kU, pZ⟩ := cS
 obtain ⟨rows, cT, dW, oM, sA, Kr, vX⟩ := hW.nZ.rows sQ.one
 refine XK.enter (vs := [.pointer (some ⟨gs, 0, none⟩)]) Tryz.func133 rfl Tryz.ntmps133 (by simp) ?_
 refine XK.seq ?_
 refine XK.region ?_
 refine aH rfl (by decide) ?_
 refine XK.aA ?_
 refine XK.seq ?_
 refine XK.region ?_
 refine aW (off := 2) (by kernel_rfl) rfl (by decide) ?_
 refine aZ rfl ?_
 refine bA (f := 134) (fi := []) (ca := []) (by kernel_rfl) rfl rfl (by decide) (fun w1 st => aFL A3 n3 k3 135 [] rows (s.aU.map Jo) w1 (cT.le (fF (st.started (by simp)))) dW oM sA (by simp; omega) (by omega) (by kernel_rfl) (fun i r x hr hx w2 cV => by
  have fE := (st.started (by simp)).trans (cV.mono st.size)
  obtain ⟨e, he, hR⟩ := vX i r hr
  rw [List.getElem?_map, he] at hx
  cases hx
  obtain rfl := hR
  exact aCD _ w2)) ?_
 refine aH rfl (by decide) ?_
 refine XK.aA ?_
 refine XK.ret ?_
 refine XK.norm ?_
 exact XK.aK rfl rfl fun w1 st => ⟨rfl, st.below (by simp)⟩
theorem aGC (s : aD) (A1 A2 A3 A4 : Option Addr) (n1 k1 n2 k2 n3 k3 n4 k4 : Nat) (w : World) (hW : eO w s A1 n1 A2 n2 A3 n3 A4 n4) (gs : Nat) (hs : cX w gs 0 [.slice A1 n1 k1, .slice A2 n2 k2, .slice A3 n3 k3, .slice A4 n4 k4]) :
  Calls Tryz.prog 136 #[.pointer (some ⟨gs, 0, none⟩)] w (Rt (.int .i64 (fY (s.aG.map (Cw s.aB.length s.domains.length s.aU.length s.aG.length)))) w) := by
 have oP := hW.pY
 have hn2 := hW.qT
 have qD := hW.tH
 have qC := hW.rX
 have cS := hW.small
 unfold aD.small at cS
 obtain ⟨hs1, eV, kL, lK, kU, pZ⟩ := cS
 obtain ⟨rows, cT, dW, oM, sA, Kr, vX⟩ := hW.dev.rows jF.one
 rw [← oP, ← hn2, ← qD, ← qC]
 refine XK.enter (vs := [.pointer (some ⟨gs, 0, none⟩)]) Tryz.func136 rfl Tryz.ntmps136 (by simp) ?_
 refine XK.seq ?_
 refine XK.region ?_
 refine aH rfl (by decide) ?_
 refine XK.aA ?_
 refine XK.seq ?_
 refine XK.region ?_
 refine aW (off := 3) (by kernel_rfl) rfl (by decide) ?_
 refine aZ rfl ?_
 refine iA (vf := []) (vc := [.pointer (some ⟨gs, 0, none⟩)]) rfl rfl (by decide) ?_
 refine bA (f := 137) (fi := []) (ca := []) (by kernel_rfl) rfl rfl (by decide) (fun w1 st => aAw A4 n4 k4 138 [.pointer (some ⟨gs, 0, none⟩)] rows (s.aG.map (Cw n1 n2 n3 n4)) w1 (cT.le (fF (st.started (by simp)))) dW oM sA (by simp; omega) (by omega) (by kernel_rfl) (fun i r x hr hx w2 cV => by
  have fE := (st.started (by simp)).trans (cV.mono st.size)
  obtain ⟨e, he, hR⟩ := vX i r hr
  rw [List.getElem?_map, he] at hx
  cases hx
  obtain ⟨Ar, nr, kr, Af, nf, kf, rfl, gS, hnf, _, rZ⟩ := hR
  exact aGB e.aQ _ _ _ _ _ _ _ _ _ _ A1 A2 A3 A4 n1 k1 n2 k2 n3 k3 n4 k4 gs w2 (hs.below fE) (by omega) (by omega) (by omega) (by omega) e.iC (aI.le rZ (fF fE)) hnf (by have := pZ e (List.mem_of_getElem? he); omega))) ?_
 refine aH rfl (by decide) ?_
 refine XK.aA ?_
 refine XK.ret ?_
 refine XK.norm ?_
 exact XK.aK rfl rfl fun w1 st => ⟨rfl, st.below (by simp)⟩
theorem aGH (s : aD) (A1 A2 A3 A4 : Option Addr) (n1 k1 n2 k2 n3 k3 n4 k4 : Nat) (w : World) (hW : eO w s A1 n1 A2 n2 A3 n3 A4 n4) (gs : Nat) (hs : cX w gs 0 [.slice A1 n1 k1, .slice A2 n2 k2, .slice A3 n3 k3, .slice A4 n4 k4]) :
  Calls Tryz.prog 124 #[.pointer (some ⟨gs, 0, none⟩)] w (Rt (.int .i64 (vD (lT s))) w) := by
 have oP := hW.pY
 have hn2 := hW.qT
 have qD := hW.tH
 have qC := hW.rX
 have cS := hW.small
 unfold aD.small at cS
 obtain ⟨hs1, eV, kL, lK, kU, pZ⟩ := cS
 refine XK.enter (vs := [.pointer (some ⟨gs, 0, none⟩)]) Tryz.func124 rfl Tryz.ntmps124 (by simp) ?_
 refine XK.seq ?_
 refine XK.region ?_
 refine aH rfl (by decide) ?_
 refine XK.aA ?_
 refine XK.seq ?_
 refine XK.region ?_
 refine gB 4 rfl ?_
 refine jX [] (f := 126) (fi := []) (ca := []) (by kernel_rfl) rfl rfl (by decide) (by simp) (Dk (lT s)) (fun w1 st => aGu s A1 A2 A3 A4 n1 k1 n2 k2 n3 k3 n4 k4 w1 (hW.le (st.started (by simp)))) ?_
 rintro _ w1 q ⟨Ag, cg, rfl, Gb⟩ hf' _ Lb
 have Gc := Gb.le hf'
 have mW : (lT s).length = n1 := by simp [lT]; omega
 refine bA (f := 125) (fi := []) (ca := []) (by kernel_rfl) rfl rfl (by decide) (fun w1 st => Sv Ag _ cg (lT s) w1 (Gc.le (st.le (by simp))) rfl (by omega) (fun l hl => by
  simp only [lT, List.mem_map] at hl
  obtain ⟨x, hx, rfl⟩ := hl
  have := kU x hx; omega)) ?_
 refine aH rfl (by decide) ?_
 refine XK.aA ?_
 refine XK.ret ?_
 refine XK.norm ?_
 exact XK.aK rfl rfl fun w1 st => ⟨rfl, st.below (by simp)⟩
theorem aGE (s : aD) (A1 A2 A3 A4 : Option Addr) (n1 k1 n2 k2 n3 k3 n4 k4 : Nat) (w : World) (hW : eO w s A1 n1 A2 n2 A3 n3 A4 n4) (gs : Nat) (hs : cX w gs 0 [.slice A1 n1 k1, .slice A2 n2 k2, .slice A3 n3 k3, .slice A4 n4 k4]) :
  Calls Tryz.prog 131 #[.pointer (some ⟨gs, 0, none⟩)] w (Rt (.int .i64 (vD (lQ s))) w) := by
 have oP := hW.pY
 have hn2 := hW.qT
 have qD := hW.tH
 have qC := hW.rX
 have cS := hW.small
 unfold aD.small at cS
 obtain ⟨hs1, eV, kL, lK, kU, pZ⟩ := cS
 refine XK.enter (vs := [.pointer (some ⟨gs, 0, none⟩)]) Tryz.func131 rfl Tryz.ntmps131 (by simp) ?_
 refine XK.seq ?_
 refine XK.region ?_
 refine aH rfl (by decide) ?_
 refine XK.aA ?_
 refine XK.seq ?_
 refine XK.region ?_
 refine gB 4 rfl ?_
 refine jX [] (f := 132) (fi := []) (ca := []) (by kernel_rfl) rfl rfl (by decide) (by simp) (Dk (lQ s)) (fun w1 st => aFV s A1 A2 A3 A4 n1 k1 n2 k2 n3 k3 n4 k4 w1 (hW.le (st.started (by simp)))) ?_
 rintro _ w1 q ⟨Ag, cg, rfl, Gb⟩ hf' _ Lb
 have Gc := Gb.le hf'
 have mW : (lQ s).length = n2 := by simp [lQ]; omega
 refine bA (f := 125) (fi := []) (ca := []) (by kernel_rfl) rfl rfl (by decide) (fun w1 st => Sv Ag _ cg (lQ s) w1 (Gc.le (st.le (by simp))) rfl (by omega) (fun l hl => by
  simp only [lQ, List.mem_map] at hl
  obtain ⟨x, hx, rfl⟩ := hl
  split <;> simp)) ?_
 refine aH rfl (by decide) ?_
 refine XK.aA ?_
 refine XK.ret ?_
 refine XK.norm ?_
 exact XK.aK rfl rfl fun w1 st => ⟨rfl, st.below (by simp)⟩
theorem aGA (s : aD) (A1 A2 A3 A4 : Option Addr) (n1 k1 n2 k2 n3 k3 n4 k4 : Nat) (w : World) (hW : eO w s A1 n1 A2 n2 A3 n3 A4 n4) (gs : Nat) (hs : cX w gs 0 [.slice A1 n1 k1, .slice A2 n2 k2, .slice A3 n3 k3, .slice A4 n4 k4]) :
  Calls Tryz.prog 140 #[.pointer (some ⟨gs, 0, none⟩)] w (Rt (.int .i64 (vD (lI s))) w) := by
 have oP := hW.pY
 have hn2 := hW.qT
 have qD := hW.tH
 have qC := hW.rX
 have cS := hW.small
 unfold aD.small at cS
 obtain ⟨hs1, eV, kL, lK, kU, pZ⟩ := cS
 refine XK.enter (vs := [.pointer (some ⟨gs, 0, none⟩)]) Tryz.func140 rfl Tryz.ntmps140 (by simp) ?_
 refine XK.seq ?_
 refine XK.region ?_
 refine aH rfl (by decide) ?_
 refine XK.aA ?_
 refine XK.seq ?_
 refine XK.region ?_
 refine gB 4 rfl ?_
 refine jX [] (f := 112) (fi := []) (ca := []) (by kernel_rfl) rfl rfl (by decide) (by simp) (Dk (lI s)) (fun w1 st => aDC s A1 A2 A3 A4 n1 k1 n2 k2 n3 k3 n4 k4 w1 (hW.le (st.started (by simp)))) ?_
 rintro _ w1 q ⟨Ag, cg, rfl, Gb⟩ hf' _ Lb
 have Gc := Gb.le hf'
 have mW : (lI s).length = n4 := by simp [lI]; omega
 refine bA (f := 125) (fi := []) (ca := []) (by kernel_rfl) rfl rfl (by decide) (fun w1 st => Sv Ag _ cg (lI s) w1 (Gc.le (st.le (by simp))) rfl (by omega) (fun l hl => by
  simp only [lI, List.mem_map] at hl
  obtain ⟨x, hx, rfl⟩ := hl
  have := pZ x hx; omega)) ?_
 refine aH rfl (by decide) ?_
 refine XK.aA ?_
 refine XK.ret ?_
 refine XK.norm ?_
 exact XK.aK rfl rfl fun w1 st => ⟨rfl, st.below (by simp)⟩
theorem aAE (s : aD) (A1 A2 A3 A4 : Option Addr) (n1 k1 n2 k2 n3 k3 n4 k4 : Nat) (w : World) (hW : eO w s A1 n1 A2 n2 A3 n3 A4 n4) :
  Calls Tryz.prog 59 #[.agg #[.slice A1 n1 k1, .slice A2 n2 k2, .slice A3 n3 k3, .slice A4 n4 k4]] w (Rt (.int .i64 (Mj s)) w) := by
 refine XK.enter (vs := [.agg #[.slice A1 n1 k1, .slice A2 n2 k2, .slice A3 n3 k3, .slice A4 n4 k4]]) Tryz.func59 rfl Tryz.ntmps59 (by simp) ?_
 refine XK.seq ?_
 refine XK.region ?_
 refine bY rfl (by decide) fun g1 => ?_
 refine aH rfl (by decide) ?_
 refine XK.aA ?_
 refine XK.seq ?_
 refine XK.region ?_
 refine iA (vf := []) (vc := [.pointer (some ⟨g1, 0, none⟩)]) rfl rfl (by decide) ?_
 refine iA (vf := []) (vc := [.pointer (some ⟨g1, 0, none⟩)]) rfl rfl (by decide) ?_
 refine iA (vf := []) (vc := [.pointer (some ⟨g1, 0, none⟩)]) rfl rfl (by decide) ?_
 refine iA (vf := []) (vc := [.pointer (some ⟨g1, 0, none⟩)]) rfl rfl (by decide) ?_
 refine iA (vf := []) (vc := [.pointer (some ⟨g1, 0, none⟩)]) rfl rfl (by decide) ?_
 refine iA (vf := []) (vc := [.pointer (some ⟨g1, 0, none⟩)]) rfl rfl (by decide) ?_
 refine iA (vf := []) (vc := [.pointer (some ⟨g1, 0, none⟩)]) rfl rfl (by decide) ?_
 refine iA (vf := []) (vc := [.pointer (some ⟨g1, 0, none⟩)]) rfl rfl (by decide) ?_
 refine eZ (el := 113) (sz := 1) (zs := [.nilFunc]) (by kernel_rfl) (aM (by kernel_rfl)) (by kernel_rfl) rfl (by decide) (by decide) rfl (by simp [aS, aT, Value.cells, List.range_succ, List.set]; rfl) (by decide) fun g2 => ?_
 refine bA (f := 117) (fi := []) (ca := []) (by kernel_rfl) rfl rfl (by decide) (fun w1 st => Ln _ _ _ [(118, [.pointer (some ⟨g1, 0, none⟩)]), (120, [.pointer (some ⟨g1, 0, none⟩)]), (124, [.pointer (some ⟨g1, 0, none⟩)]), (127, [.pointer (some ⟨g1, 0, none⟩)]), (131, [.pointer (some ⟨g1, 0, none⟩)]), (133, [.pointer (some ⟨g1, 0, none⟩)]), (136, [.pointer (some ⟨g1, 0, none⟩)]), (140, [.pointer (some ⟨g1, 0, none⟩)])] (Mk s) w1 (st.yR (i := 0) (n := 8) (sz := 1) (cs := [.func (.func 118) #[] #[.pointer (some ⟨g1, 0, none⟩)], .func (.func 120) #[] #[.pointer (some ⟨g1, 0, none⟩)], .func (.func 124) #[] #[.pointer (some ⟨g1, 0, none⟩)], .func (.func 127) #[] #[.pointer (some ⟨g1, 0, none⟩)], .func (.func 131) #[] #[.pointer (some ⟨g1, 0, none⟩)], .func (.func 133) #[] #[.pointer (some ⟨g1, 0, none⟩)], .func (.func 136) #[] #[.pointer (some ⟨g1, 0, none⟩)], .func (.func 140) #[] #[.pointer (some ⟨g1, 0, none⟩)]]) rfl rfl) rfl rfl (by decide) (by simp only [List.mem_cons, List.not_mem_nil, or_false]; rintro f (rfl | rfl | rfl | rfl | rfl | rfl | rfl | rfl) <;> kernel_rfl) (fun i f x hf hx w2 cV => by
  have fE := (st.started (by simp)).trans (cV.mono st.size)
  unfold Mk at hx
  match i, hf, hx with
  | 0, hf, hx => cases hf; cases hx; exact check_1 s A1 A2 A3 A4 n1 k1 n2 k2 n3 k3 n4 k4 w2 (hW.le fE) g1 (st.box (cs := [.slice A1 n1 k1, .slice A2 n2 k2, .slice A3 n3 k3, .slice A4 n4 k4]) (i := 1) rfl |>.below cV)
  | 1, hf, hx => cases hf; cases hx; exact aGJ s A1 A2 A3 A4 n1 k1 n2 k2 n3 k3 n4 k4 w2 (hW.le fE) g1 (st.box (cs := [.slice A1 n1 k1, .slice A2 n2 k2, .slice A3 n3 k3, .slice A4 n4 k4]) (i := 1) rfl |>.below cV)
  | 2, hf, hx => cases hf; cases hx; exact aGH s A1 A2 A3 A4 n1 k1 n2 k2 n3 k3 n4 k4 w2 (hW.le fE) g1 (st.box (cs := [.slice A1 n1 k1, .slice A2 n2 k2, .slice A3 n3 k3, .slice A4 n4 k4]) (i := 1) rfl |>.below cV)
  | 3, hf, hx => cases hf; cases hx; exact aGG s A1 A2 A3 A4 n1 k1 n2 k2 n3 k3 n4 k4 w2 (hW.le fE) g1 (st.box (cs := [.slice A1 n1 k1, .slice A2 n2 k2, .slice A3 n3 k3, .slice A4 n4 k4]) (i := 1) rfl |>.below cV)
  | 4, hf, hx => cases hf; cases hx; exact aGE s A1 A2 A3 A4 n1 k1 n2 k2 n3 k3 n4 k4 w2 (hW.le fE) g1 (st.box (cs := [.slice A1 n1 k1, .slice A2 n2 k2, .slice A3 n3 k3, .slice A4 n4 k4]) (i := 1) rfl |>.below cV)
  | 5, hf, hx => cases hf; cases hx; exact aGD s A1 A2 A3 A4 n1 k1 n2 k2 n3 k3 n4 k4 w2 (hW.le fE) g1 (st.box (cs := [.slice A1 n1 k1, .slice A2 n2 k2, .slice A3 n3 k3, .slice A4 n4 k4]) (i := 1) rfl |>.below cV)
  | 6, hf, hx => cases hf; cases hx; exact aGC s A1 A2 A3 A4 n1 k1 n2 k2 n3 k3 n4 k4 w2 (hW.le fE) g1 (st.box (cs := [.slice A1 n1 k1, .slice A2 n2 k2, .slice A3 n3 k3, .slice A4 n4 k4]) (i := 1) rfl |>.below cV)
  | 7, hf, hx => cases hf; cases hx; exact aGA s A1 A2 A3 A4 n1 k1 n2 k2 n3 k3 n4 k4 w2 (hW.le fE) g1 (st.box (cs := [.slice A1 n1 k1, .slice A2 n2 k2, .slice A3 n3 k3, .slice A4 n4 k4]) (i := 1) rfl |>.below cV)
  | i + 8, hf, _ => simp at hf)) ?_
 refine aH rfl (by decide) ?_
 refine XK.aA ?_
 refine XK.ret ?_
 refine XK.norm ?_
 exact XK.aK rfl rfl fun w1 st => ⟨rfl, st.below (by simp)⟩
end
section
attribute [local irreducible] KC KI KQ
def bU (l : List Bool) : List Value := l.map .bool
theorem aGX {l : List Bool} {i : Nat} {b : Bool} (h : l[i]? = some b) : (bU l)[i]? = some (.bool b) := by simp [bU, h]
def hasB (l : List Bool) (i : Nat) : Bool := l[i]?.getD false
def RP (p : Piece) (g o : Nat) (v : Value) : Prop := p.Z g ∧ p.w.cell? ⟨g, o, none⟩ = some v
theorem RP.le {p q : Piece} {g o : Nat} {v : Value} (h : RP p g o v) (hl : p.Le q) : RP q g o v := ⟨(hl g h.1).1, (World.cell?_of_block (w := p.w) (a := ⟨g, o, none⟩) (hl g h.1).2).trans h.2⟩
theorem RP.rd {w0 : World} {R : List Piece} {H : List HP} {p : Piece} {g o : Nat} {v : Value} (h : RP p g o v) (hp : p ∈ R) : Rd w0 R H g o v := Rd.ro hp h.1 h.2
theorem Iter.le {P : Program} {g : FuncId} {lb : List Value} {encs : List (List Value)} {p q : Piece} (h : Iter P g lb encs p) (hl : p.Le q) : Iter P g lb encs q := fun l J Jx W F hq hd => h l J Jx W F (fun b hb => ⟨(hq b (hl b hb).1).1, ((hq b (hl b hb).1).2).trans (hl b hb).2⟩) (fun b hb => hd b (hl b hb).1)
end
end Go.Proofs.YticjkhagldkejaaGreatDoor
