/- Iterators: their contract, a call of yield, a range over one. -/
import Derived.KernelRfl
import Derived.Laws.Cover3
import Derived.Test.YtcoifdhdhglioaaGreatProg
import Derived.Test.YtcoifdhdhglioaaGreatRpmErrsK1
namespace Go.Proofs.YtcoifdhdhglioaaGreat
set_option linter.all false
open Go.RowKit
section
def nt (W : World) (F : Nat → Prop) : Piece := ⟨W, fun b => b < W.heap.size ∧ ¬ F b⟩
structure Same (w w' : World) : Prop where
 os : w'.os = w.os
 tape : w'.tape = w.tape
 output : w'.output = w.output
 size : w.heap.size ≤ w'.heap.size
theorem Same.refl (w : World) : Same w w := ⟨rfl, rfl, rfl, Nat.le_refl _⟩
theorem Same.trans {a b c : World} (h : Same a b) (k : Same b c) : Same a c := ⟨k.os.trans h.os, k.tape.trans h.tape, k.output.trans h.output, Nat.le_trans h.size k.size⟩
theorem Turns.same {w w' : World} {F F' : Nat → Prop} (h : Turns w w' F F') : Same w w' := ⟨h.os, h.tape, h.output, h.size⟩
theorem Turns.refl {w : World} {F : Nat → Prop} (h : ∀ b, F b → b < w.heap.size) : Turns w w F F := ⟨rfl, rfl, rfl, Nat.le_refl _, fun b hb => ⟨.inl hb, h b hb⟩, fun _ _ _ => rfl⟩
theorem Turns.trans {a b c : World} {F G K : Nat → Prop} (h : Turns a b F G) (k : Turns b c G K) : Turns a c F K := by
 refine ⟨k.os.trans h.os, k.tape.trans h.tape, k.output.trans h.output, Nat.le_trans h.size k.size, fun x hx => ⟨?_, (k.new x hx).2⟩, fun x hx hn => ?_⟩
 ·rcases (k.new x hx).1 with h1 | h1
  ·exact (h.new x h1).1
  ·exact .inr (Nat.le_trans h.size h1)
 ·refine (k.old x (Nat.lt_of_lt_of_le hx h.size) (fun hg => ?_)).trans (h.old x hx hn)
  rcases (h.new x hg).1 with h1 | h1
  ·exact hn h1
  ·omega
structure Base (w0 W : World) (R : List Piece) (F : Nat → Prop) : Prop where
 same : Same w0 W
 ro : ∀ p ∈ R, ∀ b, p.Z b → b < W.heap.size ∧ ¬ F b ∧ W.heap[b]? = p.w.heap[b]?
section
variable {w0 w W W1 : World} {R : List Piece} {H : List HP} {F F1 : Nat → Prop}
theorem St.join (st : St w0 R H w) : ∃ F, (HP.many H).sat F w ∧ (∀ b, F b → b < w.heap.size) ∧ Base w0 w R F := by
 obtain ⟨Z, F, hz, hr, hs, hf, hd⟩ := st.ex
 refine ⟨fun b => ∃ i, F i b, ⟨F, hs, fun i b h => ⟨i, h⟩, fun i j b hij h => hd i j b hij h⟩, fun b ⟨i, h⟩ => (hf i b h).2, ⟨⟨st.os, st.tape, st.output, st.size⟩, fun p hp b hb => ⟨hz b (hr p hp b hb).1, fun ⟨i, h⟩ => (hf i b h).1 (hr p hp b hb).1, (hr p hp b hb).2⟩⟩⟩
theorem St.split (hb : Base w0 W R F) (ht : Turns W W1 F F1) (hs : (HP.many H).sat F1 W1) : St w0 R H W1 := by
 obtain ⟨G, h1, h2, h3⟩ := hs
 have h := hb.same.trans ht.same
 refine ⟨h.os, h.tape, h.output, h.size, fun b => ∃ p ∈ R, p.Z b, G, fun b ⟨p, hp, hz⟩ => Nat.lt_of_lt_of_le (hb.ro p hp b hz).1 ht.size, fun p hp b hz => ⟨⟨p, hp, hz⟩, ?_⟩, h1, fun i b hg => ⟨?_, (ht.new b (h2 i b hg)).2⟩, fun i j b hij hg => h3 i j b hij hg⟩
 ·obtain ⟨h4, h5, h6⟩ := hb.ro p hp b hz
  exact (ht.old b h4 h5).trans h6
 ·rintro ⟨p, hp, hz⟩
  obtain ⟨h4, h5, _⟩ := hb.ro p hp b hz
  rcases (ht.new b (h2 i b hg)).1 with h | h
  ·exact h5 h
  ·omega
theorem St.roundStart (hb : Base w0 W R F) (ht : Turns W W1 F F1) (hlt : ∀ b, F1 b → b < W1.heap.size) (hs : (HP.many H).sat F1 W1) : St W1 (R ++ [nt W1 F1]) H W1 := by
 obtain ⟨G, h1, h2, h3⟩ := hs
 refine ⟨rfl, rfl, rfl, Nat.le_refl _, fun b => b < W1.heap.size ∧ ¬ F1 b, G, fun b h => h.1, fun p hp b hz => ?_, h1, fun i b hg => ⟨fun h => h.2 (h2 i b hg), hlt b (h2 i b hg)⟩, fun i j b hij hg => h3 i j b hij hg⟩
 simp only [List.mem_append, List.mem_singleton] at hp
 rcases hp with hp | rfl
 ·obtain ⟨h4, h5, h6⟩ := hb.ro p hp b hz
  refine ⟨⟨Nat.lt_of_lt_of_le h4 ht.size, fun h => ?_⟩, (ht.old b h4 h5).trans h6⟩
  rcases (ht.new b h).1 with h | h
  ·exact h5 h
  ·omega
 ·exact ⟨hz, rfl⟩
theorem St.turnsMany (st : St w0 R H w) (hR : nt w0 F ∈ R) : ∃ F', (HP.many H).sat F' w ∧ (∀ b, F' b → b < w.heap.size) ∧ Turns w0 w F F' := by
 obtain ⟨F', h1, h2, hb⟩ := st.join
 refine ⟨F', h1, h2, st.os, st.tape, st.output, st.size, fun b h => ⟨?_, h2 b h⟩, fun b h hn => (hb.ro _ hR b ⟨h, hn⟩).2.2⟩
 rcases Nat.lt_or_ge b w0.heap.size with h3 | h3
 ·exact .inl (Classical.byContradiction fun hn => (hb.ro _ hR b ⟨h3, hn⟩).2.1 h)
 ·exact .inr h3
end
def HP.marks (L : List Nat) : HP := ⟨fun F w => L.Nodup ∧ ∀ D ∈ L, F D ∧ w.heap[D]? = some (.deferred (some [])), fun _ _ _ h hk => ⟨h.1, fun D hD => ⟨(h.2 D hD).1, (hk D (h.2 D hD).1).trans (h.2 D hD).2⟩⟩⟩
def HP.lp (l : Nat) (L : List Nat) (rc : Loop) : HP := ⟨fun F w => (F l ∧ w.heap[l]? = some (.loop rc)) ∧ (HP.marks L).sat F w, fun F w w' h hk => ⟨⟨h.1.1, (hk l h.1.1).trans h.1.2⟩, (HP.marks L).loc F w w' h.2 hk⟩⟩
theorem HP.lp_put {l : Nat} {L : List Nat} {rc rc' : Loop} {F : Nat → Prop} {w : World} (h : (HP.lp l L rc).sat F w) : (HP.lp l L rc').sat F (w.putObj l (.loop rc')) := by
 obtain ⟨⟨h1, h2⟩, h3, h4⟩ := h
 refine ⟨⟨h1, World.putObj_heap_same (Array.getElem?_eq_some_iff.1 h2).1⟩, h3, fun D hD => ⟨(h4 D hD).1, ?_⟩⟩
 refine (World.putObj_heap_other (fun e => ?_)).trans (h4 D hD).2
 subst e
 have := (h4 D hD).2
 rw [h2] at this
 cases this
section
variable {P : Program} {nn : Nat} {w0 w : World} {e : Env} {R : List Piece} {H : List HP} {Q : Exit → Act → World → Prop} {ops : Array Oper} {rest : List Oper} {r : Option Nat} {L : List Nat}
theorem last_get {Hs : List HP} {p : HP} : (Hs ++ [p])[Hs.length]? = some p := by simp
theorem last_set {Hs : List HP} {p q : HP} : (Hs ++ [p]).set Hs.length q = Hs ++ [q] := by simp
theorem St.loopPut {Hs : List HP} {l : Nat} {rc rc' : Loop} (st : St w0 R (Hs ++ [HP.lp l L rc]) w) : St w0 R (Hs ++ [HP.lp l L rc']) (w.putObj l (.loop rc')) := by
 have := st.turn (q := HP.lp l L rc') (w' := w.putObj l (.loop rc')) (i := Hs.length) last_get (by simp) rfl rfl rfl (fun F hF hlt => ⟨F, HP.lp_put hF, fun b hb => ⟨.inl hb, by simpa using hlt b hb⟩, fun b hb hn => World.putObj_heap_other (fun e => hn (e ▸ hF.1.1))⟩)
 rwa [last_set] at this
theorem St.loopRec {Hs : List HP} {l : Nat} {rc : Loop} (st : St w0 R (Hs ++ [HP.lp l L rc]) w) : w.heap[l]? = some (.loop rc) := (st.sat (i := Hs.length) last_get).choose_spec.1.2
theorem St.loopEnd {Hs : List HP} {l : Nat} {rc rc' : Loop} (st : St w0 R (Hs ++ [HP.lp l L rc]) w) : St w0 R (Hs ++ [HP.marks L]) (w.putObj l (.loop rc')) := by
 have := st.turn (q := HP.marks L) (w' := w.putObj l (.loop rc')) (i := Hs.length) last_get (by simp) rfl rfl rfl (fun F hF hlt => ⟨F, (HP.lp_put (rc' := rc') hF).2, fun b hb => ⟨.inl hb, by simpa using hlt b hb⟩, fun b hb hn => World.putObj_heap_other (fun e => hn (e ▸ hF.1.1))⟩)
 rwa [last_set] at this
theorem St.loopNew {Hs : List HP} {rc : Loop} (st : St w0 R (Hs ++ [HP.marks L]) w) : St w0 R (Hs ++ [HP.lp (w.heap.size + 1) (w.heap.size :: L) rc]) ((w.alloc (.deferred (some []))).alloc (.loop rc)) := by
 have hb : Below w.heap.size w ((w.alloc (.deferred (some []))).alloc (.loop rc)) := ((Below.refl _ w).alloc (Nat.le_refl _) _).alloc (by simp) _
 have hL1 : ((w.alloc (.deferred (some []))).alloc (.loop rc)).heap[w.heap.size + 1]? = some (.loop rc) := by
  have := World.alloc_heap_new (w.alloc (.deferred (some []))) (.loop rc)
  rwa [World.size_alloc] at this
 have hK1 : ((w.alloc (.deferred (some []))).alloc (.loop rc)).heap[w.heap.size]? = some (.deferred (some [])) :=
  (Below.heap_alloc _ _ _ (by simp)).trans (World.alloc_heap_new w _)
 have hsz : ((w.alloc (.deferred (some []))).alloc (.loop rc)).heap.size = w.heap.size + 1 + 1 := by simp
 have := st.turn (q := HP.lp (w.heap.size + 1) (w.heap.size :: L) rc) (i := Hs.length) last_get hb.size hb.os hb.tape hb.output (fun F hF hlt => by
  refine ⟨fun b => F b ∨ (w.heap.size ≤ b ∧ b < w.heap.size + 1 + 1), ⟨⟨.inr ⟨by omega, by omega⟩, hL1⟩, ?_, ?_⟩, fun b hb' => ?_, fun b hb' _ => hb.block b hb'⟩
  ·rw [List.nodup_cons]
   refine ⟨fun hm => ?_, hF.1⟩
   have := hlt _ (hF.2 _ hm).1
   omega
  ·intro D hD
   rcases List.mem_cons.1 hD with rfl | hD
   ·exact ⟨.inr ⟨by omega, by omega⟩, hK1⟩
   ·obtain ⟨h1, h2⟩ := hF.2 D hD
    exact ⟨.inl h1, (hb.block D (hlt D h1)).trans h2⟩
  ·rcases hb' with h | h
   ·exact ⟨.inl h, by have := hlt b h; omega⟩
   ·exact ⟨.inr h.1, by omega⟩)
 rwa [last_set] at this
def YPost (W1 : World) (F1 : Nat → Prop) (q q' : HP) : Ending → World → Prop := fun y W' => (y = .returned (.bool true) ∧ ∃ F', q.sat F' W' ∧ Turns W1 W' F1 F') ∨ (y = .returned (.bool false) ∧ ∃ F', q'.sat F' W' ∧ Turns W1 W' F1 F')
theorem Turns.st {W' : World} {F' : Nat → Prop} {q : HP} {Z : Nat → Prop} {F : Nat → Nat → Prop} {i : Nat} (hos : w.os = w0.os ∧ w.tape = w0.tape ∧ w.output = w0.output ∧ w0.heap.size ≤ w.heap.size) (hz : ∀ b, Z b → b < w.heap.size)
  (hrr : ∀ p ∈ R, ∀ b, p.Z b → Z b ∧ w.heap[b]? = p.w.heap[b]?) (hs : ∀ (i : Nat) (p : HP), H[i]? = some p → p.sat (F i) w) (hff : ∀ i b, F i b → ¬ Z b ∧ b < w.heap.size) (hdd : ∀ i j b, i ≠ j → F i b → ¬ F j b)
  (hlt : i < H.length) (hq' : q.sat F' W') (ht : Turns w W' (F i) F') : St w0 R (H.set i q) W' := by
 refine ⟨ht.os.trans hos.1, ht.tape.trans hos.2.1, ht.output.trans hos.2.2.1, Nat.le_trans hos.2.2.2 ht.size, Z, fun j => if j = i then F' else F j, fun b h => Nat.lt_of_lt_of_le (hz b h) ht.size, fun p hp b h => ?_, fun j r hj => ?_, fun j b h => ?_, fun j k b hjk h => ?_⟩
 ·exact ⟨(hrr p hp b h).1, (ht.old b (hz b (hrr p hp b h).1) (fun hfb => (hff i b hfb).1 (hrr p hp b h).1)).trans (hrr p hp b h).2⟩
 ·rw [List.getElem?_set] at hj
  split at hj
  ·rename_i e; subst e
   first | (rw [if_pos hlt] at hj; cases hj) | cases hj
   simpa using hq'
  ·rename_i e
   simp only [if_neg (Ne.symm e)]
   exact r.loc _ _ _ (hs j r hj) (fun b hb => ht.old b (hff j b hb).2 (hdd j i b (Ne.symm e) hb))
 ·dsimp only at h
  split at h
  ·refine ⟨fun hzb => ?_, (ht.new b h).2⟩
   rcases (ht.new b h).1 with h | h
   ·exact (hff i b h).1 hzb
   ·have := hz b hzb; omega
  ·exact ⟨(hff j b h).1, Nat.lt_of_lt_of_le (hff j b h).2 ht.size⟩
 ·dsimp only at h ⊢
  split at h <;> split
  ·rename_i h1 h2; omega
  ·rename_i e1 e2
   intro hk
   rcases (ht.new b h).1 with h | h
   ·exact hdd i k b (by omega) h hk
   ·have := (hff k b hk).2; omega
  ·rename_i e1 e2
   intro hk
   rcases (ht.new b hk).1 with hk | hk
   ·exact hdd j i b (by omega) h hk
   ·have := (hff j b h).2; omega
  ·exact hdd j k b hjk h
theorem XI.yield (i : Nat) {W0 : World} {F0 : Nat → Prop} {d l : Nat} {ty : TypeId} {pos : String} {aft : Array Edge} {x : Operand} {args : List Operand} {vs : List Value} {tys : Array TypeId} {p q q' : HP}
  (hx : e.ev x = some (.func (.yield l) #[] #[])) (ha : e.evs args = some vs) (hd : d < nn) (hnt : nt W0 F0 ∈ R) (hsm : Same W0 w0) (hi : H[i]? = some p)
  (hy : ∀ W1 F1, p.sat F1 W1 → (∀ b, F1 b → b < W1.heap.size) → Turns W0 W1 F0 F1 → YieldAt Fence.wide 9 P l vs.toArray W1 (YPost W1 F1 q q'))
  (k1 : XK ⟨nn, []⟩ w0 (KI r L P ops Q rest) ((d, .bool true) :: e) R (H.set i q)) (k2 : XK ⟨nn, []⟩ w0 (KI r L P ops Q rest) ((d, .bool false) :: e) R (H.set i q')) :
  XK ⟨nn, []⟩ w0 (KI r L P ops Q (⟨some d, .call { callee := .value x, args := args.toArray, argTypes := tys }, ty, pos, aft, none⟩ :: rest)) e R H := fun a w hr st => by
 obtain ⟨Z, F, hz, hrr, hs, hff, hdd⟩ := st.ex
 have hlt : i < H.length := by
  rcases Nat.lt_or_ge i H.length with h | h
  ·exact h
  ·rw [List.getElem?_eq_none h] at hi; cases hi
 have hsw : Same W0 w := hsm.trans ⟨st.os, st.tape, st.output, st.size⟩
 obtain ⟨fn, tmps, assign, body, hrun, hround⟩ := hy w (F i) (hs i p hi) (fun b hb => (hff i b hb).2) ⟨hsw.os, hsw.tape, hsw.output, hsw.size, fun b hb => ⟨by
  rcases Nat.lt_or_ge b W0.heap.size with h | h
  ·exact .inl (Classical.byContradiction fun hn => (hff i b hb).1 (hrr _ hnt b ⟨h, hn⟩).1)
  ·exact .inr h, (hff i b hb).2⟩, fun b hb hn => (hrr _ hnt b ⟨hb, hn⟩).2⟩
 refine wpListIn_plain rfl fun K hK => ?_
 refine ⟨fun _ _ => trivial, ?_⟩
 rw [semAt_r r _ rfl, mk_eval]
 have hex : (execOp a.eval (⟨some d, .call { callee := .value x, args := args.toArray, argTypes := tys }, ty, pos, aft, none⟩ : Oper)).run P w = .ok (.round l fn tmps assign body) w := by
  simp [execOp, resolve, hr.ev hx, Deferred.ofValue, invoke, hr.evs ha, hrun]
 rw [hex]
 refine ⟨fun _ => by omega, ?_⟩
 have hround2 : RoundIn (Fr r) 8 P l fn tmps assign body w (YPost w (F i) q q') := ⟨hround.1, fun c cs _ => hround.2 c cs (room_wide _)⟩
 refine hround2.mono ?_
 rintro y W' (⟨rfl, F', hq, ht⟩ | ⟨rfl, F', hq, ht⟩)
 ·refine hK _ _ ?_
  rw [mk_put]
  exact k1 _ _ (hr.put hd _) (Turns.st ⟨st.os, st.tape, st.output, st.size⟩ hz hrr hs hff hdd hlt hq ht)
 ·refine hK _ _ ?_
  rw [mk_put]
  exact k2 _ _ (hr.put hd _) (Turns.st ⟨st.os, st.tape, st.output, st.size⟩ hz hrr hs hff hdd hlt hq ht)
def Iter (P : Program) (g : FuncId) (lb : List Value) (encs : List (List Value)) (p : Piece) : Prop :=
 ∀ (l : Nat) (J Jx : Nat → HP) (W : World) (F : Nat → Prop), p.Le (all W) → (∀ b, p.Z b → ¬ F b) → (J 0).sat F W → (∀ b, F b → b < W.heap.size) →
  (∀ (k : Nat) (vs : List Value) (W1 : World) (F1 : Nat → Prop), encs[k]? = some vs → (J k).sat F1 W1 → (∀ b, F1 b → b < W1.heap.size) → Turns W W1 F F1 → YieldAt Fence.wide 9 P l vs.toArray W1 (YPost W1 F1 (J (k + 1)) (Jx (k + 1)))) →
  Calls P g (Value.func (.yield l) #[] #[] :: lb).toArray W fun y W' => (∃ v, y = .returned v) ∧ ∃ F', Turns W W' F F' ∧ ((J encs.length).sat F' W' ∨ ∃ k, k < encs.length ∧ (Jx (k + 1)).sat F' W')
def bindE : List Nat → List Value → Env → Env
 | p :: ps, v :: vs, e => bindE ps vs ((p, v) :: e)
 | _, _, e => e
theorem Rep.bind : ∀ {ps : List Nat} {vs : List Value} {e : Env} {a : Act}, Rep ⟨nn, []⟩ e a → (∀ p ∈ ps, p < nn) → Rep ⟨nn, []⟩ (bindE ps vs e) { tmps := (ps.zip vs).foldl (fun t (p, v) => t.setIfInBounds p v) a.tmps, defers := a.defers }
 | [], vs, e, a, h, _ => h
 | p :: ps, [], e, a, h, _ => h
 | p :: ps, v :: vs, e, a, h, hp => Rep.bind (a := a.put (some p) v) (h.put (hp p (by simp)) v) (fun q hq => hp q (by simp [hq]))
theorem XC.range {gf : FuncId} {lb : List Value} {encs : List (List Value)} {p : Piece} {g : Operand} {ps : List Nat} {assign body : Code} (hg : e.ev g = some (.func (.func gf) #[] lb.toArray)) (hf : callB P gf = true) (hit : Iter P gf lb encs p) (hp : p ∈ R)
  (hps : ∀ vs ∈ encs, vs.length = ps.length) (hpN : ∀ q ∈ ps, q < nn) (Hs Hx : Nat → List HP) (Mid : Nat → List Value → Env → List HP → Prop) (h0 : H = Hs 0 ++ [HP.marks L])
  (hassign : ∀ (l k : Nat) (vs : List Value) (W1 : World) (q : Piece) (X : HP), encs[k]? = some vs → Same w0 W1 → XK ⟨nn, []⟩ W1 (KC (some l) [] P assign (Fx fun a w => ∃ e1 H1, Mid k vs e1 H1 ∧ Rep ⟨nn, []⟩ e1 a ∧ St W1 (R ++ [q]) (H1 ++ [X]) w)) (bindE ps vs e) (R ++ [q]) (Hs k ++ [X]))
  (hbody : ∀ (l k : Nat) (vs : List Value) (W1 : World) (q : Piece) (X : HP) (e1 : Env) (H1 : List HP), encs[k]? = some vs → Same w0 W1 → Mid k vs e1 H1 →
   XK ⟨nn, []⟩ W1 (KC (some l) [] P body (fun x _ w => (x = .normal ∧ St W1 (R ++ [q]) (Hs (k + 1) ++ [X]) w) ∨ (x = .ret ∧ St W1 (R ++ [q]) (Hx (k + 1) ++ [X]) w))) e1 (R ++ [q]) (H1 ++ [X]))
  (hdone : ∀ D, XK ⟨nn, []⟩ w0 (KQ (D :: L) Q .normal) e R (Hs encs.length ++ [HP.marks (D :: L)])) (hret : ∀ D k, k < encs.length → XK ⟨nn, []⟩ w0 (KC none (D :: L) P .ret Q) e R (Hx (k + 1) ++ [HP.marks (D :: L)])) :
  XK ⟨nn, []⟩ w0 (KC none L P (Code.rangeFunc g ps.toArray assign body) Q) e R H := fun a w hr st => by
 subst h0
 unfold callB at hf
 cases hq : P.funcs[gf]? with
 | none => simp [hq] at hf
 | some fnn =>
 simp [hq] at hf
 obtain ⟨hf1, hf2⟩ := hf
 have eg : ∀ args w, (callFunc gf args).run P w = .ok (.enter gf args) w := fun args w => by
  cases hb : fnn.body with
  | none => simp [hb] at hf2
  | some c => simp [callFunc, hq, hf1, hb]
 refine wpIn_rangeFunc (F := Fence.wide) fun fn hfn => ?_
 let rec' : LoopState → Option Code → Loop := fun s pe => { state := s, pending := pe, fn, tmps := a.tmps, params := ps.toArray, assign, body, defers := w.heap.size }
 have st1 : St w0 R (Hs 0 ++ [HP.lp (w.heap.size + 1) (w.heap.size :: L) (rec' .ready none)]) ((w.alloc (.deferred (some []))).alloc (.loop (rec' .ready none))) := st.loopNew
 obtain ⟨W1, hW1⟩ : ∃ W1, (w.alloc (.deferred (some []))).alloc (.loop (rec' .ready none)) = W1 := ⟨_, rfl⟩
 rw [hW1] at st1
 obtain ⟨F, hsat, hlt, hbase⟩ := st1.join
 refine ⟨w.heap.size + 1, [markD w.heap.size], W1, { target := .fn (.func gf) lb.toArray, args := #[.func (.yield (w.heap.size + 1)) #[] #[]] }, W1, gf, #[.func (.yield (w.heap.size + 1)) #[] #[]] ++ lb.toArray, W1,
  by rw [← hW1]; exact run_enterLoop_outer _ _ _ _ _, ?_, fun _ _ => trivial, by simp [invoke, go_sem, eg], fun h => by simp [Fence.wide] at h, ?_⟩
 ·have := hr.ev hg
  rw [mk_eval]
  simp only [resolve, this]
  simp [go_sem]
 refine callsIn_wide.2 ?_
 have hcall := hit (w.heap.size + 1) (fun k => HP.many (Hs k ++ [HP.lp (w.heap.size + 1) (w.heap.size :: L) (rec' .ready none)])) (fun k => HP.many (Hx k ++ [HP.lp (w.heap.size + 1) (w.heap.size :: L) (rec' .done (some .ret))])) W1 F
  (fun b hb => ⟨(hbase.ro p hp b hb).1, (hbase.ro p hp b hb).2.2⟩) (fun b hb => (hbase.ro p hp b hb).2.1) hsat hlt ?_
 ·rw [show (#[Value.func (.yield (w.heap.size + 1)) #[] #[]] ++ lb.toArray) = (Value.func (.yield (w.heap.size + 1)) #[] #[] :: lb).toArray by simp]
  refine hcall.mono ?_
  rintro y W2 ⟨⟨v, rfl⟩, F2, ht, h | ⟨k, hk, h⟩⟩
  ·have st2 := St.split hbase ht h
   refine ⟨none, _, run_endLoop st2.loopRec (by simp [rec']), ?_⟩
   have := hdone w.heap.size a _ hr (st2.loopEnd (rc' := { rec' .ready none with state := .exhausted }))
   unfold KQ mk at this
   rw [hr.defers] at this
   unfold mk
   rw [hr.defers]
   exact this
  ·have st2 := St.split hbase ht h
   refine ⟨some .ret, _, run_endLoop st2.loopRec (by simp [rec']), ?_⟩
   have := hret w.heap.size k hk a _ hr (st2.loopEnd (rc' := { rec' .done (some .ret) with state := .exhausted }))
   unfold KC mk at this
   rw [hr.defers] at this
   unfold mk
   rw [hr.defers]
   exact this
 ·intro k vs W2 F2 hvs hs2 hlt2 ht2
  have st2 := St.split hbase ht2 hs2
  have hl2 := st2.loopRec
  have hvl := hps vs (List.mem_of_getElem? hvs)
  refine ⟨fn, _, assign, body, run_yield hl2 (by simp [rec', hvl]), roundIn_of_wpIn (F := Fence.wide) hfn ?_⟩
  have stR := St.roundStart hbase ht2 hlt2 hs2
  have hsame : Same w0 W2 := hbase.same.trans ht2.same
  have hrep : Rep ⟨nn, []⟩ (bindE ps vs e) { tmps := (ps.zip vs).foldl (fun t (p, v) => t.setIfInBounds p v) a.tmps, defers := a.defers } := Rep.bind hr hpN
  rw [hr.defers] at hrep
  have h1 := hassign (w.heap.size + 1) k vs W2 (nt W2 F2) _ hvs hsame _ _ hrep stR
  unfold KC at h1
  rw [mk_nil] at h1
  simp only [rec', List.zip_toArray, List.foldl_toArray', List.size_toArray]
  refine wpIn_mono h1 ?_
  rintro x a1 W3 hx
  cases x with
  | normal =>
   obtain ⟨e1, H1, hmid, hr1, st3⟩ := hx
   refine ⟨_, run_beginRound st3.loopRec rfl, ?_⟩
   have st4 := st3.loopPut (rc' := rec' .busy none)
   have h2 := hbody (w.heap.size + 1) k vs W2 (nt W2 F2) _ e1 H1 hvs hsame hmid a1 _ hr1 st4
   unfold KC at h2
   rw [mk_nil] at h2
   refine wpIn_mono h2 ?_
   rintro x a4 W4 (⟨rfl, st5⟩ | ⟨rfl, st5⟩)
   ·refine ⟨_, _, run_endRound none st5.loopRec, .inl ⟨rfl, ?_⟩⟩
    obtain ⟨F', h3, _, h4⟩ := St.turnsMany (st5.loopPut (rc' := rec' .ready none)) (by simp : nt W2 F2 ∈ R ++ [nt W2 F2])
    exact ⟨F', h3, h4⟩
   ·refine ⟨_, _, run_endRound (some .ret) st5.loopRec, .inr ⟨rfl, ?_⟩⟩
    obtain ⟨F', h3, _, h4⟩ := St.turnsMany (st5.loopPut (rc' := rec' .done (some .ret))) (by simp : nt W2 F2 ∈ R ++ [nt W2 F2])
    exact ⟨F', h3, h4⟩
  | _ => exact hx.elim
theorem XC.enter {f : FuncId} {fn : Func} {c : Code} {vs : List Value} {w : World} {Post : Ending → World → Prop} (hf : P.funcs[f]? = some fn) (hb : fn.body = some c) (hN : fn.ntmps = nn) (hl : vs.length ≤ nn) {R : List Piece} {H : List HP} (st : St w R H w)
  (h : XK ⟨nn, []⟩ w (KC none [] P c (bodyPostM Fence.wide 9 P fn Post)) (argEnv 0 vs) R (H ++ [HP.marks []])) : Calls P f vs.toArray w Post := by
 refine (callsIn_wide (n := 9)).1 (callsIn_of_wp_marks hf hb trivial ?_ rfl)
 have := h { tmps := vs.toArray ++ Array.replicate (fn.ntmps - vs.toArray.size) undef, defers := [] } w ⟨?_, rfl, fun t v hv => ?_⟩ ?_
 ·unfold KC at this
  rw [mk_nil] at this
  exact this
 ·simp; omega
 ·obtain ⟨_, h2⟩ := argEnv_get vs 0 t v hv
  rw [Nat.sub_zero] at h2
  have hlt : t < vs.length := by
   rcases Nat.lt_or_ge t vs.length with h | h
   ·exact h
   ·rw [List.getElem?_eq_none h] at h2; cases h2
  rw [Array.getElem?_append_left (by simpa using hlt)]
  simpa using h2
 ·obtain ⟨Z, F, hz, hr, hs, hf, hd⟩ := st.ex
  refine ⟨st.os, st.tape, st.output, st.size, Z, fun i b => i < H.length ∧ F i b, hz, hr, fun i p hi => ?_, fun i b h => hf i b h.2, fun i j b hij h k => hd i j b hij h.2 k.2⟩
  rcases Nat.lt_or_ge i H.length with h | h
  ·rw [List.getElem?_append_left h] at hi
   have := hs i p hi
   show p.sat (fun b => i < H.length ∧ F i b) w
   rwa [show (fun b => i < H.length ∧ F i b) = F i by funext b; simp [h]]
  ·rw [List.getElem?_append_right h] at hi
   have : i - H.length = 0 := by
    rcases Nat.eq_zero_or_pos (i - H.length) with h | h
    ·exact h
    ·rw [List.getElem?_eq_none (by simp; omega)] at hi; cases hi
   rw [this] at hi
   simp at hi
   subst hi
   exact ⟨List.nodup_nil, fun D hD => by cases hD⟩
theorem leaves_marks {fn : Func} {tmps : Array Value} {Post : Ending → World → Prop} {v : Value} : ∀ (L : List Nat) (Hs : List HP) (w : World), St w0 R (Hs ++ [HP.marks L]) w → (∀ w, St w0 R Hs w → (results fn tmps).run P w = .ok v w ∧ Post (.returned v) w) →
  LeavesInM Fence.wide 9 P fn tmps Post (L.map markD) .returning w
 | [], Hs, w, st, h => ⟨v, h w (st.weak (fun _ hp => hp) id (fun _ _ _ _ h => h) (fun i p hi => by
   have : i < Hs.length := by
    rcases Nat.lt_or_ge i Hs.length with h | h
    ·exact h
    ·rw [List.getElem?_eq_none h] at hi; cases hi
   show (Hs ++ [HP.marks []])[i]? = some p
   rw [List.getElem?_append_left this]; exact hi))⟩
 | D :: L, Hs, w, st, h => by
  obtain ⟨F, hF⟩ := st.sat (i := Hs.length) last_get
  have hD := (hF.2 D (by simp)).2
  refine ⟨by simp, .inl ⟨D, _, rfl, run_takeDeferred hD, leaves_marks L Hs _ ?_ h⟩⟩
  have := st.turn (q := HP.marks L) (w' := w.putObj D (.deferred none)) (i := Hs.length) last_get (by simp) rfl rfl rfl (fun F hF hlt => ⟨F, ⟨(List.nodup_cons.1 hF.1).2, fun D' hD' => ⟨(hF.2 D' (by simp [hD'])).1, (World.putObj_heap_other (fun e : D' = D => (List.nodup_cons.1 hF.1).1 (e ▸ hD'))).trans (hF.2 D' (by simp [hD'])).2⟩⟩, fun b hb => ⟨.inl hb, by simpa using hlt b hb⟩, fun b hb hn => World.putObj_heap_other (fun e => hn (e ▸ (hF.2 D (by simp)).1))⟩)
  rwa [last_set] at this
theorem XC.ret0 {fn : Func} {Post : Ending → World → Prop} {x : Exit} {Hs : List HP} (hx : x = .ret ∨ x = .normal) (hr : fn.results = #[]) (h : ∀ w, St w0 R Hs w → Post (.returned (.tuple #[])) w) : XK ⟨nn, []⟩ w0 (KQ L (bodyPostM Fence.wide 9 P fn Post) x) e R (Hs ++ [HP.marks L]) := fun a w hrp st => by
 have := leaves_marks (P := P) (fn := fn) (tmps := a.tmps) (v := .tuple #[]) L Hs w st (fun w st => ⟨results_none hr _ _ _, h w st⟩)
 rcases hx with rfl | rfl
 ·unfold KQ mk; rw [hrp.defers]; exact this
 ·unfold KQ mk; rw [hrp.defers]; exact this
theorem XC.ret1 {fn : Func} {Post : Ending → World → Prop} {Hs : List HP} {t : Nat} {v : Value} (hr : fn.results = #[.tmp t]) (ht : e.get t = some v) (h : ∀ w, St w0 R Hs w → Post (.returned v) w) : XK ⟨nn, []⟩ w0 (KQ L (bodyPostM Fence.wide 9 P fn Post) .ret) e R (Hs ++ [HP.marks L]) := fun a w hrp st => by
 have := leaves_marks (P := P) (fn := fn) (tmps := a.tmps) (v := v) L Hs w st (fun w st => ⟨by rw [results_tmp hr, Array.getD_eq_getD_getElem?, hrp.get t v ht]; rfl, h w st⟩)
 unfold KQ mk; rw [hrp.defers]; exact this
theorem XC.fin {x : Exit} (h : ∀ a w, Rep ⟨nn, []⟩ e a → St w0 R H w → Q x (mk L a) w) : XK ⟨nn, []⟩ w0 (KQ L Q x) e R H := h
theorem XC.mid {K : Act → World → Prop} (h : XK ⟨nn, []⟩ w0 (fun a w => K (mk L a) w) e R H) : XK ⟨nn, []⟩ w0 (KQ L (Fx K) .normal) e R H := h
theorem XI.start {K : Act → World → Prop} (h : XK ⟨nn, []⟩ w0 K e R H) : XK ⟨nn, []⟩ w0 (Fx K .normal) e R H := h
end
end
section
def badG (g : List (List Int)) : Bool := g.any fun l => l.any fun u => decide (u < 0) || decide ((g.length : Int) ≤ u)
def numbersG (g : List (List Int)) : Int := if 100 < g.length then 1 else if badG g then 4 else 0
def hstep (v : Nat) (s : List Int × List (List Int) × List Int) (u : Int) : List Int × List (List Int) × List Int :=
 if s.2.2.contains u then s else (s.1.set v (s.1[v]?.getD 0 + 1), s.2.1.set u.toNat (s.2.1[u.toNat]?.getD [] ++ [(v : Int)]), s.2.2 ++ [u])
def hrow (v : Nat) (s : List Int × List (List Int)) (l : List Int) : List Int × List (List Int) × List Int := l.foldl (hstep v) (s.1, s.2, [])
def hangTo (g : List (List Int)) : Nat → List Int × List (List Int)
 | 0 => (List.replicate g.length 0, List.replicate g.length [])
 | k + 1 => let r := hrow k (hangTo g k) (g[k]?.getD []); (r.1, r.2.1)
def nextG (g : List (List Int)) (M : List Nat) : Option Nat := (List.range g.length).find? fun v => !(M.contains v) && (g[v]?.getD []).all fun u => M.contains u.toNat
def orderG (g : List (List Int)) : Nat → List Nat → Option (List Nat)
 | 0, M => some M
 | k + 1, M => match nextG g M with
  | none => none
  | some v => orderG g k (M ++ [v])
def dset (l : List Int) : List Int := l.foldl (fun a u => if a.contains u then a else a ++ [u]) []
theorem badG_of {g : List (List Int)} {k j : Nat} {l : List Int} {u : Int} (hk : g[k]? = some l) (hj : l[j]? = some u) (hu : u < 0 ∨ (g.length : Int) ≤ u) : badG g = true := by
 unfold badG
 simp only [List.any_eq_true, Bool.or_eq_true, decide_eq_true_eq]
 exact ⟨l, List.mem_of_getElem? hk, u, List.mem_of_getElem? hj, hu⟩
theorem badG_no {g : List (List Int)} (h : ∀ (k : Nat) (l : List Int), g[k]? = some l → ∀ (j : Nat) (u : Int), l[j]? = some u → 0 ≤ u ∧ u < g.length) : badG g = false := by
 cases hb : badG g with
 | false => rfl
 | true =>
  unfold badG at hb
  simp only [List.any_eq_true, Bool.or_eq_true, decide_eq_true_eq] at hb
  obtain ⟨l, hl, u, hu, hbad⟩ := hb
  obtain ⟨k, hk⟩ := List.getElem?_of_mem hl
  obtain ⟨j, hj⟩ := List.getElem?_of_mem hu
  have := h k l hk j u hj
  omega
def InG (g : List (List Int)) : Prop := ∀ l ∈ g, ∀ u ∈ l, 0 ≤ u ∧ u < g.length
theorem InG.of {g : List (List Int)} (h : badG g = false) : InG g := by
 intro l hl u hu
 by_cases h0 : u < 0 ∨ (g.length : Int) ≤ u
 ·have hb : badG g = true := by
   unfold badG
   simp only [List.any_eq_true, Bool.or_eq_true, decide_eq_true_eq]
   exact ⟨l, hl, u, hu, h0⟩
  rw [h] at hb
  cases hb
 ·omega
theorem hstep_len (v : Nat) (s : List Int × List (List Int) × List Int) (u : Int) : (hstep v s u).1.length = s.1.length ∧ (hstep v s u).2.1.length = s.2.1.length := by
 unfold hstep; split <;> simp
theorem hrow_len (v : Nat) : ∀ (l : List Int) (s : List Int × List (List Int) × List Int), (l.foldl (hstep v) s).1.length = s.1.length ∧ (l.foldl (hstep v) s).2.1.length = s.2.1.length
 | [], s => ⟨rfl, rfl⟩
 | u :: l, s => by rw [List.foldl_cons]; have h1 := hrow_len v l (hstep v s u); have h2 := hstep_len v s u; exact ⟨h1.1.trans h2.1, h1.2.trans h2.2⟩
theorem hangTo_len (g : List (List Int)) : ∀ k, (hangTo g k).1.length = g.length ∧ (hangTo g k).2.length = g.length
 | 0 => by simp [hangTo]
 | k + 1 => by
  have h := hangTo_len g k
  have h1 := hrow_len k (g[k]?.getD []) ((hangTo g k).1, (hangTo g k).2, [])
  exact ⟨h1.1.trans h.1, h1.2.trans h.2⟩
theorem hstep_met (v : Nat) (s : List Int × List (List Int) × List Int) (u : Int) : (hstep v s u).2.2 = if s.2.2.contains u then s.2.2 else s.2.2 ++ [u] := by unfold hstep; split <;> rfl
theorem hrow_met (v : Nat) : ∀ (l : List Int) (s : List Int × List (List Int) × List Int), (l.foldl (hstep v) s).2.2 = l.foldl (fun a u => if a.contains u then a else a ++ [u]) s.2.2
 | [], s => rfl
 | u :: l, s => by rw [List.foldl_cons, List.foldl_cons, hrow_met v l, hstep_met]
theorem hrow_own (v : Nat) : ∀ (l : List Int) (s : List Int × List (List Int) × List Int), v < s.1.length → s.1[v]? = some (s.2.2.length : Int) → (l.foldl (hstep v) s).1[v]? = some ((l.foldl (hstep v) s).2.2.length : Int)
 | [], s, _, h => h
 | u :: l, s, hv, h => by
  rw [List.foldl_cons]
  refine hrow_own v l _ (by rw [(hstep_len v s u).1]; exact hv) ?_
  unfold hstep
  split
  ·exact h
  ·simp only [h, Option.getD_some]
   rw [List.getElem?_set_self hv]
   simp
theorem hrow_other (v : Nat) : ∀ (l : List Int) (s : List Int × List (List Int) × List Int) (x : Nat), x ≠ v → (l.foldl (hstep v) s).1[x]? = s.1[x]?
 | [], s, x, _ => rfl
 | u :: l, s, x, hx => by
  rw [List.foldl_cons, hrow_other v l _ x hx]
  unfold hstep
  split
  ·rfl
  ·exact List.getElem?_set_ne (Ne.symm hx)
theorem hrow_users (v : Nat) : ∀ (l : List Int) (s : List Int × List (List Int) × List Int) (x : Nat), (∀ u ∈ l, 0 ≤ u ∧ u < s.2.1.length) → x < s.2.1.length →
  (l.foldl (hstep v) s).2.1[x]? = some (s.2.1[x]?.getD [] ++ if (x : Int) ∈ l ∧ (x : Int) ∉ s.2.2 then [(v : Int)] else [])
 | [], s, x, _, hx => by simp [List.getElem?_eq_getElem hx]
 | u :: l, s, x, hl, hx => by
  have hu := hl u (by simp)
  have hlen := (hstep_len v s u).2
  rw [List.foldl_cons, hrow_users v l (hstep v s u) x (fun y hy => by rw [hlen]; exact hl y (by simp [hy])) (by rw [hlen]; exact hx)]
  unfold hstep
  by_cases hc : s.2.2.contains u = true
  ·have hc' : u ∈ s.2.2 := by simpa using hc
   simp only [hc, if_true, List.mem_cons]
   congr 2
   by_cases hxu : (x : Int) = u
   ·rw [hxu]; simp [hc']
   ·simp [hxu]
  ·have hc' : u ∉ s.2.2 := by simpa using hc
   simp only [hc, Bool.false_eq_true, if_false, List.mem_cons, List.mem_append, List.mem_singleton, List.not_mem_nil, or_false]
   by_cases hxu : (x : Int) = u
   ·subst hxu
    have e : ((x : Int)).toNat = x := by simp
    rw [e, List.getElem?_set_self hx]
    simp [hc']
   ·have hne : u.toNat ≠ x := by omega
    rw [List.getElem?_set_ne hne]
    simp [hxu]
theorem hangTo_spec {g : List (List Int)} (hg : InG g) : ∀ k, k ≤ g.length → (∀ v, v < g.length → (hangTo g k).1[v]? = some (if v < k then ((dset (g[v]?.getD [])).length : Int) else 0)) ∧
  ∀ u, u < g.length → (hangTo g k).2[u]? = some (((List.range k).filter fun v => (g[v]?.getD []).contains (u : Int)).map Int.ofNat)
 | 0, _ => by
  refine ⟨fun v hv => ?_, fun u hu => ?_⟩
  ·simp [hangTo, hv]
  ·simp [hangTo, hu]
 | k + 1, hk => by
  obtain ⟨h1, h2⟩ := hangTo_spec hg k (by omega)
  have hl := hangTo_len g k
  have hin : ∀ u ∈ g[k]?.getD [], 0 ≤ u ∧ u < (hangTo g k).2.length := fun u hu => by
   rw [hl.2]
   have : g[k]? = some (g[k]'(by omega)) := List.getElem?_eq_getElem _
   rw [this] at hu
   exact hg _ (List.getElem_mem _) u hu
  refine ⟨fun v hv => ?_, fun u hu => ?_⟩
  ·show (((g[k]?.getD []).foldl (hstep k) ((hangTo g k).1, (hangTo g k).2, [])).1)[v]? = _
   by_cases hvk : v = k
   ·subst hvk
    have := hrow_own v (g[v]?.getD []) ((hangTo g v).1, (hangTo g v).2, []) (by rw [hl.1]; exact hv) (by rw [h1 v hv]; simp)
    rw [this, hrow_met]
    simp [dset]
   ·rw [hrow_other k _ _ v hvk, h1 v hv]
    congr 1
    by_cases h : v < k
    ·rw [if_pos h, if_pos (by omega)]
    ·rw [if_neg h, if_neg (by omega)]
  ·show (((g[k]?.getD []).foldl (hstep k) ((hangTo g k).1, (hangTo g k).2, [])).2.1)[u]? = _
   rw [hrow_users k _ _ u hin (by rw [hl.2]; exact hu), h2 u hu, List.range_succ, List.filter_append, List.map_append]
   simp only [Option.getD_some, List.not_mem_nil, not_false_eq_true, and_true]
   congr 2
   by_cases h : (u : Int) ∈ g[k]?.getD []
   ·simp [h]
   ·simp [h]
theorem hangTo_users_le {g : List (List Int)} (hg : InG g) {k u : Nat} (hk : k ≤ g.length) {l : List Int} (hu : (hangTo g k).2[u]? = some l) : l.length ≤ k := by
 have hlt : u < g.length := by
  rw [← (hangTo_len g k).2]
  rcases Nat.lt_or_ge u (hangTo g k).2.length with h | h
  ·exact h
  ·rw [List.getElem?_eq_none h] at hu; cases hu
 rw [(hangTo_spec hg k hk).2 u hlt] at hu
 cases hu
 rw [List.length_map]
 have := List.length_filter_le (fun v => (g[v]?.getD []).contains (u : Int)) (List.range k)
 simpa using this
end
section
set_option maxHeartbeats 4000000
set_option maxRecDepth 20000
def setL (ks : List Int) : List (Int × Value) := ks.map fun k => (k, .agg #[])
theorem mget_setL : ∀ (ks : List Int) (k : Int), mget (setL ks) k = if ks.contains k then some (.agg #[]) else none
 | [], k => by simp [setL, mget]
 | a :: ks, k => by
  rw [setL, List.map_cons, mget_cons]
  have := mget_setL ks k
  rw [setL] at this
  rw [this]
  by_cases h : a = k
  ·subst h; simp
  ·simp [h, Ne.symm h]
theorem mset_setL : ∀ (ks : List Int) (k : Int), mset (setL ks) k (.agg #[]) = setL (if ks.contains k then ks else ks ++ [k])
 | [], k => by simp [setL, mset]
 | a :: ks, k => by
  have ih := mset_setL ks k
  rw [setL, List.map_cons, mset]
  rw [setL] at ih
  by_cases h : a = k
  ·subst h; simp [setL]
  ·rw [if_neg h, ih]
   have hk : ¬ k = a := fun e => h e.symm
   by_cases hc : ks.contains k = true
   ·have : (a :: ks).contains k = true := by simp at hc ⊢; exact .inr hc
    rw [if_pos hc, if_pos this]; rfl
   ·have hm : k ∉ ks := by simpa using hc
    have : ¬ (a :: ks).contains k = true := by simp [hk, hm]
    rw [if_neg hc, if_neg this]; rfl
theorem all_snoc {p : Nat → Prop} {k : Nat} (h : ∀ i, i < k → p i) (hk : p k) : ∀ i, i < k + 1 → p i := fun i hi => by
 rcases Nat.lt_or_ge i k with h1 | h1
 ·exact h i h1
 ·have : i = k := by omega
  exact this ▸ hk
theorem setL_bool (ks : List Int) (k : Int) : (mget (setL ks) k).isSome = ks.contains k := by rw [mget_setL]; split <;> simp_all
theorem setL_val (ks : List Int) (k : Int) : (mget (setL ks) k).getD (.agg #[]) = .agg #[] := by rw [mget_setL]; split <;> rfl
theorem marks_has (r : Nat) (v : Int) (ks : List Int) (w : World) (hm : MapI w r (setL ks)) :
  Calls Tryz.prog 132 #[.map (some r), .int .i64 v] w (Rt (.bool (ks.contains v)) w) := by
 refine XK.enter (vs := [.map (some r), .int .i64 v]) Tryz.func132 rfl Tryz.ntmps132 (by simp) ?_
 refine XK.go ?_
 refine xk_lookup (kt := 3) (et := 198) (kd := .i64) (z := .agg #[]) (l := setL ks) true (by kernel_rfl) (by kernel_rfl) (by kernel_rfl) rfl rfl (fun w1 st => hm.below (st.started (by simp))) (by decide) ?_
 rw [setL_bool, setL_val]
 refine XK.go ?_
 refine xk_alloc (cs := []) (zeroB_of (by kernel_rfl)) (by decide) fun g1 => ?_
 refine xk_stN rfl rfl ?_; simp only [putN, Value.cells, List.set, List.take, List.drop, List.nil_append, List.append_nil, List.length_cons, List.length_nil, List.cons_append, Nat.reduceAdd]
 refine XK.go ?_
 exact XK.ret1 rfl rfl fun w1 st => ⟨rfl, st.below (by simp)⟩
theorem marks_add (r : Nat) (v : Int) (ks : List Int) (w : World) (F : Nat → Prop) (hp : (HP.map r (setL ks)).sat F w) (hF : ∀ b, F b → b < w.heap.size) :
  Calls Tryz.prog 133 #[.map (some r), .int .i64 v] w (fun y w' => y = .returned (.tuple #[]) ∧ ∃ F', (HP.map r (setL (if ks.contains v then ks else ks ++ [v]))).sat F' w' ∧ Turns w w' F F') := by
 refine XK.enterM (p := HP.map r (setL ks)) (F := F) (vs := [.map (some r), .int .i64 v]) Tryz.func133 rfl Tryz.ntmps133 (by simp) hp hF ?_
 refine XK.region ?_
 refine xk_move rfl (by decide) ?_
 refine xk_move rfl (by decide) ?_
 refine xk_buildS (zs := []) (L := []) (zeroB_of (by kernel_rfl)) (by kernel_rfl) rfl (by simp [fillL, setN, Value.cells]; rfl) (by decide) ?_
 refine xk_mapUpdate (kt := 3) (et := 198) (kd := .i64) (l := setL ks) 0 (by kernel_rfl) (by kernel_rfl) rfl rfl rfl rfl ?_
 rw [mset_setL]
 refine XK.nilN ?_
 exact XK.ret0 (.inr rfl) rfl fun w1 st => ⟨rfl, st.turns hF (by simp) (i := 0) rfl⟩
theorem numbersG_any (A : Option Addr) (n c : Nat) (g : List (List Int)) (w : World) (hg : GrS (all w) A n g) (hn : n = g.length) (hn2 : (n : Int) ≤ 9223372036854775806) (hlen : ∀ l ∈ g, (l.length : Int) ≤ 9223372036854775806) :
  Calls Tryz.prog 130 #[.slice A n c] w (Rt (.int .i64 (numbersG g)) w) := by
 refine XK.enter (vs := [.slice A n c]) Tryz.func130 rfl Tryz.ntmps130 (by simp) ?_
 refine XK.go ?_
 refine XK.if_ rfl (fun h => ?_) (fun h => ?_)
 ·
  refine XK.go ?_
  exact XK.ret1 rfl rfl fun w1 st => ⟨by simp [numbersG, ← hn]; omega, st.below (by simp)⟩
 ·
  refine XK.go ?_
  refine XK.envS [(12, .int .i64 0), (11, .int .i64 n), (10, .slice A n c), (0, .slice A n c)] ?_
  refine XK.go ?_
  refine XK.loop (fun m e R H => ∃ k : Nat, k ≤ n ∧ m = n - k ∧ (∀ (i : Nat), i < k → ∀ l : List Int, g[i]? = some l → ∀ (j : Nat) (u : Int), l[j]? = some u → 0 ≤ u ∧ u < g.length) ∧ e = [(12, .int .i64 k), (11, .int .i64 n), (10, .slice A n c), (0, .slice A n c)] ∧ R = [all w] ∧ H = []) n ⟨0, by omega, rfl, (fun i h => absurd h (by omega)), rfl, rfl, rfl⟩ fun m e R H hI => ?_
  obtain ⟨k, hk, rfl, hin, rfl, rfl, rfl⟩ := hI
  refine XK.go ?_
  refine XK.if_ rfl (fun h => ?_) (fun h => ?_)
  ·
   refine XK.go ?_
   have hkn : k < n := by omega
   obtain ⟨l, hl⟩ : ∃ l, g[k]? = some l := ⟨g[k]'(by omega), List.getElem?_eq_getElem _⟩
   obtain ⟨b, off, B, c2, rfl, c1, hsl⟩ := hg.row hl
   have hll := hlen l (List.mem_of_getElem? hl)
   refine XK.go ?_
   refine xk_at (k) (off + k) (el := 22) (sz := 1) (by kernel_rfl) (by kernel_rfl) rfl rfl (by omega) (by omega) (by omega) (by decide) ?_
   refine XK.go ?_
   refine XK.envS [(18, .int .i64 0), (17, .int .i64 l.length), (16, .slice B l.length c2), (12, .int .i64 k), (11, .int .i64 n), (10, .slice (some ⟨b, off, none⟩) n c), (0, .slice (some ⟨b, off, none⟩) n c)] ?_
   refine XK.go ?_
   refine XK.loop (fun m e R H => ∃ j : Nat, j ≤ l.length ∧ m = l.length - j ∧ (∀ (i : Nat), i < j → ∀ u : Int, l[i]? = some u → 0 ≤ u ∧ u < g.length) ∧ e = [(18, .int .i64 j), (17, .int .i64 l.length), (16, .slice B l.length c2), (12, .int .i64 k), (11, .int .i64 n), (10, .slice (some ⟨b, off, none⟩) n c), (0, .slice (some ⟨b, off, none⟩) n c)] ∧ R = [all w] ∧ H = []) l.length ⟨0, by omega, rfl, (fun i h => absurd h (by omega)), rfl, rfl, rfl⟩ fun m e R H hI => ?_
   obtain ⟨j, hj, rfl, hin2, rfl, rfl, rfl⟩ := hI
   refine XK.go ?_
   refine XK.if_ rfl (fun h => ?_) (fun h => ?_)
   ·
    refine XK.go ?_
    have hjl : j < l.length := by omega
    obtain ⟨b2, off2, rfl, hz2, hc2⟩ := hsl.2 (by omega)
    obtain ⟨u, hu⟩ : ∃ u, l[j]? = some u := ⟨l[j]'(by omega), List.getElem?_eq_getElem _⟩
    have c3 : ROc w b2 (off2 + j) (.int .i64 u) := ⟨hz2, hc2 j _ (by simp [intCells, hu])⟩
    refine XK.go ?_
    refine xk_at (j) (off2 + j) (el := 3) (sz := 1) (by kernel_rfl) (by kernel_rfl) rfl rfl (by omega) (by omega) (by omega) (by decide) ?_
    refine XK.go ?_
    refine xk_split (t := 24) rfl (fun hg => ?_) (fun hg => ?_)
    ·
     refine XK.go ?_
     exact XK.ret1 rfl rfl fun w1 st => ⟨by rw [show numbersG g = 4 by simp [numbersG, ← hn, badG_of hl hu (by omega)]; omega], st.below (by simp)⟩
    ·
     refine XK.go ?_
     refine XK.if_ rfl (fun h => ?_) (fun h => ?_)
     ·
      refine XK.go ?_
      exact XK.ret1 rfl rfl fun w1 st => ⟨by rw [show numbersG g = 4 by simp [numbersG, ← hn, badG_of hl hu (by omega)]; omega], st.below (by simp)⟩
     ·
      refine XK.go ?_
      exact XK.envS [(18, .int .i64 (j + 1)), (17, .int .i64 l.length), (16, .slice (some ⟨b2, off2, none⟩) l.length c2), (12, .int .i64 k), (11, .int .i64 n), (10, .slice (some ⟨b, off, none⟩) n c), (0, .slice (some ⟨b, off, none⟩) n c)] (XK.round (l.length - (j + 1)) (by omega) ⟨j + 1, by omega, rfl, all_snoc hin2 (fun x hx => by rw [hu] at hx; cases hx; omega), rfl, rfl, rfl⟩)
   ·
    refine XK.go ?_
    exact XK.envS [(12, .int .i64 (k + 1)), (11, .int .i64 n), (10, .slice (some ⟨b, off, none⟩) n c), (0, .slice (some ⟨b, off, none⟩) n c)] (XK.round (n - (k + 1)) (by omega) ⟨k + 1, by omega, rfl, all_snoc hin (fun x hx j u hju => by rw [hl] at hx; cases hx; exact hin2 j (by have := (List.getElem?_eq_some_iff.1 hju).1; omega) u hju), rfl, rfl, rfl⟩)
  ·
   refine XK.go ?_
   exact XK.ret1 rfl rfl fun w1 st => ⟨by rw [show numbersG g = 0 by simp [numbersG, ← hn, badG_no (fun i l hi => hin i (by have := (List.getElem?_eq_some_iff.1 hi).1; omega) l hi)]; omega], st.below (by simp)⟩
end
section
def HU (vals : List Value) (U : List (List Int)) : List HP := List.zipWith (fun v l => HP.own 3 1 v l.length (intCells l)) vals U
theorem HU_get {vals : List Value} {U : List (List Int)} {i : Nat} {v : Value} {l : List Int} (hv : vals[i]? = some v) (hl : U[i]? = some l) : (HU vals U)[i]? = some (HP.own 3 1 v l.length (intCells l)) := by
 simp [HU, List.getElem?_zipWith, hv, hl]
theorem HU_set : ∀ (vals : List Value) (U : List (List Int)) (i : Nat) (v : Value) (l : List Int), (HU vals U).set i (HP.own 3 1 v l.length (intCells l)) = HU (vals.set i v) (U.set i l)
 | [], U, i, v, l => by cases U <;> simp [HU]
 | a :: vals, [], i, v, l => by cases i <;> simp [HU]
 | a :: vals, b :: U, 0, v, l => by simp [HU]
 | a :: vals, b :: U, i + 1, v, l => by
  have := HU_set vals U i v l
  simpa [HU] using this
theorem HU_rep (n : Nat) : HU (List.replicate n (.slice none 0 0)) (List.replicate n []) = List.replicate n (HP.own 3 1 (.slice none 0 0) 0 []) := by
 simp [HU, intCells]
theorem intCells_set (W : List Int) (i : Nat) (v : Int) : (intCells W).set i (.int .i64 v) = intCells (W.set i v) := by simp [intCells, List.map_set]
theorem intCells_at {W : List Int} {i : Nat} {v : Int} (h : W[i]? = some v) : (intCells W)[i]? = some (.int .i64 v) := by simp [intCells, h]
theorem intCells_rep (n : Nat) : List.replicate n (Value.int .i64 0) = intCells (List.replicate n 0) := by simp [intCells]
theorem intCells_snoc (W : List Int) (v : Int) : intCells W ++ [.int .i64 v] = intCells (W ++ [v]) := by simp [intCells]
theorem GrS.of {q : Piece} {gU n : Nat} {vals : List Value} {U : List (List Int)} (h1 : ∃ F, (HP.blk gU 22 vals).sat F q.w ∧ ∀ b, F b → q.Z b) (h2 : ∃ F, (HP.many (HU vals U)).sat F q.w ∧ ∀ b, F b → q.Z b) (hv : vals.length = n) (hU : U.length = n) : GrS q (some ⟨gU, 0, none⟩) n U := by
 obtain ⟨F1, s1, z1⟩ := h1
 obtain ⟨F2, ⟨G, s2, g2, _⟩, z2⟩ := h2
 refine ⟨vals.map fun v => [v], ?_, hU.symm, ?_⟩
 ·have key : ∀ (vals : List Value) (U : List (List Int)), vals.length = U.length → (∀ (i : Nat) (v : Value) (l : List Int), vals[i]? = some v → U[i]? = some l → LstR (slq q) l [v]) → Rows (LstR (slq q)) 1 U (vals.map fun v => [v]) := by
   intro vals
   induction vals with
   | nil => intro U h _; cases U with
    | nil => trivial
    | cons => simp at h
   | cons v vals ih => intro U h hk; cases U with
    | nil => simp at h
    | cons l U => exact ⟨rfl, hk 0 v l rfl rfl, ih U (by simpa using h) (fun i v l h1 h2 => hk (i + 1) v l (by simpa using h1) (by simpa using h2))⟩
  refine key vals U (hv.trans hU.symm) fun i v l h1 h2 => ?_
  obtain ⟨A, c, rfl, hs⟩ := SlS.of_own (Y := q.Z) (s2 i _ (HU_get h1 h2)) (fun b hb => z2 b (g2 i b hb))
  exact ⟨A, l.length, c, rfl, rfl, hs⟩
 ·rw [show (vals.map fun v => [v]).flatten = vals by clear s1 s2 hv; induction vals <;> simp_all]
  exact SlS.of_blk (c := 0) s1 z1 (by omega)
theorem hrow_met_le (v : Nat) : ∀ (l : List Int) (s : List Int × List (List Int) × List Int), (l.foldl (hstep v) s).2.2.length ≤ s.2.2.length + l.length
 | [], s => by simp
 | u :: l, s => by
  have := hrow_met_le v l (hstep v s u)
  have h2 : (hstep v s u).2.2.length ≤ s.2.2.length + 1 := by rw [hstep_met]; split <;> simp
  simp only [List.foldl_cons, List.length_cons]
  omega
theorem hangIn {g : List (List Int)} (hg : InG g) {k j : Nat} {l : List Int} (hl : g[k]? = some l) {s : List Int × List (List Int) × List Int} (hs : s = (l.take j).foldl (hstep k) ((hangTo g k).1, (hangTo g k).2, [])) :
  s.1.length = g.length ∧ s.2.1.length = g.length ∧ s.1[k]? = some (s.2.2.length : Int) ∧ s.2.2.length ≤ j ∧ ∀ (u : Nat) x, s.2.1[u]? = some x → x.length ≤ k + 1 := by
 have hk : k < g.length := (List.getElem?_eq_some_iff.1 hl).1
 have h1 := hrow_len k (l.take j) ((hangTo g k).1, (hangTo g k).2, [])
 have h2 := hangTo_len g k
 have h3 := hangTo_spec hg k (by omega)
 have hmem : ∀ u ∈ l, 0 ≤ u ∧ u < g.length := hg l (List.mem_of_getElem? hl)
 subst hs
 refine ⟨h1.1.trans h2.1, h1.2.trans h2.2, ?_, ?_, fun u x hx => ?_⟩
 ·exact hrow_own k _ _ (by rw [h2.1]; exact hk) (by rw [h3.1 k hk]; simp)
 ·have := hrow_met_le k (l.take j) ((hangTo g k).1, (hangTo g k).2, [])
  simp only [List.length_nil, List.length_take] at this
  omega
 ·have hu : u < g.length := by
   have := (List.getElem?_eq_some_iff.1 hx).1
   rw [h1.2, h2.2] at this
   exact this
  have h4 := hrow_users k (l.take j) ((hangTo g k).1, (hangTo g k).2, []) u (fun y hy => by rw [h2.2]; exact hmem y (List.mem_of_mem_take hy)) (by rw [h2.2]; exact hu)
  rw [h4] at hx
  cases hx
  obtain ⟨z, hz⟩ : ∃ z, (hangTo g k).2[u]? = some z := ⟨_, List.getElem?_eq_getElem (by rw [h2.2]; exact hu)⟩
  have h5 := hangTo_users_le hg (by omega : k ≤ g.length) hz
  simp only [hz, Option.getD_some, List.length_append]
  split <;> simp <;> omega
theorem hang_next {g : List (List Int)} {k j : Nat} {l : List Int} {u : Int} (hu : l[j]? = some u) (s0 : List Int × List (List Int) × List Int) : (l.take (j + 1)).foldl (hstep k) s0 = hstep k ((l.take j).foldl (hstep k) s0) u := by
 rw [List.take_add_one, hu, Option.toList_some, List.foldl_append]; rfl
theorem hang_row {g : List (List Int)} {k : Nat} {l : List Int} (hl : g[k]? = some l) : hangTo g (k + 1) = (((l.take l.length).foldl (hstep k) ((hangTo g k).1, (hangTo g k).2, [])).1, ((l.take l.length).foldl (hstep k) ((hangTo g k).1, (hangTo g k).2, [])).2.1) := by
 rw [List.take_length, hangTo, hl]; rfl
def HangOk (g : List (List Int)) (n : Nat) (v : Value) (hs : List HP) (q : Piece) : Prop := ∃ gW gU : Nat, v = .tuple #[.slice (some ⟨gW, 0, none⟩) n n, .slice (some ⟨gU, 0, none⟩) n n] ∧ hs = [HP.blk gW 3 (intCells (hangTo g n).1)] ∧ GrS q (some ⟨gU, 0, none⟩) n (hangTo g n).2
theorem hang_any (A : Option Addr) (n c : Nat) (g : List (List Int)) (w : World) (hg : GrS (all w) A n g) (hn : n = g.length) (hn2 : n ≤ 100) (hin : InG g) (hlen : ∀ l ∈ g, (l.length : Int) ≤ 9223372036854775806) :
  Calls Tryz.prog 131 #[.slice A n c] w (fun y w' => (∃ v hs q, y = .returned v ∧ q.w = w' ∧ HangOk g n v hs q ∧ New w hs q) ∧ Below w.heap.size w w') := by
 refine XK.enter (vs := [.slice A n c]) Tryz.func131 rfl Tryz.ntmps131 (by simp) ?_
 refine XK.seq ?_
 refine XK.region ?_
 refine xk_assign rfl (by decide) ?_
 refine xk_assign rfl (by decide) ?_
 refine XK.nilN ?_
 refine XK.seq ?_
 refine XK.region ?_
 refine xk_move rfl (by decide) ?_
 refine xk_len (el := 22) (by kernel_rfl) rfl (by decide) ?_
 refine xk_makeT 8 (el := 3) (z := .int .i64 0) (by kernel_rfl) (by kernel_rfl) rfl rfl rfl (by omega) (by omega) (by decide) fun gW => ?_
 refine xk_assign rfl (by decide) ?_
 refine XK.nilN ?_
 refine XK.seq ?_
 refine XK.region ?_
 refine xk_move rfl (by decide) ?_
 refine xk_len (el := 22) (by kernel_rfl) rfl (by decide) ?_
 refine xk_makeT 24 (el := 22) (z := .slice none 0 0) (by kernel_rfl) (by kernel_rfl) rfl rfl rfl (by omega) (by omega) (by decide) fun gU => ?_
 refine xk_assign rfl (by decide) ?_
 refine XK.nilN ?_
 refine XK.seq ?_
 refine XK.seq ?_
 refine XK.region ?_
 refine xk_move rfl (by decide) ?_
 refine xk_len (el := 22) (by kernel_rfl) rfl (by decide) ?_
 refine xk_move rfl (by decide) ?_
 refine XK.nilN ?_
 refine XK.envS [(17, .int .i64 0), (16, .int .i64 n), (15, .slice A n c), (3, .slice (some ⟨gU, 0, none⟩) n n), (2, .slice (some ⟨gW, 0, none⟩) n n)] ?_
 refine XK.nils n 3 1 ?_
 refine XK.block ?_
 refine XK.loop (fun m e R H => ∃ (k : Nat) (vals : List Value), k ≤ n ∧ m = n - k ∧ vals.length = n ∧ e = [(17, .int .i64 k), (16, .int .i64 n), (15, .slice A n c), (3, .slice (some ⟨gU, 0, none⟩) n n), (2, .slice (some ⟨gW, 0, none⟩) n n)] ∧ R = [all w] ∧ H = [HP.many (HU vals (hangTo g k).2), HP.blk gU 22 vals, HP.blk gW 3 (intCells (hangTo g k).1)]) n ⟨0, List.replicate n (.slice none 0 0), by omega, rfl, by simp, rfl, rfl, by rw [hangTo, ← hn, HU_rep, ← intCells_rep]⟩ fun m e R H hI => ?_
 obtain ⟨k, vals, hk, rfl, hv, rfl, rfl, rfl⟩ := hI
 refine XK.seq ?_
 refine XK.region ?_
 refine xk_lss rfl rfl (by decide) ?_
 refine XK.nilN ?_
 refine XK.seq ?_
 refine XK.if_ rfl (fun h => ?_) (fun h => ?_)
 ·
  refine XK.skip ?_
  refine XK.norm ?_
  refine XK.seq ?_
  refine XK.block ?_
  refine XK.seq ?_
  have hkn : k < n := by omega
  obtain ⟨l, hl⟩ : ∃ l, g[k]? = some l := ⟨g[k]'(by omega), List.getElem?_eq_getElem _⟩
  obtain ⟨b, off, B, c2, rfl, c1, hsl⟩ := hg.row hl
  have hll := hlen l (List.mem_of_getElem? hl)
  have hmem := hin l (List.mem_of_getElem? hl)
  refine XK.region ?_
  refine xk_move rfl (by decide) ?_
  refine xk_at (k) (off + k) (el := 22) (sz := 1) (by kernel_rfl) (by kernel_rfl) rfl rfl (by omega) (by omega) (by omega) (by decide) ?_
  refine xk_ld rfl ?_
  refine xk_assign rfl (by decide) ?_
  refine xk_assign rfl (by decide) ?_
  refine XK.nilN ?_
  refine XK.seq ?_
  refine XK.region ?_
  refine xk_makeMap (by decide) fun r => ?_
  refine xk_assign rfl (by decide) ?_
  refine XK.nilN ?_
  refine XK.seq ?_
  refine XK.region ?_
  refine xk_move rfl (by decide) ?_
  refine xk_len (el := 3) (by kernel_rfl) rfl (by decide) ?_
  refine xk_move rfl (by decide) ?_
  refine XK.nilN ?_
  refine XK.envS [(25, .int .i64 0), (24, .int .i64 l.length), (23, .slice B l.length c2), (6, .map (some r)), (4, .int .i64 k), (17, .int .i64 k), (16, .int .i64 n), (15, .slice (some ⟨b, off, none⟩) n c), (3, .slice (some ⟨gU, 0, none⟩) n n), (2, .slice (some ⟨gW, 0, none⟩) n n)] ?_
  refine XK.block ?_
  refine XK.loop (fun m e R H => ∃ (j : Nat) (vals : List Value) (s : List Int × List (List Int) × List Int), j ≤ l.length ∧ m = l.length - j ∧ vals.length = n ∧ s = (l.take j).foldl (hstep k) ((hangTo g k).1, (hangTo g k).2, []) ∧ e = [(25, .int .i64 j), (24, .int .i64 l.length), (23, .slice B l.length c2), (6, .map (some r)), (4, .int .i64 k), (17, .int .i64 k), (16, .int .i64 n), (15, .slice (some ⟨b, off, none⟩) n c), (3, .slice (some ⟨gU, 0, none⟩) n n), (2, .slice (some ⟨gW, 0, none⟩) n n)] ∧ R = [all w] ∧ H = [HP.map r (setL s.2.2), HP.many (HU vals s.2.1), HP.blk gU 22 vals, HP.blk gW 3 (intCells s.1)]) l.length ⟨0, vals, _, by omega, rfl, hv, rfl, rfl, rfl, rfl⟩ fun m e R H hI => ?_
  obtain ⟨j, vals, s, hj, rfl, hv, hs, rfl, rfl, rfl⟩ := hI
  refine XK.seq ?_
  refine XK.region ?_
  refine xk_lss rfl rfl (by decide) ?_
  refine XK.nilN ?_
  refine XK.seq ?_
  refine XK.if_ rfl (fun h => ?_) (fun h => ?_)
  ·
   refine XK.skip ?_
   refine XK.norm ?_
   refine XK.seq ?_
   refine XK.block ?_
   refine XK.seq ?_
   have hjl : j < l.length := by omega
   obtain ⟨b2, off2, rfl, hz2, hc2⟩ := hsl.2 (by omega)
   obtain ⟨u, hu⟩ : ∃ u, l[j]? = some u := ⟨l[j]'(by omega), List.getElem?_eq_getElem _⟩
   have c3 : ROc w b2 (off2 + j) (.int .i64 u) := ⟨hz2, hc2 j _ (by simp [intCells, hu])⟩
   obtain ⟨hW, hU, hWk, hM, hUl⟩ := hangIn hin hl hs
   obtain ⟨hu0, hun⟩ := hmem u (List.mem_of_getElem? hu)
   obtain ⟨vu, hvu⟩ : ∃ v, vals[u.toNat]? = some v := ⟨_, List.getElem?_eq_getElem (by omega)⟩
   obtain ⟨Uu, hUu⟩ : ∃ x, s.2.1[u.toNat]? = some x := ⟨_, List.getElem?_eq_getElem (by omega)⟩
   have hUl2 := hUl _ _ hUu
   have hnx := hang_next (g := g) (k := k) hu ((hangTo g k).1, (hangTo g k).2, [])
   rw [← hs] at hnx
   refine XK.region ?_
   refine xk_at (j) (off2 + j) (el := 3) (sz := 1) (by kernel_rfl) (by kernel_rfl) rfl rfl (by omega) (by omega) (by omega) (by decide) ?_
   refine xk_ld rfl ?_
   refine xk_assign rfl (by decide) ?_
   refine XK.nilN ?_
   refine XK.seq ?_
   refine XK.seq ?_
   refine XK.region ?_
   refine xk_move rfl (by decide) ?_
   refine xk_move rfl (by decide) ?_
   refine xk_callR (f := 132) (fi := []) (ca := []) (by kernel_rfl) rfl rfl (by decide) (fun w1 st => marks_has r u s.2.2 w1 (st.map (i := 0) rfl)) ?_
   refine XK.nilN ?_
   refine XK.cond rfl (fun h => ?_) (fun h => ?_)
   ·
    refine XK.exit ?_
    refine XK.norm ?_
    refine XK.region ?_
    refine xk_add rfl rfl (wrap_in (by omega)) (by decide) ?_
    refine xk_move rfl (by decide) ?_
    refine XK.nilN ?_
    exact XK.envS [(25, .int .i64 (j + 1)), (24, .int .i64 l.length), (23, .slice (some ⟨b2, off2, none⟩) l.length c2), (6, .map (some r)), (4, .int .i64 k), (17, .int .i64 k), (16, .int .i64 n), (15, .slice (some ⟨b, off, none⟩) n c), (3, .slice (some ⟨gU, 0, none⟩) n n), (2, .slice (some ⟨gW, 0, none⟩) n n)] (XK.round (l.length - (j + 1)) (by omega) ⟨j + 1, vals, _, by omega, rfl, hv, hnx.symm, rfl, rfl, by rw [hstep, if_pos h]⟩)
   ·
    refine XK.skip ?_
    refine XK.norm ?_
    refine XK.seq ?_
    refine XK.region ?_
    refine xk_move rfl (by decide) ?_
    refine xk_move rfl (by decide) ?_
    refine xk_callM (f := 133) (fi := []) (ca := []) 0 (HP.map r (setL (if s.2.2.contains u then s.2.2 else s.2.2 ++ [u]))) (by kernel_rfl) rfl rfl rfl ⟨by decide, rfl⟩ (fun w1 F st hp hF => marks_add r u s.2.2 w1 F hp hF) ?_
    dsimp only [List.set]
    refine XK.nilN ?_
    refine XK.seq ?_
    refine XK.region ?_
    refine xk_move rfl (by decide) ?_
    refine xk_move rfl (by decide) ?_
    refine xk_at (k) (k) (el := 3) (sz := 1) (by kernel_rfl) (by kernel_rfl) rfl rfl (by omega) (by omega) (by omega) (by decide) ?_
    refine xk_load (by kernel_rfl) rfl (Rd.blk 3 rfl (intCells_at hWk)) (by decide) ?_
    refine xk_add rfl rfl (wrap_in (by omega)) (by decide) ?_
    refine xk_at (k) (k) (el := 3) (sz := 1) (by kernel_rfl) (by kernel_rfl) rfl rfl (by omega) (by omega) (by omega) (by decide) ?_
    refine xk_store 3 rfl (by kernel_rfl) rfl rfl rfl (by simp [intCells]; omega) ?_
    dsimp only [List.set]
    rw [intCells_set]
    refine XK.nilN ?_
    refine XK.region ?_
    refine xk_move rfl (by decide) ?_
    refine xk_move rfl (by decide) ?_
    refine xk_move rfl (by decide) ?_
    refine xk_move rfl (by decide) ?_
    refine xk_at (u.toNat) (u.toNat) (el := 22) (sz := 1) (by kernel_rfl) (by kernel_rfl) rfl rfl (by omega) (by omega) (by omega) (by decide) ?_
    refine xk_load (by kernel_rfl) rfl (Rd.blk 2 rfl hvu) (by decide) ?_
    refine XK.take 1 u.toNat rfl (HU_get hvu hUu) ?_
    dsimp only [List.set]
    refine xk_move rfl (by decide) ?_
    refine xk_slice (el := 3) (sz := 1) (zs := [.int .i64 0]) (by kernel_rfl) (zeroB_of (by kernel_rfl)) (by kernel_rfl) rfl (by decide) (by decide) rfl (by simp [fillL, setN, Value.cells, List.range_succ, List.set]; rfl) (by decide) fun g3 => ?_
    refine xk_appendT 1 1 8 1 (n' := Uu.length + 1) (el := 3) (by kernel_rfl) (by kernel_rfl) (by decide) rfl rfl rfl (sl_blk 0 rfl rfl) (by simp [Value.oneCell']) rfl (by omega) (by omega) (by decide) fun A' k' => ?_
    dsimp only [List.set]
    rw [intCells_snoc]
    refine xk_at (u.toNat) (u.toNat) (el := 22) (sz := 1) (by kernel_rfl) (by kernel_rfl) rfl rfl (by omega) (by omega) (by omega) (by decide) ?_
    refine xk_store 4 rfl (by kernel_rfl) rfl rfl rfl (by omega) ?_
    dsimp only [List.set]
    refine XK.weak [1, 2, 3, 4, 5] rfl (by decide) (fun _ hp => hp) ?_
    refine XK.give 1 u.toNat rfl (by rw [List.getElem?_set_self (by simp [HU]; omega)]) ?_
    dsimp only [List.set]
    rw [List.set_set, show Uu.length + 1 = (Uu ++ [(k : Int)]).length by simp, HU_set]
    refine XK.nilN ?_
    refine XK.region ?_
    refine xk_add rfl rfl (wrap_in (by omega)) (by decide) ?_
    refine xk_move rfl (by decide) ?_
    refine XK.nilN ?_
    exact XK.envS [(25, .int .i64 (j + 1)), (24, .int .i64 l.length), (23, .slice (some ⟨b2, off2, none⟩) l.length c2), (6, .map (some r)), (4, .int .i64 k), (17, .int .i64 k), (16, .int .i64 n), (15, .slice (some ⟨b, off, none⟩) n c), (3, .slice (some ⟨gU, 0, none⟩) n n), (2, .slice (some ⟨gW, 0, none⟩) n n)] (XK.round (l.length - (j + 1)) (by omega) ⟨j + 1, vals.set u.toNat (.slice A' (Uu ++ [(k : Int)]).length k'), _, by omega, rfl, by simpa using hv, hnx.symm, rfl, rfl, by rw [hstep, if_neg (by rw [h]; decide), if_neg (by rw [h]; decide), hWk, hUu]; rfl⟩)
  ·
   refine XK.exit ?_
   refine XK.norm ?_
   refine XK.region ?_
   obtain rfl : j = l.length := by omega
   have hrw := hang_row hl
   rw [← hs] at hrw
   refine xk_add rfl rfl (wrap_in (by omega)) (by decide) ?_
   refine xk_move rfl (by decide) ?_
   refine XK.nilN ?_
   exact XK.weak [1, 2, 3] rfl (by decide) (by simp) (XK.envS [(17, .int .i64 (k + 1)), (16, .int .i64 n), (15, .slice (some ⟨b, off, none⟩) n c), (3, .slice (some ⟨gU, 0, none⟩) n n), (2, .slice (some ⟨gW, 0, none⟩) n n)] (XK.round (n - (k + 1)) (by omega) ⟨k + 1, vals, by omega, rfl, hv, rfl, rfl, by rw [hrw]⟩))
 ·
  refine XK.exit ?_
  refine XK.norm ?_
  refine XK.seq ?_
  obtain rfl : k = n := by omega
  have hUl := (hangTo_len g k).2
  refine XK.region ?_
  refine xk_move rfl (by decide) ?_
  refine xk_move rfl (by decide) ?_
  refine xk_assign rfl (by decide) ?_
  refine xk_assign rfl (by decide) ?_
  refine XK.nilN ?_
  refine XK.ret ?_
  refine XK.norm ?_
  refine XK.still [] [0, 1] [2] (by simp) rfl (by decide) (by decide) fun q hq _ hfr => ?_
  refine XK.ret2 rfl rfl rfl fun w1 st => ⟨⟨_, _, ⟨w1, q.Z⟩, rfl, rfl, ⟨gW, gU, rfl, rfl, ?_⟩, st.newR (by simp) (by simp) (hfr (by simp) (by simp))⟩, st.below (by simp)⟩
  exact (GrS.of (hq 1 _ (by simp) rfl) (hq 0 _ (by simp) rfl) hv (by omega)).le fun b hb => ⟨hb, st.ro (by simp) hb⟩
end
section
def natI (M : List Nat) : List Int := M.map Int.ofNat
def okN (g : List (List Int)) (M : List Nat) (v : Nat) : Bool := !(M.contains v) && (g[v]?.getD []).all fun u => M.contains u.toNat
def waitN (g : List (List Int)) (M : List Nat) (v : Nat) : Nat := ((dset (g[v]?.getD [])).filter fun u => !(M.contains u.toNat)).length
def waitsG (g : List (List Int)) (M : List Nat) : List Int := (List.range g.length).map fun v => (waitN g M v : Int)
def decBy (W : List Int) (us : List Int) : List Int := us.foldl (fun W u => W.set u.toNat (W[u.toNat]?.getD 0 - 1)) W
def usersG (g : List (List Int)) (v : Nat) : List Int := ((List.range g.length).filter fun x => (g[x]?.getD []).contains (v : Int)).map Int.ofNat
def orderE (g : List (List Int)) : Int × List Nat := if numbersG g ≠ 0 then (numbersG g, []) else match orderG g g.length [] with
 | some M => (0, M)
 | none => (5, [])
theorem natI_has (M : List Nat) (v : Nat) : (natI M).contains (v : Int) = M.contains v := by
 rw [Bool.eq_iff_iff]
 simp only [natI, List.contains_iff_mem, List.mem_map]
 constructor
 ·rintro ⟨a, h, e⟩
  have : a = v := Int.ofNat.inj e
  exact this ▸ h
 ·exact fun h => ⟨v, h, rfl⟩
theorem natI_snoc (M : List Nat) (v : Nat) : natI (M ++ [v]) = natI M ++ [(v : Int)] := by simp [natI]
theorem waitsG_get {g : List (List Int)} {M : List Nat} {v : Nat} (h : v < g.length) : (waitsG g M)[v]? = some (waitN g M v : Int) := by simp [waitsG, h]
theorem waitsG_len (g : List (List Int)) (M : List Nat) : (waitsG g M).length = g.length := by simp [waitsG]
theorem dset_fold (l : List Int) : ∀ (a : List Int), (∀ u, u ∈ l.foldl (fun a u => if a.contains u then a else a ++ [u]) a ↔ u ∈ a ∨ u ∈ l) ∧ (a.Nodup → (l.foldl (fun a u => if a.contains u then a else a ++ [u]) a).Nodup) ∧ (l.foldl (fun a u => if a.contains u then a else a ++ [u]) a).length ≤ a.length + l.length := by
 induction l with
 | nil => intro a; simp
 | cons x l ih =>
  intro a
  rw [List.foldl_cons]
  obtain ⟨h1, h2, h3⟩ := ih (if a.contains x then a else a ++ [x])
  refine ⟨fun u => ?_, fun hn => h2 ?_, ?_⟩
  ·rw [h1]
   split
   ·rename_i hc
    have : x ∈ a := by simpa using hc
    constructor
    ·rintro (h | h)
     ·exact .inl h
     ·exact .inr (by simp [h])
    ·rintro (h | h)
     ·exact .inl h
     ·rcases List.mem_cons.1 h with rfl | h
      ·exact .inl this
      ·exact .inr h
   ·simp [or_assoc]
  ·split
   ·exact hn
   ·rename_i hc
    have : x ∉ a := by simpa using hc
    rw [List.nodup_append]
    refine ⟨hn, by simp, fun y hy z hz => ?_⟩
    simp at hz
    subst hz
    exact fun e => this (e ▸ hy)
  ·refine Nat.le_trans h3 ?_
   split <;> simp <;> omega
theorem dset_mem (l : List Int) (u : Int) : u ∈ dset l ↔ u ∈ l := by have := (dset_fold l []).1 u; simpa [dset] using this
theorem dset_nodup (l : List Int) : (dset l).Nodup := (dset_fold l []).2.1 List.nodup_nil
theorem dset_len (l : List Int) : (dset l).length ≤ l.length := by have := (dset_fold l []).2.2; simpa [dset] using this
theorem waitN_le (g : List (List Int)) (M : List Nat) (v : Nat) : waitN g M v ≤ (g[v]?.getD []).length := Nat.le_trans (List.length_filter_le _ _) (dset_len _)
theorem waitN_zero (g : List (List Int)) (M : List Nat) (v : Nat) : waitN g M v = 0 ↔ ((g[v]?.getD []).all fun u => M.contains u.toNat) = true := by
 unfold waitN
 rw [List.length_eq_zero_iff, List.filter_eq_nil_iff, List.all_eq_true]
 constructor
 ·intro h u hu
  have := h u ((dset_mem _ _).2 hu)
  simpa using this
 ·intro h u hu
  have := h u ((dset_mem _ _).1 hu)
  simpa using this
theorem okN_met {g : List (List Int)} {M : List Nat} {v : Nat} (h : M.contains v = true) : okN g M v = false := by rw [okN, h]; rfl
theorem okN_waits {g : List (List Int)} {M : List Nat} {v : Nat} (h : (waitN g M v : Int) > 0) : okN g M v = false := by
 have : ¬ waitN g M v = 0 := by omega
 rw [waitN_zero] at this
 rw [okN]
 simp only [Bool.not_eq_true] at this
 rw [this, Bool.and_false]
theorem okN_free {g : List (List Int)} {M : List Nat} {v : Nat} (h : M.contains v = false) (h2 : ¬ (waitN g M v : Int) > 0) : okN g M v = true := by
 have : waitN g M v = 0 := by omega
 rw [waitN_zero] at this
 rw [okN, h, this]
 rfl
theorem nextG_none {g : List (List Int)} {M : List Nat} (h : ∀ j, j < g.length → okN g M j = false) : nextG g M = none := by
 unfold nextG
 rw [List.find?_eq_none]
 intro x hx
 have := h x (by simpa using hx)
 unfold okN at this
 rw [this]
 simp
theorem nextG_some {g : List (List Int)} {M : List Nat} {v : Nat} (hv : v < g.length) (h : ∀ j, j < v → okN g M j = false) (hk : okN g M v = true) : nextG g M = some v := by
 unfold nextG
 rw [List.find?_range_eq_some]
 refine ⟨hk, by simpa using hv, fun j hj => ?_⟩
 have := h j hj
 unfold okN at this
 rw [this]
 rfl
theorem orderG_step {g : List (List Int)} {M : List Nat} {v k : Nat} (h : nextG g M = some v) : orderG g (k + 1) M = orderG g k (M ++ [v]) := by rw [orderG, h]
theorem orderG_stop {g : List (List Int)} {M : List Nat} {k : Nat} (h : nextG g M = none) : orderG g (k + 1) M = none := by rw [orderG, h]
theorem decBy_len : ∀ (us W : List Int), (decBy W us).length = W.length
 | [], W => rfl
 | u :: us, W => by rw [decBy, List.foldl_cons]; have := decBy_len us (W.set u.toNat (W[u.toNat]?.getD 0 - 1)); rw [decBy] at this; rw [this]; simp
theorem decBy_next {us W : List Int} {j : Nat} {u : Int} (h : us[j]? = some u) : decBy W (us.take (j + 1)) = (decBy W (us.take j)).set u.toNat ((decBy W (us.take j))[u.toNat]?.getD 0 - 1) := by
 rw [List.take_add_one, h, Option.toList_some, decBy, List.foldl_append]; rfl
theorem decBy_get : ∀ (us W : List Int) (x : Nat), (∀ u ∈ us, 0 ≤ u) → x < W.length → (decBy W us)[x]? = some (W[x]?.getD 0 - (us.count (x : Int) : Int))
 | [], W, x, _, h => by simp [decBy, h]
 | u :: us, W, x, hu, h => by
  rw [decBy, List.foldl_cons]
  have := decBy_get us (W.set u.toNat (W[u.toNat]?.getD 0 - 1)) x (fun y hy => hu y (by simp [hy])) (by simpa using h)
  rw [decBy] at this
  rw [this]
  have h0 := hu u (by simp)
  congr 1
  by_cases e : u = (x : Int)
  ·subst e
   have e2 : ((x : Int)).toNat = x := by simp
   rw [e2, List.getElem?_set_self h, List.count_cons_self]
   simp only [Option.getD_some]
   omega
  ·have e2 : u.toNat ≠ x := by omega
   rw [List.getElem?_set_ne e2, List.count_cons_of_ne e]
theorem usersG_mem {g : List (List Int)} {v : Nat} {u : Int} (h : u ∈ usersG g v) : 0 ≤ u ∧ u < g.length := by
 simp only [usersG, List.mem_map, List.mem_filter, List.mem_range] at h
 obtain ⟨a, ⟨h1, _⟩, rfl⟩ := h
 simp; omega
theorem usersG_len (g : List (List Int)) (v : Nat) : (usersG g v).length ≤ g.length := by
 rw [usersG, List.length_map]
 have := List.length_filter_le (fun x => (g[x]?.getD []).contains (v : Int)) (List.range g.length)
 simpa using this
theorem usersG_count {g : List (List Int)} {v x : Nat} (hx : x < g.length) : (usersG g v).count (x : Int) = if (g[x]?.getD []).contains (v : Int) then 1 else 0 := by
 have hnd : (usersG g v).Nodup := List.Pairwise.map _ (fun a b h e => h (Int.ofNat.inj e)) (List.Pairwise.filter _ List.nodup_range)
 rw [List.Nodup.count hnd]
 have : ((x : Int) ∈ usersG g v) ↔ (g[x]?.getD []).contains (v : Int) = true := by
  simp only [usersG, List.mem_map, List.mem_filter, List.mem_range]
  constructor
  ·rintro ⟨a, ⟨_, h⟩, e⟩
   have : a = x := Int.ofNat.inj e
   exact this ▸ h
  ·intro h; exact ⟨x, ⟨hx, h⟩, rfl⟩
 by_cases h : (g[x]?.getD []).contains (v : Int) = true
 ·rw [if_pos (this.2 h), if_pos h]
 ·rw [if_neg (fun e => h (this.1 e)), if_neg h]
theorem filter_one {l : List Int} (hn : l.Nodup) {p q : Int → Bool} {a : Int} (ha : p a = true) (hq : ∀ u ∈ l, q u = (p u && decide (u ≠ a))) : (l.filter p).length = (l.filter q).length + if l.contains a then 1 else 0 := by
 induction l with
 | nil => simp
 | cons x l ih =>
  have hn' := List.nodup_cons.1 hn
  have ih := ih hn'.2 (fun u hu => hq u (by simp [hu]))
  have hx := hq x (by simp)
  by_cases e : x = a
  ·subst e
   have hc : ¬ l.contains x = true := by simpa using hn'.1
   rw [if_neg hc] at ih
   have hc2 : (x :: l).contains x = true := by simp
   rw [if_pos hc2, List.filter_cons_of_pos ha, List.filter_cons_of_neg (by rw [hx]; simp), List.length_cons, ih]
  ·have hc : (x :: l).contains a = l.contains a := by
    rw [List.contains_cons]
    have : (a == x) = false := by simp; exact fun h => e h.symm
    rw [this, Bool.false_or]
   rw [hc]
   by_cases hp : p x = true
   ·rw [List.filter_cons_of_pos hp, List.filter_cons_of_pos (by rw [hx, hp]; simp [e]), List.length_cons, List.length_cons, ih]
    omega
   ·rw [List.filter_cons_of_neg hp, List.filter_cons_of_neg (by rw [hx]; simp [hp]), ih]
theorem waitN_snoc {g : List (List Int)} (hg : InG g) {M : List Nat} {v x : Nat} (hv : M.contains v = false) (hx : x < g.length) : (waitN g M x : Int) - (if (g[x]?.getD []).contains (v : Int) then 1 else 0) = waitN g (M ++ [v]) x := by
 have hin : ∀ u ∈ g[x]?.getD [], 0 ≤ u := fun u hu => by
  have h1 : g[x]? = some (g[x]'hx) := List.getElem?_eq_getElem _
  rw [h1] at hu
  exact (hg _ (List.getElem_mem _) u hu).1
 have key := filter_one (dset_nodup (g[x]?.getD [])) (p := fun u => !(M.contains u.toNat)) (q := fun u => !((M ++ [v]).contains u.toNat)) (a := (v : Int)) (by simp only [Int.toNat_natCast]; rw [hv]; rfl) (fun u hu => by
  have h0 := hin u ((dset_mem _ _).1 hu)
  have hiff : (u.toNat = v) ↔ u = (v : Int) := by omega
  simp only [List.contains_eq_mem, List.mem_append, List.mem_singleton, hiff, Bool.decide_or, Bool.not_or, decide_not])
 have hc : (dset (g[x]?.getD [])).contains (v : Int) = (g[x]?.getD []).contains (v : Int) := by
  rw [Bool.eq_iff_iff]; simp only [List.contains_iff_mem]; exact dset_mem _ _
 rw [hc] at key
 unfold waitN
 rw [key]
 split <;> omega
theorem waits_snoc {g : List (List Int)} (hg : InG g) {M : List Nat} {v : Nat} (hv : M.contains v = false) : decBy (waitsG g M) (usersG g v) = waitsG g (M ++ [v]) := by
 apply List.ext_getElem?
 intro x
 rcases Nat.lt_or_ge x g.length with hx | hx
 ·rw [decBy_get _ _ _ (fun u hu => (usersG_mem hu).1) (by rw [waitsG_len]; exact hx), waitsG_get hx, waitsG_get hx, usersG_count hx]
  congr 1
  have := waitN_snoc hg hv hx
  simp only [Option.getD_some]
  rw [← this]
  split <;> rfl
 ·rw [List.getElem?_eq_none (by rw [decBy_len, waitsG_len]; exact hx), List.getElem?_eq_none (by rw [waitsG_len]; exact hx)]
theorem waits_start {g : List (List Int)} (hg : InG g) : (hangTo g g.length).1 = waitsG g [] := by
 apply List.ext_getElem?
 intro x
 rcases Nat.lt_or_ge x g.length with hx | hx
 ·rw [(hangTo_spec hg g.length (Nat.le_refl _)).1 x hx, waitsG_get hx, if_pos hx]
  congr 2
  unfold waitN
  rw [List.filter_eq_self.2 (by simp)]
 ·rw [List.getElem?_eq_none (by rw [(hangTo_len g _).1]; exact hx), List.getElem?_eq_none (by rw [waitsG_len]; exact hx)]
theorem users_row {g : List (List Int)} (hg : InG g) {v : Nat} (hv : v < g.length) : (hangTo g g.length).2[v]? = some (usersG g v) := (hangTo_spec hg g.length (Nat.le_refl _)).2 v hv
end
section
theorem waits_set (W us : List Int) (j : Nat) (u x : Int) (hj : us[j]? = some u) (hx : (decBy W (us.take j))[u.toNat]? = some x) : (intCells (decBy W (us.take j))).set u.toNat (.int .i64 (x - 1)) = intCells (decBy W (us.take (j + 1))) := by
 rw [intCells_set, decBy_next hj, hx]; rfl
theorem orderE_bad {g : List (List Int)} (h : numbersG g ≠ 0) : orderE g = (numbersG g, []) := by unfold orderE; rw [if_pos h]
theorem orderE_none {g : List (List Int)} (h0 : numbersG g = 0) (h : orderG g g.length [] = none) : orderE g = (5, []) := by unfold orderE; rw [if_neg (by simp [h0]), h]
theorem orderE_some {g : List (List Int)} {M : List Nat} (h0 : numbersG g = 0) (h : orderG g g.length [] = some M) : orderE g = (0, M) := by unfold orderE; rw [if_neg (by simp [h0]), h]
theorem numbersG_zero {g : List (List Int)} (h : numbersG g = 0) : g.length ≤ 100 ∧ InG g := by
 unfold numbersG at h
 split at h
 ·cases h
 ·split at h
  ·cases h
  ·rename_i h1 h2; exact ⟨by omega, InG.of (by simpa using h2)⟩
def OrdOk (w : World) (M : List Nat) (err : Int) (y : Ending) (w' : World) : Prop := (∃ A m c, y = .returned (.tuple #[.slice A m c, .int .i64 err]) ∧ m = M.length ∧ SlS (fresh w w') 1 A m (intCells (natI M))) ∧ Below w.heap.size w w'
theorem OrdOk.nil {w w' : World} {err : Int} (h : Below w.heap.size w w') : OrdOk w [] err (.returned (.tuple #[.slice none 0 0, .int .i64 err])) w' := ⟨⟨none, 0, 0, rfl, rfl, SlS.nil _ 1⟩, h⟩
theorem order_any (A : Option Addr) (n c : Nat) (g : List (List Int)) (w : World) (hg : GrS (all w) A n g) (hn : n = g.length) (hn2 : (n : Int) ≤ 9223372036854775806) (hlen : ∀ l ∈ g, (l.length : Int) ≤ 9223372036854775806) :
  Calls Tryz.prog 125 #[.slice A n c] w (OrdOk w (orderE g).2 (orderE g).1) := by
 refine XK.enter (vs := [.slice A n c]) Tryz.func125 rfl Tryz.ntmps125 (by simp) ?_
 refine XK.seq ?_
 refine XK.region ?_
 refine xk_assign rfl (by decide) ?_
 refine xk_assign rfl (by decide) ?_
 refine XK.nilN ?_
 refine XK.seq ?_
 refine XK.seq ?_
 refine XK.region ?_
 refine xk_move rfl (by decide) ?_
 refine xk_callR (f := 130) (fi := []) (ca := []) (by kernel_rfl) rfl rfl (by decide) (fun w1 st => numbersG_any A n c g w1 (hg.le (all_le (st.started (by simp)))) hn hn2 hlen) ?_
 refine xk_assign rfl (by decide) ?_
 refine XK.nilN ?_
 refine XK.seq ?_
 refine XK.region ?_
 refine xk_move rfl (by decide) ?_
 refine xk_neq rfl rfl (by decide) ?_
 refine XK.nilN ?_
 refine XK.if_ rfl (fun h => ?_) (fun h => ?_)
 ·
  refine XK.seq ?_
  refine XK.region ?_
  refine xk_move rfl (by decide) ?_
  refine xk_assign rfl (by decide) ?_
  refine xk_assign rfl (by decide) ?_
  refine XK.nilN ?_
  refine XK.ret ?_
  refine XK.norm ?_
  exact XK.ret2 rfl rfl rfl fun w1 st => by
   rw [orderE_bad h]
   exact OrdOk.nil (st.below (by simp))
 ·
  have h0 : numbersG g = 0 := Classical.byContradiction h
  obtain ⟨hn100, hin⟩ := numbersG_zero h0
  refine XK.skip ?_
  refine XK.norm ?_
  refine XK.seq ?_
  refine XK.region ?_
  refine xk_move rfl (by decide) ?_
  refine xk_callN (f := 131) (fi := []) (ca := []) (by kernel_rfl) rfl rfl (by decide) (HangOk g n) (fun w1 st => hang_any A n c g w1 (hg.le (all_le (st.started (by simp)))) hn (by omega) hin hlen) ?_
  rintro _ _ q ⟨gW, gU, rfl, rfl, hq⟩ hfq
  refine xk_move rfl (by decide) ?_
  refine xk_extract rfl rfl (by decide) ?_
  refine xk_extract rfl rfl (by decide) ?_
  refine xk_assign rfl (by decide) ?_
  refine xk_assign rfl (by decide) ?_
  refine XK.nilN ?_
  refine XK.seq ?_
  refine XK.region ?_
  refine xk_makeMap (by decide) fun r => ?_
  refine xk_assign rfl (by decide) ?_
  refine XK.nilN ?_
  refine XK.seq ?_
  refine XK.region ?_
  refine xk_assign rfl (by decide) ?_
  refine XK.nilN ?_
  refine XK.seq ?_
  refine XK.nilrow 3 1 ?_
  refine XK.envS [(8, .slice none 0 0), (7, .map (some r)), (6, .slice (some ⟨gU, 0, none⟩) n n), (5, .slice (some ⟨gW, 0, none⟩) n n), (0, .slice A n c)] ?_
  refine XK.block ?_
  refine XK.loop (fun m e R H => ∃ (M : List Nat) (A' : Option Addr) (c' : Nat), M.length ≤ n ∧ m = n - M.length ∧ orderG g (n - M.length) M = orderG g g.length [] ∧ e = [(8, .slice A' M.length c'), (7, .map (some r)), (6, .slice (some ⟨gU, 0, none⟩) n n), (5, .slice (some ⟨gW, 0, none⟩) n n), (0, .slice A n c)] ∧ R = [q, all w] ∧ H = [HP.own 3 1 (.slice A' M.length c') M.length (intCells (natI M)), HP.map r (setL (natI M)), HP.blk gW 3 (intCells (waitsG g M))]) n ⟨[], none, 0, by simp, rfl, by rw [hn]; rfl, rfl, rfl, by rw [hn, waits_start hin]; rfl⟩ fun m e R H hI => ?_
  obtain ⟨M, A', c', hM, rfl, hord, rfl, rfl, rfl⟩ := hI
  refine XK.seq ?_
  refine XK.seq ?_
  refine XK.region ?_
  refine xk_move rfl (by decide) ?_
  refine xk_len (el := 3) (by kernel_rfl) rfl (by decide) ?_
  refine xk_move rfl (by decide) ?_
  refine xk_len (el := 22) (by kernel_rfl) rfl (by decide) ?_
  refine xk_lss rfl rfl (by decide) ?_
  refine XK.nilN ?_
  refine XK.if_ rfl (fun h => ?_) (fun h => ?_)
  ·
   refine XK.skip ?_
   refine XK.norm ?_
   refine XK.block ?_
   refine XK.seq ?_
   refine XK.region ?_
   refine xk_assign rfl (by decide) ?_
   refine XK.nilN ?_
   refine XK.cut (fun e R H => ∃ v : Nat, v ≤ n ∧ (∀ j, j < v → okN g M j = false) ∧ (v < n → okN g M v = true) ∧ e = [(9, .int .i64 v), (8, .slice A' M.length c'), (7, .map (some r)), (6, .slice (some ⟨gU, 0, none⟩) n n), (5, .slice (some ⟨gW, 0, none⟩) n n), (0, .slice A n c)] ∧ R = [q, all w] ∧ H = [HP.own 3 1 (.slice A' M.length c') M.length (intCells (natI M)), HP.map r (setL (natI M)), HP.blk gW 3 (intCells (waitsG g M))]) ?_ ?_
   ·
    refine XK.envS [(9, .int .i64 0), (8, .slice A' M.length c'), (7, .map (some r)), (6, .slice (some ⟨gU, 0, none⟩) n n), (5, .slice (some ⟨gW, 0, none⟩) n n), (0, .slice A n c)] ?_
    refine XK.block ?_
    refine XK.loop (fun m e R H => ∃ v : Nat, v ≤ n ∧ m = n - v ∧ (∀ j, j < v → okN g M j = false) ∧ e = [(9, .int .i64 v), (8, .slice A' M.length c'), (7, .map (some r)), (6, .slice (some ⟨gU, 0, none⟩) n n), (5, .slice (some ⟨gW, 0, none⟩) n n), (0, .slice A n c)] ∧ R = [q, all w] ∧ H = [HP.own 3 1 (.slice A' M.length c') M.length (intCells (natI M)), HP.map r (setL (natI M)), HP.blk gW 3 (intCells (waitsG g M))]) n ⟨0, by omega, rfl, fun j h => absurd h (by omega), rfl, rfl, rfl⟩ fun m e R H hI => ?_
    obtain ⟨v, hv, rfl, hno, rfl, rfl, rfl⟩ := hI
    refine XK.seq ?_
    refine XK.seq ?_
    refine XK.region ?_
    refine xk_move rfl (by decide) ?_
    refine xk_move rfl (by decide) ?_
    refine xk_len (el := 22) (by kernel_rfl) rfl (by decide) ?_
    refine xk_lss rfl rfl (by decide) ?_
    refine xk_move rfl (by decide) ?_
    refine xk_split (t := 32) rfl (fun hlt => ?_) (fun hlt => ?_)
    ·
     refine xk_guardT rfl rfl ?_; refine xk_move rfl (by decide) ?_
     refine xk_guardT rfl rfl ?_; refine xk_move rfl (by decide) ?_
     refine xk_guardT rfl rfl ?_; refine xk_callR (f := 132) (fi := []) (ca := []) (by kernel_rfl) rfl rfl (by decide) (fun w1 st => (natI_has M v) ▸ marks_has r v (natI M) w1 (st.map (i := 1) rfl)) ?_
     refine xk_guardT rfl rfl ?_; refine xk_move rfl (by decide) ?_
     refine xk_splitB (t := 36) rfl (fun hc => ?_) (fun hc => ?_)
     ·
      refine xk_guardF rfl rfl rfl (by decide) ?_
      refine xk_guardF rfl rfl rfl (by decide) ?_
      refine xk_guardF rfl rfl rfl (by decide) ?_
      refine xk_guardF rfl rfl rfl (by decide) ?_
      refine xk_guardF rfl rfl rfl (by decide) ?_
      refine xk_guardT rfl rfl ?_; (first | refine xk_pickT rfl rfl (by decide) ?_ | refine xk_pickF rfl rfl (by decide) ?_)
      (first | refine xk_pickT rfl rfl (by decide) ?_ | refine xk_pickF rfl rfl (by decide) ?_)
      refine XK.nilN ?_
      refine XK.cond rfl (fun _ => ?_) (fun h => by cases h)
      refine XK.skip ?_
      refine XK.norm ?_
      refine XK.block ?_
      refine XK.region ?_
      refine xk_move rfl (by decide) ?_
      refine xk_add rfl rfl (wrap_in (by omega)) (by decide) ?_
      refine xk_assign rfl (by decide) ?_
      refine XK.nilN ?_
      exact XK.envS [(9, .int .i64 (v + 1)), (8, .slice A' M.length c'), (7, .map (some r)), (6, .slice (some ⟨gU, 0, none⟩) n n), (5, .slice (some ⟨gW, 0, none⟩) n n), (0, .slice A n c)] (XK.round (n - (v + 1)) (by omega) ⟨v + 1, by omega, rfl, all_snoc hno (okN_met hc), rfl, rfl, rfl⟩)
     ·
      refine xk_guardT rfl rfl ?_; refine xk_move rfl (by decide) ?_
      refine xk_guardT rfl rfl ?_; refine xk_move rfl (by decide) ?_
      have hvn : v < g.length := by omega
      refine xk_guardT rfl rfl ?_; refine xk_at (v) (v) (el := 3) (sz := 1) (by kernel_rfl) (by kernel_rfl) rfl rfl (by omega) (by omega) (by omega) (by decide) ?_
      refine xk_guardT rfl rfl ?_; refine xk_load (by kernel_rfl) rfl (Rd.blk 2 rfl (intCells_at (waitsG_get hvn))) (by decide) ?_
      refine xk_guardT rfl rfl ?_; refine xk_gtr rfl rfl (by decide) ?_
      refine xk_guardT rfl rfl ?_; (first | refine xk_pickT rfl rfl (by decide) ?_ | refine xk_pickF rfl rfl (by decide) ?_)
      (first | refine xk_pickT rfl rfl (by decide) ?_ | refine xk_pickF rfl rfl (by decide) ?_)
      refine XK.nilN ?_
      refine XK.if_ rfl (fun h => ?_) (fun h => ?_)
      ·
       refine XK.skip ?_
       refine XK.norm ?_
       refine XK.block ?_
       refine XK.region ?_
       refine xk_move rfl (by decide) ?_
       refine xk_add rfl rfl (wrap_in (by omega)) (by decide) ?_
       refine xk_assign rfl (by decide) ?_
       refine XK.nilN ?_
       exact XK.envS [(9, .int .i64 (v + 1)), (8, .slice A' M.length c'), (7, .map (some r)), (6, .slice (some ⟨gU, 0, none⟩) n n), (5, .slice (some ⟨gW, 0, none⟩) n n), (0, .slice A n c)] (XK.round (n - (v + 1)) (by omega) ⟨v + 1, by omega, rfl, all_snoc hno (okN_waits h), rfl, rfl, rfl⟩)
      ·
       refine XK.exit ?_
       refine XK.norm ?_
       exact XK.envS [(9, .int .i64 v), (8, .slice A' M.length c'), (7, .map (some r)), (6, .slice (some ⟨gU, 0, none⟩) n n), (5, .slice (some ⟨gW, 0, none⟩) n n), (0, .slice A n c)] (XK.meet ⟨v, hv, hno, fun _ => okN_free hc h, rfl, rfl, rfl⟩)
    ·
     refine xk_guardF rfl rfl rfl (by decide) ?_
     refine xk_guardF rfl rfl rfl (by decide) ?_
     refine xk_guardF rfl rfl rfl (by decide) ?_
     refine xk_guardF rfl rfl rfl (by decide) ?_
     refine xk_guardU rfl rfl (by decide) ?_
     refine xk_guardU rfl rfl (by decide) ?_
     refine xk_guardU rfl rfl (by decide) ?_
     refine xk_guardU rfl rfl (by decide) ?_
     refine xk_guardU rfl rfl (by decide) ?_
     refine xk_guardF rfl rfl rfl (by decide) ?_
     (first | refine xk_pickT rfl rfl (by decide) ?_ | refine xk_pickF rfl rfl (by decide) ?_)
     refine XK.nilN ?_
     refine XK.cond rfl (fun h => by cases h) (fun _ => ?_)
     refine XK.exit ?_
     refine XK.norm ?_
     exact XK.envS [(9, .int .i64 v), (8, .slice A' M.length c'), (7, .map (some r)), (6, .slice (some ⟨gU, 0, none⟩) n n), (5, .slice (some ⟨gW, 0, none⟩) n n), (0, .slice A n c)] (XK.meet ⟨v, hv, hno, fun h => absurd h (by omega), rfl, rfl, rfl⟩)
   rintro _ _ _ ⟨v, hv, hno, hok, rfl, rfl, rfl⟩
   refine XK.seq ?_
   refine XK.seq ?_
   refine XK.region ?_
   refine xk_move rfl (by decide) ?_
   refine xk_move rfl (by decide) ?_
   refine xk_len (el := 22) (by kernel_rfl) rfl (by decide) ?_
   refine xk_eql rfl rfl (by decide) ?_
   refine XK.nilN ?_
   refine XK.if_ rfl (fun h => ?_) (fun h => ?_)
   ·
    refine XK.seq ?_
    refine XK.region ?_
    refine xk_assign rfl (by decide) ?_
    refine xk_assign rfl (by decide) ?_
    refine XK.nilN ?_
    refine XK.ret ?_
    refine XK.norm ?_
    exact XK.ret2 rfl rfl rfl fun w1 st => by
     have hnone : orderG g g.length [] = none := by
      rw [← hord, show n - M.length = (n - M.length - 1) + 1 by omega]
      exact orderG_stop (nextG_none fun j hj => hno j (by omega))
     rw [orderE_none h0 hnone]
     exact OrdOk.nil (st.below (by simp))
   ·
    have hvn : v < n := by omega
    have hv1 := hok hvn
    have hMv : M.contains v = false := by
     cases hb : M.contains v with
     | false => rfl
     | true => rw [okN_met hb] at hv1; cases hv1
    have hnx := nextG_some (by omega : v < g.length) hno hv1
    have hU := users_row hin (by omega : v < g.length)
    rw [← hn] at hU
    obtain ⟨b1, o1, B1, d1, hA1, hz1, hcl1, hs1⟩ := hq.rowP hU
    cases hA1
    have hul := usersG_len g v
    refine XK.skip ?_
    refine XK.norm ?_
    refine XK.seq ?_
    refine XK.region ?_
    refine xk_move rfl (by decide) ?_
    refine xk_move rfl (by decide) ?_
    refine xk_callM (f := 133) (fi := []) (ca := []) 1 (HP.map r (setL (if (natI M).contains (v : Int) then natI M else natI M ++ [(v : Int)]))) (by kernel_rfl) rfl rfl rfl ⟨by decide, rfl⟩ (fun w1 F st hp hF => marks_add r v (natI M) w1 F hp hF) ?_
    dsimp only [List.set]
    rw [if_neg (by rw [natI_has, hMv]; decide), ← natI_snoc]
    refine XK.nilN ?_
    refine XK.seq ?_
    refine XK.region ?_
    refine xk_move rfl (by decide) ?_
    refine xk_move rfl (by decide) ?_
    refine xk_slice (el := 3) (sz := 1) (zs := [.int .i64 0]) (by kernel_rfl) (zeroB_of (by kernel_rfl)) (by kernel_rfl) rfl (by decide) (by decide) rfl (by simp [fillL, setN, Value.cells, List.range_succ, List.set]; rfl) (by decide) fun g1 => ?_
    refine xk_appendT 1 1 8 1 (n' := (M ++ [v]).length) (el := 3) (by kernel_rfl) (by kernel_rfl) (by decide) rfl rfl rfl (sl_blk 0 rfl rfl) (by simp [Value.oneCell']) (by simp) (by simp; omega) (by simp; omega) (by decide) fun A2 c2 => ?_
    dsimp only [List.set]
    rw [intCells_snoc, ← natI_snoc]
    refine xk_assign rfl (by decide) ?_
    refine XK.nilN ?_
    refine XK.seq ?_
    refine XK.region ?_
    refine xk_move rfl (by decide) ?_
    refine xk_move rfl (by decide) ?_
    refine xk_at (v) (v) (el := 22) (sz := 1) (by kernel_rfl) (by kernel_rfl) rfl rfl (by omega) (by omega) (by omega) (by decide) ?_
    refine xk_load (by kernel_rfl) rfl (Rd.ro (p := q) (by simp) hz1 (by simpa using hcl1)) (by decide) ?_
    refine xk_len (el := 3) (by kernel_rfl) rfl (by decide) ?_
    refine xk_move rfl (by decide) ?_
    refine XK.nilN ?_
    refine XK.weak [1, 2, 3] rfl (by decide) (fun _ hp => hp) ?_
    refine XK.envS [(62, .int .i64 0), (61, .int .i64 (usersG g v).length), (60, .slice B1 (usersG g v).length d1), (8, .slice A2 (M ++ [v]).length c2), (7, .map (some r)), (6, .slice (some ⟨gU, 0, none⟩) n n), (5, .slice (some ⟨gW, 0, none⟩) n n), (0, .slice A n c)] ?_
    refine XK.block ?_
    refine XK.loop (fun m e R H => ∃ j : Nat, j ≤ (usersG g v).length ∧ m = (usersG g v).length - j ∧ e = [(62, .int .i64 j), (61, .int .i64 (usersG g v).length), (60, .slice B1 (usersG g v).length d1), (8, .slice A2 (M ++ [v]).length c2), (7, .map (some r)), (6, .slice (some ⟨gU, 0, none⟩) n n), (5, .slice (some ⟨gW, 0, none⟩) n n), (0, .slice A n c)] ∧ R = [q, all w] ∧ H = [HP.own 3 1 (.slice A2 (M ++ [v]).length c2) (M ++ [v]).length (intCells (natI (M ++ [v]))), HP.map r (setL (natI (M ++ [v]))), HP.blk gW 3 (intCells (decBy (waitsG g M) ((usersG g v).take j)))]) (usersG g v).length ⟨0, by omega, rfl, rfl, rfl, rfl⟩ fun m e R H hI => ?_
    obtain ⟨j, hj, rfl, rfl, rfl, rfl⟩ := hI
    refine XK.seq ?_
    refine XK.region ?_
    refine xk_lss rfl rfl (by decide) ?_
    refine XK.nilN ?_
    refine XK.seq ?_
    refine XK.if_ rfl (fun h => ?_) (fun h => ?_)
    ·
     refine XK.skip ?_
     refine XK.norm ?_
     refine XK.seq ?_
     refine XK.block ?_
     refine XK.seq ?_
     have hjl : j < (usersG g v).length := by omega
     obtain ⟨b2, off2, rfl, hz2, hc2⟩ := hs1.2 (by omega)
     obtain ⟨u, hu⟩ : ∃ u, (usersG g v)[j]? = some u := ⟨_, List.getElem?_eq_getElem hjl⟩
     have c3 := hc2 j _ (intCells_at hu)
     obtain ⟨hu0, hun⟩ := usersG_mem (List.mem_of_getElem? hu)
     have hug : u.toNat < g.length := by omega
     have hx := decBy_get ((usersG g v).take j) (waitsG g M) u.toNat (fun y hy => (usersG_mem (List.mem_of_mem_take hy)).1) (by rw [waitsG_len]; exact hug)
     rw [waitsG_get hug] at hx
     have hcnt : ((usersG g v).take j).count ((u.toNat : Nat) : Int) ≤ j := Nat.le_trans List.count_le_length (by simp; omega)
     obtain ⟨x, hxe⟩ : ∃ x : Int, x = (some (waitN g M u.toNat : Int)).getD 0 - (((usersG g v).take j).count ((u.toNat : Nat) : Int) : Int) := ⟨_, rfl⟩
     rw [← hxe] at hx
     have hwl := waitN_le g M u.toNat
     have hgl : ((g[u.toNat]?.getD []).length : Int) ≤ 9223372036854775806 := by
      rw [List.getElem?_eq_getElem hug]; exact hlen _ (List.getElem_mem _)
     simp only [Option.getD_some] at hxe
     refine XK.region ?_
     refine xk_at (j) (off2 + j) (el := 3) (sz := 1) (by kernel_rfl) (by kernel_rfl) rfl rfl (by omega) (by omega) (by omega) (by decide) ?_
     refine xk_load (by kernel_rfl) rfl (Rd.ro (p := q) (by simp) hz2 c3) (by decide) ?_
     refine xk_assign rfl (by decide) ?_
     refine XK.nilN ?_
     refine XK.region ?_
     refine xk_move rfl (by decide) ?_
     refine xk_move rfl (by decide) ?_
     refine xk_at (u.toNat) (u.toNat) (el := 3) (sz := 1) (by kernel_rfl) (by kernel_rfl) rfl rfl (by omega) (by omega) (by omega) (by decide) ?_
     refine xk_load (by kernel_rfl) rfl (Rd.blk 2 rfl (intCells_at hx)) (by decide) ?_
     refine xk_sub rfl rfl (wrap_in (by omega)) (by decide) ?_
     refine xk_at (u.toNat) (u.toNat) (el := 3) (sz := 1) (by kernel_rfl) (by kernel_rfl) rfl rfl (by omega) (by omega) (by omega) (by decide) ?_
     refine xk_store 2 rfl (by kernel_rfl) rfl rfl rfl (by rw [show (intCells (decBy (waitsG g M) ((usersG g v).take j))).length = g.length by simp [intCells, decBy_len, waitsG_len]]; exact hug) ?_
     dsimp only [List.set]
     rw [waits_set _ _ j u x hu hx]
     refine XK.nilN ?_
     refine XK.region ?_
     refine xk_add rfl rfl (wrap_in (by omega)) (by decide) ?_
     refine xk_move rfl (by decide) ?_
     refine XK.nilN ?_
     exact XK.envS [(62, .int .i64 (j + 1)), (61, .int .i64 (usersG g v).length), (60, .slice (some ⟨b2, off2, none⟩) (usersG g v).length d1), (8, .slice A2 (M ++ [v]).length c2), (7, .map (some r)), (6, .slice (some ⟨gU, 0, none⟩) n n), (5, .slice (some ⟨gW, 0, none⟩) n n), (0, .slice A n c)] (XK.round ((usersG g v).length - (j + 1)) (by omega) ⟨j + 1, by omega, rfl, rfl, rfl, rfl⟩)
    ·
     refine XK.exit ?_
     refine XK.norm ?_
     exact XK.envS [(8, .slice A2 (M ++ [v]).length c2), (7, .map (some r)), (6, .slice (some ⟨gU, 0, none⟩) n n), (5, .slice (some ⟨gW, 0, none⟩) n n), (0, .slice A n c)] (XK.round (n - (M ++ [v]).length) (by simp; omega) ⟨M ++ [v], A2, c2, (by simp; omega), rfl, by rw [← hord, show n - M.length = (n - (M ++ [v]).length) + 1 by simp; omega, orderG_step hnx], rfl, rfl, by rw [show j = (usersG g v).length by omega, List.take_length, waits_snoc hin hMv]⟩)
  ·
   refine XK.exit ?_
   refine XK.norm ?_
   refine XK.seq ?_
   refine XK.region ?_
   refine xk_move rfl (by decide) ?_
   refine xk_assign rfl (by decide) ?_
   refine xk_assign rfl (by decide) ?_
   refine XK.nilN ?_
   refine XK.ret ?_
   refine XK.norm ?_
   refine XK.still [] [0] [] (by simp) rfl (by decide) (by decide) fun p hp _ hfr => ?_
   refine XK.ret2 rfl rfl rfl fun w1 st => ?_
   have hsome : orderG g g.length [] = some M := by rw [← hord, show n - M.length = 0 by omega]; rfl
   rw [orderE_some h0 hsome]
   exact ⟨⟨_, _, _, rfl, rfl, (SlS.own (hp 0 _ (by simp) rfl)).le (st.fresh_le (by simp) (hfr (by simp) (by simp)))⟩, st.below (by simp)⟩
end
section
set_option maxHeartbeats 4000000
set_option maxRecDepth 20000
theorem zeros_snoc {es : List Int} {k : Nat} (hz : ∀ j, j < k → es[j]? = some 0) (h : es[k]? = some 0) : ∀ j, j < k + 1 → es[j]? = some 0 := fun j hj => by
 rcases Nat.lt_or_ge j k with h1 | h1
 ·exact hz j h1
 ·have : j = k := by omega
  rw [this]
  exact h
theorem when_any (b : Bool) (e : Int) (w : World) :
  Calls Tryz.prog 99 #[.bool b, .int .i64 e] w (Rt (.int .i64 (whenE b e)) w) := by
 refine XK.enter (vs := [.bool b, .int .i64 e]) Tryz.func99 rfl Tryz.ntmps99 (by simp) ?_
 refine XK.go ?_
 refine XK.cond rfl (fun h => ?_) (fun h => ?_)
 ·
  refine XK.go ?_
  exact XK.ret1 rfl rfl fun w1 st => ⟨by simp [whenE, h], st.below (by simp)⟩
 ·
  refine XK.go ?_
  exact XK.ret1 rfl rfl fun w1 st => ⟨by simp [whenE, h], st.below (by simp)⟩
theorem within_any (n lo hi : Int) (w : World) :
  Calls Tryz.prog 105 #[.int .i64 n, .int .i64 lo, .int .i64 hi] w (Rt (.bool (withinB n lo hi)) w) := by
 refine XK.enter (vs := [.int .i64 n, .int .i64 lo, .int .i64 hi]) Tryz.func105 rfl Tryz.ntmps105 (by simp) ?_
 refine XK.go ?_
 refine xk_split (t := 10) rfl (fun hg => ?_) (fun hg => ?_)
 ·
  refine XK.go ?_
  exact XK.ret1 rfl rfl fun w1 st => ⟨by simp [withinB, hg], st.below (by simp)⟩
 ·
  refine XK.go ?_
  exact XK.ret1 rfl rfl fun w1 st => ⟨by simp [withinB, hg], st.below (by simp)⟩
theorem first_any (A : Option Addr) (n c : Nat) (fs : List (FuncId × List Value)) (es : List Int) (w : World) (hs : SlS (all w) 1 A n (fs.map fun f => .func (.func f.1) #[] f.2.toArray)) (hn : fs.length = n) (hl : es.length = n) (hn2 : (n : Int) ≤ 9223372036854775806) (hc : ∀ f ∈ fs, callB Tryz.prog f.1 = true)
  (hf : ∀ (i : Nat) (f : FuncId × List Value) (e : Int), fs[i]? = some f → es[i]? = some e → ∀ w', Below w.heap.size w w' → Calls Tryz.prog f.1 f.2.toArray w' (Rt (.int .i64 e) w')) :
  Calls Tryz.prog 61 #[.slice A n c] w (Rt (.int .i64 (firstE es)) w) := by
 refine XK.enter (vs := [.slice A n c]) Tryz.func61 rfl Tryz.ntmps61 (by simp) ?_
 refine XK.go ?_
 refine XK.envS [(8, .int .i64 0), (7, .int .i64 n), (6, .slice A n c)] ?_
 refine XK.go ?_
 refine XK.loop (fun m e R H => ∃ k : Nat, k ≤ n ∧ m = n - k ∧ (∀ j, j < k → es[j]? = some 0) ∧ e = [(8, .int .i64 k), (7, .int .i64 n), (6, .slice A n c)] ∧ R = [all w] ∧ H = []) n ⟨0, by omega, rfl, fun j hj => absurd hj (by omega), rfl, rfl, rfl⟩ fun m e R H hI => ?_
 obtain ⟨k, hk, rfl, hz, rfl, rfl, rfl⟩ := hI
 refine XK.go ?_
 refine XK.if_ rfl (fun h => ?_) (fun h => ?_)
 ·
  refine XK.go ?_
  have hkn : k < n := by omega
  obtain ⟨f, hf1⟩ : ∃ f, fs[k]? = some f := ⟨fs[k]'(by omega), List.getElem?_eq_getElem _⟩
  obtain ⟨e1, he1⟩ : ∃ e, es[k]? = some e := ⟨es[k]'(by omega), List.getElem?_eq_getElem _⟩
  obtain ⟨b, off, rfl, hzb, hc1⟩ := hs.2 (by omega)
  have c1 : ROc w b (off + k) (.func (.func f.1) #[] f.2.toArray) := ⟨hzb, hc1 k _ (by simp [hf1])⟩
  refine XK.go ?_
  refine xk_at (k) (off + k) (el := 217) (sz := 1) (by kernel_rfl) (by kernel_rfl) rfl rfl (by omega) (by omega) (by omega) (by decide) ?_
  refine XK.go ?_
  refine xk_callR (f := f.1) (fi := []) (ca := f.2) (hc f (List.mem_of_getElem? hf1)) rfl rfl (by decide) (fun w1 st => by have := hf k f e1 hf1 he1 w1 (st.started (by simp)); simpa using this) ?_
  refine XK.go ?_
  refine XK.if_ rfl (fun h => ?_) (fun h => ?_)
  ·
   refine XK.go ?_
   exact XK.ret1 rfl rfl fun w1 st => ⟨by rw [firstE_at hz he1 h], st.below (by simp)⟩
  ·
   refine XK.go ?_
   exact XK.envS [(8, .int .i64 (k + 1)), (7, .int .i64 n), (6, .slice (some ⟨b, off, none⟩) n c)] (XK.round (n - (k + 1)) (by omega) ⟨k + 1, by omega, rfl, (zeros_snoc hz (by rw [he1, show e1 = 0 by omega])), rfl, rfl, rfl⟩)
 ·
  refine XK.go ?_
  exact XK.ret1 rfl rfl fun w1 st => ⟨by rw [firstE_none (fun j hj => hz j (by omega))], st.below (by simp)⟩
theorem each_int (A : Option Addr) (n c : Nat) (id : FuncId) (ca : List Value) (rows : List (List Value)) (es : List Int) (w : World) (hs : SlS (all w) 1 A n rows.flatten) (hr : ∀ r ∈ rows, r.length = 1) (hn : rows.length = n) (hl : es.length = n) (hn2 : (n : Int) ≤ 9223372036854775806) (hc : callB Tryz.prog id = true)
  (hf : ∀ (i : Nat) (r : List Value) (e : Int), rows[i]? = some r → es[i]? = some e → ∀ w', Below w.heap.size w w' → Calls Tryz.prog id (r ++ ca).toArray w' (Rt (.int .i64 e) w')) :
  Calls Tryz.prog 103 #[.slice A n c, .func (.func id) #[] ca.toArray] w (Rt (.int .i64 (firstE es)) w) := by
 refine XK.enter (vs := [.slice A n c, .func (.func id) #[] ca.toArray]) Tryz.func103 rfl Tryz.ntmps103 (by simp) ?_
 refine XK.go ?_
 refine XK.envS [(10, .int .i64 0), (9, .int .i64 n), (8, .slice A n c), (1, .func (.func id) #[] ca.toArray)] ?_
 refine XK.go ?_
 refine XK.loop (fun m e R H => ∃ k : Nat, k ≤ n ∧ m = n - k ∧ (∀ j, j < k → es[j]? = some 0) ∧ e = [(10, .int .i64 k), (9, .int .i64 n), (8, .slice A n c), (1, .func (.func id) #[] ca.toArray)] ∧ R = [all w] ∧ H = []) n ⟨0, by omega, rfl, fun j hj => absurd hj (by omega), rfl, rfl, rfl⟩ fun m e R H hI => ?_
 obtain ⟨k, hk, rfl, hz, rfl, rfl, rfl⟩ := hI
 refine XK.go ?_
 refine XK.if_ rfl (fun h => ?_) (fun h => ?_)
 ·
  refine XK.go ?_
  have hkn : k < n := by omega
  obtain ⟨r, hr1⟩ : ∃ r, rows[k]? = some r := ⟨rows[k]'(by omega), List.getElem?_eq_getElem _⟩
  obtain ⟨e1, he1⟩ : ∃ e, es[k]? = some e := ⟨es[k]'(by omega), List.getElem?_eq_getElem _⟩
  obtain ⟨b, off, rfl, c1⟩ := hs.row hr hr1 hkn
  have hr2 := hr r (List.mem_of_getElem? hr1)
  obtain ⟨v, rfl⟩ : ∃ v, r = [v] := by match r, hr2 with | [v], _ => exact ⟨v, rfl⟩
  have c2 := c1.at_ (j := 0) rfl
  refine XK.go ?_
  refine xk_at (k) (off + k * 1) (el := 3) (sz := 1) (by kernel_rfl) (by kernel_rfl) rfl rfl (by omega) (by omega) (by omega) (by decide) ?_
  refine XK.go ?_
  refine xk_callR (f := id) (fi := []) (ca := ca) hc rfl rfl (by decide) (fun w1 st => by have := hf k [v] e1 hr1 he1 w1 (st.started (by simp)); simpa using this) ?_
  refine XK.go ?_
  refine XK.if_ rfl (fun h => ?_) (fun h => ?_)
  ·
   refine XK.go ?_
   exact XK.ret1 rfl rfl fun w1 st => ⟨by rw [firstE_at hz he1 h], st.below (by simp)⟩
  ·
   refine XK.go ?_
   exact XK.envS [(10, .int .i64 (k + 1)), (9, .int .i64 n), (8, .slice (some ⟨b, off, none⟩) n c), (1, .func (.func id) #[] ca.toArray)] (XK.round (n - (k + 1)) (by omega) ⟨k + 1, by omega, rfl, (zeros_snoc hz (by rw [he1, show e1 = 0 by omega])), rfl, rfl, rfl⟩)
 ·
  refine XK.go ?_
  exact XK.ret1 rfl rfl fun w1 st => ⟨by rw [firstE_none (fun j hj => hz j (by omega))], st.below (by simp)⟩
theorem each_clk (A : Option Addr) (n c : Nat) (id : FuncId) (ca : List Value) (rows : List (List Value)) (es : List Int) (w : World) (hs : SlS (all w) 6 A n rows.flatten) (hr : ∀ r ∈ rows, r.length = 6) (hone : ∀ r ∈ rows, ∀ u ∈ r, u.oneCell' = true) (hn : rows.length = n) (hl : es.length = n) (hn2 : (n : Int) ≤ 9223372036854775806) (hc : callB Tryz.prog id = true)
  (hf : ∀ (i : Nat) (r : List Value) (e : Int), rows[i]? = some r → es[i]? = some e → ∀ w', Below w.heap.size w w' → Calls Tryz.prog id ([Value.agg r.toArray] ++ ca).toArray w' (Rt (.int .i64 e) w')) :
  Calls Tryz.prog 65 #[.slice A n c, .func (.func id) #[] ca.toArray] w (Rt (.int .i64 (firstE es)) w) := by
 refine XK.enter (vs := [.slice A n c, .func (.func id) #[] ca.toArray]) Tryz.func65 rfl Tryz.ntmps65 (by simp) ?_
 refine XK.seq ?_
 refine XK.region ?_
 refine xk_assign rfl (by decide) ?_
 refine XK.nilN ?_
 refine XK.seq ?_
 refine XK.seq ?_
 refine XK.region ?_
 refine xk_move rfl (by decide) ?_
 refine xk_len (el := 64) (by kernel_rfl) rfl (by decide) ?_
 refine xk_move rfl (by decide) ?_
 refine XK.nilN ?_
 refine XK.envS [(10, .int .i64 0), (9, .int .i64 n), (8, .slice A n c), (1, .func (.func id) #[] ca.toArray)] ?_
 refine XK.block ?_
 refine XK.loop (fun m e R H => ∃ k : Nat, k ≤ n ∧ m = n - k ∧ (∀ j, j < k → es[j]? = some 0) ∧ e = [(10, .int .i64 k), (9, .int .i64 n), (8, .slice A n c), (1, .func (.func id) #[] ca.toArray)] ∧ R = [all w] ∧ H = []) n ⟨0, by omega, rfl, fun j hj => absurd hj (by omega), rfl, rfl, rfl⟩ fun m e R H hI => ?_
 obtain ⟨k, hk, rfl, hz, rfl, rfl, rfl⟩ := hI
 refine XK.seq ?_
 refine XK.region ?_
 refine xk_lss rfl rfl (by decide) ?_
 refine XK.nilN ?_
 refine XK.seq ?_
 refine XK.if_ rfl (fun h => ?_) (fun h => ?_)
 ·
  refine XK.skip ?_
  refine XK.norm ?_
  refine XK.seq ?_
  refine XK.block ?_
  refine XK.seq ?_
  have hkn : k < n := by omega
  obtain ⟨r, hr1⟩ : ∃ r, rows[k]? = some r := ⟨rows[k]'(by omega), List.getElem?_eq_getElem _⟩
  obtain ⟨e1, he1⟩ : ∃ e, es[k]? = some e := ⟨es[k]'(by omega), List.getElem?_eq_getElem _⟩
  obtain ⟨b, off, rfl, c1⟩ := hs.row hr hr1 hkn
  have hr2 := hr r (List.mem_of_getElem? hr1)
  refine XK.region ?_
  refine xk_at (k) (off + k * 6) (el := 64) (sz := 6) (by kernel_rfl) (by kernel_rfl) rfl rfl (by omega) (by omega) (by omega) (by decide) ?_
  refine xk_loadN 6 (by kernel_rfl) rfl (by first | assumption | exact RdN.whole 0 rfl | exact RdN.whole 1 rfl | exact RdN.whole 2 rfl | exact RdN.whole 3 rfl | exact RdN.whole 4 rfl | exact RdN.whole 5 rfl | exact RdN.whole 6 rfl | exact RdN.whole 7 rfl | exact RdN.whole 8 rfl | exact RdN.roc (by simp) (by assumption)) hr2 (by decide) ?_
  refine xk_alloc (cs := [.int .u8 0, .slice none 0 0, .int .u64 0, .int .i64 0, .int .i64 0, .int .i64 0]) (zeroB_of (by kernel_rfl)) (by decide) fun g1 => ?_
  refine xk_storeN 0 rfl rfl rfl (by rw [show (Value.agg r.toArray).cells.size = 6 by simp [Value.cells, hr2]]; kernel_rfl) (hone r (List.mem_of_getElem? hr1)) (by simp [Value.cells, hr2]) ?_
  rw [putN_all (by simp [Value.cells, hr2])]
  dsimp only [List.set, Value.cells]
  refine XK.nilN ?_
  refine XK.seq ?_
  refine XK.region ?_
  refine xk_move rfl (by decide) ?_
  refine xk_loadN 6 (by kernel_rfl) rfl (by first | assumption | exact RdN.whole 0 rfl | exact RdN.whole 1 rfl | exact RdN.whole 2 rfl | exact RdN.whole 3 rfl | exact RdN.whole 4 rfl | exact RdN.whole 5 rfl | exact RdN.whole 6 rfl | exact RdN.whole 7 rfl | exact RdN.whole 8 rfl | exact RdN.roc (by simp) (by assumption)) hr2 (by decide) ?_
  refine xk_callR (f := id) (fi := []) (ca := ca) hc rfl rfl (by decide) (fun w1 st => by have := hf k r e1 hr1 he1 w1 (st.started (by simp)); simpa using this) ?_
  refine xk_assign rfl (by decide) ?_
  refine XK.nilN ?_
  refine XK.seq ?_
  refine XK.region ?_
  refine xk_move rfl (by decide) ?_
  refine xk_neq rfl rfl (by decide) ?_
  refine XK.nilN ?_
  refine XK.if_ rfl (fun h => ?_) (fun h => ?_)
  ·
   refine XK.seq ?_
   refine XK.region ?_
   refine xk_move rfl (by decide) ?_
   refine xk_assign rfl (by decide) ?_
   refine XK.nilN ?_
   refine XK.ret ?_
   refine XK.norm ?_
   exact XK.ret1 rfl rfl fun w1 st => ⟨by rw [firstE_at hz he1 h], st.below (by simp)⟩
  ·
   refine XK.skip ?_
   refine XK.norm ?_
   refine XK.region ?_
   refine xk_add rfl rfl (wrap_in (by omega)) (by decide) ?_
   refine xk_move rfl (by decide) ?_
   refine XK.nilN ?_
   exact XK.weak [] rfl (by decide) (by simp) (XK.envS [(10, .int .i64 (k + 1)), (9, .int .i64 n), (8, .slice (some ⟨b, off, none⟩) n c), (1, .func (.func id) #[] ca.toArray)] (XK.round (n - (k + 1)) (by omega) ⟨k + 1, by omega, rfl, (zeros_snoc hz (by rw [he1, show e1 = 0 by omega])), rfl, rfl, rfl⟩))
 ·
  refine XK.exit ?_
  refine XK.norm ?_
  refine XK.seq ?_
  refine XK.region ?_
  refine xk_assign rfl (by decide) ?_
  refine XK.nilN ?_
  refine XK.ret ?_
  refine XK.norm ?_
  exact XK.ret1 rfl rfl fun w1 st => ⟨by rw [firstE_none (fun j hj => hz j (by omega))], st.below (by simp)⟩
theorem each_dom (A : Option Addr) (n c : Nat) (id : FuncId) (ca : List Value) (rows : List (List Value)) (es : List Int) (w : World) (hs : SlS (all w) 3 A n rows.flatten) (hr : ∀ r ∈ rows, r.length = 3) (hone : ∀ r ∈ rows, ∀ u ∈ r, u.oneCell' = true) (hn : rows.length = n) (hl : es.length = n) (hn2 : (n : Int) ≤ 9223372036854775806) (hc : callB Tryz.prog id = true)
  (hf : ∀ (i : Nat) (r : List Value) (e : Int), rows[i]? = some r → es[i]? = some e → ∀ w', Below w.heap.size w w' → Calls Tryz.prog id ([Value.agg r.toArray] ++ ca).toArray w' (Rt (.int .i64 e) w')) :
  Calls Tryz.prog 72 #[.slice A n c, .func (.func id) #[] ca.toArray] w (Rt (.int .i64 (firstE es)) w) := by
 refine XK.enter (vs := [.slice A n c, .func (.func id) #[] ca.toArray]) Tryz.func72 rfl Tryz.ntmps72 (by simp) ?_
 refine XK.seq ?_
 refine XK.region ?_
 refine xk_assign rfl (by decide) ?_
 refine XK.nilN ?_
 refine XK.seq ?_
 refine XK.seq ?_
 refine XK.region ?_
 refine xk_move rfl (by decide) ?_
 refine xk_len (el := 49) (by kernel_rfl) rfl (by decide) ?_
 refine xk_move rfl (by decide) ?_
 refine XK.nilN ?_
 refine XK.envS [(10, .int .i64 0), (9, .int .i64 n), (8, .slice A n c), (1, .func (.func id) #[] ca.toArray)] ?_
 refine XK.block ?_
 refine XK.loop (fun m e R H => ∃ k : Nat, k ≤ n ∧ m = n - k ∧ (∀ j, j < k → es[j]? = some 0) ∧ e = [(10, .int .i64 k), (9, .int .i64 n), (8, .slice A n c), (1, .func (.func id) #[] ca.toArray)] ∧ R = [all w] ∧ H = []) n ⟨0, by omega, rfl, fun j hj => absurd hj (by omega), rfl, rfl, rfl⟩ fun m e R H hI => ?_
 obtain ⟨k, hk, rfl, hz, rfl, rfl, rfl⟩ := hI
 refine XK.seq ?_
 refine XK.region ?_
 refine xk_lss rfl rfl (by decide) ?_
 refine XK.nilN ?_
 refine XK.seq ?_
 refine XK.if_ rfl (fun h => ?_) (fun h => ?_)
 ·
  refine XK.skip ?_
  refine XK.norm ?_
  refine XK.seq ?_
  refine XK.block ?_
  refine XK.seq ?_
  have hkn : k < n := by omega
  obtain ⟨r, hr1⟩ : ∃ r, rows[k]? = some r := ⟨rows[k]'(by omega), List.getElem?_eq_getElem _⟩
  obtain ⟨e1, he1⟩ : ∃ e, es[k]? = some e := ⟨es[k]'(by omega), List.getElem?_eq_getElem _⟩
  obtain ⟨b, off, rfl, c1⟩ := hs.row hr hr1 hkn
  have hr2 := hr r (List.mem_of_getElem? hr1)
  refine XK.region ?_
  refine xk_at (k) (off + k * 3) (el := 49) (sz := 3) (by kernel_rfl) (by kernel_rfl) rfl rfl (by omega) (by omega) (by omega) (by decide) ?_
  refine xk_loadN 3 (by kernel_rfl) rfl (by first | assumption | exact RdN.whole 0 rfl | exact RdN.whole 1 rfl | exact RdN.whole 2 rfl | exact RdN.whole 3 rfl | exact RdN.whole 4 rfl | exact RdN.whole 5 rfl | exact RdN.whole 6 rfl | exact RdN.whole 7 rfl | exact RdN.whole 8 rfl | exact RdN.roc (by simp) (by assumption)) hr2 (by decide) ?_
  refine xk_alloc (cs := [.int .i64 0, .int .i64 0, .bool false]) (zeroB_of (by kernel_rfl)) (by decide) fun g1 => ?_
  refine xk_storeN 0 rfl rfl rfl (by rw [show (Value.agg r.toArray).cells.size = 3 by simp [Value.cells, hr2]]; kernel_rfl) (hone r (List.mem_of_getElem? hr1)) (by simp [Value.cells, hr2]) ?_
  rw [putN_all (by simp [Value.cells, hr2])]
  dsimp only [List.set, Value.cells]
  refine XK.nilN ?_
  refine XK.seq ?_
  refine XK.region ?_
  refine xk_move rfl (by decide) ?_
  refine xk_loadN 3 (by kernel_rfl) rfl (by first | assumption | exact RdN.whole 0 rfl | exact RdN.whole 1 rfl | exact RdN.whole 2 rfl | exact RdN.whole 3 rfl | exact RdN.whole 4 rfl | exact RdN.whole 5 rfl | exact RdN.whole 6 rfl | exact RdN.whole 7 rfl | exact RdN.whole 8 rfl | exact RdN.roc (by simp) (by assumption)) hr2 (by decide) ?_
  refine xk_callR (f := id) (fi := []) (ca := ca) hc rfl rfl (by decide) (fun w1 st => by have := hf k r e1 hr1 he1 w1 (st.started (by simp)); simpa using this) ?_
  refine xk_assign rfl (by decide) ?_
  refine XK.nilN ?_
  refine XK.seq ?_
  refine XK.region ?_
  refine xk_move rfl (by decide) ?_
  refine xk_neq rfl rfl (by decide) ?_
  refine XK.nilN ?_
  refine XK.if_ rfl (fun h => ?_) (fun h => ?_)
  ·
   refine XK.seq ?_
   refine XK.region ?_
   refine xk_move rfl (by decide) ?_
   refine xk_assign rfl (by decide) ?_
   refine XK.nilN ?_
   refine XK.ret ?_
   refine XK.norm ?_
   exact XK.ret1 rfl rfl fun w1 st => ⟨by rw [firstE_at hz he1 h], st.below (by simp)⟩
  ·
   refine XK.skip ?_
   refine XK.norm ?_
   refine XK.region ?_
   refine xk_add rfl rfl (wrap_in (by omega)) (by decide) ?_
   refine xk_move rfl (by decide) ?_
   refine XK.nilN ?_
   exact XK.weak [] rfl (by decide) (by simp) (XK.envS [(10, .int .i64 (k + 1)), (9, .int .i64 n), (8, .slice (some ⟨b, off, none⟩) n c), (1, .func (.func id) #[] ca.toArray)] (XK.round (n - (k + 1)) (by omega) ⟨k + 1, by omega, rfl, (zeros_snoc hz (by rw [he1, show e1 = 0 by omega])), rfl, rfl, rfl⟩))
 ·
  refine XK.exit ?_
  refine XK.norm ?_
  refine XK.seq ?_
  refine XK.region ?_
  refine xk_assign rfl (by decide) ?_
  refine XK.nilN ?_
  refine XK.ret ?_
  refine XK.norm ?_
  exact XK.ret1 rfl rfl fun w1 st => ⟨by rw [firstE_none (fun j hj => hz j (by omega))], st.below (by simp)⟩
theorem each_rst (A : Option Addr) (n c : Nat) (id : FuncId) (ca : List Value) (rows : List (List Value)) (es : List Int) (w : World) (hs : SlS (all w) 1 A n rows.flatten) (hr : ∀ r ∈ rows, r.length = 1) (hone : ∀ r ∈ rows, ∀ u ∈ r, u.oneCell' = true) (hn : rows.length = n) (hl : es.length = n) (hn2 : (n : Int) ≤ 9223372036854775806) (hc : callB Tryz.prog id = true)
  (hf : ∀ (i : Nat) (r : List Value) (e : Int), rows[i]? = some r → es[i]? = some e → ∀ w', Below w.heap.size w w' → Calls Tryz.prog id ([Value.agg r.toArray] ++ ca).toArray w' (Rt (.int .i64 e) w')) :
  Calls Tryz.prog 78 #[.slice A n c, .func (.func id) #[] ca.toArray] w (Rt (.int .i64 (firstE es)) w) := by
 refine XK.enter (vs := [.slice A n c, .func (.func id) #[] ca.toArray]) Tryz.func78 rfl Tryz.ntmps78 (by simp) ?_
 refine XK.seq ?_
 refine XK.region ?_
 refine xk_assign rfl (by decide) ?_
 refine XK.nilN ?_
 refine XK.seq ?_
 refine XK.seq ?_
 refine XK.region ?_
 refine xk_move rfl (by decide) ?_
 refine xk_len (el := 66) (by kernel_rfl) rfl (by decide) ?_
 refine xk_move rfl (by decide) ?_
 refine XK.nilN ?_
 refine XK.envS [(10, .int .i64 0), (9, .int .i64 n), (8, .slice A n c), (1, .func (.func id) #[] ca.toArray)] ?_
 refine XK.block ?_
 refine XK.loop (fun m e R H => ∃ k : Nat, k ≤ n ∧ m = n - k ∧ (∀ j, j < k → es[j]? = some 0) ∧ e = [(10, .int .i64 k), (9, .int .i64 n), (8, .slice A n c), (1, .func (.func id) #[] ca.toArray)] ∧ R = [all w] ∧ H = []) n ⟨0, by omega, rfl, fun j hj => absurd hj (by omega), rfl, rfl, rfl⟩ fun m e R H hI => ?_
 obtain ⟨k, hk, rfl, hz, rfl, rfl, rfl⟩ := hI
 refine XK.seq ?_
 refine XK.region ?_
 refine xk_lss rfl rfl (by decide) ?_
 refine XK.nilN ?_
 refine XK.seq ?_
 refine XK.if_ rfl (fun h => ?_) (fun h => ?_)
 ·
  refine XK.skip ?_
  refine XK.norm ?_
  refine XK.seq ?_
  refine XK.block ?_
  refine XK.seq ?_
  have hkn : k < n := by omega
  obtain ⟨r, hr1⟩ : ∃ r, rows[k]? = some r := ⟨rows[k]'(by omega), List.getElem?_eq_getElem _⟩
  obtain ⟨e1, he1⟩ : ∃ e, es[k]? = some e := ⟨es[k]'(by omega), List.getElem?_eq_getElem _⟩
  obtain ⟨b, off, rfl, c1⟩ := hs.row hr hr1 hkn
  have hr2 := hr r (List.mem_of_getElem? hr1)
  refine XK.region ?_
  refine xk_at (k) (off + k * 1) (el := 66) (sz := 1) (by kernel_rfl) (by kernel_rfl) rfl rfl (by omega) (by omega) (by omega) (by decide) ?_
  refine xk_loadN 1 (by kernel_rfl) rfl (by first | assumption | exact RdN.whole 0 rfl | exact RdN.whole 1 rfl | exact RdN.whole 2 rfl | exact RdN.whole 3 rfl | exact RdN.whole 4 rfl | exact RdN.whole 5 rfl | exact RdN.whole 6 rfl | exact RdN.whole 7 rfl | exact RdN.whole 8 rfl | exact RdN.roc (by simp) (by assumption)) hr2 (by decide) ?_
  refine xk_alloc (cs := [.int .i64 0]) (zeroB_of (by kernel_rfl)) (by decide) fun g1 => ?_
  refine xk_storeN 0 rfl rfl rfl (by rw [show (Value.agg r.toArray).cells.size = 1 by simp [Value.cells, hr2]]; kernel_rfl) (hone r (List.mem_of_getElem? hr1)) (by simp [Value.cells, hr2]) ?_
  rw [putN_all (by simp [Value.cells, hr2])]
  dsimp only [List.set, Value.cells]
  refine XK.nilN ?_
  refine XK.seq ?_
  refine XK.region ?_
  refine xk_move rfl (by decide) ?_
  refine xk_loadN 1 (by kernel_rfl) rfl (by first | assumption | exact RdN.whole 0 rfl | exact RdN.whole 1 rfl | exact RdN.whole 2 rfl | exact RdN.whole 3 rfl | exact RdN.whole 4 rfl | exact RdN.whole 5 rfl | exact RdN.whole 6 rfl | exact RdN.whole 7 rfl | exact RdN.whole 8 rfl | exact RdN.roc (by simp) (by assumption)) hr2 (by decide) ?_
  refine xk_callR (f := id) (fi := []) (ca := ca) hc rfl rfl (by decide) (fun w1 st => by have := hf k r e1 hr1 he1 w1 (st.started (by simp)); simpa using this) ?_
  refine xk_assign rfl (by decide) ?_
  refine XK.nilN ?_
  refine XK.seq ?_
  refine XK.region ?_
  refine xk_move rfl (by decide) ?_
  refine xk_neq rfl rfl (by decide) ?_
  refine XK.nilN ?_
  refine XK.if_ rfl (fun h => ?_) (fun h => ?_)
  ·
   refine XK.seq ?_
   refine XK.region ?_
   refine xk_move rfl (by decide) ?_
   refine xk_assign rfl (by decide) ?_
   refine XK.nilN ?_
   refine XK.ret ?_
   refine XK.norm ?_
   exact XK.ret1 rfl rfl fun w1 st => ⟨by rw [firstE_at hz he1 h], st.below (by simp)⟩
  ·
   refine XK.skip ?_
   refine XK.norm ?_
   refine XK.region ?_
   refine xk_add rfl rfl (wrap_in (by omega)) (by decide) ?_
   refine xk_move rfl (by decide) ?_
   refine XK.nilN ?_
   exact XK.weak [] rfl (by decide) (by simp) (XK.envS [(10, .int .i64 (k + 1)), (9, .int .i64 n), (8, .slice (some ⟨b, off, none⟩) n c), (1, .func (.func id) #[] ca.toArray)] (XK.round (n - (k + 1)) (by omega) ⟨k + 1, by omega, rfl, (zeros_snoc hz (by rw [he1, show e1 = 0 by omega])), rfl, rfl, rfl⟩))
 ·
  refine XK.exit ?_
  refine XK.norm ?_
  refine XK.seq ?_
  refine XK.region ?_
  refine xk_assign rfl (by decide) ?_
  refine XK.nilN ?_
  refine XK.ret ?_
  refine XK.norm ?_
  exact XK.ret1 rfl rfl fun w1 st => ⟨by rw [firstE_none (fun j hj => hz j (by omega))], st.below (by simp)⟩
theorem each_dev (A : Option Addr) (n c : Nat) (id : FuncId) (ca : List Value) (rows : List (List Value)) (es : List Int) (w : World) (hs : SlS (all w) 6 A n rows.flatten) (hr : ∀ r ∈ rows, r.length = 6) (hone : ∀ r ∈ rows, ∀ u ∈ r, u.oneCell' = true) (hn : rows.length = n) (hl : es.length = n) (hn2 : (n : Int) ≤ 9223372036854775806) (hc : callB Tryz.prog id = true)
  (hf : ∀ (i : Nat) (r : List Value) (e : Int), rows[i]? = some r → es[i]? = some e → ∀ w', Below w.heap.size w w' → Calls Tryz.prog id ([Value.agg r.toArray] ++ ca).toArray w' (Rt (.int .i64 e) w')) :
  Calls Tryz.prog 81 #[.slice A n c, .func (.func id) #[] ca.toArray] w (Rt (.int .i64 (firstE es)) w) := by
 refine XK.enter (vs := [.slice A n c, .func (.func id) #[] ca.toArray]) Tryz.func81 rfl Tryz.ntmps81 (by simp) ?_
 refine XK.seq ?_
 refine XK.region ?_
 refine xk_assign rfl (by decide) ?_
 refine XK.nilN ?_
 refine XK.seq ?_
 refine XK.seq ?_
 refine XK.region ?_
 refine xk_move rfl (by decide) ?_
 refine xk_len (el := 71) (by kernel_rfl) rfl (by decide) ?_
 refine xk_move rfl (by decide) ?_
 refine XK.nilN ?_
 refine XK.envS [(10, .int .i64 0), (9, .int .i64 n), (8, .slice A n c), (1, .func (.func id) #[] ca.toArray)] ?_
 refine XK.block ?_
 refine XK.loop (fun m e R H => ∃ k : Nat, k ≤ n ∧ m = n - k ∧ (∀ j, j < k → es[j]? = some 0) ∧ e = [(10, .int .i64 k), (9, .int .i64 n), (8, .slice A n c), (1, .func (.func id) #[] ca.toArray)] ∧ R = [all w] ∧ H = []) n ⟨0, by omega, rfl, fun j hj => absurd hj (by omega), rfl, rfl, rfl⟩ fun m e R H hI => ?_
 obtain ⟨k, hk, rfl, hz, rfl, rfl, rfl⟩ := hI
 refine XK.seq ?_
 refine XK.region ?_
 refine xk_lss rfl rfl (by decide) ?_
 refine XK.nilN ?_
 refine XK.seq ?_
 refine XK.if_ rfl (fun h => ?_) (fun h => ?_)
 ·
  refine XK.skip ?_
  refine XK.norm ?_
  refine XK.seq ?_
  refine XK.block ?_
  refine XK.seq ?_
  have hkn : k < n := by omega
  obtain ⟨r, hr1⟩ : ∃ r, rows[k]? = some r := ⟨rows[k]'(by omega), List.getElem?_eq_getElem _⟩
  obtain ⟨e1, he1⟩ : ∃ e, es[k]? = some e := ⟨es[k]'(by omega), List.getElem?_eq_getElem _⟩
  obtain ⟨b, off, rfl, c1⟩ := hs.row hr hr1 hkn
  have hr2 := hr r (List.mem_of_getElem? hr1)
  refine XK.region ?_
  refine xk_at (k) (off + k * 6) (el := 71) (sz := 6) (by kernel_rfl) (by kernel_rfl) rfl rfl (by omega) (by omega) (by omega) (by decide) ?_
  refine xk_loadN 6 (by kernel_rfl) rfl (by first | assumption | exact RdN.whole 0 rfl | exact RdN.whole 1 rfl | exact RdN.whole 2 rfl | exact RdN.whole 3 rfl | exact RdN.whole 4 rfl | exact RdN.whole 5 rfl | exact RdN.whole 6 rfl | exact RdN.whole 7 rfl | exact RdN.whole 8 rfl | exact RdN.roc (by simp) (by assumption)) hr2 (by decide) ?_
  refine xk_alloc (cs := [.int .i64 0, .int .i64 0, .int .i64 0, .int .u32 0, .slice none 0 0, .slice none 0 0]) (zeroB_of (by kernel_rfl)) (by decide) fun g1 => ?_
  refine xk_storeN 0 rfl rfl rfl (by rw [show (Value.agg r.toArray).cells.size = 6 by simp [Value.cells, hr2]]; kernel_rfl) (hone r (List.mem_of_getElem? hr1)) (by simp [Value.cells, hr2]) ?_
  rw [putN_all (by simp [Value.cells, hr2])]
  dsimp only [List.set, Value.cells]
  refine XK.nilN ?_
  refine XK.seq ?_
  refine XK.region ?_
  refine xk_move rfl (by decide) ?_
  refine xk_loadN 6 (by kernel_rfl) rfl (by first | assumption | exact RdN.whole 0 rfl | exact RdN.whole 1 rfl | exact RdN.whole 2 rfl | exact RdN.whole 3 rfl | exact RdN.whole 4 rfl | exact RdN.whole 5 rfl | exact RdN.whole 6 rfl | exact RdN.whole 7 rfl | exact RdN.whole 8 rfl | exact RdN.roc (by simp) (by assumption)) hr2 (by decide) ?_
  refine xk_callR (f := id) (fi := []) (ca := ca) hc rfl rfl (by decide) (fun w1 st => by have := hf k r e1 hr1 he1 w1 (st.started (by simp)); simpa using this) ?_
  refine xk_assign rfl (by decide) ?_
  refine XK.nilN ?_
  refine XK.seq ?_
  refine XK.region ?_
  refine xk_move rfl (by decide) ?_
  refine xk_neq rfl rfl (by decide) ?_
  refine XK.nilN ?_
  refine XK.if_ rfl (fun h => ?_) (fun h => ?_)
  ·
   refine XK.seq ?_
   refine XK.region ?_
   refine xk_move rfl (by decide) ?_
   refine xk_assign rfl (by decide) ?_
   refine XK.nilN ?_
   refine XK.ret ?_
   refine XK.norm ?_
   exact XK.ret1 rfl rfl fun w1 st => ⟨by rw [firstE_at hz he1 h], st.below (by simp)⟩
  ·
   refine XK.skip ?_
   refine XK.norm ?_
   refine XK.region ?_
   refine xk_add rfl rfl (wrap_in (by omega)) (by decide) ?_
   refine xk_move rfl (by decide) ?_
   refine XK.nilN ?_
   exact XK.weak [] rfl (by decide) (by simp) (XK.envS [(10, .int .i64 (k + 1)), (9, .int .i64 n), (8, .slice (some ⟨b, off, none⟩) n c), (1, .func (.func id) #[] ca.toArray)] (XK.round (n - (k + 1)) (by omega) ⟨k + 1, by omega, rfl, (zeros_snoc hz (by rw [he1, show e1 = 0 by omega])), rfl, rfl, rfl⟩))
 ·
  refine XK.exit ?_
  refine XK.norm ?_
  refine XK.seq ?_
  refine XK.region ?_
  refine xk_assign rfl (by decide) ?_
  refine XK.nilN ?_
  refine XK.ret ?_
  refine XK.norm ?_
  exact XK.ret1 rfl rfl fun w1 st => ⟨by rw [firstE_none (fun j hj => hz j (by omega))], st.below (by simp)⟩
end
section
set_option maxHeartbeats 4000000
set_option maxRecDepth 20000
def shapeB (kind : Int) (n : Nat) : Bool := if kind = 111 then decide (n = 0) else if kind = 112 ∨ kind = 100 ∨ kind = 103 then decide (n = 1) else if kind = 109 then withinB n 1 4 else false
def numbersB (kind rate mul div lock : Int) : Bool :=
 if kind = 111 then decide (1 ≤ rate) && decide (rate ≤ 1099511627776) else if kind = 112 then withinB mul 1 1000 && withinB div 1 1000 && withinB lock 0 20 else if kind = 100 then withinB div 1 1000 else true
def clockE (n1 : Nat) (c : Clk) : Int := firstE [whenE (!shapeB c.kind c.src.length) 1, firstE (c.src.map fun f => whenE (!withinB f 0 ((n1 : Int) - 1)) 4), whenE (!numbersB c.kind c.rate c.mul c.div c.lock) 3]
def domainE (n2 : Nat) (d : Dom) : Int := firstE [whenE (decide (¬ d.above = -1) && !withinB d.above 0 ((n2 : Int) - 1)) 4, whenE (!withinB d.delay 0 20) 3]
def resetE (r : Int) : Int := whenE (!withinB r 0 20) 3
def deviceE (n1 n2 n3 n4 : Nat) (d : Dev) : Int :=
 firstE [whenE (!withinB d.clock 0 ((n1 : Int) - 1)) 4, whenE (!withinB d.domain 0 ((n2 : Int) - 1)) 4, whenE (!withinB d.reset 0 ((n3 : Int) - 1)) 4, firstE (d.needs.map fun f => whenE (!withinB f 0 ((n4 : Int) - 1)) 4)]
def manyE (d : Dev) : Int := whenE (decide ((8 : Int) < d.regs.length) || decide ((6 : Int) < d.needs.length)) 8
theorem flat1 (l : List Value) : (l.map fun v => [v]).flatten = l := by induction l <;> simp_all
theorem shape_any (kind rate mul div lock : Int) (A : Option Addr) (n k : Nat) (w : World) :
  Calls Tryz.prog 101 #[.agg #[.int .u8 kind, .slice A n k, .int .u64 rate, .int .i64 mul, .int .i64 div, .int .i64 lock]] w (Rt (.bool (shapeB kind n)) w) := by
 refine XK.enter (vs := [.agg #[.int .u8 kind, .slice A n k, .int .u64 rate, .int .i64 mul, .int .i64 div, .int .i64 lock]]) Tryz.func101 rfl Tryz.ntmps101 (by simp) ?_
 refine XK.go ?_
 refine xk_box rfl (by decide) fun g1 => ?_
 refine XK.go ?_
 refine XK.if_ rfl (fun h => ?_) (fun h => ?_)
 ·
  refine XK.go ?_
  exact XK.ret1 rfl rfl fun w1 st => ⟨by first | (exfalso; omega) | (simp [shapeB, *]; done) | (simp [shapeB, *]; omega), st.below (by simp)⟩
 ·
  refine XK.go ?_
  refine XK.if_ rfl (fun h => ?_) (fun h => ?_)
  ·
   refine XK.go ?_
   refine XK.if_ rfl (fun h => ?_) (fun h => ?_)
   ·
    refine XK.go ?_
    exact XK.ret1 rfl rfl fun w1 st => ⟨by first | (exfalso; omega) | (simp [shapeB, *]; done) | (simp [shapeB, *]; omega), st.below (by simp)⟩
   ·
    refine XK.go ?_
    refine XK.if_ rfl (fun h => ?_) (fun h => ?_)
    ·
     refine XK.go ?_
     refine xk_callR (f := 105) (fi := []) (ca := []) (by kernel_rfl) rfl rfl (by decide) (fun w1 st => within_any _ _ _ w1) ?_
     refine XK.go ?_
     exact XK.ret1 rfl rfl fun w1 st => ⟨by first | (exfalso; omega) | (simp [shapeB, *]; done) | (simp [shapeB, *]; omega), st.below (by simp)⟩
    ·
     refine XK.go ?_
     exact XK.ret1 rfl rfl fun w1 st => ⟨by first | (exfalso; omega) | (simp [shapeB, *]; done) | (simp [shapeB, *]; omega), st.below (by simp)⟩
  ·
   refine XK.go ?_
   refine XK.if_ rfl (fun h => ?_) (fun h => ?_)
   ·
    refine XK.go ?_
    refine XK.if_ rfl (fun h => ?_) (fun h => ?_)
    ·
     refine XK.go ?_
     exact XK.ret1 rfl rfl fun w1 st => ⟨by first | (exfalso; omega) | (simp [shapeB, *]; done) | (simp [shapeB, *]; omega), st.below (by simp)⟩
    ·
     refine XK.go ?_
     refine XK.if_ rfl (fun h => ?_) (fun h => ?_)
     ·
      refine XK.go ?_
      refine xk_callR (f := 105) (fi := []) (ca := []) (by kernel_rfl) rfl rfl (by decide) (fun w1 st => within_any _ _ _ w1) ?_
      refine XK.go ?_
      exact XK.ret1 rfl rfl fun w1 st => ⟨by first | (exfalso; omega) | (simp [shapeB, *]; done) | (simp [shapeB, *]; omega), st.below (by simp)⟩
     ·
      refine XK.go ?_
      exact XK.ret1 rfl rfl fun w1 st => ⟨by first | (exfalso; omega) | (simp [shapeB, *]; done) | (simp [shapeB, *]; omega), st.below (by simp)⟩
   ·
    refine XK.go ?_
    refine XK.if_ rfl (fun h => ?_) (fun h => ?_)
    ·
     refine XK.go ?_
     exact XK.ret1 rfl rfl fun w1 st => ⟨by first | (exfalso; omega) | (simp [shapeB, *]; done) | (simp [shapeB, *]; omega), st.below (by simp)⟩
    ·
     refine XK.go ?_
     refine XK.if_ rfl (fun h => ?_) (fun h => ?_)
     ·
      refine XK.go ?_
      refine xk_callR (f := 105) (fi := []) (ca := []) (by kernel_rfl) rfl rfl (by decide) (fun w1 st => within_any _ _ _ w1) ?_
      refine XK.go ?_
      exact XK.ret1 rfl rfl fun w1 st => ⟨by first | (exfalso; omega) | (simp [shapeB, *]; done) | (simp [shapeB, *]; omega), st.below (by simp)⟩
     ·
      refine XK.go ?_
      exact XK.ret1 rfl rfl fun w1 st => ⟨by first | (exfalso; omega) | (simp [shapeB, *]; done) | (simp [shapeB, *]; omega), st.below (by simp)⟩
theorem numbers_any (kind rate mul div lock : Int) (A : Option Addr) (n k : Nat) (w : World) :
  Calls Tryz.prog 107 #[.agg #[.int .u8 kind, .slice A n k, .int .u64 rate, .int .i64 mul, .int .i64 div, .int .i64 lock]] w (Rt (.bool (numbersB kind rate mul div lock)) w) := by
 refine XK.enter (vs := [.agg #[.int .u8 kind, .slice A n k, .int .u64 rate, .int .i64 mul, .int .i64 div, .int .i64 lock]]) Tryz.func107 rfl Tryz.ntmps107 (by simp) ?_
 refine XK.seq ?_
 refine XK.region ?_
 refine xk_box rfl (by decide) fun g1 => ?_
 refine xk_assign rfl (by decide) ?_
 refine XK.nilN ?_
 refine XK.seq ?_
 refine XK.seq ?_
 refine XK.region ?_
 refine xk_field (off := 0) (by kernel_rfl) rfl (by decide) ?_
 refine xk_ld rfl ?_
 refine XK.nilN ?_
 refine XK.block ?_
 refine XK.seq ?_
 refine XK.region ?_
 refine xk_eql rfl rfl (by decide) ?_
 refine xk_assign rfl (by decide) ?_
 refine XK.nilN ?_
 refine XK.if_ rfl (fun h => ?_) (fun h => ?_)
 ·
  refine XK.seq ?_
  refine XK.region ?_
  refine xk_field (off := 2) (by kernel_rfl) rfl (by decide) ?_
  refine xk_ld rfl ?_
  refine xk_geq rfl rfl (by decide) ?_
  refine xk_move rfl (by decide) ?_
  refine xk_splitB (t := 10) rfl (fun hg => ?_) (fun hg => ?_)
  ·
   refine xk_guardT rfl rfl ?_; refine xk_field (off := 2) (by kernel_rfl) rfl (by decide) ?_
   refine xk_guardT rfl rfl ?_; refine xk_ld rfl ?_
   refine xk_guardT rfl rfl ?_; refine xk_leq rfl rfl (by decide) ?_
   (first | refine xk_pickT rfl rfl (by decide) ?_ | refine xk_pickF rfl rfl (by decide) ?_)
   refine xk_assign rfl (by decide) ?_
   refine XK.nilN ?_
   refine XK.ret ?_
   refine XK.norm ?_
   exact XK.ret1 rfl rfl fun w1 st => ⟨by simp [numbersB, *], st.below (by simp)⟩
  ·
   refine xk_guardF rfl rfl rfl (by decide) ?_
   refine xk_guardF rfl rfl rfl (by decide) ?_
   refine xk_guardF rfl rfl rfl (by decide) ?_
   (first | refine xk_pickT rfl rfl (by decide) ?_ | refine xk_pickF rfl rfl (by decide) ?_)
   refine xk_assign rfl (by decide) ?_
   refine XK.nilN ?_
   refine XK.ret ?_
   refine XK.norm ?_
   exact XK.ret1 rfl rfl fun w1 st => ⟨by simp [numbersB, *], st.below (by simp)⟩
 ·
  refine XK.seq ?_
  refine XK.region ?_
  refine xk_eql rfl rfl (by decide) ?_
  refine xk_assign rfl (by decide) ?_
  refine XK.nilN ?_
  refine XK.if_ rfl (fun h => ?_) (fun h => ?_)
  ·
   refine XK.seq ?_
   refine XK.region ?_
   refine xk_field (off := 3) (by kernel_rfl) rfl (by decide) ?_
   refine xk_ld rfl ?_
   refine xk_callR (f := 105) (fi := []) (ca := []) (by kernel_rfl) rfl rfl (by decide) (fun w1 st => within_any _ _ _ w1) ?_
   refine xk_move rfl (by decide) ?_
   refine xk_splitB (t := 20) rfl (fun hg => ?_) (fun hg => ?_)
   ·
    refine xk_guardT rfl rfl ?_; refine xk_field (off := 4) (by kernel_rfl) rfl (by decide) ?_
    refine xk_guardT rfl rfl ?_; refine xk_ld rfl ?_
    refine xk_guardT rfl rfl ?_; refine xk_callR (f := 105) (fi := []) (ca := []) (by kernel_rfl) rfl rfl (by decide) (fun w1 st => within_any _ _ _ w1) ?_
    (first | refine xk_pickT rfl rfl (by decide) ?_ | refine xk_pickF rfl rfl (by decide) ?_)
    refine xk_move rfl (by decide) ?_
    refine xk_splitB (t := 25) rfl (fun hg => ?_) (fun hg => ?_)
    ·
     refine xk_guardT rfl rfl ?_; refine xk_field (off := 5) (by kernel_rfl) rfl (by decide) ?_
     refine xk_guardT rfl rfl ?_; refine xk_ld rfl ?_
     refine xk_guardT rfl rfl ?_; refine xk_callR (f := 105) (fi := []) (ca := []) (by kernel_rfl) rfl rfl (by decide) (fun w1 st => within_any _ _ _ w1) ?_
     (first | refine xk_pickT rfl rfl (by decide) ?_ | refine xk_pickF rfl rfl (by decide) ?_)
     refine xk_assign rfl (by decide) ?_
     refine XK.nilN ?_
     refine XK.ret ?_
     refine XK.norm ?_
     exact XK.ret1 rfl rfl fun w1 st => ⟨by simp [numbersB, *], st.below (by simp)⟩
    ·
     refine xk_guardF rfl rfl rfl (by decide) ?_
     refine xk_guardF rfl rfl rfl (by decide) ?_
     refine xk_guardF rfl rfl rfl (by decide) ?_
     (first | refine xk_pickT rfl rfl (by decide) ?_ | refine xk_pickF rfl rfl (by decide) ?_)
     refine xk_assign rfl (by decide) ?_
     refine XK.nilN ?_
     refine XK.ret ?_
     refine XK.norm ?_
     exact XK.ret1 rfl rfl fun w1 st => ⟨by simp [numbersB, *], st.below (by simp)⟩
   ·
    refine xk_guardF rfl rfl rfl (by decide) ?_
    refine xk_guardF rfl rfl rfl (by decide) ?_
    refine xk_guardF rfl rfl rfl (by decide) ?_
    (first | refine xk_pickT rfl rfl (by decide) ?_ | refine xk_pickF rfl rfl (by decide) ?_)
    refine xk_move rfl (by decide) ?_
    refine xk_guardF rfl rfl rfl (by decide) ?_
    refine xk_guardF rfl rfl rfl (by decide) ?_
    refine xk_guardF rfl rfl rfl (by decide) ?_
    (first | refine xk_pickT rfl rfl (by decide) ?_ | refine xk_pickF rfl rfl (by decide) ?_)
    refine xk_assign rfl (by decide) ?_
    refine XK.nilN ?_
    refine XK.ret ?_
    refine XK.norm ?_
    exact XK.ret1 rfl rfl fun w1 st => ⟨by simp [numbersB, *], st.below (by simp)⟩
  ·
   refine XK.seq ?_
   refine XK.region ?_
   refine xk_eql rfl rfl (by decide) ?_
   refine xk_assign rfl (by decide) ?_
   refine XK.nilN ?_
   refine XK.if_ rfl (fun h => ?_) (fun h => ?_)
   ·
    refine XK.seq ?_
    refine XK.region ?_
    refine xk_field (off := 4) (by kernel_rfl) rfl (by decide) ?_
    refine xk_ld rfl ?_
    refine xk_callR (f := 105) (fi := []) (ca := []) (by kernel_rfl) rfl rfl (by decide) (fun w1 st => within_any _ _ _ w1) ?_
    refine xk_assign rfl (by decide) ?_
    refine XK.nilN ?_
    refine XK.ret ?_
    refine XK.norm ?_
    exact XK.ret1 rfl rfl fun w1 st => ⟨by simp [numbersB, *], st.below (by simp)⟩
   ·
    refine XK.skip ?_
    refine XK.norm ?_
    refine XK.seq ?_
    refine XK.region ?_
    refine xk_assign rfl (by decide) ?_
    refine XK.nilN ?_
    refine XK.ret ?_
    refine XK.norm ?_
    exact XK.ret1 rfl rfl fun w1 st => ⟨by simp [numbersB, *], st.below (by simp)⟩
theorem clock_1 (kind rate mul div lock : Int) (A : Option Addr) (n k : Nat) (gc : Nat) (w : World) (hb : ROn w gc 0 [.int .u8 kind, .slice A n k, .int .u64 rate, .int .i64 mul, .int .i64 div, .int .i64 lock]) :
  Calls Tryz.prog 100 #[.pointer (some ⟨gc, 0, none⟩)] w (Rt (.int .i64 (whenE (!shapeB kind n) 1)) w) := by
 refine XK.enter (vs := [.pointer (some ⟨gc, 0, none⟩)]) Tryz.func100 rfl Tryz.ntmps100 (by simp) ?_
 refine XK.go ?_
 refine xk_callR (f := 101) (fi := []) (ca := []) (by kernel_rfl) rfl rfl (by decide) (fun w1 st => shape_any _ _ _ _ _ _ _ _ w1) ?_
 refine XK.go ?_
 refine xk_callR (f := 99) (fi := []) (ca := []) (by kernel_rfl) rfl rfl (by decide) (fun w1 st => when_any _ _ w1) ?_
 refine XK.go ?_
 exact XK.ret1 rfl rfl fun w1 st => ⟨rfl, st.below (by simp)⟩
theorem clock_3 (kind rate mul div lock : Int) (A : Option Addr) (n k : Nat) (gc : Nat) (w : World) (hb : ROn w gc 0 [.int .u8 kind, .slice A n k, .int .u64 rate, .int .i64 mul, .int .i64 div, .int .i64 lock]) :
  Calls Tryz.prog 106 #[.pointer (some ⟨gc, 0, none⟩)] w (Rt (.int .i64 (whenE (!numbersB kind rate mul div lock) 3)) w) := by
 refine XK.enter (vs := [.pointer (some ⟨gc, 0, none⟩)]) Tryz.func106 rfl Tryz.ntmps106 (by simp) ?_
 refine XK.go ?_
 refine xk_callR (f := 107) (fi := []) (ca := []) (by kernel_rfl) rfl rfl (by decide) (fun w1 st => numbers_any _ _ _ _ _ _ _ _ w1) ?_
 refine XK.go ?_
 refine xk_callR (f := 99) (fi := []) (ca := []) (by kernel_rfl) rfl rfl (by decide) (fun w1 st => when_any _ _ w1) ?_
 refine XK.go ?_
 exact XK.ret1 rfl rfl fun w1 st => ⟨rfl, st.below (by simp)⟩
theorem clock_2_1 (f : Int) (A1 A2 A3 A4 : Option Addr) (n1 k1 n2 k2 n3 k3 n4 k4 : Nat) (gs : Nat) (w : World) (hs : ROn w gs 0 [.slice A1 n1 k1, .slice A2 n2 k2, .slice A3 n3 k3, .slice A4 n4 k4]) (hz1 : (n1 : Int) ≤ 9223372036854775806) :
  Calls Tryz.prog 104 #[.int .i64 f, .pointer (some ⟨gs, 0, none⟩)] w (Rt (.int .i64 (whenE (!withinB f 0 ((n1 : Int) - 1)) 4)) w) := by
 refine XK.enter (vs := [.int .i64 f, .pointer (some ⟨gs, 0, none⟩)]) Tryz.func104 rfl Tryz.ntmps104 (by simp) ?_
 refine XK.go ?_
 refine xk_callR (f := 105) (fi := []) (ca := []) (by kernel_rfl) rfl rfl (by decide) (fun w1 st => within_any _ _ _ w1) ?_
 refine XK.go ?_
 refine xk_callR (f := 99) (fi := []) (ca := []) (by kernel_rfl) rfl rfl (by decide) (fun w1 st => when_any _ _ w1) ?_
 refine XK.go ?_
 exact XK.ret1 rfl rfl fun w1 st => ⟨rfl, st.below (by simp)⟩
theorem clock_2 (kind rate mul div lock : Int) (A : Option Addr) (n k : Nat) (A1 A2 A3 A4 : Option Addr) (n1 k1 n2 k2 n3 k3 n4 k4 : Nat) (gc gs : Nat) (w : World) (hb : ROn w gc 0 [.int .u8 kind, .slice A n k, .int .u64 rate, .int .i64 mul, .int .i64 div, .int .i64 lock]) (hs : ROn w gs 0 [.slice A1 n1 k1, .slice A2 n2 k2, .slice A3 n3 k3, .slice A4 n4 k4]) (hz1 : (n1 : Int) ≤ 9223372036854775806) (zs : List Int) (hA : SlS (all w) 1 A n (intCells zs)) (hn : n = zs.length) (hz : (n : Int) ≤ 9223372036854775806) :
  Calls Tryz.prog 102 #[.pointer (some ⟨gc, 0, none⟩), .pointer (some ⟨gs, 0, none⟩)] w (Rt (.int .i64 (firstE (zs.map fun f => whenE (!withinB f 0 ((n1 : Int) - 1)) 4))) w) := by
 refine XK.enter (vs := [.pointer (some ⟨gc, 0, none⟩), .pointer (some ⟨gs, 0, none⟩)]) Tryz.func102 rfl Tryz.ntmps102 (by simp) ?_
 refine XK.go ?_
 refine xk_func (vf := []) (vc := [.pointer (some ⟨gs, 0, none⟩)]) rfl rfl (by decide) ?_
 refine xk_callR (f := 103) (fi := []) (ca := []) (by kernel_rfl) rfl rfl (by decide) (fun w1 st => each_int _ _ _ 104 [.pointer (some ⟨gs, 0, none⟩)] ((intCells zs).map fun v => [v]) (zs.map fun f => whenE (!withinB f 0 ((n1 : Int) - 1)) 4) w1 (by rw [flat1]; exact hA.le (all_le (st.started (by simp)))) (by simp) (by simp [intCells]; omega) (by simp; omega) (by omega) (by kernel_rfl) (fun i r x hr hx w2 hb2 => by
  obtain ⟨f, hf, rfl⟩ : ∃ f, zs[i]? = some f ∧ r = [.int .i64 f] := by
   rw [List.getElem?_map, intCells, List.getElem?_map] at hr
   cases hq : zs[i]? with
   | none => simp [hq] at hr
   | some f => simp [hq] at hr; exact ⟨f, rfl, hr.symm⟩
  rw [List.getElem?_map, hf] at hx
  cases hx
  exact clock_2_1 f A1 A2 A3 A4 n1 k1 n2 k2 n3 k3 n4 k4 gs w2 ((hs.below (st.started (by simp))).below hb2) hz1)) ?_
 refine XK.go ?_
 exact XK.ret1 rfl rfl fun w1 st => ⟨rfl, st.below (by simp)⟩
theorem clock_any (kind rate mul div lock : Int) (A : Option Addr) (n k : Nat) (A1 A2 A3 A4 : Option Addr) (n1 k1 n2 k2 n3 k3 n4 k4 : Nat) (w : World) (hz1 : (n1 : Int) ≤ 9223372036854775806) (zs : List Int) (hA : SlS (all w) 1 A n (intCells zs)) (hn : n = zs.length) (hz : (n : Int) ≤ 9223372036854775806) :
  Calls Tryz.prog 67 #[.agg #[.slice A1 n1 k1, .slice A2 n2 k2, .slice A3 n3 k3, .slice A4 n4 k4], .agg #[.int .u8 kind, .slice A n k, .int .u64 rate, .int .i64 mul, .int .i64 div, .int .i64 lock]] w (Rt (.int .i64 (clockE n1 ⟨kind, zs, rate, mul, div, lock⟩)) w) := by
 refine XK.enter (vs := [.agg #[.slice A1 n1 k1, .slice A2 n2 k2, .slice A3 n3 k3, .slice A4 n4 k4], .agg #[.int .u8 kind, .slice A n k, .int .u64 rate, .int .i64 mul, .int .i64 div, .int .i64 lock]]) Tryz.func67 rfl Tryz.ntmps67 (by simp) ?_
 refine XK.seq ?_
 refine XK.region ?_
 refine xk_box rfl (by decide) fun g1 => ?_
 refine xk_box rfl (by decide) fun g2 => ?_
 refine xk_assign rfl (by decide) ?_
 refine XK.nilN ?_
 refine XK.seq ?_
 refine XK.region ?_
 refine xk_func (vf := []) (vc := [.pointer (some ⟨g2, 0, none⟩)]) rfl rfl (by decide) ?_
 refine xk_func (vf := []) (vc := [.pointer (some ⟨g2, 0, none⟩), .pointer (some ⟨g1, 0, none⟩)]) rfl rfl (by decide) ?_
 refine xk_func (vf := []) (vc := [.pointer (some ⟨g2, 0, none⟩)]) rfl rfl (by decide) ?_
 refine xk_slice (el := 217) (sz := 1) (zs := [.nilFunc]) (by kernel_rfl) (zeroB_of (by kernel_rfl)) (by kernel_rfl) rfl (by decide) (by decide) rfl (by simp [fillL, setN, Value.cells, List.range_succ, List.set]; rfl) (by decide) fun g3 => ?_
 refine xk_callR (f := 61) (fi := []) (ca := []) (by kernel_rfl) rfl rfl (by decide) (fun w1 st => first_any _ _ _ [(100, [.pointer (some ⟨g2, 0, none⟩)]), (102, [.pointer (some ⟨g2, 0, none⟩), .pointer (some ⟨g1, 0, none⟩)]), (106, [.pointer (some ⟨g2, 0, none⟩)])] [whenE (!shapeB kind n) 1, firstE (zs.map fun f => whenE (!withinB f 0 ((n1 : Int) - 1)) 4), whenE (!numbersB kind rate mul div lock) 3] w1 (st.slS (i := 0) (n := 3) (sz := 1) (cs := [.func (.func 100) #[] #[.pointer (some ⟨g2, 0, none⟩)], .func (.func 102) #[] #[.pointer (some ⟨g2, 0, none⟩), .pointer (some ⟨g1, 0, none⟩)], .func (.func 106) #[] #[.pointer (some ⟨g2, 0, none⟩)]]) rfl rfl) rfl rfl (by decide) (by simp only [List.mem_cons, List.not_mem_nil, or_false]; rintro f (rfl | rfl | rfl) <;> kernel_rfl) (fun i f x hf hx w2 hb2 => by
  have hbb := (st.started (by simp)).trans (hb2.mono st.size)
  match i, hf, hx with
  | 0, hf, hx => cases hf; cases hx; exact clock_1 kind rate mul div lock A n k g2 w2 (st.box (cs := [.int .u8 kind, .slice A n k, .int .u64 rate, .int .i64 mul, .int .i64 div, .int .i64 lock]) (i := 1) rfl |>.below hb2)
  | 1, hf, hx => cases hf; cases hx; exact clock_2 kind rate mul div lock A n k A1 A2 A3 A4 n1 k1 n2 k2 n3 k3 n4 k4 g2 g1 w2 (st.box (cs := [.int .u8 kind, .slice A n k, .int .u64 rate, .int .i64 mul, .int .i64 div, .int .i64 lock]) (i := 1) rfl |>.below hb2) (st.box (cs := [.slice A1 n1 k1, .slice A2 n2 k2, .slice A3 n3 k3, .slice A4 n4 k4]) (i := 2) rfl |>.below hb2) hz1 zs (hA.le (all_le hbb)) hn hz
  | 2, hf, hx => cases hf; cases hx; exact clock_3 kind rate mul div lock A n k g2 w2 (st.box (cs := [.int .u8 kind, .slice A n k, .int .u64 rate, .int .i64 mul, .int .i64 div, .int .i64 lock]) (i := 1) rfl |>.below hb2)
  | i + 3, hf, _ => simp at hf)) ?_
 refine xk_assign rfl (by decide) ?_
 refine XK.nilN ?_
 refine XK.ret ?_
 refine XK.norm ?_
 exact XK.ret1 rfl rfl fun w1 st => ⟨by simp [clockE, hn], st.below (by simp)⟩
theorem domain_1 (above delay : Int) (ret : Bool) (A1 A2 A3 A4 : Option Addr) (n1 k1 n2 k2 n3 k3 n4 k4 : Nat) (gd gs : Nat) (w : World) (hd : ROn w gd 0 [.int .i64 above, .int .i64 delay, .bool ret]) (hs : ROn w gs 0 [.slice A1 n1 k1, .slice A2 n2 k2, .slice A3 n3 k3, .slice A4 n4 k4]) (hz2 : (n2 : Int) ≤ 9223372036854775806) :
  Calls Tryz.prog 109 #[.pointer (some ⟨gd, 0, none⟩), .pointer (some ⟨gs, 0, none⟩)] w (Rt (.int .i64 (whenE (decide (¬ above = -1) && !withinB above 0 ((n2 : Int) - 1)) 4)) w) := by
 refine XK.enter (vs := [.pointer (some ⟨gd, 0, none⟩), .pointer (some ⟨gs, 0, none⟩)]) Tryz.func109 rfl Tryz.ntmps109 (by simp) ?_
 refine XK.seq ?_
 refine XK.region ?_
 refine xk_assign rfl (by decide) ?_
 refine XK.nilN ?_
 refine XK.seq ?_
 refine XK.region ?_
 refine xk_field (off := 0) (by kernel_rfl) rfl (by decide) ?_
 refine xk_ld rfl ?_
 refine xk_neq rfl rfl (by decide) ?_
 refine xk_move rfl (by decide) ?_
 refine xk_split (t := 6) rfl (fun hg => ?_) (fun hg => ?_)
 ·
  refine xk_guardT rfl rfl ?_; refine xk_field (off := 0) (by kernel_rfl) rfl (by decide) ?_
  refine xk_guardT rfl rfl ?_; refine xk_ld rfl ?_
  refine xk_guardT rfl rfl ?_; refine xk_field (off := 1) (by kernel_rfl) rfl (by decide) ?_
  refine xk_guardT rfl rfl ?_; refine xk_ld rfl ?_
  refine xk_guardT rfl rfl ?_; refine xk_len (el := 49) (by kernel_rfl) rfl (by decide) ?_
  refine xk_guardT rfl rfl ?_; refine xk_sub rfl rfl (wrap_in (by omega)) (by decide) ?_
  refine xk_guardT rfl rfl ?_; refine xk_callR (f := 105) (fi := []) (ca := []) (by kernel_rfl) rfl rfl (by decide) (fun w1 st => within_any _ _ _ w1) ?_
  refine xk_guardT rfl rfl ?_; (first | refine xk_notD rfl (by decide) ?_ | refine xk_not rfl (by decide) ?_)
  (first | refine xk_pickT rfl rfl (by decide) ?_ | refine xk_pickF rfl rfl (by decide) ?_)
  refine xk_callR (f := 99) (fi := []) (ca := []) (by kernel_rfl) rfl rfl (by decide) (fun w1 st => when_any _ _ w1) ?_
  refine xk_assign rfl (by decide) ?_
  refine XK.nilN ?_
  refine XK.ret ?_
  refine XK.norm ?_
  exact XK.ret1 rfl rfl fun w1 st => ⟨by simp [hg], st.below (by simp)⟩
 ·
  refine xk_guardF rfl rfl rfl (by decide) ?_
  refine xk_guardF rfl rfl rfl (by decide) ?_
  refine xk_guardF rfl rfl rfl (by decide) ?_
  refine xk_guardF rfl rfl rfl (by decide) ?_
  refine xk_guardF rfl rfl rfl (by decide) ?_
  refine xk_guardF rfl rfl rfl (by decide) ?_
  refine xk_guardF rfl rfl rfl (by decide) ?_
  refine xk_guardF rfl rfl rfl (by decide) ?_
  (first | refine xk_pickT rfl rfl (by decide) ?_ | refine xk_pickF rfl rfl (by decide) ?_)
  refine xk_callR (f := 99) (fi := []) (ca := []) (by kernel_rfl) rfl rfl (by decide) (fun w1 st => when_any _ _ w1) ?_
  refine xk_assign rfl (by decide) ?_
  refine XK.nilN ?_
  refine XK.ret ?_
  refine XK.norm ?_
  exact XK.ret1 rfl rfl fun w1 st => ⟨by simp [hg], st.below (by simp)⟩
theorem domain_2 (above delay : Int) (ret : Bool) (gd : Nat) (w : World) (hd : ROn w gd 0 [.int .i64 above, .int .i64 delay, .bool ret]) :
  Calls Tryz.prog 110 #[.pointer (some ⟨gd, 0, none⟩)] w (Rt (.int .i64 (whenE (!withinB delay 0 20) 3)) w) := by
 refine XK.enter (vs := [.pointer (some ⟨gd, 0, none⟩)]) Tryz.func110 rfl Tryz.ntmps110 (by simp) ?_
 refine XK.go ?_
 refine xk_callR (f := 105) (fi := []) (ca := []) (by kernel_rfl) rfl rfl (by decide) (fun w1 st => within_any _ _ _ w1) ?_
 refine XK.go ?_
 refine xk_callR (f := 99) (fi := []) (ca := []) (by kernel_rfl) rfl rfl (by decide) (fun w1 st => when_any _ _ w1) ?_
 refine XK.go ?_
 exact XK.ret1 rfl rfl fun w1 st => ⟨rfl, st.below (by simp)⟩
theorem domain_any (above delay : Int) (ret : Bool) (A1 A2 A3 A4 : Option Addr) (n1 k1 n2 k2 n3 k3 n4 k4 : Nat) (w : World) (hz2 : (n2 : Int) ≤ 9223372036854775806) :
  Calls Tryz.prog 74 #[.agg #[.slice A1 n1 k1, .slice A2 n2 k2, .slice A3 n3 k3, .slice A4 n4 k4], .agg #[.int .i64 above, .int .i64 delay, .bool ret]] w (Rt (.int .i64 (domainE n2 ⟨above, delay, ret⟩)) w) := by
 refine XK.enter (vs := [.agg #[.slice A1 n1 k1, .slice A2 n2 k2, .slice A3 n3 k3, .slice A4 n4 k4], .agg #[.int .i64 above, .int .i64 delay, .bool ret]]) Tryz.func74 rfl Tryz.ntmps74 (by simp) ?_
 refine XK.seq ?_
 refine XK.region ?_
 refine xk_box rfl (by decide) fun g1 => ?_
 refine xk_box rfl (by decide) fun g2 => ?_
 refine xk_assign rfl (by decide) ?_
 refine XK.nilN ?_
 refine XK.seq ?_
 refine XK.region ?_
 refine xk_func (vf := []) (vc := [.pointer (some ⟨g2, 0, none⟩), .pointer (some ⟨g1, 0, none⟩)]) rfl rfl (by decide) ?_
 refine xk_func (vf := []) (vc := [.pointer (some ⟨g2, 0, none⟩)]) rfl rfl (by decide) ?_
 refine xk_slice (el := 217) (sz := 1) (zs := [.nilFunc]) (by kernel_rfl) (zeroB_of (by kernel_rfl)) (by kernel_rfl) rfl (by decide) (by decide) rfl (by simp [fillL, setN, Value.cells, List.range_succ, List.set]; rfl) (by decide) fun g3 => ?_
 refine xk_callR (f := 61) (fi := []) (ca := []) (by kernel_rfl) rfl rfl (by decide) (fun w1 st => first_any _ _ _ [(109, [.pointer (some ⟨g2, 0, none⟩), .pointer (some ⟨g1, 0, none⟩)]), (110, [.pointer (some ⟨g2, 0, none⟩)])] [whenE (decide (¬ above = -1) && !withinB above 0 ((n2 : Int) - 1)) 4, whenE (!withinB delay 0 20) 3] w1 (st.slS (i := 0) (n := 2) (sz := 1) (cs := [.func (.func 109) #[] #[.pointer (some ⟨g2, 0, none⟩), .pointer (some ⟨g1, 0, none⟩)], .func (.func 110) #[] #[.pointer (some ⟨g2, 0, none⟩)]]) rfl rfl) rfl rfl (by decide) (by simp only [List.mem_cons, List.not_mem_nil, or_false]; rintro f (rfl | rfl) <;> kernel_rfl) (fun i f x hf hx w2 hb2 => by
  have hbb := (st.started (by simp)).trans (hb2.mono st.size)
  match i, hf, hx with
  | 0, hf, hx => cases hf; cases hx; exact domain_1 above delay ret A1 A2 A3 A4 n1 k1 n2 k2 n3 k3 n4 k4 g2 g1 w2 (st.box (cs := [.int .i64 above, .int .i64 delay, .bool ret]) (i := 1) rfl |>.below hb2) (st.box (cs := [.slice A1 n1 k1, .slice A2 n2 k2, .slice A3 n3 k3, .slice A4 n4 k4]) (i := 2) rfl |>.below hb2) hz2
  | 1, hf, hx => cases hf; cases hx; exact domain_2 above delay ret g2 w2 (st.box (cs := [.int .i64 above, .int .i64 delay, .bool ret]) (i := 1) rfl |>.below hb2)
  | i + 2, hf, _ => simp at hf)) ?_
 refine xk_assign rfl (by decide) ?_
 refine XK.nilN ?_
 refine XK.ret ?_
 refine XK.norm ?_
 exact XK.ret1 rfl rfl fun w1 st => ⟨rfl, st.below (by simp)⟩
theorem reset_any (r : Int) (w : World) :
  Calls Tryz.prog 79 #[.agg #[.int .i64 r]] w (Rt (.int .i64 (resetE r)) w) := by
 refine XK.enter (vs := [.agg #[.int .i64 r]]) Tryz.func79 rfl Tryz.ntmps79 (by simp) ?_
 refine XK.go ?_
 refine xk_box rfl (by decide) fun g1 => ?_
 refine XK.go ?_
 refine xk_callR (f := 105) (fi := []) (ca := []) (by kernel_rfl) rfl rfl (by decide) (fun w1 st => within_any _ _ _ w1) ?_
 refine XK.go ?_
 refine xk_callR (f := 99) (fi := []) (ca := []) (by kernel_rfl) rfl rfl (by decide) (fun w1 st => when_any _ _ w1) ?_
 refine XK.go ?_
 exact XK.ret1 rfl rfl fun w1 st => ⟨rfl, st.below (by simp)⟩
theorem device_1 (clock domain reset clamp : Int) (A B : Option Addr) (n k nb kb : Nat) (A1 A2 A3 A4 : Option Addr) (n1 k1 n2 k2 n3 k3 n4 k4 : Nat) (gd gs : Nat) (w : World) (hd : ROn w gd 0 [.int .i64 clock, .int .i64 domain, .int .i64 reset, .int .u32 clamp, .slice B nb kb, .slice A n k]) (hs : ROn w gs 0 [.slice A1 n1 k1, .slice A2 n2 k2, .slice A3 n3 k3, .slice A4 n4 k4]) (hz1 : (n1 : Int) ≤ 9223372036854775806) :
  Calls Tryz.prog 111 #[.pointer (some ⟨gd, 0, none⟩), .pointer (some ⟨gs, 0, none⟩)] w (Rt (.int .i64 (whenE (!withinB clock 0 ((n1 : Int) - 1)) 4)) w) := by
 refine XK.enter (vs := [.pointer (some ⟨gd, 0, none⟩), .pointer (some ⟨gs, 0, none⟩)]) Tryz.func111 rfl Tryz.ntmps111 (by simp) ?_
 refine XK.go ?_
 refine xk_callR (f := 105) (fi := []) (ca := []) (by kernel_rfl) rfl rfl (by decide) (fun w1 st => within_any _ _ _ w1) ?_
 refine XK.go ?_
 refine xk_callR (f := 99) (fi := []) (ca := []) (by kernel_rfl) rfl rfl (by decide) (fun w1 st => when_any _ _ w1) ?_
 refine XK.go ?_
 exact XK.ret1 rfl rfl fun w1 st => ⟨rfl, st.below (by simp)⟩
theorem device_2 (clock domain reset clamp : Int) (A B : Option Addr) (n k nb kb : Nat) (A1 A2 A3 A4 : Option Addr) (n1 k1 n2 k2 n3 k3 n4 k4 : Nat) (gd gs : Nat) (w : World) (hd : ROn w gd 0 [.int .i64 clock, .int .i64 domain, .int .i64 reset, .int .u32 clamp, .slice B nb kb, .slice A n k]) (hs : ROn w gs 0 [.slice A1 n1 k1, .slice A2 n2 k2, .slice A3 n3 k3, .slice A4 n4 k4]) (hz2 : (n2 : Int) ≤ 9223372036854775806) :
  Calls Tryz.prog 112 #[.pointer (some ⟨gd, 0, none⟩), .pointer (some ⟨gs, 0, none⟩)] w (Rt (.int .i64 (whenE (!withinB domain 0 ((n2 : Int) - 1)) 4)) w) := by
 refine XK.enter (vs := [.pointer (some ⟨gd, 0, none⟩), .pointer (some ⟨gs, 0, none⟩)]) Tryz.func112 rfl Tryz.ntmps112 (by simp) ?_
 refine XK.go ?_
 refine xk_callR (f := 105) (fi := []) (ca := []) (by kernel_rfl) rfl rfl (by decide) (fun w1 st => within_any _ _ _ w1) ?_
 refine XK.go ?_
 refine xk_callR (f := 99) (fi := []) (ca := []) (by kernel_rfl) rfl rfl (by decide) (fun w1 st => when_any _ _ w1) ?_
 refine XK.go ?_
 exact XK.ret1 rfl rfl fun w1 st => ⟨rfl, st.below (by simp)⟩
theorem device_3 (clock domain reset clamp : Int) (A B : Option Addr) (n k nb kb : Nat) (A1 A2 A3 A4 : Option Addr) (n1 k1 n2 k2 n3 k3 n4 k4 : Nat) (gd gs : Nat) (w : World) (hd : ROn w gd 0 [.int .i64 clock, .int .i64 domain, .int .i64 reset, .int .u32 clamp, .slice B nb kb, .slice A n k]) (hs : ROn w gs 0 [.slice A1 n1 k1, .slice A2 n2 k2, .slice A3 n3 k3, .slice A4 n4 k4]) (hz3 : (n3 : Int) ≤ 9223372036854775806) :
  Calls Tryz.prog 113 #[.pointer (some ⟨gd, 0, none⟩), .pointer (some ⟨gs, 0, none⟩)] w (Rt (.int .i64 (whenE (!withinB reset 0 ((n3 : Int) - 1)) 4)) w) := by
 refine XK.enter (vs := [.pointer (some ⟨gd, 0, none⟩), .pointer (some ⟨gs, 0, none⟩)]) Tryz.func113 rfl Tryz.ntmps113 (by simp) ?_
 refine XK.go ?_
 refine xk_callR (f := 105) (fi := []) (ca := []) (by kernel_rfl) rfl rfl (by decide) (fun w1 st => within_any _ _ _ w1) ?_
 refine XK.go ?_
 refine xk_callR (f := 99) (fi := []) (ca := []) (by kernel_rfl) rfl rfl (by decide) (fun w1 st => when_any _ _ w1) ?_
 refine XK.go ?_
 exact XK.ret1 rfl rfl fun w1 st => ⟨rfl, st.below (by simp)⟩
theorem device_4_1 (f : Int) (A1 A2 A3 A4 : Option Addr) (n1 k1 n2 k2 n3 k3 n4 k4 : Nat) (gs : Nat) (w : World) (hs : ROn w gs 0 [.slice A1 n1 k1, .slice A2 n2 k2, .slice A3 n3 k3, .slice A4 n4 k4]) (hz4 : (n4 : Int) ≤ 9223372036854775806) :
  Calls Tryz.prog 115 #[.int .i64 f, .pointer (some ⟨gs, 0, none⟩)] w (Rt (.int .i64 (whenE (!withinB f 0 ((n4 : Int) - 1)) 4)) w) := by
 refine XK.enter (vs := [.int .i64 f, .pointer (some ⟨gs, 0, none⟩)]) Tryz.func115 rfl Tryz.ntmps115 (by simp) ?_
 refine XK.go ?_
 refine xk_callR (f := 105) (fi := []) (ca := []) (by kernel_rfl) rfl rfl (by decide) (fun w1 st => within_any _ _ _ w1) ?_
 refine XK.go ?_
 refine xk_callR (f := 99) (fi := []) (ca := []) (by kernel_rfl) rfl rfl (by decide) (fun w1 st => when_any _ _ w1) ?_
 refine XK.go ?_
 exact XK.ret1 rfl rfl fun w1 st => ⟨rfl, st.below (by simp)⟩
theorem device_4 (clock domain reset clamp : Int) (A B : Option Addr) (n k nb kb : Nat) (A1 A2 A3 A4 : Option Addr) (n1 k1 n2 k2 n3 k3 n4 k4 : Nat) (gd gs : Nat) (w : World) (hd : ROn w gd 0 [.int .i64 clock, .int .i64 domain, .int .i64 reset, .int .u32 clamp, .slice B nb kb, .slice A n k]) (hs : ROn w gs 0 [.slice A1 n1 k1, .slice A2 n2 k2, .slice A3 n3 k3, .slice A4 n4 k4]) (hz4 : (n4 : Int) ≤ 9223372036854775806) (zs : List Int) (hA : SlS (all w) 1 A n (intCells zs)) (hn : n = zs.length) (hz : (n : Int) ≤ 9223372036854775806) :
  Calls Tryz.prog 114 #[.pointer (some ⟨gd, 0, none⟩), .pointer (some ⟨gs, 0, none⟩)] w (Rt (.int .i64 (firstE (zs.map fun f => whenE (!withinB f 0 ((n4 : Int) - 1)) 4))) w) := by
 refine XK.enter (vs := [.pointer (some ⟨gd, 0, none⟩), .pointer (some ⟨gs, 0, none⟩)]) Tryz.func114 rfl Tryz.ntmps114 (by simp) ?_
 refine XK.go ?_
 refine xk_func (vf := []) (vc := [.pointer (some ⟨gs, 0, none⟩)]) rfl rfl (by decide) ?_
 refine xk_callR (f := 103) (fi := []) (ca := []) (by kernel_rfl) rfl rfl (by decide) (fun w1 st => each_int _ _ _ 115 [.pointer (some ⟨gs, 0, none⟩)] ((intCells zs).map fun v => [v]) (zs.map fun f => whenE (!withinB f 0 ((n4 : Int) - 1)) 4) w1 (by rw [flat1]; exact hA.le (all_le (st.started (by simp)))) (by simp) (by simp [intCells]; omega) (by simp; omega) (by omega) (by kernel_rfl) (fun i r x hr hx w2 hb2 => by
  obtain ⟨f, hf, rfl⟩ : ∃ f, zs[i]? = some f ∧ r = [.int .i64 f] := by
   rw [List.getElem?_map, intCells, List.getElem?_map] at hr
   cases hq : zs[i]? with
   | none => simp [hq] at hr
   | some f => simp [hq] at hr; exact ⟨f, rfl, hr.symm⟩
  rw [List.getElem?_map, hf] at hx
  cases hx
  exact device_4_1 f A1 A2 A3 A4 n1 k1 n2 k2 n3 k3 n4 k4 gs w2 ((hs.below (st.started (by simp))).below hb2) hz4)) ?_
 refine XK.go ?_
 exact XK.ret1 rfl rfl fun w1 st => ⟨rfl, st.below (by simp)⟩
theorem device_any (rg : List Rg) (clock domain reset clamp : Int) (A B : Option Addr) (n k nb kb : Nat) (A1 A2 A3 A4 : Option Addr) (n1 k1 n2 k2 n3 k3 n4 k4 : Nat) (w : World) (hz1 : (n1 : Int) ≤ 9223372036854775806) (hz2 : (n2 : Int) ≤ 9223372036854775806) (hz3 : (n3 : Int) ≤ 9223372036854775806) (hz4 : (n4 : Int) ≤ 9223372036854775806) (zs : List Int) (hA : SlS (all w) 1 A n (intCells zs)) (hn : n = zs.length) (hz : (n : Int) ≤ 9223372036854775806) :
  Calls Tryz.prog 83 #[.agg #[.slice A1 n1 k1, .slice A2 n2 k2, .slice A3 n3 k3, .slice A4 n4 k4], .agg #[.int .i64 clock, .int .i64 domain, .int .i64 reset, .int .u32 clamp, .slice B nb kb, .slice A n k]] w (Rt (.int .i64 (deviceE n1 n2 n3 n4 ⟨clock, domain, reset, clamp, rg, zs⟩)) w) := by
 refine XK.enter (vs := [.agg #[.slice A1 n1 k1, .slice A2 n2 k2, .slice A3 n3 k3, .slice A4 n4 k4], .agg #[.int .i64 clock, .int .i64 domain, .int .i64 reset, .int .u32 clamp, .slice B nb kb, .slice A n k]]) Tryz.func83 rfl Tryz.ntmps83 (by simp) ?_
 refine XK.seq ?_
 refine XK.region ?_
 refine xk_box rfl (by decide) fun g1 => ?_
 refine xk_box rfl (by decide) fun g2 => ?_
 refine xk_assign rfl (by decide) ?_
 refine XK.nilN ?_
 refine XK.seq ?_
 refine XK.region ?_
 refine xk_func (vf := []) (vc := [.pointer (some ⟨g2, 0, none⟩), .pointer (some ⟨g1, 0, none⟩)]) rfl rfl (by decide) ?_
 refine xk_func (vf := []) (vc := [.pointer (some ⟨g2, 0, none⟩), .pointer (some ⟨g1, 0, none⟩)]) rfl rfl (by decide) ?_
 refine xk_func (vf := []) (vc := [.pointer (some ⟨g2, 0, none⟩), .pointer (some ⟨g1, 0, none⟩)]) rfl rfl (by decide) ?_
 refine xk_func (vf := []) (vc := [.pointer (some ⟨g2, 0, none⟩), .pointer (some ⟨g1, 0, none⟩)]) rfl rfl (by decide) ?_
 refine xk_slice (el := 217) (sz := 1) (zs := [.nilFunc]) (by kernel_rfl) (zeroB_of (by kernel_rfl)) (by kernel_rfl) rfl (by decide) (by decide) rfl (by simp [fillL, setN, Value.cells, List.range_succ, List.set]; rfl) (by decide) fun g3 => ?_
 refine xk_callR (f := 61) (fi := []) (ca := []) (by kernel_rfl) rfl rfl (by decide) (fun w1 st => first_any _ _ _ [(111, [.pointer (some ⟨g2, 0, none⟩), .pointer (some ⟨g1, 0, none⟩)]), (112, [.pointer (some ⟨g2, 0, none⟩), .pointer (some ⟨g1, 0, none⟩)]), (113, [.pointer (some ⟨g2, 0, none⟩), .pointer (some ⟨g1, 0, none⟩)]), (114, [.pointer (some ⟨g2, 0, none⟩), .pointer (some ⟨g1, 0, none⟩)])] [whenE (!withinB clock 0 ((n1 : Int) - 1)) 4, whenE (!withinB domain 0 ((n2 : Int) - 1)) 4, whenE (!withinB reset 0 ((n3 : Int) - 1)) 4, firstE (zs.map fun f => whenE (!withinB f 0 ((n4 : Int) - 1)) 4)] w1 (st.slS (i := 0) (n := 4) (sz := 1) (cs := [.func (.func 111) #[] #[.pointer (some ⟨g2, 0, none⟩), .pointer (some ⟨g1, 0, none⟩)], .func (.func 112) #[] #[.pointer (some ⟨g2, 0, none⟩), .pointer (some ⟨g1, 0, none⟩)], .func (.func 113) #[] #[.pointer (some ⟨g2, 0, none⟩), .pointer (some ⟨g1, 0, none⟩)], .func (.func 114) #[] #[.pointer (some ⟨g2, 0, none⟩), .pointer (some ⟨g1, 0, none⟩)]]) rfl rfl) rfl rfl (by decide) (by simp only [List.mem_cons, List.not_mem_nil, or_false]; rintro f (rfl | rfl | rfl | rfl) <;> kernel_rfl) (fun i f x hf hx w2 hb2 => by
  have hbb := (st.started (by simp)).trans (hb2.mono st.size)
  match i, hf, hx with
  | 0, hf, hx => cases hf; cases hx; exact device_1 clock domain reset clamp A B n k nb kb A1 A2 A3 A4 n1 k1 n2 k2 n3 k3 n4 k4 g2 g1 w2 (st.box (cs := [.int .i64 clock, .int .i64 domain, .int .i64 reset, .int .u32 clamp, .slice B nb kb, .slice A n k]) (i := 1) rfl |>.below hb2) (st.box (cs := [.slice A1 n1 k1, .slice A2 n2 k2, .slice A3 n3 k3, .slice A4 n4 k4]) (i := 2) rfl |>.below hb2) hz1
  | 1, hf, hx => cases hf; cases hx; exact device_2 clock domain reset clamp A B n k nb kb A1 A2 A3 A4 n1 k1 n2 k2 n3 k3 n4 k4 g2 g1 w2 (st.box (cs := [.int .i64 clock, .int .i64 domain, .int .i64 reset, .int .u32 clamp, .slice B nb kb, .slice A n k]) (i := 1) rfl |>.below hb2) (st.box (cs := [.slice A1 n1 k1, .slice A2 n2 k2, .slice A3 n3 k3, .slice A4 n4 k4]) (i := 2) rfl |>.below hb2) hz2
  | 2, hf, hx => cases hf; cases hx; exact device_3 clock domain reset clamp A B n k nb kb A1 A2 A3 A4 n1 k1 n2 k2 n3 k3 n4 k4 g2 g1 w2 (st.box (cs := [.int .i64 clock, .int .i64 domain, .int .i64 reset, .int .u32 clamp, .slice B nb kb, .slice A n k]) (i := 1) rfl |>.below hb2) (st.box (cs := [.slice A1 n1 k1, .slice A2 n2 k2, .slice A3 n3 k3, .slice A4 n4 k4]) (i := 2) rfl |>.below hb2) hz3
  | 3, hf, hx => cases hf; cases hx; exact device_4 clock domain reset clamp A B n k nb kb A1 A2 A3 A4 n1 k1 n2 k2 n3 k3 n4 k4 g2 g1 w2 (st.box (cs := [.int .i64 clock, .int .i64 domain, .int .i64 reset, .int .u32 clamp, .slice B nb kb, .slice A n k]) (i := 1) rfl |>.below hb2) (st.box (cs := [.slice A1 n1 k1, .slice A2 n2 k2, .slice A3 n3 k3, .slice A4 n4 k4]) (i := 2) rfl |>.below hb2) hz4 zs (hA.le (all_le hbb)) hn hz
  | i + 4, hf, _ => simp at hf)) ?_
 refine xk_assign rfl (by decide) ?_
 refine XK.nilN ?_
 refine XK.ret ?_
 refine XK.norm ?_
 exact XK.ret1 rfl rfl fun w1 st => ⟨rfl, st.below (by simp)⟩
theorem full_1 (rg : List Rg) (zs : List Int) (clock domain reset clamp : Int) (A B : Option Addr) (n k nb kb : Nat) (w : World) (hrg : nb = rg.length) (hn : n = zs.length) :
  Calls Tryz.prog 98 #[.agg #[.int .i64 clock, .int .i64 domain, .int .i64 reset, .int .u32 clamp, .slice B nb kb, .slice A n k]] w (Rt (.int .i64 (manyE ⟨clock, domain, reset, clamp, rg, zs⟩)) w) := by
 refine XK.enter (vs := [.agg #[.int .i64 clock, .int .i64 domain, .int .i64 reset, .int .u32 clamp, .slice B nb kb, .slice A n k]]) Tryz.func98 rfl Tryz.ntmps98 (by simp) ?_
 refine XK.go ?_
 refine xk_box rfl (by decide) fun g1 => ?_
 refine XK.go ?_
 refine xk_split (t := 7) rfl (fun hg => ?_) (fun hg => ?_)
 ·
  refine XK.go ?_
  refine xk_callR (f := 99) (fi := []) (ca := []) (by kernel_rfl) rfl rfl (by decide) (fun w1 st => when_any _ _ w1) ?_
  refine XK.go ?_
  exact XK.ret1 rfl rfl fun w1 st => ⟨by subst hrg hn; simp [manyE, hg], st.below (by simp)⟩
 ·
  refine XK.go ?_
  refine xk_callR (f := 99) (fi := []) (ca := []) (by kernel_rfl) rfl rfl (by decide) (fun w1 st => when_any _ _ w1) ?_
  refine XK.go ?_
  exact XK.ret1 rfl rfl fun w1 st => ⟨by subst hrg hn; simp [manyE, hg], st.below (by simp)⟩
end
section
set_option maxHeartbeats 4000000
set_option maxRecDepth 20000
def Soc.small (s : Soc) : Prop := s.clocks.length ≤ 1000000 ∧ s.domains.length ≤ 1000000 ∧ s.resets.length ≤ 1000000 ∧ s.devs.length ≤ 1000000 ∧ (∀ c ∈ s.clocks, c.src.length ≤ 1000000) ∧ ∀ d ∈ s.devs, d.needs.length ≤ 1000000
structure SocW (w : World) (s : Soc) (A1 : Option Addr) (n1 : Nat) (A2 : Option Addr) (n2 : Nat) (A3 : Option Addr) (n3 : Nat) (A4 : Option Addr) (n4 : Nat) : Prop where
 clk : RsR (slq (all w)) (ClkR (slq (all w))) 64 6 A1 n1 s.clocks
 dom : RsR (slq (all w)) DomR 49 3 A2 n2 s.domains
 rst : RsR (slq (all w)) RstR 66 1 A3 n3 s.resets
 dev : RsR (slq (all w)) (DevR (slq (all w))) 71 6 A4 n4 s.devs
 small : s.small
section
variable {w w' : World} {s : Soc} {A1 A2 A3 A4 : Option Addr} {n1 n2 n3 n4 : Nat}
theorem SocW.le (h : SocW w s A1 n1 A2 n2 A3 n3 A4 n4) (hb : Below w.heap.size w w') : SocW w' s A1 n1 A2 n2 A3 n3 A4 n4 :=
 ⟨h.clk.mono (slq_le (all_le hb)) (fun _ _ => ClkR.mono (slq_le (all_le hb))), h.dom.mono (slq_le (all_le hb)) (fun _ _ h => h), h.rst.mono (slq_le (all_le hb)) (fun _ _ h => h), h.dev.mono (slq_le (all_le hb)) (fun _ _ => DevR.mono (slq_le (all_le hb))), h.small⟩
theorem SocW.len1 (h : SocW w s A1 n1 A2 n2 A3 n3 A4 n4) : n1 = s.clocks.length := by obtain ⟨_, _, h, _⟩ := h.clk; exact h
theorem SocW.len2 (h : SocW w s A1 n1 A2 n2 A3 n3 A4 n4) : n2 = s.domains.length := by obtain ⟨_, _, h, _⟩ := h.dom; exact h
theorem SocW.len3 (h : SocW w s A1 n1 A2 n2 A3 n3 A4 n4) : n3 = s.resets.length := by obtain ⟨_, _, h, _⟩ := h.rst; exact h
theorem SocW.len4 (h : SocW w s A1 n1 A2 n2 A3 n3 A4 n4) : n4 = s.devs.length := by obtain ⟨_, _, h, _⟩ := h.dev; exact h
end
theorem RsR.row {α : Type} {w : World} {R : α → List Value → Prop} {t : TypeId} {sz n : Nat} {A : Option Addr} {es : List α} (h : RsR (slq (all w)) R t sz A n es) {k : Nat} {e : α} (hk : es[k]? = some e) :
  ∃ b off r, A = some ⟨b, off, none⟩ ∧ r.length = sz ∧ R e r ∧ ROn w b (off + k * sz) r := by
 obtain ⟨rows, h1, h2, h3⟩ := h
 have hke := (List.getElem?_eq_some_iff.1 hk).1
 have hl := h1.len.1
 obtain ⟨r, hr⟩ : ∃ r, rows[k]? = some r := ⟨_, List.getElem?_eq_getElem (by omega)⟩
 obtain ⟨e', he, hrl, hR⟩ := h1.at_ hr
 rw [hk] at he
 cases he
 obtain ⟨b, off, hA, hro⟩ := SlS.row h3 h1.all_len hr (by omega)
 exact ⟨b, off, r, hA, hrl, hR, hro⟩
def clocksG (s : Soc) : List (List Int) := s.clocks.map (·.src)
def domsG (s : Soc) : List (List Int) := s.domains.map fun d => if d.above = -1 then [] else [d.above]
def needsG (s : Soc) : List (List Int) := s.devs.map (·.needs)
def cycE (g : List (List Int)) : Int := whenE (decide ((orderE g).1 = 5)) 5
theorem fill_set {vs : List Value} {v z : Value} {k n : Nat} (h : vs.length = k) (hk : k < n) : (vs ++ List.replicate (n - k) z).set k v = (vs ++ [v]) ++ List.replicate (n - (k + 1)) z := by
 rw [List.set_append_right _ _ (by omega), h, Nat.sub_self, show n - k = (n - (k + 1)) + 1 by omega, List.replicate_succ, List.set_cons_zero, List.append_assoc]; rfl
theorem fill_nil {vs : List Value} {z : Value} {k n : Nat} (hk : k < n) : vs ++ List.replicate (n - k) z = (vs ++ [z]) ++ List.replicate (n - (k + 1)) z := by
 rw [show n - k = (n - (k + 1)) + 1 by omega, List.replicate_succ, List.append_assoc]; rfl
theorem rows_next {g : List (List Int)} {k : Nat} {vs : List Value} {q q' : Piece} {l : List Int} {v : Value} (h : Rows (LstR (slq q)) 1 (g.take k) (vs.map fun v => [v])) (hl : q.Le q') (hg : g[k]? = some l) (hv : LstR (slq q') l [v]) : Rows (LstR (slq q')) 1 (g.take (k + 1)) ((vs ++ [v]).map fun v => [v]) := by
 rw [List.take_add_one, hg, Option.toList_some, List.map_append]
 exact (h.mono (fun _ _ => LstR.mono (slq_le hl))).snoc rfl hv
theorem GrS.ofBlk {q q2 : Piece} {g : List (List Int)} {vs : List Value} {gG n : Nat} {t : TypeId} (h : Rows (LstR (slq q)) 1 g (vs.map fun v => [v])) (hl : q.Le q2) (h1 : ∃ F, (HP.blk gG t vs).sat F q2.w ∧ ∀ b, F b → q2.Z b) (hn : n = g.length) : GrS q2 (some ⟨gG, 0, none⟩) n g := by
 obtain ⟨F, hs, hz⟩ := h1
 refine ⟨_, h.mono (fun _ _ => LstR.mono (slq_le hl)), hn, ?_⟩
 rw [show (vs.map fun v => [v]).flatten = vs by clear h hs; induction vs <;> simp_all]
 refine SlS.of_blk (c := 0) hs hz ?_
 have := h.len.1
 simp at this
 omega
def OwnOk (zs : List Int) (v : Value) (w w' : World) : Prop := ∃ A c, v = .slice A zs.length c ∧ SlS (fresh w w') 1 A zs.length (intCells zs)
def GrOk (g : List (List Int)) (v : Value) (w w' : World) : Prop := ∃ A c, v = .slice A g.length c ∧ GrS (fresh w w') A g.length g
theorem check_any (A : Option Addr) (n c : Nat) (g : List (List Int)) (w : World) (hg : GrS (all w) A n g) (hn : n = g.length) (hn2 : (n : Int) ≤ 9223372036854775806) (hlen : ∀ l ∈ g, (l.length : Int) ≤ 9223372036854775806) :
  Calls Tryz.prog 108 #[.slice A n c] w (Rt (.int .i64 (orderE g).1) w) := by
 refine XK.enter (vs := [.slice A n c]) Tryz.func108 rfl Tryz.ntmps108 (by simp) ?_
 refine XK.go ?_
 refine xk_callV (f := 125) (fi := []) (ca := []) (by kernel_rfl) rfl rfl (by decide) (fun v => ∃ A m c, v = .tuple #[.slice A m c, .int .i64 (orderE g).1]) (fun w1 st => (order_any A n c g w1 (hg.le (all_le (st.started (by simp)))) hn hn2 hlen).mono fun y w2 h => ?_) ?_
 ·obtain ⟨⟨A', m, c', hy, _, _⟩, hb⟩ := h
  exact ⟨⟨_, hy, A', m, c', rfl⟩, hb⟩
 rintro _ ⟨A', m, c', rfl⟩
 refine XK.go ?_
 exact XK.ret1 rfl rfl fun w1 st => ⟨rfl, st.below (by simp)⟩
theorem cycle_any (A : Option Addr) (n c : Nat) (g : List (List Int)) (w : World) (hg : GrS (all w) A n g) (hn : n = g.length) (hn2 : (n : Int) ≤ 9223372036854775806) (hlen : ∀ l ∈ g, (l.length : Int) ≤ 9223372036854775806) :
  Calls Tryz.prog 69 #[.slice A n c] w (Rt (.int .i64 (cycE g)) w) := by
 refine XK.enter (vs := [.slice A n c]) Tryz.func69 rfl Tryz.ntmps69 (by simp) ?_
 refine XK.go ?_
 refine xk_callR (f := 108) (fi := []) (ca := []) (by kernel_rfl) rfl rfl (by decide) (fun w1 st => check_any A n c g w1 (hg.le (all_le (st.started (by simp)))) hn hn2 hlen) ?_
 refine XK.go ?_
 refine xk_callR (f := 99) (fi := []) (ca := []) (by kernel_rfl) rfl rfl (by decide) (fun w1 st => when_any _ _ w1) ?_
 refine XK.go ?_
 exact XK.ret1 rfl rfl fun w1 st => ⟨rfl, st.below (by simp)⟩
theorem own_any (A : Option Addr) (n c : Nat) (zs : List Int) (w : World) (hs : SlS (all w) 1 A n (intCells zs)) (hn : n = zs.length) (hn2 : n ≤ 1000000) :
  Calls Tryz.prog 52 #[.slice A n c] w (fun y w' => (∃ v, y = .returned v ∧ OwnOk zs v w w') ∧ Below w.heap.size w w') := by
 refine XK.enter (vs := [.slice A n c]) Tryz.func52 rfl Tryz.ntmps52 (by simp) ?_
 refine XK.seq ?_
 refine XK.region ?_
 refine xk_assign rfl (by decide) ?_
 refine XK.nilN ?_
 refine XK.seq ?_
 refine XK.region ?_
 refine xk_move rfl (by decide) ?_
 refine XK.nilrow 3 1 ?_
 refine xk_appendT 0 1 8 n (n' := n) (v := .slice none 0 0) (el := 3) (by kernel_rfl) (by kernel_rfl) (by decide) rfl rfl rfl (sl_ro (by simp) hs) (by simp [intCells, Value.oneCell']) (by omega) (by omega) (by omega) (by decide) fun A' k' => ?_
 refine xk_assign rfl (by decide) ?_
 refine XK.nilN ?_
 refine XK.ret ?_
 refine XK.norm ?_
 refine XK.still [] [0] [] (by simp) rfl (by decide) (by decide) fun q hq _ hfr => ?_
 subst hn
 exact XK.ret1 rfl rfl fun w1 st => ⟨⟨_, rfl, A', k', rfl, (SlS.own (hq 0 _ (by simp) rfl)).le (st.fresh_le (by simp) (hfr (by simp) (by simp)))⟩, st.below (by simp)⟩
theorem clocks_any (s : Soc) (A1 A2 A3 A4 : Option Addr) (n1 k1 n2 k2 n3 k3 n4 k4 : Nat) (w : World) (hW : SocW w s A1 n1 A2 n2 A3 n3 A4 n4) :
  Calls Tryz.prog 70 #[.agg #[.slice A1 n1 k1, .slice A2 n2 k2, .slice A3 n3 k3, .slice A4 n4 k4]] w (fun y w' => (∃ v, y = .returned v ∧ GrOk (clocksG s) v w w') ∧ Below w.heap.size w w') := by
 have hn := hW.len1
 have hsm := hW.small
 unfold Soc.small at hsm
 obtain ⟨hs1, hs2, hs3, hs4, hs5, hs6⟩ := hsm
 refine XK.enter (vs := [.agg #[.slice A1 n1 k1, .slice A2 n2 k2, .slice A3 n3 k3, .slice A4 n4 k4]]) Tryz.func70 rfl Tryz.ntmps70 (by simp) ?_
 refine XK.seq ?_
 refine XK.region ?_
 refine xk_box rfl (by decide) fun g1 => ?_
 refine xk_assign rfl (by decide) ?_
 refine XK.nilN ?_
 refine XK.seq ?_
 refine XK.region ?_
 refine xk_field (off := 0) (by kernel_rfl) rfl (by decide) ?_
 refine xk_ld rfl ?_
 refine xk_len (el := 64) (by kernel_rfl) rfl (by decide) ?_
 refine xk_makeT 24 (el := 22) (z := .slice none 0 0) (by kernel_rfl) (by kernel_rfl) rfl rfl rfl (by omega) (by omega) (by decide) fun g2 => ?_
 refine xk_assign rfl (by decide) ?_
 refine XK.nilN ?_
 refine XK.seq ?_
 refine XK.seq ?_
 refine XK.region ?_
 refine xk_field (off := 0) (by kernel_rfl) rfl (by decide) ?_
 refine xk_ld rfl ?_
 refine xk_len (el := 64) (by kernel_rfl) rfl (by decide) ?_
 refine xk_move rfl (by decide) ?_
 refine XK.nilN ?_
 refine XK.envS [(13, .int .i64 0), (12, .int .i64 n1), (11, .slice A1 n1 k1), (3, .slice (some ⟨g2, 0, none⟩) n1 n1), (1, .pointer (some ⟨g1, 0, none⟩))] ?_
 refine XK.still [] [] [0, 1] (by simp) rfl (by decide) (by decide) fun q0 _ _ hfr0 => ?_
 refine XK.block ?_
 refine XK.loop (fun m e R H => ∃ (k : Nat) (vs : List Value) (q : Piece), k ≤ n1 ∧ m = n1 - k ∧ Fresh w q ∧ Rows (LstR (slq q)) 1 ((clocksG s).take k) (vs.map fun v => [v]) ∧ vs.length = k ∧ e = [(13, .int .i64 k), (12, .int .i64 n1), (11, .slice A1 n1 k1), (3, .slice (some ⟨g2, 0, none⟩) n1 n1), (1, .pointer (some ⟨g1, 0, none⟩))] ∧ R = [q, all w] ∧ H = [HP.blk g2 22 (vs ++ List.replicate (n1 - k) (.slice none 0 0)), HP.blk g1 34 [.slice A1 n1 k1, .slice A2 n2 k2, .slice A3 n3 k3, .slice A4 n4 k4]]) n1 ⟨0, [], _, by omega, rfl, hfr0 (by simp) (by simp), trivial, rfl, rfl, rfl, rfl⟩ fun m e R H hI => ?_
 obtain ⟨k, vs, q, hk, rfl, hfq, hrows, hvl, rfl, rfl, rfl⟩ := hI
 refine XK.seq ?_
 refine XK.region ?_
 refine xk_lss rfl rfl (by decide) ?_
 refine XK.nilN ?_
 refine XK.seq ?_
 refine XK.if_ rfl (fun h => ?_) (fun h => ?_)
 ·
  refine XK.skip ?_
  refine XK.norm ?_
  refine XK.seq ?_
  refine XK.block ?_
  refine XK.seq ?_
  have hkn : k < s.clocks.length := by omega
  obtain ⟨e, he⟩ : ∃ e, s.clocks[k]? = some e := ⟨_, List.getElem?_eq_getElem hkn⟩
  obtain ⟨b, off, r, rfl, hrl, hR, hro⟩ := hW.clk.row he
  obtain ⟨Af, nf, kf, rfl, hnf, hsf⟩ := hR
  have hgk : (clocksG s)[k]? = some (e.src) := by simp [clocksG, he]
  refine XK.region ?_
  refine xk_move rfl (by decide) ?_
  refine xk_at (k) (off + k * 6) (el := 64) (sz := 6) (by kernel_rfl) (by kernel_rfl) rfl rfl (by omega) (by omega) (by omega) (by decide) ?_
  refine xk_ldN 6 rfl ?_
  refine xk_alloc (cs := [.int .u8 0, .slice none 0 0, .int .u64 0, .int .i64 0, .int .i64 0, .int .i64 0]) (zeroB_of (by kernel_rfl)) (by decide) fun g3 => ?_
  refine xk_assign rfl (by decide) ?_
  refine xk_stN rfl rfl ?_; simp only [putN, Value.cells, List.set, List.take, List.drop, List.nil_append, List.append_nil, List.length_cons, List.length_nil, List.cons_append, Nat.reduceAdd]
  refine XK.nilN ?_
  refine XK.region ?_
  refine xk_move rfl (by decide) ?_
  refine xk_move rfl (by decide) ?_
  refine xk_field (off := 1) (by kernel_rfl) rfl (by decide) ?_
  refine xk_ld rfl ?_
  refine xk_call [q] (f := 52) (fi := []) (ca := []) (by kernel_rfl) rfl rfl (by decide) (by simp) (OwnOk e.src) (fun w1 st => own_any Af nf kf e.src w1 (SlS.le hsf (all_le (st.started (by simp)))) hnf (by have := hs5 e (List.mem_of_getElem? he); omega)) ?_
  rintro _ w1 q' ⟨Ao, co, rfl, hso⟩ hf' hle hfr2
  refine xk_at (k) (k) (el := 22) (sz := 1) (by kernel_rfl) (by kernel_rfl) rfl rfl (by omega) (by omega) (by omega) (by decide) ?_
  refine xk_store 1 rfl (by kernel_rfl) rfl rfl rfl (by simp; omega) ?_
  dsimp only [List.set]
  rw [fill_set hvl (by omega)]
  refine XK.nilN ?_
  refine XK.region ?_
  refine xk_add rfl rfl (wrap_in (by omega)) (by decide) ?_
  refine xk_move rfl (by decide) ?_
  refine XK.nilN ?_
  exact XK.weak [1, 2] rfl (by decide) (by simp) (XK.envS [(13, .int .i64 (k + 1)), (12, .int .i64 n1), (11, .slice (some ⟨b, off, none⟩) n1 k1), (3, .slice (some ⟨g2, 0, none⟩) n1 n1), (1, .pointer (some ⟨g1, 0, none⟩))] (XK.round (n1 - (k + 1)) (by omega) ⟨k + 1, vs ++ [_], q', by omega, rfl, hfr2 (by simpa using hfq), rows_next hrows (hle q (by simp)) hgk ⟨Ao, _, co, rfl, rfl, SlS.le hso hf'⟩, by simp [hvl], rfl, rfl, rfl⟩))
 ·
  refine XK.exit ?_
  refine XK.norm ?_
  refine XK.seq ?_
  obtain rfl : k = n1 := by omega
  rw [Nat.sub_self, List.replicate_zero, List.append_nil]
  rw [List.take_of_length_le (by simp [clocksG]; omega)] at hrows
  refine XK.region ?_
  refine xk_move rfl (by decide) ?_
  refine xk_assign rfl (by decide) ?_
  refine XK.nilN ?_
  refine XK.ret ?_
  refine XK.norm ?_
  refine XK.still [q] [0] [] (by simp) rfl (by decide) (by decide) fun q2 hq hle hfr => ?_
  have hgl : k = (clocksG s).length := by simp [clocksG]; omega
  exact XK.ret1 rfl rfl fun w1 st => ⟨⟨_, rfl, some ⟨g2, 0, none⟩, k, by rw [← hgl], by rw [← hgl]; exact (GrS.ofBlk hrows (hle q (by simp)) (hq 0 _ (by simp) rfl) hgl).le (st.fresh_le (by simp) (hfr (by simp) (by simpa using hfq)))⟩, st.below (by simp)⟩
theorem needs_any (s : Soc) (A1 A2 A3 A4 : Option Addr) (n1 k1 n2 k2 n3 k3 n4 k4 : Nat) (w : World) (hW : SocW w s A1 n1 A2 n2 A3 n3 A4 n4) :
  Calls Tryz.prog 47 #[.agg #[.slice A1 n1 k1, .slice A2 n2 k2, .slice A3 n3 k3, .slice A4 n4 k4]] w (fun y w' => (∃ v, y = .returned v ∧ GrOk (needsG s) v w w') ∧ Below w.heap.size w w') := by
 have hn := hW.len4
 have hsm := hW.small
 unfold Soc.small at hsm
 obtain ⟨hs1, hs2, hs3, hs4, hs5, hs6⟩ := hsm
 refine XK.enter (vs := [.agg #[.slice A1 n1 k1, .slice A2 n2 k2, .slice A3 n3 k3, .slice A4 n4 k4]]) Tryz.func47 rfl Tryz.ntmps47 (by simp) ?_
 refine XK.seq ?_
 refine XK.region ?_
 refine xk_box rfl (by decide) fun g1 => ?_
 refine xk_assign rfl (by decide) ?_
 refine XK.nilN ?_
 refine XK.seq ?_
 refine XK.region ?_
 refine xk_field (off := 3) (by kernel_rfl) rfl (by decide) ?_
 refine xk_ld rfl ?_
 refine xk_len (el := 71) (by kernel_rfl) rfl (by decide) ?_
 refine xk_makeT 24 (el := 22) (z := .slice none 0 0) (by kernel_rfl) (by kernel_rfl) rfl rfl rfl (by omega) (by omega) (by decide) fun g2 => ?_
 refine xk_assign rfl (by decide) ?_
 refine XK.nilN ?_
 refine XK.seq ?_
 refine XK.seq ?_
 refine XK.region ?_
 refine xk_field (off := 3) (by kernel_rfl) rfl (by decide) ?_
 refine xk_ld rfl ?_
 refine xk_len (el := 71) (by kernel_rfl) rfl (by decide) ?_
 refine xk_move rfl (by decide) ?_
 refine XK.nilN ?_
 refine XK.envS [(13, .int .i64 0), (12, .int .i64 n4), (11, .slice A4 n4 k4), (3, .slice (some ⟨g2, 0, none⟩) n4 n4), (1, .pointer (some ⟨g1, 0, none⟩))] ?_
 refine XK.still [] [] [0, 1] (by simp) rfl (by decide) (by decide) fun q0 _ _ hfr0 => ?_
 refine XK.block ?_
 refine XK.loop (fun m e R H => ∃ (k : Nat) (vs : List Value) (q : Piece), k ≤ n4 ∧ m = n4 - k ∧ Fresh w q ∧ Rows (LstR (slq q)) 1 ((needsG s).take k) (vs.map fun v => [v]) ∧ vs.length = k ∧ e = [(13, .int .i64 k), (12, .int .i64 n4), (11, .slice A4 n4 k4), (3, .slice (some ⟨g2, 0, none⟩) n4 n4), (1, .pointer (some ⟨g1, 0, none⟩))] ∧ R = [q, all w] ∧ H = [HP.blk g2 22 (vs ++ List.replicate (n4 - k) (.slice none 0 0)), HP.blk g1 34 [.slice A1 n1 k1, .slice A2 n2 k2, .slice A3 n3 k3, .slice A4 n4 k4]]) n4 ⟨0, [], _, by omega, rfl, hfr0 (by simp) (by simp), trivial, rfl, rfl, rfl, rfl⟩ fun m e R H hI => ?_
 obtain ⟨k, vs, q, hk, rfl, hfq, hrows, hvl, rfl, rfl, rfl⟩ := hI
 refine XK.seq ?_
 refine XK.region ?_
 refine xk_lss rfl rfl (by decide) ?_
 refine XK.nilN ?_
 refine XK.seq ?_
 refine XK.if_ rfl (fun h => ?_) (fun h => ?_)
 ·
  refine XK.skip ?_
  refine XK.norm ?_
  refine XK.seq ?_
  refine XK.block ?_
  refine XK.seq ?_
  have hkn : k < s.devs.length := by omega
  obtain ⟨e, he⟩ : ∃ e, s.devs[k]? = some e := ⟨_, List.getElem?_eq_getElem hkn⟩
  obtain ⟨b, off, r, rfl, hrl, hR, hro⟩ := hW.dev.row he
  obtain ⟨Ar, nr, kr, Af, nf, kf, rfl, _, hnf, _, hsf⟩ := hR
  have hgk : (needsG s)[k]? = some (e.needs) := by simp [needsG, he]
  refine XK.region ?_
  refine xk_move rfl (by decide) ?_
  refine xk_at (k) (off + k * 6) (el := 71) (sz := 6) (by kernel_rfl) (by kernel_rfl) rfl rfl (by omega) (by omega) (by omega) (by decide) ?_
  refine xk_ldN 6 rfl ?_
  refine xk_alloc (cs := [.int .i64 0, .int .i64 0, .int .i64 0, .int .u32 0, .slice none 0 0, .slice none 0 0]) (zeroB_of (by kernel_rfl)) (by decide) fun g3 => ?_
  refine xk_assign rfl (by decide) ?_
  refine xk_stN rfl rfl ?_; simp only [putN, Value.cells, List.set, List.take, List.drop, List.nil_append, List.append_nil, List.length_cons, List.length_nil, List.cons_append, Nat.reduceAdd]
  refine XK.nilN ?_
  refine XK.region ?_
  refine xk_move rfl (by decide) ?_
  refine xk_move rfl (by decide) ?_
  refine xk_field (off := 5) (by kernel_rfl) rfl (by decide) ?_
  refine xk_ld rfl ?_
  refine xk_call [q] (f := 52) (fi := []) (ca := []) (by kernel_rfl) rfl rfl (by decide) (by simp) (OwnOk e.needs) (fun w1 st => own_any Af nf kf e.needs w1 (SlS.le hsf (all_le (st.started (by simp)))) hnf (by have := hs6 e (List.mem_of_getElem? he); omega)) ?_
  rintro _ w1 q' ⟨Ao, co, rfl, hso⟩ hf' hle hfr2
  refine xk_at (k) (k) (el := 22) (sz := 1) (by kernel_rfl) (by kernel_rfl) rfl rfl (by omega) (by omega) (by omega) (by decide) ?_
  refine xk_store 1 rfl (by kernel_rfl) rfl rfl rfl (by simp; omega) ?_
  dsimp only [List.set]
  rw [fill_set hvl (by omega)]
  refine XK.nilN ?_
  refine XK.region ?_
  refine xk_add rfl rfl (wrap_in (by omega)) (by decide) ?_
  refine xk_move rfl (by decide) ?_
  refine XK.nilN ?_
  exact XK.weak [1, 2] rfl (by decide) (by simp) (XK.envS [(13, .int .i64 (k + 1)), (12, .int .i64 n4), (11, .slice (some ⟨b, off, none⟩) n4 k4), (3, .slice (some ⟨g2, 0, none⟩) n4 n4), (1, .pointer (some ⟨g1, 0, none⟩))] (XK.round (n4 - (k + 1)) (by omega) ⟨k + 1, vs ++ [_], q', by omega, rfl, hfr2 (by simpa using hfq), rows_next hrows (hle q (by simp)) hgk ⟨Ao, _, co, rfl, rfl, SlS.le hso hf'⟩, by simp [hvl], rfl, rfl, rfl⟩))
 ·
  refine XK.exit ?_
  refine XK.norm ?_
  refine XK.seq ?_
  obtain rfl : k = n4 := by omega
  rw [Nat.sub_self, List.replicate_zero, List.append_nil]
  rw [List.take_of_length_le (by simp [needsG]; omega)] at hrows
  refine XK.region ?_
  refine xk_move rfl (by decide) ?_
  refine xk_assign rfl (by decide) ?_
  refine XK.nilN ?_
  refine XK.ret ?_
  refine XK.norm ?_
  refine XK.still [q] [0] [] (by simp) rfl (by decide) (by decide) fun q2 hq hle hfr => ?_
  have hgl : k = (needsG s).length := by simp [needsG]; omega
  exact XK.ret1 rfl rfl fun w1 st => ⟨⟨_, rfl, some ⟨g2, 0, none⟩, k, by rw [← hgl], by rw [← hgl]; exact (GrS.ofBlk hrows (hle q (by simp)) (hq 0 _ (by simp) rfl) hgl).le (st.fresh_le (by simp) (hfr (by simp) (by simpa using hfq)))⟩, st.below (by simp)⟩
theorem doms_any (s : Soc) (A1 A2 A3 A4 : Option Addr) (n1 k1 n2 k2 n3 k3 n4 k4 : Nat) (w : World) (hW : SocW w s A1 n1 A2 n2 A3 n3 A4 n4) :
  Calls Tryz.prog 76 #[.agg #[.slice A1 n1 k1, .slice A2 n2 k2, .slice A3 n3 k3, .slice A4 n4 k4]] w (fun y w' => (∃ v, y = .returned v ∧ GrOk (domsG s) v w w') ∧ Below w.heap.size w w') := by
 have hn := hW.len2
 have hsm := hW.small
 unfold Soc.small at hsm
 obtain ⟨hs1, hs2, hs3, hs4, hs5, hs6⟩ := hsm
 refine XK.enter (vs := [.agg #[.slice A1 n1 k1, .slice A2 n2 k2, .slice A3 n3 k3, .slice A4 n4 k4]]) Tryz.func76 rfl Tryz.ntmps76 (by simp) ?_
 refine XK.seq ?_
 refine XK.region ?_
 refine xk_box rfl (by decide) fun g1 => ?_
 refine xk_assign rfl (by decide) ?_
 refine XK.nilN ?_
 refine XK.seq ?_
 refine XK.region ?_
 refine xk_field (off := 1) (by kernel_rfl) rfl (by decide) ?_
 refine xk_ld rfl ?_
 refine xk_len (el := 49) (by kernel_rfl) rfl (by decide) ?_
 refine xk_makeT 24 (el := 22) (z := .slice none 0 0) (by kernel_rfl) (by kernel_rfl) rfl rfl rfl (by omega) (by omega) (by decide) fun g2 => ?_
 refine xk_assign rfl (by decide) ?_
 refine XK.nilN ?_
 refine XK.seq ?_
 refine XK.seq ?_
 refine XK.region ?_
 refine xk_field (off := 1) (by kernel_rfl) rfl (by decide) ?_
 refine xk_ld rfl ?_
 refine xk_len (el := 49) (by kernel_rfl) rfl (by decide) ?_
 refine xk_move rfl (by decide) ?_
 refine XK.nilN ?_
 refine XK.envS [(13, .int .i64 0), (12, .int .i64 n2), (11, .slice A2 n2 k2), (3, .slice (some ⟨g2, 0, none⟩) n2 n2), (1, .pointer (some ⟨g1, 0, none⟩))] ?_
 refine XK.still [] [] [0, 1] (by simp) rfl (by decide) (by decide) fun q0 _ _ hfr0 => ?_
 refine XK.block ?_
 refine XK.loop (fun m e R H => ∃ (k : Nat) (vs : List Value) (q : Piece), k ≤ n2 ∧ m = n2 - k ∧ Fresh w q ∧ Rows (LstR (slq q)) 1 ((domsG s).take k) (vs.map fun v => [v]) ∧ vs.length = k ∧ e = [(13, .int .i64 k), (12, .int .i64 n2), (11, .slice A2 n2 k2), (3, .slice (some ⟨g2, 0, none⟩) n2 n2), (1, .pointer (some ⟨g1, 0, none⟩))] ∧ R = [q, all w] ∧ H = [HP.blk g2 22 (vs ++ List.replicate (n2 - k) (.slice none 0 0)), HP.blk g1 34 [.slice A1 n1 k1, .slice A2 n2 k2, .slice A3 n3 k3, .slice A4 n4 k4]]) n2 ⟨0, [], _, by omega, rfl, hfr0 (by simp) (by simp), trivial, rfl, rfl, rfl, rfl⟩ fun m e R H hI => ?_
 obtain ⟨k, vs, q, hk, rfl, hfq, hrows, hvl, rfl, rfl, rfl⟩ := hI
 refine XK.seq ?_
 refine XK.region ?_
 refine xk_lss rfl rfl (by decide) ?_
 refine XK.nilN ?_
 refine XK.seq ?_
 refine XK.if_ rfl (fun h => ?_) (fun h => ?_)
 ·
  refine XK.skip ?_
  refine XK.norm ?_
  refine XK.seq ?_
  refine XK.block ?_
  refine XK.seq ?_
  have hkn : k < s.domains.length := by omega
  obtain ⟨e, he⟩ : ∃ e, s.domains[k]? = some e := ⟨_, List.getElem?_eq_getElem hkn⟩
  obtain ⟨b, off, r, rfl, hrl, hR, hro⟩ := hW.dom.row he
  obtain rfl := hR
  have hgk : (domsG s)[k]? = some (if e.above = -1 then [] else [e.above]) := by simp [domsG, he]
  refine XK.region ?_
  refine xk_move rfl (by decide) ?_
  refine xk_at (k) (off + k * 3) (el := 49) (sz := 3) (by kernel_rfl) (by kernel_rfl) rfl rfl (by omega) (by omega) (by omega) (by decide) ?_
  refine xk_ldN 3 rfl ?_
  refine xk_alloc (cs := [.int .i64 0, .int .i64 0, .bool false]) (zeroB_of (by kernel_rfl)) (by decide) fun g3 => ?_
  refine xk_assign rfl (by decide) ?_
  refine xk_stN rfl rfl ?_; simp only [putN, Value.cells, List.set, List.take, List.drop, List.nil_append, List.append_nil, List.length_cons, List.length_nil, List.cons_append, Nat.reduceAdd]
  refine XK.nilN ?_
  refine XK.seq ?_
  refine XK.region ?_
  refine xk_field (off := 0) (by kernel_rfl) rfl (by decide) ?_
  refine xk_ld rfl ?_
  refine xk_neq rfl rfl (by decide) ?_
  refine XK.nilN ?_
  refine XK.if_ rfl (fun h => ?_) (fun h => ?_)
  ·
   refine XK.region ?_
   refine xk_move rfl (by decide) ?_
   refine xk_move rfl (by decide) ?_
   refine xk_field (off := 0) (by kernel_rfl) rfl (by decide) ?_
   refine xk_ld rfl ?_
   refine xk_slice (el := 3) (sz := 1) (zs := [.int .i64 0]) (by kernel_rfl) (zeroB_of (by kernel_rfl)) (by kernel_rfl) rfl (by decide) (by decide) rfl (by simp [fillL, setN, Value.cells, List.range_succ, List.set]; rfl) (by decide) fun g4 => ?_
   refine xk_at (k) (k) (el := 22) (sz := 1) (by kernel_rfl) (by kernel_rfl) rfl rfl (by omega) (by omega) (by omega) (by decide) ?_
   refine xk_store 2 rfl (by kernel_rfl) rfl rfl rfl (by simp; omega) ?_
   dsimp only [List.set]
   rw [fill_set hvl (by omega)]
   refine XK.nilN ?_
   refine XK.region ?_
   refine xk_add rfl rfl (wrap_in (by omega)) (by decide) ?_
   refine xk_move rfl (by decide) ?_
   refine XK.nilN ?_
   refine XK.still [q] [0] [2, 3] (by simp) rfl (by decide) (by decide) fun q' hq' hle hfr' => ?_
   obtain ⟨Fg, hsg, hzg⟩ := hq' 0 _ (by simp) rfl
   have hso := SlS.of_blk (n := 1) (sz := 1) (c := 0) hsg hzg rfl
   exact XK.weak [0, 1] rfl (by decide) (by simp) (XK.envS [(13, .int .i64 (k + 1)), (12, .int .i64 n2), (11, .slice (some ⟨b, off, none⟩) n2 k2), (3, .slice (some ⟨g2, 0, none⟩) n2 n2), (1, .pointer (some ⟨g1, 0, none⟩))] (XK.round (n2 - (k + 1)) (by omega) ⟨k + 1, vs ++ [_], q', by omega, rfl, hfr' (by simp) (by simpa using hfq), rows_next hrows (hle q (by simp)) hgk (by rw [if_neg h]; exact ⟨_, 1, 1, rfl, rfl, hso⟩), by simp [hvl], rfl, rfl, rfl⟩))
  ·
   refine XK.skip ?_
   refine XK.norm ?_
   refine XK.region ?_
   refine xk_add rfl rfl (wrap_in (by omega)) (by decide) ?_
   refine xk_move rfl (by decide) ?_
   refine XK.nilN ?_
   rw [fill_nil (k := k) (by omega)]
   exact XK.weak [1, 2] rfl (by decide) (by simp) (XK.envS [(13, .int .i64 (k + 1)), (12, .int .i64 n2), (11, .slice (some ⟨b, off, none⟩) n2 k2), (3, .slice (some ⟨g2, 0, none⟩) n2 n2), (1, .pointer (some ⟨g1, 0, none⟩))] (XK.round (n2 - (k + 1)) (by omega) ⟨k + 1, vs ++ [_], q, by omega, rfl, hfq, rows_next hrows (fun b hb => ⟨hb, rfl⟩) hgk (by rw [if_pos (Classical.not_not.1 h)]; exact ⟨_, 0, 0, rfl, rfl, SlS.nil _ 1⟩), by simp [hvl], rfl, rfl, rfl⟩))
 ·
  refine XK.exit ?_
  refine XK.norm ?_
  refine XK.seq ?_
  obtain rfl : k = n2 := by omega
  rw [Nat.sub_self, List.replicate_zero, List.append_nil]
  rw [List.take_of_length_le (by simp [domsG]; omega)] at hrows
  refine XK.region ?_
  refine xk_move rfl (by decide) ?_
  refine xk_assign rfl (by decide) ?_
  refine XK.nilN ?_
  refine XK.ret ?_
  refine XK.norm ?_
  refine XK.still [q] [0] [] (by simp) rfl (by decide) (by decide) fun q2 hq hle hfr => ?_
  have hgl : k = (domsG s).length := by simp [domsG]; omega
  exact XK.ret1 rfl rfl fun w1 st => ⟨⟨_, rfl, some ⟨g2, 0, none⟩, k, by rw [← hgl], by rw [← hgl]; exact (GrS.ofBlk hrows (hle q (by simp)) (hq 0 _ (by simp) rfl) hgl).le (st.fresh_le (by simp) (hfr (by simp) (by simpa using hfq)))⟩, st.below (by simp)⟩
end
section
set_option maxHeartbeats 4000000
set_option maxRecDepth 20000
def fullE (s : Soc) : Int := if (12 : Int) < s.clocks.length ∨ (6 : Int) < s.domains.length ∨ (6 : Int) < s.resets.length ∨ (6 : Int) < s.devs.length then 8 else firstE (s.devs.map manyE)
def checkL (s : Soc) : List Int := [fullE s, firstE (s.clocks.map (clockE s.clocks.length)), cycE (clocksG s), firstE (s.domains.map (domainE s.domains.length)), cycE (domsG s), firstE (s.resets.map resetE),
 firstE (s.devs.map (deviceE s.clocks.length s.domains.length s.resets.length s.devs.length)), cycE (needsG s)]
def checkS (s : Soc) : Int := firstE (checkL s)
theorem RsR.rows {α : Type} {w : World} {R : α → List Value → Prop} {t : TypeId} {sz n : Nat} {A : Option Addr} {es : List α} (h : RsR (slq (all w)) R t sz A n es) (h1 : ∀ e r, R e r → ∀ u ∈ r, u.oneCell' = true) :
  ∃ rows : List (List Value), SlS (all w) sz A n rows.flatten ∧ (∀ r ∈ rows, r.length = sz) ∧ (∀ r ∈ rows, ∀ u ∈ r, u.oneCell' = true) ∧ rows.length = n ∧ n = es.length ∧ ∀ (i : Nat) (r : List Value), rows[i]? = some r → ∃ e, es[i]? = some e ∧ R e r := by
 obtain ⟨rows, h2, h3, h4⟩ := h
 refine ⟨rows, h4, h2.all_len, fun r hr => ?_, by rw [h2.len.1, h3], h3, fun i r hr => ?_⟩
 ·obtain ⟨i, hi⟩ := List.getElem?_of_mem hr
  obtain ⟨e, _, _, hR⟩ := h2.at_ hi
  exact h1 e r hR
 ·obtain ⟨e, he, _, hR⟩ := h2.at_ hr
  exact ⟨e, he, hR⟩
theorem ClkR.one {S : SlP} (e : Clk) (r : List Value) (h : ClkR S e r) : ∀ u ∈ r, u.oneCell' = true := by obtain ⟨A, n, k, rfl, _⟩ := h; simp [Value.oneCell']
theorem DomR.one (e : Dom) (r : List Value) (h : DomR e r) : ∀ u ∈ r, u.oneCell' = true := by cases h; simp [Value.oneCell']
theorem RstR.one (e : Int) (r : List Value) (h : RstR e r) : ∀ u ∈ r, u.oneCell' = true := by cases h; simp [Value.oneCell']
theorem DevR.one {S : SlP} (e : Dev) (r : List Value) (h : DevR S e r) : ∀ u ∈ r, u.oneCell' = true := by obtain ⟨A, n, k, A', n', k', rfl, _⟩ := h; simp [Value.oneCell']
theorem full_any (s : Soc) (A1 A2 A3 A4 : Option Addr) (n1 k1 n2 k2 n3 k3 n4 k4 : Nat) (w : World) (hW : SocW w s A1 n1 A2 n2 A3 n3 A4 n4) :
    Calls Tryz.prog 63 #[.agg #[.slice A1 n1 k1, .slice A2 n2 k2, .slice A3 n3 k3, .slice A4 n4 k4]] w (Rt (.int .i64 (fullE s)) w) := by
  have hn1 := hW.len1
  have hn2 := hW.len2
  have hn3 := hW.len3
  have hn4 := hW.len4
  have hsm := hW.small
  unfold Soc.small at hsm
  obtain ⟨hs1, hs2, hs3, hs4, hs5, hs6⟩ := hsm
  obtain ⟨rows, hr1, hr2, hr3, hr4, hr5, hr6⟩ := hW.dev.rows DevR.one
  refine XK.enter (vs := [.agg #[.slice A1 n1 k1, .slice A2 n2 k2, .slice A3 n3 k3, .slice A4 n4 k4]]) Tryz.func63 rfl Tryz.ntmps63 (by simp) ?_
  refine XK.go ?_
  refine xk_box rfl (by decide) fun g1 => ?_
  refine XK.go ?_
  refine xk_split (t := 7) rfl (fun hg => ?_) (fun hg => ?_)
  ·
    refine XK.go ?_
    exact XK.ret1 rfl rfl fun w1 st => ⟨by rw [fullE, if_pos (by omega)], st.below (by simp)⟩
  ·
    refine XK.go ?_
    refine xk_split (t := 13) rfl (fun hg => ?_) (fun hg => ?_)
    ·
      refine XK.go ?_
      exact XK.ret1 rfl rfl fun w1 st => ⟨by rw [fullE, if_pos (by omega)], st.below (by simp)⟩
    ·
      refine XK.go ?_
      refine xk_split (t := 19) rfl (fun hg => ?_) (fun hg => ?_)
      ·
        refine XK.go ?_
        exact XK.ret1 rfl rfl fun w1 st => ⟨by rw [fullE, if_pos (by omega)], st.below (by simp)⟩
      ·
        refine XK.go ?_
        refine XK.if_ rfl (fun h => ?_) (fun h => ?_)
        ·
          refine XK.go ?_
          exact XK.ret1 rfl rfl fun w1 st => ⟨by rw [fullE, if_pos (by omega)], st.below (by simp)⟩
        ·
          refine XK.go ?_
          refine xk_callR (f := 81) (fi := []) (ca := []) (by kernel_rfl) rfl rfl (by decide) (fun w1 st => each_dev A4 n4 k4 98 [] rows (s.devs.map manyE) w1 (hr1.le (all_le (st.started (by simp)))) hr2 hr3 hr4 (by simp; omega) (by omega) (by kernel_rfl) (fun i r x hr hx w2 hb2 => by
    have hbb := (st.started (by simp)).trans (hb2.mono st.size)
    obtain ⟨e, he, hR⟩ := hr6 i r hr
    rw [List.getElem?_map, he] at hx
    cases hx
    obtain ⟨Ar, nr, kr, Af, nf, kf, rfl, hnr, hnf, _, hsf⟩ := hR
    exact full_1 e.regs e.needs _ _ _ _ _ _ _ _ _ _ w2 hnr hnf)) ?_
          refine XK.go ?_
          exact XK.ret1 rfl rfl fun w1 st => ⟨by rw [fullE, if_neg (by omega)], st.below (by simp)⟩
theorem check_1 (s : Soc) (A1 A2 A3 A4 : Option Addr) (n1 k1 n2 k2 n3 k3 n4 k4 : Nat) (w : World) (hW : SocW w s A1 n1 A2 n2 A3 n3 A4 n4) (gs : Nat) (hs : ROn w gs 0 [.slice A1 n1 k1, .slice A2 n2 k2, .slice A3 n3 k3, .slice A4 n4 k4]) :
  Calls Tryz.prog 62 #[.pointer (some ⟨gs, 0, none⟩)] w (Rt (.int .i64 (fullE s)) w) := by
 have hn1 := hW.len1
 have hn2 := hW.len2
 have hn3 := hW.len3
 have hn4 := hW.len4
 have hsm := hW.small
 unfold Soc.small at hsm
 obtain ⟨hs1, hs2, hs3, hs4, hs5, hs6⟩ := hsm
 refine XK.enter (vs := [.pointer (some ⟨gs, 0, none⟩)]) Tryz.func62 rfl Tryz.ntmps62 (by simp) ?_
 refine XK.seq ?_
 refine XK.region ?_
 refine xk_assign rfl (by decide) ?_
 refine XK.nilN ?_
 refine XK.seq ?_
 refine XK.region ?_
 refine xk_ldN 4 rfl ?_
 refine xk_callR (f := 63) (fi := []) (ca := []) (by kernel_rfl) rfl rfl (by decide) (fun w1 st => full_any s A1 A2 A3 A4 n1 k1 n2 k2 n3 k3 n4 k4 w1 (hW.le (st.started (by simp)))) ?_
 refine xk_assign rfl (by decide) ?_
 refine XK.nilN ?_
 refine XK.ret ?_
 refine XK.norm ?_
 exact XK.ret1 rfl rfl fun w1 st => ⟨rfl, st.below (by simp)⟩
theorem check_2_1 (kind rate mul div lock : Int) (A : Option Addr) (n k : Nat) (A1 A2 A3 A4 : Option Addr) (n1 k1 n2 k2 n3 k3 n4 k4 : Nat) (gs : Nat) (w : World) (hs : ROn w gs 0 [.slice A1 n1 k1, .slice A2 n2 k2, .slice A3 n3 k3, .slice A4 n4 k4]) (hz1 : (n1 : Int) ≤ 9223372036854775806) (zs : List Int) (hA : SlS (all w) 1 A n (intCells zs)) (hn : n = zs.length) (hz : (n : Int) ≤ 9223372036854775806) :
  Calls Tryz.prog 66 #[.agg #[.int .u8 kind, .slice A n k, .int .u64 rate, .int .i64 mul, .int .i64 div, .int .i64 lock], .pointer (some ⟨gs, 0, none⟩)] w (Rt (.int .i64 (clockE n1 ⟨kind, zs, rate, mul, div, lock⟩)) w) := by
 refine XK.enter (vs := [.agg #[.int .u8 kind, .slice A n k, .int .u64 rate, .int .i64 mul, .int .i64 div, .int .i64 lock], .pointer (some ⟨gs, 0, none⟩)]) Tryz.func66 rfl Tryz.ntmps66 (by simp) ?_
 refine XK.seq ?_
 refine XK.region ?_
 refine xk_box rfl (by decide) fun g1 => ?_
 refine xk_assign rfl (by decide) ?_
 refine XK.nilN ?_
 refine XK.seq ?_
 refine XK.region ?_
 refine xk_ldN 4 rfl ?_
 refine xk_ldN 6 rfl ?_
 refine xk_callR (f := 67) (fi := []) (ca := []) (by kernel_rfl) rfl rfl (by decide) (fun w1 st => clock_any kind rate mul div lock A n k A1 A2 A3 A4 n1 k1 n2 k2 n3 k3 n4 k4 w1 hz1 zs (hA.le (all_le (st.started (by simp)))) hn hz) ?_
 refine xk_assign rfl (by decide) ?_
 refine XK.nilN ?_
 refine XK.ret ?_
 refine XK.norm ?_
 exact XK.ret1 rfl rfl fun w1 st => ⟨rfl, st.below (by simp)⟩
theorem check_4_1 (above delay : Int) (ret : Bool) (A1 A2 A3 A4 : Option Addr) (n1 k1 n2 k2 n3 k3 n4 k4 : Nat) (gs : Nat) (w : World) (hs : ROn w gs 0 [.slice A1 n1 k1, .slice A2 n2 k2, .slice A3 n3 k3, .slice A4 n4 k4]) (hz2 : (n2 : Int) ≤ 9223372036854775806) :
  Calls Tryz.prog 73 #[.agg #[.int .i64 above, .int .i64 delay, .bool ret], .pointer (some ⟨gs, 0, none⟩)] w (Rt (.int .i64 (domainE n2 ⟨above, delay, ret⟩)) w) := by
 refine XK.enter (vs := [.agg #[.int .i64 above, .int .i64 delay, .bool ret], .pointer (some ⟨gs, 0, none⟩)]) Tryz.func73 rfl Tryz.ntmps73 (by simp) ?_
 refine XK.seq ?_
 refine XK.region ?_
 refine xk_box rfl (by decide) fun g1 => ?_
 refine xk_assign rfl (by decide) ?_
 refine XK.nilN ?_
 refine XK.seq ?_
 refine XK.region ?_
 refine xk_ldN 4 rfl ?_
 refine xk_ldN 3 rfl ?_
 refine xk_callR (f := 74) (fi := []) (ca := []) (by kernel_rfl) rfl rfl (by decide) (fun w1 st => domain_any above delay ret A1 A2 A3 A4 n1 k1 n2 k2 n3 k3 n4 k4 w1 hz2) ?_
 refine xk_assign rfl (by decide) ?_
 refine XK.nilN ?_
 refine XK.ret ?_
 refine XK.norm ?_
 exact XK.ret1 rfl rfl fun w1 st => ⟨rfl, st.below (by simp)⟩
theorem check_7_1 (rg : List Rg) (clock domain reset clamp : Int) (A B : Option Addr) (n k nb kb : Nat) (A1 A2 A3 A4 : Option Addr) (n1 k1 n2 k2 n3 k3 n4 k4 : Nat) (gs : Nat) (w : World) (hs : ROn w gs 0 [.slice A1 n1 k1, .slice A2 n2 k2, .slice A3 n3 k3, .slice A4 n4 k4]) (hz1 : (n1 : Int) ≤ 9223372036854775806) (hz2 : (n2 : Int) ≤ 9223372036854775806) (hz3 : (n3 : Int) ≤ 9223372036854775806) (hz4 : (n4 : Int) ≤ 9223372036854775806) (zs : List Int) (hA : SlS (all w) 1 A n (intCells zs)) (hn : n = zs.length) (hz : (n : Int) ≤ 9223372036854775806) :
  Calls Tryz.prog 82 #[.agg #[.int .i64 clock, .int .i64 domain, .int .i64 reset, .int .u32 clamp, .slice B nb kb, .slice A n k], .pointer (some ⟨gs, 0, none⟩)] w (Rt (.int .i64 (deviceE n1 n2 n3 n4 ⟨clock, domain, reset, clamp, rg, zs⟩)) w) := by
 refine XK.enter (vs := [.agg #[.int .i64 clock, .int .i64 domain, .int .i64 reset, .int .u32 clamp, .slice B nb kb, .slice A n k], .pointer (some ⟨gs, 0, none⟩)]) Tryz.func82 rfl Tryz.ntmps82 (by simp) ?_
 refine XK.seq ?_
 refine XK.region ?_
 refine xk_box rfl (by decide) fun g1 => ?_
 refine xk_assign rfl (by decide) ?_
 refine XK.nilN ?_
 refine XK.seq ?_
 refine XK.region ?_
 refine xk_ldN 4 rfl ?_
 refine xk_ldN 6 rfl ?_
 refine xk_callR (f := 83) (fi := []) (ca := []) (by kernel_rfl) rfl rfl (by decide) (fun w1 st => device_any rg clock domain reset clamp A B n k nb kb A1 A2 A3 A4 n1 k1 n2 k2 n3 k3 n4 k4 w1 hz1 hz2 hz3 hz4 zs (hA.le (all_le (st.started (by simp)))) hn hz) ?_
 refine xk_assign rfl (by decide) ?_
 refine XK.nilN ?_
 refine XK.ret ?_
 refine XK.norm ?_
 exact XK.ret1 rfl rfl fun w1 st => ⟨rfl, st.below (by simp)⟩
theorem check_2 (s : Soc) (A1 A2 A3 A4 : Option Addr) (n1 k1 n2 k2 n3 k3 n4 k4 : Nat) (w : World) (hW : SocW w s A1 n1 A2 n2 A3 n3 A4 n4) (gs : Nat) (hs : ROn w gs 0 [.slice A1 n1 k1, .slice A2 n2 k2, .slice A3 n3 k3, .slice A4 n4 k4]) :
  Calls Tryz.prog 64 #[.pointer (some ⟨gs, 0, none⟩)] w (Rt (.int .i64 (firstE (s.clocks.map (clockE s.clocks.length)))) w) := by
 have hn1 := hW.len1
 have hn2 := hW.len2
 have hn3 := hW.len3
 have hn4 := hW.len4
 have hsm := hW.small
 unfold Soc.small at hsm
 obtain ⟨hs1, hs2, hs3, hs4, hs5, hs6⟩ := hsm
 obtain ⟨rows, hr1, hr2, hr3, hr4, hr5, hr6⟩ := hW.clk.rows ClkR.one
 rw [← hn1]
 refine XK.enter (vs := [.pointer (some ⟨gs, 0, none⟩)]) Tryz.func64 rfl Tryz.ntmps64 (by simp) ?_
 refine XK.go ?_
 refine xk_func (vf := []) (vc := [.pointer (some ⟨gs, 0, none⟩)]) rfl rfl (by decide) ?_
 refine xk_callR (f := 65) (fi := []) (ca := []) (by kernel_rfl) rfl rfl (by decide) (fun w1 st => each_clk A1 n1 k1 66 [.pointer (some ⟨gs, 0, none⟩)] rows (s.clocks.map (clockE n1)) w1 (hr1.le (all_le (st.started (by simp)))) hr2 hr3 hr4 (by simp; omega) (by omega) (by kernel_rfl) (fun i r x hr hx w2 hb2 => by
  have hbb := (st.started (by simp)).trans (hb2.mono st.size)
  obtain ⟨e, he, hR⟩ := hr6 i r hr
  rw [List.getElem?_map, he] at hx
  cases hx
  obtain ⟨Af, nf, kf, rfl, hnf, hsf⟩ := hR
  exact check_2_1 _ _ _ _ _ _ _ _ A1 A2 A3 A4 n1 k1 n2 k2 n3 k3 n4 k4 gs w2 (hs.below hbb) (by omega) e.src (SlS.le hsf (all_le hbb)) hnf (by have := hs5 e (List.mem_of_getElem? he); omega))) ?_
 refine XK.go ?_
 exact XK.ret1 rfl rfl fun w1 st => ⟨rfl, st.below (by simp)⟩
theorem check_4 (s : Soc) (A1 A2 A3 A4 : Option Addr) (n1 k1 n2 k2 n3 k3 n4 k4 : Nat) (w : World) (hW : SocW w s A1 n1 A2 n2 A3 n3 A4 n4) (gs : Nat) (hs : ROn w gs 0 [.slice A1 n1 k1, .slice A2 n2 k2, .slice A3 n3 k3, .slice A4 n4 k4]) :
  Calls Tryz.prog 71 #[.pointer (some ⟨gs, 0, none⟩)] w (Rt (.int .i64 (firstE (s.domains.map (domainE s.domains.length)))) w) := by
 have hn1 := hW.len1
 have hn2 := hW.len2
 have hn3 := hW.len3
 have hn4 := hW.len4
 have hsm := hW.small
 unfold Soc.small at hsm
 obtain ⟨hs1, hs2, hs3, hs4, hs5, hs6⟩ := hsm
 obtain ⟨rows, hr1, hr2, hr3, hr4, hr5, hr6⟩ := hW.dom.rows DomR.one
 rw [← hn2]
 refine XK.enter (vs := [.pointer (some ⟨gs, 0, none⟩)]) Tryz.func71 rfl Tryz.ntmps71 (by simp) ?_
 refine XK.go ?_
 refine xk_func (vf := []) (vc := [.pointer (some ⟨gs, 0, none⟩)]) rfl rfl (by decide) ?_
 refine xk_callR (f := 72) (fi := []) (ca := []) (by kernel_rfl) rfl rfl (by decide) (fun w1 st => each_dom A2 n2 k2 73 [.pointer (some ⟨gs, 0, none⟩)] rows (s.domains.map (domainE n2)) w1 (hr1.le (all_le (st.started (by simp)))) hr2 hr3 hr4 (by simp; omega) (by omega) (by kernel_rfl) (fun i r x hr hx w2 hb2 => by
  have hbb := (st.started (by simp)).trans (hb2.mono st.size)
  obtain ⟨e, he, hR⟩ := hr6 i r hr
  rw [List.getElem?_map, he] at hx
  cases hx
  obtain rfl := hR
  exact check_4_1 _ _ _ A1 A2 A3 A4 n1 k1 n2 k2 n3 k3 n4 k4 gs w2 (hs.below hbb) (by omega))) ?_
 refine XK.go ?_
 exact XK.ret1 rfl rfl fun w1 st => ⟨rfl, st.below (by simp)⟩
theorem check_6 (s : Soc) (A1 A2 A3 A4 : Option Addr) (n1 k1 n2 k2 n3 k3 n4 k4 : Nat) (w : World) (hW : SocW w s A1 n1 A2 n2 A3 n3 A4 n4) (gs : Nat) (hs : ROn w gs 0 [.slice A1 n1 k1, .slice A2 n2 k2, .slice A3 n3 k3, .slice A4 n4 k4]) :
  Calls Tryz.prog 77 #[.pointer (some ⟨gs, 0, none⟩)] w (Rt (.int .i64 (firstE (s.resets.map resetE))) w) := by
 have hn1 := hW.len1
 have hn2 := hW.len2
 have hn3 := hW.len3
 have hn4 := hW.len4
 have hsm := hW.small
 unfold Soc.small at hsm
 obtain ⟨hs1, hs2, hs3, hs4, hs5, hs6⟩ := hsm
 obtain ⟨rows, hr1, hr2, hr3, hr4, hr5, hr6⟩ := hW.rst.rows RstR.one
 refine XK.enter (vs := [.pointer (some ⟨gs, 0, none⟩)]) Tryz.func77 rfl Tryz.ntmps77 (by simp) ?_
 refine XK.go ?_
 refine xk_callR (f := 78) (fi := []) (ca := []) (by kernel_rfl) rfl rfl (by decide) (fun w1 st => each_rst A3 n3 k3 79 [] rows (s.resets.map resetE) w1 (hr1.le (all_le (st.started (by simp)))) hr2 hr3 hr4 (by simp; omega) (by omega) (by kernel_rfl) (fun i r x hr hx w2 hb2 => by
  have hbb := (st.started (by simp)).trans (hb2.mono st.size)
  obtain ⟨e, he, hR⟩ := hr6 i r hr
  rw [List.getElem?_map, he] at hx
  cases hx
  obtain rfl := hR
  exact reset_any _ w2)) ?_
 refine XK.go ?_
 exact XK.ret1 rfl rfl fun w1 st => ⟨rfl, st.below (by simp)⟩
theorem check_7 (s : Soc) (A1 A2 A3 A4 : Option Addr) (n1 k1 n2 k2 n3 k3 n4 k4 : Nat) (w : World) (hW : SocW w s A1 n1 A2 n2 A3 n3 A4 n4) (gs : Nat) (hs : ROn w gs 0 [.slice A1 n1 k1, .slice A2 n2 k2, .slice A3 n3 k3, .slice A4 n4 k4]) :
  Calls Tryz.prog 80 #[.pointer (some ⟨gs, 0, none⟩)] w (Rt (.int .i64 (firstE (s.devs.map (deviceE s.clocks.length s.domains.length s.resets.length s.devs.length)))) w) := by
 have hn1 := hW.len1
 have hn2 := hW.len2
 have hn3 := hW.len3
 have hn4 := hW.len4
 have hsm := hW.small
 unfold Soc.small at hsm
 obtain ⟨hs1, hs2, hs3, hs4, hs5, hs6⟩ := hsm
 obtain ⟨rows, hr1, hr2, hr3, hr4, hr5, hr6⟩ := hW.dev.rows DevR.one
 rw [← hn1, ← hn2, ← hn3, ← hn4]
 refine XK.enter (vs := [.pointer (some ⟨gs, 0, none⟩)]) Tryz.func80 rfl Tryz.ntmps80 (by simp) ?_
 refine XK.go ?_
 refine xk_func (vf := []) (vc := [.pointer (some ⟨gs, 0, none⟩)]) rfl rfl (by decide) ?_
 refine xk_callR (f := 81) (fi := []) (ca := []) (by kernel_rfl) rfl rfl (by decide) (fun w1 st => each_dev A4 n4 k4 82 [.pointer (some ⟨gs, 0, none⟩)] rows (s.devs.map (deviceE n1 n2 n3 n4)) w1 (hr1.le (all_le (st.started (by simp)))) hr2 hr3 hr4 (by simp; omega) (by omega) (by kernel_rfl) (fun i r x hr hx w2 hb2 => by
  have hbb := (st.started (by simp)).trans (hb2.mono st.size)
  obtain ⟨e, he, hR⟩ := hr6 i r hr
  rw [List.getElem?_map, he] at hx
  cases hx
  obtain ⟨Ar, nr, kr, Af, nf, kf, rfl, hnr, hnf, _, hsf⟩ := hR
  exact check_7_1 e.regs _ _ _ _ _ _ _ _ _ _ A1 A2 A3 A4 n1 k1 n2 k2 n3 k3 n4 k4 gs w2 (hs.below hbb) (by omega) (by omega) (by omega) (by omega) e.needs (SlS.le hsf (all_le hbb)) hnf (by have := hs6 e (List.mem_of_getElem? he); omega))) ?_
 refine XK.go ?_
 exact XK.ret1 rfl rfl fun w1 st => ⟨rfl, st.below (by simp)⟩
theorem check_3 (s : Soc) (A1 A2 A3 A4 : Option Addr) (n1 k1 n2 k2 n3 k3 n4 k4 : Nat) (w : World) (hW : SocW w s A1 n1 A2 n2 A3 n3 A4 n4) (gs : Nat) (hs : ROn w gs 0 [.slice A1 n1 k1, .slice A2 n2 k2, .slice A3 n3 k3, .slice A4 n4 k4]) :
  Calls Tryz.prog 68 #[.pointer (some ⟨gs, 0, none⟩)] w (Rt (.int .i64 (cycE (clocksG s))) w) := by
 have hn1 := hW.len1
 have hn2 := hW.len2
 have hn3 := hW.len3
 have hn4 := hW.len4
 have hsm := hW.small
 unfold Soc.small at hsm
 obtain ⟨hs1, hs2, hs3, hs4, hs5, hs6⟩ := hsm
 refine XK.enter (vs := [.pointer (some ⟨gs, 0, none⟩)]) Tryz.func68 rfl Tryz.ntmps68 (by simp) ?_
 refine XK.seq ?_
 refine XK.region ?_
 refine xk_assign rfl (by decide) ?_
 refine XK.nilN ?_
 refine XK.seq ?_
 refine XK.region ?_
 refine xk_ldN 4 rfl ?_
 refine xk_call [] (f := 70) (fi := []) (ca := []) (by kernel_rfl) rfl rfl (by decide) (by simp) (GrOk (clocksG s)) (fun w1 st => clocks_any s A1 A2 A3 A4 n1 k1 n2 k2 n3 k3 n4 k4 w1 (hW.le (st.started (by simp)))) ?_
 rintro _ w1 q ⟨Ag, cg, rfl, hgr⟩ hf' _ hfr'
 have hgq := hgr.le hf'
 have hgl : (clocksG s).length = n1 := by simp [clocksG]; omega
 refine xk_callR (f := 69) (fi := []) (ca := []) (by kernel_rfl) rfl rfl (by decide) (fun w1 st => cycle_any Ag _ cg (clocksG s) w1 (hgq.le (st.le (by simp))) rfl (by omega) (fun l hl => by
  simp only [clocksG, List.mem_map] at hl
  obtain ⟨x, hx, rfl⟩ := hl
  have := hs5 x hx; omega)) ?_
 refine xk_assign rfl (by decide) ?_
 refine XK.nilN ?_
 refine XK.ret ?_
 refine XK.norm ?_
 exact XK.ret1 rfl rfl fun w1 st => ⟨rfl, st.below (by simp)⟩
theorem check_5 (s : Soc) (A1 A2 A3 A4 : Option Addr) (n1 k1 n2 k2 n3 k3 n4 k4 : Nat) (w : World) (hW : SocW w s A1 n1 A2 n2 A3 n3 A4 n4) (gs : Nat) (hs : ROn w gs 0 [.slice A1 n1 k1, .slice A2 n2 k2, .slice A3 n3 k3, .slice A4 n4 k4]) :
  Calls Tryz.prog 75 #[.pointer (some ⟨gs, 0, none⟩)] w (Rt (.int .i64 (cycE (domsG s))) w) := by
 have hn1 := hW.len1
 have hn2 := hW.len2
 have hn3 := hW.len3
 have hn4 := hW.len4
 have hsm := hW.small
 unfold Soc.small at hsm
 obtain ⟨hs1, hs2, hs3, hs4, hs5, hs6⟩ := hsm
 refine XK.enter (vs := [.pointer (some ⟨gs, 0, none⟩)]) Tryz.func75 rfl Tryz.ntmps75 (by simp) ?_
 refine XK.seq ?_
 refine XK.region ?_
 refine xk_assign rfl (by decide) ?_
 refine XK.nilN ?_
 refine XK.seq ?_
 refine XK.region ?_
 refine xk_ldN 4 rfl ?_
 refine xk_call [] (f := 76) (fi := []) (ca := []) (by kernel_rfl) rfl rfl (by decide) (by simp) (GrOk (domsG s)) (fun w1 st => doms_any s A1 A2 A3 A4 n1 k1 n2 k2 n3 k3 n4 k4 w1 (hW.le (st.started (by simp)))) ?_
 rintro _ w1 q ⟨Ag, cg, rfl, hgr⟩ hf' _ hfr'
 have hgq := hgr.le hf'
 have hgl : (domsG s).length = n2 := by simp [domsG]; omega
 refine xk_callR (f := 69) (fi := []) (ca := []) (by kernel_rfl) rfl rfl (by decide) (fun w1 st => cycle_any Ag _ cg (domsG s) w1 (hgq.le (st.le (by simp))) rfl (by omega) (fun l hl => by
  simp only [domsG, List.mem_map] at hl
  obtain ⟨x, hx, rfl⟩ := hl
  split <;> simp)) ?_
 refine xk_assign rfl (by decide) ?_
 refine XK.nilN ?_
 refine XK.ret ?_
 refine XK.norm ?_
 exact XK.ret1 rfl rfl fun w1 st => ⟨rfl, st.below (by simp)⟩
theorem check_8 (s : Soc) (A1 A2 A3 A4 : Option Addr) (n1 k1 n2 k2 n3 k3 n4 k4 : Nat) (w : World) (hW : SocW w s A1 n1 A2 n2 A3 n3 A4 n4) (gs : Nat) (hs : ROn w gs 0 [.slice A1 n1 k1, .slice A2 n2 k2, .slice A3 n3 k3, .slice A4 n4 k4]) :
  Calls Tryz.prog 84 #[.pointer (some ⟨gs, 0, none⟩)] w (Rt (.int .i64 (cycE (needsG s))) w) := by
 have hn1 := hW.len1
 have hn2 := hW.len2
 have hn3 := hW.len3
 have hn4 := hW.len4
 have hsm := hW.small
 unfold Soc.small at hsm
 obtain ⟨hs1, hs2, hs3, hs4, hs5, hs6⟩ := hsm
 refine XK.enter (vs := [.pointer (some ⟨gs, 0, none⟩)]) Tryz.func84 rfl Tryz.ntmps84 (by simp) ?_
 refine XK.seq ?_
 refine XK.region ?_
 refine xk_assign rfl (by decide) ?_
 refine XK.nilN ?_
 refine XK.seq ?_
 refine XK.region ?_
 refine xk_ldN 4 rfl ?_
 refine xk_call [] (f := 47) (fi := []) (ca := []) (by kernel_rfl) rfl rfl (by decide) (by simp) (GrOk (needsG s)) (fun w1 st => needs_any s A1 A2 A3 A4 n1 k1 n2 k2 n3 k3 n4 k4 w1 (hW.le (st.started (by simp)))) ?_
 rintro _ w1 q ⟨Ag, cg, rfl, hgr⟩ hf' _ hfr'
 have hgq := hgr.le hf'
 have hgl : (needsG s).length = n4 := by simp [needsG]; omega
 refine xk_callR (f := 69) (fi := []) (ca := []) (by kernel_rfl) rfl rfl (by decide) (fun w1 st => cycle_any Ag _ cg (needsG s) w1 (hgq.le (st.le (by simp))) rfl (by omega) (fun l hl => by
  simp only [needsG, List.mem_map] at hl
  obtain ⟨x, hx, rfl⟩ := hl
  have := hs6 x hx; omega)) ?_
 refine xk_assign rfl (by decide) ?_
 refine XK.nilN ?_
 refine XK.ret ?_
 refine XK.norm ?_
 exact XK.ret1 rfl rfl fun w1 st => ⟨rfl, st.below (by simp)⟩
theorem checkS_any (s : Soc) (A1 A2 A3 A4 : Option Addr) (n1 k1 n2 k2 n3 k3 n4 k4 : Nat) (w : World) (hW : SocW w s A1 n1 A2 n2 A3 n3 A4 n4) :
  Calls Tryz.prog 28 #[.agg #[.slice A1 n1 k1, .slice A2 n2 k2, .slice A3 n3 k3, .slice A4 n4 k4]] w (Rt (.int .i64 (checkS s)) w) := by
 refine XK.enter (vs := [.agg #[.slice A1 n1 k1, .slice A2 n2 k2, .slice A3 n3 k3, .slice A4 n4 k4]]) Tryz.func28 rfl Tryz.ntmps28 (by simp) ?_
 refine XK.seq ?_
 refine XK.region ?_
 refine xk_box rfl (by decide) fun g1 => ?_
 refine xk_assign rfl (by decide) ?_
 refine XK.nilN ?_
 refine XK.seq ?_
 refine XK.region ?_
 refine xk_func (vf := []) (vc := [.pointer (some ⟨g1, 0, none⟩)]) rfl rfl (by decide) ?_
 refine xk_func (vf := []) (vc := [.pointer (some ⟨g1, 0, none⟩)]) rfl rfl (by decide) ?_
 refine xk_func (vf := []) (vc := [.pointer (some ⟨g1, 0, none⟩)]) rfl rfl (by decide) ?_
 refine xk_func (vf := []) (vc := [.pointer (some ⟨g1, 0, none⟩)]) rfl rfl (by decide) ?_
 refine xk_func (vf := []) (vc := [.pointer (some ⟨g1, 0, none⟩)]) rfl rfl (by decide) ?_
 refine xk_func (vf := []) (vc := [.pointer (some ⟨g1, 0, none⟩)]) rfl rfl (by decide) ?_
 refine xk_func (vf := []) (vc := [.pointer (some ⟨g1, 0, none⟩)]) rfl rfl (by decide) ?_
 refine xk_func (vf := []) (vc := [.pointer (some ⟨g1, 0, none⟩)]) rfl rfl (by decide) ?_
 refine xk_slice (el := 217) (sz := 1) (zs := [.nilFunc]) (by kernel_rfl) (zeroB_of (by kernel_rfl)) (by kernel_rfl) rfl (by decide) (by decide) rfl (by simp [fillL, setN, Value.cells, List.range_succ, List.set]; rfl) (by decide) fun g2 => ?_
 refine xk_callR (f := 61) (fi := []) (ca := []) (by kernel_rfl) rfl rfl (by decide) (fun w1 st => first_any _ _ _ [(62, [.pointer (some ⟨g1, 0, none⟩)]), (64, [.pointer (some ⟨g1, 0, none⟩)]), (68, [.pointer (some ⟨g1, 0, none⟩)]), (71, [.pointer (some ⟨g1, 0, none⟩)]), (75, [.pointer (some ⟨g1, 0, none⟩)]), (77, [.pointer (some ⟨g1, 0, none⟩)]), (80, [.pointer (some ⟨g1, 0, none⟩)]), (84, [.pointer (some ⟨g1, 0, none⟩)])] (checkL s) w1 (st.slS (i := 0) (n := 8) (sz := 1) (cs := [.func (.func 62) #[] #[.pointer (some ⟨g1, 0, none⟩)], .func (.func 64) #[] #[.pointer (some ⟨g1, 0, none⟩)], .func (.func 68) #[] #[.pointer (some ⟨g1, 0, none⟩)], .func (.func 71) #[] #[.pointer (some ⟨g1, 0, none⟩)], .func (.func 75) #[] #[.pointer (some ⟨g1, 0, none⟩)], .func (.func 77) #[] #[.pointer (some ⟨g1, 0, none⟩)], .func (.func 80) #[] #[.pointer (some ⟨g1, 0, none⟩)], .func (.func 84) #[] #[.pointer (some ⟨g1, 0, none⟩)]]) rfl rfl) rfl rfl (by decide) (by simp only [List.mem_cons, List.not_mem_nil, or_false]; rintro f (rfl | rfl | rfl | rfl | rfl | rfl | rfl | rfl) <;> kernel_rfl) (fun i f x hf hx w2 hb2 => by
  have hbb := (st.started (by simp)).trans (hb2.mono st.size)
  unfold checkL at hx
  match i, hf, hx with
  | 0, hf, hx => cases hf; cases hx; exact check_1 s A1 A2 A3 A4 n1 k1 n2 k2 n3 k3 n4 k4 w2 (hW.le hbb) g1 (st.box (cs := [.slice A1 n1 k1, .slice A2 n2 k2, .slice A3 n3 k3, .slice A4 n4 k4]) (i := 1) rfl |>.below hb2)
  | 1, hf, hx => cases hf; cases hx; exact check_2 s A1 A2 A3 A4 n1 k1 n2 k2 n3 k3 n4 k4 w2 (hW.le hbb) g1 (st.box (cs := [.slice A1 n1 k1, .slice A2 n2 k2, .slice A3 n3 k3, .slice A4 n4 k4]) (i := 1) rfl |>.below hb2)
  | 2, hf, hx => cases hf; cases hx; exact check_3 s A1 A2 A3 A4 n1 k1 n2 k2 n3 k3 n4 k4 w2 (hW.le hbb) g1 (st.box (cs := [.slice A1 n1 k1, .slice A2 n2 k2, .slice A3 n3 k3, .slice A4 n4 k4]) (i := 1) rfl |>.below hb2)
  | 3, hf, hx => cases hf; cases hx; exact check_4 s A1 A2 A3 A4 n1 k1 n2 k2 n3 k3 n4 k4 w2 (hW.le hbb) g1 (st.box (cs := [.slice A1 n1 k1, .slice A2 n2 k2, .slice A3 n3 k3, .slice A4 n4 k4]) (i := 1) rfl |>.below hb2)
  | 4, hf, hx => cases hf; cases hx; exact check_5 s A1 A2 A3 A4 n1 k1 n2 k2 n3 k3 n4 k4 w2 (hW.le hbb) g1 (st.box (cs := [.slice A1 n1 k1, .slice A2 n2 k2, .slice A3 n3 k3, .slice A4 n4 k4]) (i := 1) rfl |>.below hb2)
  | 5, hf, hx => cases hf; cases hx; exact check_6 s A1 A2 A3 A4 n1 k1 n2 k2 n3 k3 n4 k4 w2 (hW.le hbb) g1 (st.box (cs := [.slice A1 n1 k1, .slice A2 n2 k2, .slice A3 n3 k3, .slice A4 n4 k4]) (i := 1) rfl |>.below hb2)
  | 6, hf, hx => cases hf; cases hx; exact check_7 s A1 A2 A3 A4 n1 k1 n2 k2 n3 k3 n4 k4 w2 (hW.le hbb) g1 (st.box (cs := [.slice A1 n1 k1, .slice A2 n2 k2, .slice A3 n3 k3, .slice A4 n4 k4]) (i := 1) rfl |>.below hb2)
  | 7, hf, hx => cases hf; cases hx; exact check_8 s A1 A2 A3 A4 n1 k1 n2 k2 n3 k3 n4 k4 w2 (hW.le hbb) g1 (st.box (cs := [.slice A1 n1 k1, .slice A2 n2 k2, .slice A3 n3 k3, .slice A4 n4 k4]) (i := 1) rfl |>.below hb2)
  | i + 8, hf, _ => simp at hf)) ?_
 refine xk_assign rfl (by decide) ?_
 refine XK.nilN ?_
 refine XK.ret ?_
 refine XK.norm ?_
 exact XK.ret1 rfl rfl fun w1 st => ⟨rfl, st.below (by simp)⟩
end
section
attribute [local irreducible] KC KI KQ
def boolCells (l : List Bool) : List Value := l.map .bool
theorem boolCells_at {l : List Bool} {i : Nat} {b : Bool} (h : l[i]? = some b) : (boolCells l)[i]? = some (.bool b) := by simp [boolCells, h]
def hasB (l : List Bool) (i : Nat) : Bool := l[i]?.getD false
def RP (p : Piece) (g o : Nat) (v : Value) : Prop := p.Z g ∧ p.w.cell? ⟨g, o, none⟩ = some v
theorem RP.le {p q : Piece} {g o : Nat} {v : Value} (h : RP p g o v) (hl : p.Le q) : RP q g o v := ⟨(hl g h.1).1, (World.cell?_of_block (w := p.w) (a := ⟨g, o, none⟩) (hl g h.1).2).trans h.2⟩
theorem RP.rd {w0 : World} {R : List Piece} {H : List HP} {p : Piece} {g o : Nat} {v : Value} (h : RP p g o v) (hp : p ∈ R) : Rd w0 R H g o v := Rd.ro hp h.1 h.2
theorem Iter.le {P : Program} {g : FuncId} {lb : List Value} {encs : List (List Value)} {p q : Piece} (h : Iter P g lb encs p) (hl : p.Le q) : Iter P g lb encs q := fun l J Jx W F hq hd => h l J Jx W F (fun b hb => ⟨(hq b (hl b hb).1).1, ((hq b (hl b hb).1).2).trans (hl b hb).2⟩) (fun b hb => hd b (hl b hb).1)
theorem has_any (A : Option Addr) (n c i : Nat) (bs : List Bool) (w : World) (hs : SlS (all w) 1 A n (boolCells bs)) (hn : n = bs.length) (hi : (i : Int) ≤ 9223372036854775807) :
  Calls Tryz.prog 54 #[.slice A n c, .int .i64 i] w (Rt (.bool (hasB bs i)) w) := by
 refine XK.enter (vs := [.slice A n c, .int .i64 i]) Tryz.func54 rfl Tryz.ntmps54 (by simp) ?_
 refine XK.seq ?_
 refine XK.region ?_
 refine xk_assign rfl (by decide) ?_
 refine XK.nilN ?_
 refine XK.seq ?_
 refine XK.region ?_
 refine xk_move rfl (by decide) ?_
 refine xk_move rfl (by decide) ?_
 refine xk_len (el := 4) (by kernel_rfl) rfl (by decide) ?_
 refine xk_lss rfl rfl (by decide) ?_
 refine xk_move rfl (by decide) ?_
 refine xk_split (t := 9) rfl (fun hg => ?_) (fun hg => ?_)
 ·
  refine xk_guardT rfl rfl ?_; refine xk_move rfl (by decide) ?_
  refine xk_guardT rfl rfl ?_; refine xk_move rfl (by decide) ?_
  have hin : i < bs.length := by omega
  obtain ⟨b, off, rfl, hz, hc⟩ := hs.2 (by omega)
  obtain ⟨v, hv⟩ : ∃ v, bs[i]? = some v := ⟨_, List.getElem?_eq_getElem hin⟩
  have c1 : ROc w b (off + i) (.bool v) := ⟨hz, hc i _ (boolCells_at hv)⟩
  refine xk_guardT rfl rfl ?_; refine xk_at (i) (off + i) (el := 4) (sz := 1) (by kernel_rfl) (by kernel_rfl) rfl rfl (by omega) (by omega) (by omega) (by decide) ?_
  refine xk_guardT rfl rfl ?_; refine xk_ld rfl ?_
  (first | refine xk_pickT rfl rfl (by decide) ?_ | refine xk_pickF rfl rfl (by decide) ?_)
  refine xk_assign rfl (by decide) ?_
  refine XK.nilN ?_
  refine XK.ret ?_
  refine XK.norm ?_
  exact XK.ret1 rfl rfl fun w1 st => ⟨by rw [hasB, hv]; rfl, st.below (by simp)⟩
 ·
  refine xk_guardF rfl rfl rfl (by decide) ?_
  refine xk_guardF rfl rfl rfl (by decide) ?_
  refine xk_guardF rfl rfl rfl (by decide) ?_
  refine xk_guardF rfl rfl rfl (by decide) ?_
  (first | refine xk_pickT rfl rfl (by decide) ?_ | refine xk_pickF rfl rfl (by decide) ?_)
  refine xk_assign rfl (by decide) ?_
  refine XK.nilN ?_
  refine XK.ret ?_
  refine XK.norm ?_
  exact XK.ret1 rfl rfl fun w1 st => ⟨by rw [hasB, List.getElem?_eq_none (by omega)]; rfl, st.below (by simp)⟩
end
section
def edgesB (ops : Array Oper) : Bool := (List.range ops.size).all fun j => match ops[j]? with
 | some o => o.after.toList.all fun x => !(Region.binds .any x) || decide (x.on < j)
 | none => true
def guardsB (l : List Oper) (m : Nat) : Bool := (l.take m).all fun o => match o.guard with
 | some (j, _) => decide (j < m)
 | none => true
theorem edges_lt {ops : Array Oper} (h : edgesB ops = true) {j : Nat} {o : Oper} (ho : ops[j]? = some o) : ∀ x ∈ o.after, Region.binds .any x = true → x.on < j := fun x hx hb => by
 have hj := (Array.getElem?_eq_some_iff.1 ho).1
 unfold edgesB at h
 simp only [List.all_eq_true, List.mem_range] at h
 have := h j hj
 rw [ho] at this
 simp only [List.all_eq_true] at this
 have := this x (by simpa using hx)
 simpa [hb] using this
theorem getD_tf {l : Array Bool} {i : Nat} (h : i < l.size) : l.getD i true = l.getD i false := by simp [h]
def Upto (k : Nat) (listed : Array Bool) : Prop := (∀ i, i < k → listed.getD i false = true) ∧ ∀ i, k ≤ i → listed.getD i false = false
theorem ready_upto {ops : Array Oper} {k : Nat} {listed : Array Bool} (hE : edgesB ops = true) (hd : Down ops listed) (hk : k < ops.size) (ht : ∀ j, k ≤ j → j < ops.size → tailB ops j = true) (hsz : listed.size = ops.size) (hu : Upto k listed) : k ∈ Region.ready .any ops listed ∧ ∀ i ∈ Region.ready .any ops listed, i = k := by
 constructor
 ·refine mem_ready.2 ⟨?_, _, Array.getElem?_eq_getElem hk, fun x hx hb => hu.1 _ (edges_lt hE (Array.getElem?_eq_getElem hk) x hx hb)⟩
  rw [getD_tf (by omega)]
  exact hu.2 k (Nat.le_refl _)
 ·intro i hi
  obtain ⟨h1, o, ho, h2⟩ := mem_ready.1 hi
  have hlt := (Array.getElem?_eq_some_iff.1 ho).1
  rw [getD_tf (by omega)] at h1
  rcases Nat.lt_trichotomy i k with h | h | h
  ·rw [hu.1 i h] at h1; cases h1
  ·exact h
  ·have := tail_listed hd hi (ht i (by omega) hlt) h
   rw [hu.2 k (Nat.le_refl _)] at this; cases this
theorem Upto.next {k : Nat} {listed : Array Bool} (h : Upto k listed) (hk : k < listed.size) : Upto (k + 1) (listed.setIfInBounds k true) := by
 refine ⟨fun i hi => ?_, fun i hi => ?_⟩
 ·by_cases e : k = i
  ·subst e; simp [hk]
  ·rw [getD_set_ne false e]; exact h.1 i (by omega)
 ·rw [getD_set_ne false (by omega)]; exact h.2 i (by omega)
section
variable {P : Program} {nn : Nat} {w0 : World} {e : Env} {R : List Piece} {H : List HP} {Q : Exit → Act → World → Prop} {r : Option Nat} {L : List Nat}
theorem tail_sound {ops : Array Oper} (hE : edgesB ops = true) : ∀ (fuel k : Nat) (listed : Array Bool) (a : Act) (w : World), k ≤ ops.size → ops.size ≤ k + fuel → Down ops listed → (∀ j, k ≤ j → j < ops.size → tailB ops j = true) → listed.size = ops.size → Upto k listed →
  wpListIn (Fr r) 9 P ops Q (ops.toList.drop k) a w → wpAnyIn (Fr r) 9 P .any ops Q fuel listed a w := by
 have none : ∀ (k : Nat) (listed : Array Bool), k = ops.size → listed.size = ops.size → Upto k listed → Region.ready .any ops listed = [] := by
  intro k listed hk hsz hu
  cases hr : Region.ready .any ops listed with
  | nil => rfl
  | cons i is =>
   exfalso
   obtain ⟨h1, o, ho, _⟩ := mem_ready.1 (by rw [hr]; simp : i ∈ Region.ready .any ops listed)
   have hlt := (Array.getElem?_eq_some_iff.1 ho).1
   rw [getD_tf (by omega), hu.1 i (by omega)] at h1
   cases h1
 intro fuel
 induction fuel with
 | zero =>
  intro k listed a w hk hk2 hd ht hsz hu h
  rw [List.drop_eq_nil_of_le (by simp; omega)] at h
  exact ⟨none k listed (by omega) hsz hu, h⟩
 | succ fuel ih =>
  intro k listed a w hk hk2 hd ht hsz hu h
  by_cases hkn : k < ops.size
  ·obtain ⟨h1, h2⟩ := ready_upto hE hd hkn ht hsz hu
   refine ⟨fun hn => absurd h1 (by rw [hn]; simp), fun i hi => ?_⟩
   have := h2 i hi
   subst this
   have hget : ops[i]? = some (ops[i]'hkn) := Array.getElem?_eq_getElem hkn
   have hdrop : ops.toList.drop i = ops[i]'hkn :: ops.toList.drop (i + 1) := by
    rw [← List.getElem_cons_drop (by simpa using hkn)]; simp
   rw [hdrop] at h
   unfold wpListIn at h
   unfold wpOpIn
   rw [hget]
   have key : ∀ a w, wpListIn (Fr r) 9 P ops Q (ops.toList.drop (i + 1)) a w → wpAnyIn (Fr r) 9 P .any ops Q fuel (listed.setIfInBounds i true) a w := fun a w h => ih (i + 1) _ a w (by omega) (by omega) (hd.set_ hi) (fun j hj => ht j (by omega)) (by simpa using hsz) (hu.next (by omega)) h
   dsimp only
   split
   ·rename_i hw
    rw [if_pos hw] at h
    exact Oper.wpIn_mono key h
   ·rename_i hw
    rw [if_neg hw] at h
    exact ⟨h.1, key _ _ h.2⟩
  ·rw [List.drop_eq_nil_of_le (by simp; omega)] at h
   have hn := none k listed (by omega) hsz hu
   exact ⟨fun _ => h, fun i hi => by rw [hn] at hi; cases hi⟩
structure Rel (ops : Array Oper) (m : Nat) (listed l' : Array Bool) : Prop where
 lo : ∀ i, i < m → listed.getD i false = l'.getD i false
 hi : ∀ i, m ≤ i → listed.getD i false = false
 s1 : listed.size = ops.size
 s2 : l'.size = m
 le : m ≤ ops.size
theorem Rel.set_ {ops : Array Oper} {m i : Nat} {listed l' : Array Bool} (h : Rel ops m listed l') (hi : i < m) : Rel ops m (listed.setIfInBounds i true) (l'.setIfInBounds i true) := by
 have hle := h.le
 have hs := h.s1
 have hs2 := h.s2
 refine ⟨fun j hj => ?_, fun j hj => ?_, by simpa using h.s1, by simpa using h.s2, h.le⟩
 ·by_cases e : i = j
  ·subst e
   have h1 : i < l'.size := by omega
   have h2 : i < listed.size := by omega
   simp [h1, h2]
  ·rw [getD_set_ne false e, getD_set_ne false e]; exact h.lo j hj
 ·rw [getD_set_ne false (by omega)]; exact h.hi j hj
theorem wp_fx {o : Oper} {a : Act} {w : World} {K K1 K2 : Act → World → Prop} (h : o.wp P a w K (Fx K1)) : o.wp P a w K (Fx K2) := by
 unfold Oper.wp at h ⊢
 generalize (execOp a.eval o).run P w = res at h ⊢
 cases res with
 | ok n w' => cases n <;> first | exact h | exact Calls.mono h (fun x w'' hx => by cases x <;> first | exact hx | exact hx.elim | (obtain ⟨_, _, hf⟩ := hx; exact hf.elim))
 | halt x w' => cases x <;> exact h
theorem any_sound {l : List Oper} {m : Nat} (hm : m ≤ l.length) (hE : edgesB l.toArray = true) (hT : tlB l.toArray m = true) (hG : guardsB l m = true) (hp : (l.take m).all plainOp = true) :
  ∀ (fuel : Nat) (listed l' : Array Bool) (a : Act) (w : World), Rel l.toArray m listed l' → Down l.toArray listed → wpAny P .any (l.take m).toArray (Fx (KI r L P l.toArray Q (l.drop m))) fuel l' a w →
   wpAnyIn (Fr r) 9 P .any l.toArray Q (fuel + (l.length - m)) listed (mk L a) w := by
 have hget : ∀ i, i < m → (l.take m).toArray[i]? = l.toArray[i]? := fun i hi => by simp [List.getElem?_take, hi]
 have hready : ∀ {listed l' : Array Bool}, Rel l.toArray m listed l' → ∀ i, i < m → (i ∈ Region.ready .any l.toArray listed ↔ i ∈ Region.ready .any (l.take m).toArray l') := by
  intro listed l' hr i hi
  have hs1 := hr.s1
  have hs2 := hr.s2
  have hle := hr.le
  rw [mem_ready, mem_ready, getD_tf (l := listed) (by omega), getD_tf (l := l') (by omega), hr.lo i hi, hget i hi]
  constructor
  ·rintro ⟨h1, o, ho, h2⟩
   exact ⟨h1, o, ho, fun x hx hb => by have := edges_lt hE ho x hx hb; rw [← hr.lo _ (by omega)]; exact h2 x hx hb⟩
  ·rintro ⟨h1, o, ho, h2⟩
   exact ⟨h1, o, ho, fun x hx hb => by have := edges_lt hE ho x hx hb; rw [hr.lo _ (by omega)]; exact h2 x hx hb⟩
 have htl : ∀ j, m ≤ j → j < l.toArray.size → tailB l.toArray j = true := fun j hj hlt => by
  unfold tlB at hT
  simp only [List.all_eq_true, List.mem_range, Bool.or_eq_true, decide_eq_true_eq] at hT
  exact (hT j hlt).resolve_left (by omega)
 have hdone : ∀ {listed l' : Array Bool}, Rel l.toArray m listed l' → Region.ready .any (l.take m).toArray l' = [] → Upto m listed := by
  intro listed l' hr hn
  refine ⟨fun i => ?_, hr.hi⟩
  induction i using Nat.strongRecOn with
  | _ i ih =>
   intro hi
   cases hb : listed.getD i false with
   | true => rfl
   | false =>
    exfalso
    have hs1 := hr.s1
    have hle := hr.le
    have hil : i < l.toArray.size := by omega
    have : i ∈ Region.ready .any l.toArray listed := mem_ready.2 ⟨by rw [getD_tf (by omega)]; exact hb, _, Array.getElem?_eq_getElem hil, fun x hx hxb => by
     have := edges_lt hE (Array.getElem?_eq_getElem hil) x hx hxb
     exact ih x.on this (by omega)⟩
    rw [hready hr i hi, hn] at this
    cases this
 have fin : ∀ {fuel : Nat} {listed l' : Array Bool} {a : Act} {w : World}, Rel l.toArray m listed l' → Down l.toArray listed → Region.ready .any (l.take m).toArray l' = [] → KI r L P l.toArray Q (l.drop m) a w → wpAnyIn (Fr r) 9 P .any l.toArray Q (fuel + (l.length - m)) listed (mk L a) w := by
  intro fuel listed l' a w hr hd hn hk
  refine tail_sound hE _ m listed _ w (by simpa using hm) (by simp; omega) hd htl hr.s1 (hdone hr hn) ?_
  unfold KI at hk
  simpa using hk
 intro fuel
 induction fuel with
 | zero =>
  intro listed l' a w hr hd h
  exact fin hr hd h.1 h.2
 | succ fuel ih =>
  intro listed l' a w hr hd h
  cases hne : Region.ready .any (l.take m).toArray l' with
  | nil => exact fin hr hd hne (h.1 hne)
  | cons i0 is =>
   have hi0 : i0 ∈ Region.ready .any (l.take m).toArray l' := by rw [hne]; simp
   have hi0m : i0 < m := by
    obtain ⟨_, o, ho, _⟩ := mem_ready.1 hi0
    have := (Array.getElem?_eq_some_iff.1 ho).1
    simp at this
    omega
   have hi0l := (hready hr i0 hi0m).2 hi0
   rw [show fuel + 1 + (l.length - m) = (fuel + (l.length - m)) + 1 by omega]
   refine ⟨fun hn => absurd hi0l (by rw [hn]; simp), fun i hi => ?_⟩
   obtain ⟨h1, o, ho, _⟩ := mem_ready.1 hi
   have hlt := (Array.getElem?_eq_some_iff.1 ho).1
   by_cases him : i < m
   ·have hi' := (hready hr i him).1 hi
    have h2 := h.2 i hi'
    unfold wpOp at h2
    unfold wpOpIn
    rw [hget i him, ho] at h2
    rw [ho]
    dsimp only at h2 ⊢
    have hwant : Region.wanted o (yielded l.toArray (mk L a).tmps) = Region.wanted o (yielded (l.take m).toArray a.tmps) := by
     show Region.wanted o (yielded l.toArray a.tmps) = _
     cases hgd : o.guard with
     | none => simp [Region.wanted, hgd]
     | some g =>
      obtain ⟨j, b⟩ := g
      have hj : j < m := by
       unfold guardsB at hG
       simp only [List.all_eq_true] at hG
       have hmem : o ∈ l.take m := by
        have : (l.take m)[i]? = some o := by simpa [List.getElem?_take, him] using ho
        exact List.mem_of_getElem? this
       have := hG o hmem
       rw [hgd] at this
       simpa using this
      simp only [Region.wanted, hgd, yielded, hget j hj]
    rw [hwant]
    have hpo : plainOp o = true := by
     simp only [List.all_eq_true] at hp
     have : (l.take m)[i]? = some o := by simpa [List.getElem?_take, him] using ho
     exact hp o (List.mem_of_getElem? this)
    have key : ∀ a' w', wpAny P .any (l.take m).toArray (Fx (KI r L P l.toArray Q (l.drop m))) fuel (l'.setIfInBounds i true) a' w' → wpAnyIn (Fr r) 9 P .any l.toArray Q (fuel + (l.length - m)) (listed.setIfInBounds i true) (mk L a') w' := fun a' w' hh => ih _ _ a' w' (hr.set_ him) (hd.set_ hi) hh
    split
    ·rename_i hw
     rw [if_pos hw] at h2
     rcases h2 with h2 | ⟨_, _, _, h2⟩
     ·exact operIn hpo key (wp_fx h2)
     ·exact h2.elim
    ·rename_i hw
     rw [if_neg hw] at h2
     refine ⟨fun _ _ => trivial, ?_⟩
     rw [mk_put]
     exact key _ _ h2
   ·exfalso
    have := tail_listed hd hi (htl i (by omega) hlt) (show i0 < i by omega)
    obtain ⟨h3, _⟩ := mem_ready.1 hi0l
    have hs1 := hr.s1
    rw [getD_tf (by omega), this] at h3
    cases h3
theorem XC.draw (m : Nat) {id : Nat} {l : List Oper} (hm : P.follows .mixedOrders = true) (hc : (Region.noSelect (l.take m).toArray && edgesB l.toArray && tlB l.toArray m && tlB (l.take m).toArray m && guardsB l m && (l.take m).all plainOp && decide (m ≤ l.length)) = true)
  (h : XA P ⟨nn, []⟩ w0 (l.take m).toArray (Fx (KI r L P l.toArray Q (l.drop m))) R H m m (Array.replicate m false) e R H) : XK ⟨nn, []⟩ w0 (KC r L P (Code.region id l.toArray true) Q) e R H := fun a w hr st => by
 simp only [Bool.and_eq_true, decide_eq_true_eq] at hc
 obtain ⟨⟨⟨⟨⟨⟨c1, c2⟩, c3⟩, c4⟩, c5⟩, c6⟩, c7⟩ := hc
 have h1 := h ⟨Down.start _ _, c1, c4⟩ a w.drew hr st.drew
 have h2 := any_sound (r := r) (L := L) (Q := Q) c7 c2 c3 c5 c6 m (Array.replicate l.length false) _ a w.drew ⟨fun i hi => by simp [hi, Nat.lt_of_lt_of_le hi c7], fun i hi => by simp [Array.getElem?_replicate]; split <;> rfl, by simp, by simp, by simpa using c7⟩ (Down.start _ _) (wpAny_of_x _ _ _ _ h1)
 unfold KC
 refine wpIn_region_any hm ?_
 rw [show m + (l.length - m) = l.length by omega] at h2
 simpa using h2
end
end
section
attribute [local irreducible] KC KI KQ
def ValOk (p : Piece) (vid : FuncId) (vcap : List Value) (ids : List Nat) (val : Nat → Int) : Prop := ∀ i ∈ ids, ∀ w', p.Le (all w') → Calls Tryz.prog vid (Value.int .i64 (i : Int) :: vcap).toArray w' (Rt (.int .u32 (val i)) w')
theorem Piece.Le.trans' {p q r : Piece} (h : p.Le q) (k : q.Le r) : p.Le r := fun b hb => ⟨(k b (h b hb).1).1, (k b (h b hb).1).2.trans (h b hb).2⟩
theorem ValOk.le {p q : Piece} {vid : FuncId} {vcap : List Value} {ids : List Nat} {val : Nat → Int} (h : ValOk p vid vcap ids val) (hl : p.Le q) : ValOk q vid vcap ids val := fun i hi w' hq => h i hi w' (hl.trans' hq)
theorem RP.of_blk {q : Piece} {g o : Nat} {t : TypeId} {cs : List Value} {v : Value} (h : ∃ F, (HP.blk g t cs).sat F q.w ∧ ∀ b, F b → q.Z b) (hv : cs[o]? = some v) : RP q g o v := by
 obtain ⟨F, hs, hz⟩ := h
 refine ⟨hz g hs.1, ?_⟩
 have : Blk q.w g t cs.toArray := hs.2
 rw [this.cell]
 simpa using hv
end
section
attribute [local irreducible] KC KI KQ
structure Stp where
 pr : Int
 msg : Int
 id : Int
 v : Int
def Stp.cells (s : Stp) : List Value := [.int .i64 s.pr, .int .i64 s.msg, .int .u32 s.id, .int .u32 s.v]
structure RowI where
 gf : FuncId
 lb : List Value
 sts : List Stp
def RowI.fn (r : RowI) : Value := .func (.func r.gf) #[] r.lb.toArray
end
section
set_option maxHeartbeats 4000000
set_option maxRecDepth 20000
section
variable {P : Program} {N : Frm} {w0 : World} {e : Env} {R : List Piece} {H : List HP} {Q : Exit → Act → World → Prop} {ops : Array Oper} {rest : List Oper}
variable {d : Nat} {ty : TypeId} {pos : String} {aft : Array Edge}
theorem xk_eqNil {x : Operand} {t el u : TypeId} {A : Option Addr} {n c : Nat} (ht : P.underlying t = some (.slice el)) (hx : e.ev x = some (.slice A n c)) (hd : d < N.n)
  (k : XK N w0 (wpList P ops Q rest) ((d, .bool A.isNone) :: e) R H) : XK N w0 (wpList P ops Q (⟨some d, .binOp .eql t x (.const (.slice none 0 0)) u, ty, pos, aft, none⟩ :: rest)) e R H :=
 xk_pure hd (fun a w hr => by
  have h1 := hr.ev hx
  have h2 := hr.ev (show e.ev (.const (.slice none 0 0)) = some (.slice none 0 0) from rfl)
  simp [execOp, h1, h2, eqGuard, binOp, run_equal_slice_nil _ t el A n c ht]) k
theorem xk_slice0 {t el : TypeId} {sz : Nat} (ht : P.underlying t = some (.slice el)) (hsz : (P.info? el).map (·.size) = some sz) (hd : d < N.n)
  (k : ∀ g, XK N w0 (wpList P ops Q rest) ((d, .slice (some ⟨g, 0, none⟩) 0 0) :: e) R (HP.blk g el [] :: H)) : XK N w0 (wpList P ops Q (⟨some d, .buildSlice t 0 #[], ty, pos, aft, none⟩ :: rest)) e R H :=
 xk_buildSlice (ps := []) (vs := []) rfl (fun w => by
  obtain ⟨i, hi, hs⟩ := Option.map_eq_some_iff.1 hsz
  simp [Instr.buildSlice, Sem.run_bind, run_underlying ht, Result.andThen_ok, sizeOf, typeInfo, hi, newRow, Instr.fill]
  congr 2
  exact Array.eq_empty_of_size_eq_zero (by simp)) hd k
theorem XK.openOwn (i : Nat) {K : Act → World → Prop} {g n c sz : Nat} {el : TypeId} {xs : List Value} (hi : H[i]? = some (HP.own el sz (.slice (some ⟨g, 0, none⟩) n c) n xs))
  (h : ∀ cs : List Value, cs.length = c * sz → cs.take (n * sz) = xs → n ≤ c → c ≤ maxLen → XK N w0 K e R (H.set i (HP.blk g el cs))) : XK N w0 K e R H := fun a w hr st => by
 obtain ⟨_, h2⟩ := st.own hi
 rcases h2 with ⟨h2, _⟩ | ⟨g', cap, cur, hv, _, hg, hn, hm, hsz, htk⟩
 ·cases h2
 ·cases hv
  refine h cur.toList (by simpa using hsz) htk hn hm a w hr (st.turn hi (Nat.le_refl _) rfl rfl rfl fun F hF hlt => ⟨F, ⟨hF.1 g rfl, by simpa [Blk] using hg⟩, fun b hb => ⟨.inl hb, hlt b hb⟩, fun _ _ _ => rfl⟩)
theorem XK.closeOwn (i : Nat) {K : Act → World → Prop} {g n c sz : Nat} {el : TypeId} {cs xs : List Value} (hi : H[i]? = some (HP.blk g el cs)) (h1 : cs.length = c * sz) (h2 : cs.take (n * sz) = xs) (hn : n ≤ c) (hm : c ≤ maxLen)
  (h : XK N w0 K e R (H.set i (HP.own el sz (.slice (some ⟨g, 0, none⟩) n c) n xs))) : XK N w0 K e R H := fun a w hr st =>
 h a w hr (st.turn hi (Nat.le_refl _) rfl rfl rfl fun F hF hlt => ⟨F, ⟨fun g' hg' => by simp [Value.ownBlock] at hg'; exact hg' ▸ hF.1, by rw [← h2, List.length_take, h1]; exact Nat.min_eq_left (Nat.mul_le_mul_right _ hn), .inr ⟨g, c, cs.toArray, rfl, Nat.zero_le _, hF.2, hn, hm, by simpa using h1, by simpa using h2⟩⟩, fun b hb => ⟨.inl hb, hlt b hb⟩, fun _ _ _ => rfl⟩)
end
def RevTo (xs : List Value) (k : Nat) (l : List Value) : Prop := l.length = xs.length ∧ ∀ t, t < xs.length → l[t]? = if t < k ∨ xs.length - k ≤ t then xs[xs.length - 1 - t]? else xs[t]?
theorem RevTo.zero (xs : List Value) : RevTo xs 0 xs := ⟨rfl, fun t ht => by rw [if_neg (by omega)]⟩
theorem RevTo.all {xs l : List Value} {k : Nat} (h : RevTo xs k l) (hk : xs.length ≤ 2 * k + 1) : l = xs.reverse := by
 apply List.ext_getElem?
 intro t
 rcases Nat.lt_or_ge t xs.length with ht | ht
 ·rw [h.2 t ht, List.getElem?_reverse ht]
  split
  ·rfl
  ·congr 1; omega
 ·rw [List.getElem?_eq_none (by rw [h.1]; exact ht), List.getElem?_eq_none (by simpa using ht)]
theorem RevTo.next {xs l : List Value} {k : Nat} {u v : Value} (h : RevTo xs k l) (hk : 2 * k + 1 < xs.length) (hu : l[xs.length - 1 - k]? = some u) (hv : l[k]? = some v) : RevTo xs (k + 1) ((l.set k u).set (xs.length - 1 - k) v) := by
 have h1 := h.2 k (by omega)
 have h2 := h.2 (xs.length - 1 - k) (by omega)
 rw [if_neg (by omega), hv] at h1
 rw [if_neg (by omega), hu] at h2
 refine ⟨by simpa using h.1, fun t ht => ?_⟩
 have hl := h.1
 rw [List.getElem?_set, List.getElem?_set]
 by_cases e1 : xs.length - 1 - k = t
 ·rw [if_pos e1, if_pos (by simp; omega), if_pos (by omega), show xs.length - 1 - t = k by omega]
  exact h1
 ·rw [if_neg e1]
  by_cases e2 : k = t
  ·rw [if_pos e2, if_pos (by omega), if_pos (by omega), ← e2]
   exact h2
  ·rw [if_neg e2, h.2 t ht]
   by_cases e3 : t < k ∨ xs.length - k ≤ t
   ·rw [if_pos e3, if_pos (by omega)]
   ·rw [if_neg e3, if_neg (by omega)]
theorem take_set {cs l : List Value} {n k : Nat} {u : Value} (h : cs.take n = l) : (cs.set k u).take n = l.set k u := by rw [← h, List.take_set]
end
section
section
variable {P : Program} {N : Frm} {w0 w : World} {e : Env} {R : List Piece} {H H' : List HP} {Q : Exit → Act → World → Prop} {ops : Array Oper} {rest : List Oper} {K : Act → World → Prop}
variable {d : Nat} {ty : TypeId} {pos : String} {aft : Array Edge}
theorem St.piece {p : Piece} (st : St w0 R H w) (hR : all w0 ∈ R) (hp : p.Le (all w0)) : St w0 (p :: R) H w := by
 obtain ⟨Z, F, hz, hr, hs, hf, hd⟩ := st.ex
 refine ⟨st.os, st.tape, st.output, st.size, Z, F, hz, fun q hq b hb => ?_, hs, hf, hd⟩
 simp only [List.mem_cons] at hq
 rcases hq with rfl | hq
 ·have h1 := hr _ hR b (hp b hb).1
  exact ⟨h1.1, h1.2.trans (hp b hb).2⟩
 ·exact hr q hq b hb
theorem XK.piece (p : Piece) (hR : all w0 ∈ R) (hp : p.Le (all w0)) (h : XK N w0 K e (p :: R) H) : XK N w0 K e R H := fun a w hr st => h a w hr (st.piece hR hp)
end
end
section
def emM (M : Option Nat) (d : Nat) (e : Env) : Env := match M with
 | none => e
 | some g => (d, .pointer (some ⟨g, 0, none⟩)) :: e
def hmM (M : Option Nat) (t : TypeId) (cs : List Value) (H : List HP) : List HP := match M with
 | none => H
 | some g => HP.blk g t cs :: H
def lmM (M : Option Nat) (j : Nat) (l : Array Bool) : Array Bool := match M with
 | none => l
 | some _ => l.setIfInBounds j true
def fmM (M : Option Nat) (f : Nat) : Nat := match M with
 | none => f + 1
 | some _ => f
def neB (d : Nat) : Operand → Bool
 | .tmp t => !(Nat.beq d t)
 | _ => true
theorem get_M (M : Option Nat) {d t : Nat} {e : Env} {v : Value} (h : e.get t = some v) (hn : Nat.beq d t = false) : (emM M d e).get t = some v := by
 cases M with
 | none => exact h
 | some g =>
  show Env.get ((d, _) :: e) t = some v
  unfold Env.get
  rw [hn]
  exact h
theorem ev_M (M : Option Nat) {d : Nat} {e : Env} {x : Operand} {v : Value} (h : e.ev x = some v) (hn : neB d x = true) : (emM M d e).ev x = some v := by
 cases x with
 | tmp t => exact get_M M h (by simpa [neB] using hn)
 | _ => exact h
theorem evs_M (M : Option Nat) {d : Nat} {e : Env} : ∀ {xs : List Operand} {vs : List Value}, e.evs xs = some vs → xs.all (neB d) = true → (emM M d e).evs xs = some vs
 | [], vs, h, _ => by cases h; rfl
 | x :: xs, vs, h, hn => by
  simp only [List.all_cons, Bool.and_eq_true] at hn
  unfold Env.evs at h ⊢
  split at h
  ·rename_i v r h1 h2
   cases h
   rw [ev_M M h1 hn.1, evs_M M h2 hn.2]
  ·cases h
section
variable {P : Program} {N : Frm} {w0 w : World} {e : Env} {R R' R0 : List Piece} {H H0 : List HP} {Q : Exit → Act → World → Prop} {ops : Array Oper} {m fuel : Nat} {listed : Array Bool} {K : Act → World → Prop}
variable {d dA : Nat} {t ty : TypeId} {pos : String} {aft : Array Edge} {cs : List Value} {v : Value}
theorem XK.weakR (hR : ∀ p ∈ R', p ∈ R) (h : XK N w0 K e R' H) : XK N w0 K e R H := fun a w hr st => h a w hr (st.weak hR id (fun _ _ _ _ h => h) (fun _ _ h => h))
theorem St.unM {M : Option Nat} (h : St w0 R (hmM M t cs H) w) : St w0 R H w := by
 cases M with
 | none => exact h
 | some g => exact h.tail
theorem Rep.putM {M : Option Nat} {a : Act} (h : Rep N ((d, v) :: emM M dA e) a) (hd : Nat.beq d dA = false) : Rep N (emM M dA ((d, v) :: e)) a := by
 cases M with
 | none => exact h
 | some g =>
  refine ⟨h.size, h.defers, fun u x hu => h.get u x ?_⟩
  show Env.get ((d, v) :: (dA, _) :: e) u = some x
  have hu : Env.get ((dA, .pointer (some ⟨g, 0, none⟩)) :: (d, v) :: e) u = some x := hu
  unfold Env.get at hu ⊢
  cases h1 : Nat.beq d u with
  | true =>
   have := Nat.eq_of_beq_eq_true h1
   subst this
   rw [show Nat.beq dA d = false from (by rw [← hd]; cases h2 : Nat.beq dA d with
    | true => have := Nat.eq_of_beq_eq_true h2; subst this; rw [Nat.beq_refl] at hd; cases hd
    | false => exact hd.symm)] at hu
   unfold Env.get at hu
   rw [h1] at hu
   exact hu
  | false =>
   dsimp only
   unfold Env.get
   cases h2 : Nat.beq dA u with
   | true => rw [h2] at hu; exact hu
   | false =>
    rw [h2] at hu
    unfold Env.get at hu
    rw [h1] at hu
    exact hu
theorem XA.maybe (i j : Nat) {oi : Oper} {M : Option Nat} (hi : ops[i]? = some oi) (hj : ops[j]? = some ⟨some dA, .alloc t, ty, pos, aft, none⟩) (ht : zeroB P t cs) (hd : dA < N.n)
  (hr0 : Region.ready .any ops listed = [i, j]) (hr1 : Region.ready .any ops (listed.setIfInBounds j true) = [i]) (hS : ∀ w, St w0 R H w → St w0 R0 H0 w)
  (step : ∀ M, XK N w0 (wpList P ops (Exit.then (XAK P w0 ops Q R0 H0 m (fmM M fuel) (lmM M j listed) i) Q) [oi]) (emM M dA e) R (hmM M t cs H)) :
  XA P N w0 ops Q R0 H0 m (fmM M (fuel + 1)) (lmM M j listed) (emM M dA e) R (hmM M t cs H) := by
 cases M with
 | some g => exact XA.next i hi hr1 (step (some g))
 | none => exact XA.either i j hi hj hr0 (step none) (xk_alloc ht hd fun g => XK.nil (XK.thenN (XA.back (fun w h => hS w h.tail) (XA.next i hi hr1 (step (some g))))))
theorem XA.maybe0 {j : Nat} (dA : Nat) (t : TypeId) (cs : List Value) (h : ∀ M : Option Nat, XA P N w0 ops Q R0 H0 m (fmM M fuel) (lmM M j listed) (emM M dA e) R (hmM M t cs H)) : XA P N w0 ops Q R0 H0 m (fuel + 1) listed e R H := h none
theorem XA.backM {i j : Nat} {M : Option Nat} (hij : i ≠ j) (hd : Nat.beq d dA = false) (hS : ∀ w, St w0 R H w → St w0 R0 H0 w)
  (h : XA P N w0 ops Q R0 H0 m (fmM M fuel) (lmM M j (listed.setIfInBounds i true)) (emM M dA ((d, v) :: e)) R (hmM M t cs H)) : XK N w0 (XAK P w0 ops Q R0 H0 m (fmM M fuel) (lmM M j listed) i) ((d, v) :: emM M dA e) R (hmM M t cs H) := by
 refine XA.back (fun w h => hS w h.unM) ?_
 have hl : (lmM M j listed).setIfInBounds i true = lmM M j (listed.setIfInBounds i true) := by
  cases M with
  | none => rfl
  | some g => exact Array.setIfInBounds_comm _ _ (Ne.symm hij)
 rw [hl]
 exact fun up a w hr st => h up a w (hr.putM hd) st
theorem XK.swapM {M : Option Nat} {p : HP} (h : XK N w0 K e R (hmM M t cs (p :: H))) : XK N w0 K e R (p :: hmM M t cs H) := by
 cases M with
 | none => exact h
 | some g => exact fun a w hr st => h a w hr (st.weak (fun _ hp => hp) (fun i => match i with | 0 => 1 | 1 => 0 | i + 2 => i + 2) (fun i j _ _ he => by
   match i, j with
   | 0, 0 => rfl
   | 0, 1 => cases he
   | 0, j + 2 => simp at he
   | 1, 0 => cases he
   | 1, 1 => rfl
   | 1, j + 2 => simp at he
   | i + 2, 0 => simp at he
   | i + 2, 1 => simp at he
   | i + 2, j + 2 => simpa using he) (fun i q hq => by
   match i, hq with
   | 0, hq => exact hq
   | 1, hq => exact hq
   | i + 2, hq => exact hq))
theorem get_iff {p q : Prop} [Decidable p] [Decidable q] {u : Nat} (h : e.get u = some (.bool (decide p))) (hpq : p ↔ q) : e.get u = some (.bool (decide q)) := by
 rw [h, decide_eq_decide.2 hpq]
theorem get_false {q : Prop} [Decidable q] {u : Nat} (h : e.get u = some (.bool false)) (hq : ¬ q) : e.get u = some (.bool (decide q)) := by rw [h, decide_eq_false hq]
theorem get_true {q : Prop} [Decidable q] {u : Nat} (h : e.get u = some (.bool true)) (hq : q) : e.get u = some (.bool (decide q)) := by rw [h, decide_eq_true hq]
theorem get_bool {q : Prop} [Decidable q] {u : Nat} {b : Bool} (h : e.get u = some (.bool b)) (hb : b = true ↔ q) : e.get u = some (.bool (decide q)) := by
 rw [h]
 congr 2
 by_cases hq : q
 ·rw [decide_eq_true hq, hb.2 hq]
 ·rw [decide_eq_false hq]
  cases b
  ·rfl
  ·exact absurd (hb.1 rfl) hq
theorem Rep.sub_cons {e0 : Env} {a : Act} {u : Nat} {x : Value} (h : Rep N e a) (hs : e0.Sub e) (hu : e.get u = some x) : Rep N ((u, x) :: e0) a := h.sub (e' := (u, x) :: e0) ⟨hu, hs⟩
theorem XK.cutB {x y : Code} {Q : Exit → Act → World → Prop} (u : Nat) (p : Prop) [Decidable p] (h : XK N w0 (x.wp P (Exit.then (fun a' w' => Rep N ((u, .bool (decide p)) :: e) a' ∧ St w0 R H w') Q)) e R H)
  (hy : XK N w0 (y.wp P Q) ((u, .bool (decide p)) :: e) R H) : XK N w0 ((Code.seq x y).wp P Q) e R H := fun a w hr st => by
 refine wp_seq (wp_mono (h a w hr st) fun x a' w' hq => ?_)
 cases x with
 | normal => exact hy a' w' hq.1 hq.2
 | _ => exact hq
theorem XK.meetB {e0 : Env} {u : Nat} {p : Prop} [Decidable p] (hs : e0.Sub e) (hu : e.get u = some (.bool (decide p))) : XK N w0 (fun a' w' => Rep N ((u, .bool (decide p)) :: e0) a' ∧ St w0 R H w') e R H := fun _ _ hr st => ⟨hr.sub_cons hs hu, st⟩
theorem XK.meetBS {e0 : Env} {u : Nat} {p : Prop} [Decidable p] (hs : e0.Sub e := by repeat (first | exact trivial | refine ⟨rfl, ?_⟩)) (hu : e.get u = some (.bool (decide p)) := by first | (refine get_iff rfl ?_; omega) | (refine get_iff rfl ?_; simp_all; done) | (refine get_false rfl ?_; first | omega | (simp_all; done)) | (refine get_true rfl ?_; first | omega | (simp_all; done)) | (refine get_bool rfl ?_; simp_all; done) | (refine get_iff rfl ⟨fun hh => ?_, fun hh => ?_⟩ <;> first | omega | (simp_all; done) | (simp_all; omega)) | (exfalso; omega)) : XK N w0 (fun a' w' => Rep N ((u, .bool (decide p)) :: e0) a' ∧ St w0 R H w') e R H := XK.meetB hs hu
theorem XK.ownHead (i : Nat) {el : TypeId} {sz n c : Nat} {A : Option Addr} {xs : List Value} (hi : H[i]? = some (HP.own el sz (.slice A n c) n xs)) (hn : 0 < n) (h : ∀ g, A = some ⟨g, 0, none⟩ → XK N w0 K e R H) : XK N w0 K e R H := fun a w hr st => by
 have ho := st.own hi
 rcases ho.2 with ⟨_, h0⟩ | ⟨g, cap, cur, hv, _⟩
 ·omega
 ·injection hv with hA
  exact h g hA a w hr st
end
end
end Go.Proofs.YtcoifdhdhglioaaGreat
