/- Iterators: their contract, a call of yield, a range over one. -/
import Derived.Test.YtbgibbbggajgaaaIter
namespace Go.Proofs.Ytbgibbbggajgaaa
set_option linter.all false
open Go.RowKit

/-- all but what F has -/
def nt (W : World) (F : Nat → Prop) : Piece := ⟨W, fun b => b < W.heap.size ∧ ¬ F b⟩
structure Same (w w' : World) : Prop where
  os : w'.os = w.os
  tape : w'.tape = w.tape
  output : w'.output = w.output
  size : w.heap.size ≤ w'.heap.size
theorem Same.refl (w : World) : Same w w := ⟨rfl, rfl, rfl, Nat.le_refl _⟩
theorem Same.trans {a b c : World} (h : Same a b) (k : Same b c) : Same a c := ⟨k.os.trans h.os, k.tape.trans h.tape, k.output.trans h.output, Nat.le_trans h.size k.size⟩
theorem Turns.same {w w' : World} {F F' : Nat → Prop} (h : Turns w w' F F') : Same w w' := ⟨h.os, h.tape, h.output, h.size⟩
theorem Turns.refl {w : World} {F : Nat → Prop} (h : ∀ b, F b → b < w.heap.size) : Turns w w F F := ⟨rfl, rfl, rfl, Nat.le_refl _, fun b hb => ⟨.inl hb, h b hb⟩, fun _ _ _ => rfl⟩
theorem Turns.trans {a b c : World} {F G K : Nat → Prop} (h : Turns a b F G) (k : Turns b c G K) : Turns a c F K := by
  refine ⟨k.os.trans h.os, k.tape.trans h.tape, k.output.trans h.output, Nat.le_trans h.size k.size, fun x hx => ⟨?_, (k.new x hx).2⟩, fun x hx hn => ?_⟩
  · rcases (k.new x hx).1 with h1 | h1
    · exact (h.new x h1).1
    · exact .inr (Nat.le_trans h.size h1)
  · refine (k.old x (Nat.lt_of_lt_of_le hx h.size) (fun hg => ?_)).trans (h.old x hx hn)
    rcases (h.new x hg).1 with h1 | h1
    · exact hn h1
    · omega
/-- what stands while own blocks are lent -/
structure Base (w0 W : World) (R : List Piece) (F : Nat → Prop) : Prop where
  same : Same w0 W
  ro : ∀ p ∈ R, ∀ b, p.Z b → b < W.heap.size ∧ ¬ F b ∧ W.heap[b]? = p.w.heap[b]?
section
variable {w0 w W W1 : World} {R : List Piece} {H : List HP} {F F1 : Nat → Prop}
theorem St.join (st : St w0 R H w) : ∃ F, (HP.many H).sat F w ∧ (∀ b, F b → b < w.heap.size) ∧ Base w0 w R F := by
  obtain ⟨Z, F, hz, hr, hs, hf, hd⟩ := st.ex
  refine ⟨fun b => ∃ i, F i b, ⟨F, hs, fun i b h => ⟨i, h⟩, fun i j b hij h => hd i j b hij h⟩, fun b ⟨i, h⟩ => (hf i b h).2, ⟨⟨st.os, st.tape, st.output, st.size⟩, fun p hp b hb => ⟨hz b (hr p hp b hb).1, fun ⟨i, h⟩ => (hf i b h).1 (hr p hp b hb).1, (hr p hp b hb).2⟩⟩⟩
theorem St.split (hb : Base w0 W R F) (ht : Turns W W1 F F1) (hs : (HP.many H).sat F1 W1) : St w0 R H W1 := by
  obtain ⟨G, h1, h2, h3⟩ := hs
  have h := hb.same.trans ht.same
  refine ⟨h.os, h.tape, h.output, h.size, fun b => ∃ p ∈ R, p.Z b, G, fun b ⟨p, hp, hz⟩ => Nat.lt_of_lt_of_le (hb.ro p hp b hz).1 ht.size, fun p hp b hz => ⟨⟨p, hp, hz⟩, ?_⟩, h1, fun i b hg => ⟨?_, (ht.new b (h2 i b hg)).2⟩, fun i j b hij hg => h3 i j b hij hg⟩
  · obtain ⟨h4, h5, h6⟩ := hb.ro p hp b hz
    exact (ht.old b h4 h5).trans h6
  · rintro ⟨p, hp, hz⟩
    obtain ⟨h4, h5, _⟩ := hb.ro p hp b hz
    rcases (ht.new b (h2 i b hg)).1 with h | h
    · exact h5 h
    · omega
/-- the beginning of a round -/
theorem St.roundStart (hb : Base w0 W R F) (ht : Turns W W1 F F1) (hlt : ∀ b, F1 b → b < W1.heap.size) (hs : (HP.many H).sat F1 W1) : St W1 (R ++ [nt W1 F1]) H W1 := by
  obtain ⟨G, h1, h2, h3⟩ := hs
  refine ⟨rfl, rfl, rfl, Nat.le_refl _, fun b => b < W1.heap.size ∧ ¬ F1 b, G, fun b h => h.1, fun p hp b hz => ?_, h1, fun i b hg => ⟨fun h => h.2 (h2 i b hg), hlt b (h2 i b hg)⟩, fun i j b hij hg => h3 i j b hij hg⟩
  simp only [List.mem_append, List.mem_singleton] at hp
  rcases hp with hp | rfl
  · obtain ⟨h4, h5, h6⟩ := hb.ro p hp b hz
    refine ⟨⟨Nat.lt_of_lt_of_le h4 ht.size, fun h => ?_⟩, (ht.old b h4 h5).trans h6⟩
    rcases (ht.new b h).1 with h | h
    · exact h5 h
    · omega
  · exact ⟨hz, rfl⟩
/-- .. and its end -/
theorem St.turnsMany (st : St w0 R H w) (hR : nt w0 F ∈ R) : ∃ F', (HP.many H).sat F' w ∧ (∀ b, F' b → b < w.heap.size) ∧ Turns w0 w F F' := by
  obtain ⟨F', h1, h2, hb⟩ := st.join
  refine ⟨F', h1, h2, st.os, st.tape, st.output, st.size, fun b h => ⟨?_, h2 b h⟩, fun b h hn => (hb.ro _ hR b ⟨h, hn⟩).2.2⟩
  rcases Nat.lt_or_ge b w0.heap.size with h3 | h3
  · exact .inl (Classical.byContradiction fun hn => (hb.ro _ hR b ⟨h3, hn⟩).2.1 h)
  · exact .inr h3
end
/-! the chunks of a loop -/
def HP.marks (L : List Nat) : HP := ⟨fun F w => L.Nodup ∧ ∀ D ∈ L, F D ∧ w.heap[D]? = some (.deferred (some [])), fun _ _ _ h hk => ⟨h.1, fun D hD => ⟨(h.2 D hD).1, (hk D (h.2 D hD).1).trans (h.2 D hD).2⟩⟩⟩
def HP.lp (l : Nat) (L : List Nat) (rc : Loop) : HP := ⟨fun F w => (F l ∧ w.heap[l]? = some (.loop rc)) ∧ (HP.marks L).sat F w, fun F w w' h hk => ⟨⟨h.1.1, (hk l h.1.1).trans h.1.2⟩, (HP.marks L).loc F w w' h.2 hk⟩⟩
theorem HP.lp_put {l : Nat} {L : List Nat} {rc rc' : Loop} {F : Nat → Prop} {w : World} (h : (HP.lp l L rc).sat F w) : (HP.lp l L rc').sat F (w.putObj l (.loop rc')) := by
  obtain ⟨⟨h1, h2⟩, h3, h4⟩ := h
  refine ⟨⟨h1, World.putObj_heap_same (Array.getElem?_eq_some_iff.1 h2).1⟩, h3, fun D hD => ⟨(h4 D hD).1, ?_⟩⟩
  refine (World.putObj_heap_other (fun e => ?_)).trans (h4 D hD).2
  subst e
  have := (h4 D hD).2
  rw [h2] at this
  cases this
section
variable {P : Program} {N : Nat} {w0 w : World} {e : Env} {R : List Piece} {H : List HP} {Q : Exit → Act → World → Prop} {ops : Array Oper} {rest : List Oper} {r : Option Nat} {L : List Nat}
theorem last_get {Hs : List HP} {p : HP} : (Hs ++ [p])[Hs.length]? = some p := by simp
theorem last_set {Hs : List HP} {p q : HP} : (Hs ++ [p]).set Hs.length q = Hs ++ [q] := by simp
/-- the loop's record turns -/
theorem St.loopPut {Hs : List HP} {l : Nat} {rc rc' : Loop} (st : St w0 R (Hs ++ [HP.lp l L rc]) w) : St w0 R (Hs ++ [HP.lp l L rc']) (w.putObj l (.loop rc')) := by
  have := st.turn (q := HP.lp l L rc') (w' := w.putObj l (.loop rc')) (i := Hs.length) last_get (by simp) rfl rfl rfl (fun F hF hlt => ⟨F, HP.lp_put hF, fun b hb => ⟨.inl hb, by simpa using hlt b hb⟩, fun b hb hn => World.putObj_heap_other (fun e => hn (e ▸ hF.1.1))⟩)
  rwa [last_set] at this
theorem St.loopRec {Hs : List HP} {l : Nat} {rc : Loop} (st : St w0 R (Hs ++ [HP.lp l L rc]) w) : w.heap[l]? = some (.loop rc) := (st.sat (i := Hs.length) last_get).choose_spec.1.2
/-- the loop is over -/
theorem St.loopEnd {Hs : List HP} {l : Nat} {rc rc' : Loop} (st : St w0 R (Hs ++ [HP.lp l L rc]) w) : St w0 R (Hs ++ [HP.marks L]) (w.putObj l (.loop rc')) := by
  have := st.turn (q := HP.marks L) (w' := w.putObj l (.loop rc')) (i := Hs.length) last_get (by simp) rfl rfl rfl (fun F hF hlt => ⟨F, (HP.lp_put (rc' := rc') hF).2, fun b hb => ⟨.inl hb, by simpa using hlt b hb⟩, fun b hb hn => World.putObj_heap_other (fun e => hn (e ▸ hF.1.1))⟩)
  rwa [last_set] at this
/-- the loop begins -/
theorem St.loopNew {Hs : List HP} {rc : Loop} (st : St w0 R (Hs ++ [HP.marks L]) w) : St w0 R (Hs ++ [HP.lp (w.heap.size + 1) (w.heap.size :: L) rc]) ((w.alloc (.deferred (some []))).alloc (.loop rc)) := by
  have hb : Below w.heap.size w ((w.alloc (.deferred (some []))).alloc (.loop rc)) := ((Below.refl _ w).alloc (Nat.le_refl _) _).alloc (by simp) _
  have hL1 : ((w.alloc (.deferred (some []))).alloc (.loop rc)).heap[w.heap.size + 1]? = some (.loop rc) := by
    have := World.alloc_heap_new (w.alloc (.deferred (some []))) (.loop rc)
    rwa [World.size_alloc] at this
  have hK1 : ((w.alloc (.deferred (some []))).alloc (.loop rc)).heap[w.heap.size]? = some (.deferred (some [])) :=
    (Below.heap_alloc _ _ _ (by simp)).trans (World.alloc_heap_new w _)
  have hsz : ((w.alloc (.deferred (some []))).alloc (.loop rc)).heap.size = w.heap.size + 1 + 1 := by simp
  have := st.turn (q := HP.lp (w.heap.size + 1) (w.heap.size :: L) rc) (i := Hs.length) last_get hb.size hb.os hb.tape hb.output (fun F hF hlt => by
    refine ⟨fun b => F b ∨ (w.heap.size ≤ b ∧ b < w.heap.size + 1 + 1), ⟨⟨.inr ⟨by omega, by omega⟩, hL1⟩, ?_, ?_⟩, fun b hb' => ?_, fun b hb' _ => hb.block b hb'⟩
    · rw [List.nodup_cons]
      refine ⟨fun hm => ?_, hF.1⟩
      have := hlt _ (hF.2 _ hm).1
      omega
    · intro D hD
      rcases List.mem_cons.1 hD with rfl | hD
      · exact ⟨.inr ⟨by omega, by omega⟩, hK1⟩
      · obtain ⟨h1, h2⟩ := hF.2 D hD
        exact ⟨.inl h1, (hb.block D (hlt D h1)).trans h2⟩
    · rcases hb' with h | h
      · exact ⟨.inl h, by have := hlt b h; omega⟩
      · exact ⟨.inr h.1, by omega⟩)
  rwa [last_set] at this
/-! yield -/
/-- what a call of yield does: on, or no more -/
def YPost (W1 : World) (F1 : Nat → Prop) (q q' : HP) : Ending → World → Prop := fun y W' => (y = .returned (.bool true) ∧ ∃ F', q.sat F' W' ∧ Turns W1 W' F1 F') ∨ (y = .returned (.bool false) ∧ ∃ F', q'.sat F' W' ∧ Turns W1 W' F1 F')
theorem Turns.st {W' : World} {F' : Nat → Prop} {q : HP} {Z : Nat → Prop} {F : Nat → Nat → Prop} {i : Nat} (hos : w.os = w0.os ∧ w.tape = w0.tape ∧ w.output = w0.output ∧ w0.heap.size ≤ w.heap.size) (hz : ∀ b, Z b → b < w.heap.size)
    (hrr : ∀ p ∈ R, ∀ b, p.Z b → Z b ∧ w.heap[b]? = p.w.heap[b]?) (hs : ∀ (i : Nat) (p : HP), H[i]? = some p → p.sat (F i) w) (hff : ∀ i b, F i b → ¬ Z b ∧ b < w.heap.size) (hdd : ∀ i j b, i ≠ j → F i b → ¬ F j b)
    (hlt : i < H.length) (hq' : q.sat F' W') (ht : Turns w W' (F i) F') : St w0 R (H.set i q) W' := by
  refine ⟨ht.os.trans hos.1, ht.tape.trans hos.2.1, ht.output.trans hos.2.2.1, Nat.le_trans hos.2.2.2 ht.size, Z, fun j => if j = i then F' else F j, fun b h => Nat.lt_of_lt_of_le (hz b h) ht.size, fun p hp b h => ?_, fun j r hj => ?_, fun j b h => ?_, fun j k b hjk h => ?_⟩
  · exact ⟨(hrr p hp b h).1, (ht.old b (hz b (hrr p hp b h).1) (fun hfb => (hff i b hfb).1 (hrr p hp b h).1)).trans (hrr p hp b h).2⟩
  · rw [List.getElem?_set] at hj
    split at hj
    · rename_i e; subst e
      first | (rw [if_pos hlt] at hj; cases hj) | cases hj
      simpa using hq'
    · rename_i e
      simp only [if_neg (Ne.symm e)]
      exact r.loc _ _ _ (hs j r hj) (fun b hb => ht.old b (hff j b hb).2 (hdd j i b (Ne.symm e) hb))
  · dsimp only at h
    split at h
    · refine ⟨fun hzb => ?_, (ht.new b h).2⟩
      rcases (ht.new b h).1 with h | h
      · exact (hff i b h).1 hzb
      · have := hz b hzb; omega
    · exact ⟨(hff j b h).1, Nat.lt_of_lt_of_le (hff j b h).2 ht.size⟩
  · dsimp only at h ⊢
    split at h <;> split
    · rename_i h1 h2; omega
    · rename_i e1 e2
      intro hk
      rcases (ht.new b h).1 with h | h
      · exact hdd i k b (by omega) h hk
      · have := (hff k b hk).2; omega
    · rename_i e1 e2
      intro hk
      rcases (ht.new b hk).1 with hk | hk
      · exact hdd j i b (by omega) h hk
      · have := (hff j b h).2; omega
    · exact hdd j k b hjk h
theorem XI.yield (i : Nat) {W0 : World} {F0 : Nat → Prop} {d l : Nat} {ty : TypeId} {pos : String} {aft : Array Edge} {x : Operand} {args : List Operand} {vs : List Value} {tys : Array TypeId} {p q q' : HP}
    (hx : e.ev x = some (.func (.yield l) #[] #[])) (ha : e.evs args = some vs) (hd : d < N) (hnt : nt W0 F0 ∈ R) (hsm : Same W0 w0) (hi : H[i]? = some p)
    (hy : ∀ W1 F1, p.sat F1 W1 → (∀ b, F1 b → b < W1.heap.size) → Turns W0 W1 F0 F1 → YieldAt Fence.wide 9 P l vs.toArray W1 (YPost W1 F1 q q'))
    (k1 : XK N w0 (KI r L P ops Q rest) ((d, .bool true) :: e) R (H.set i q)) (k2 : XK N w0 (KI r L P ops Q rest) ((d, .bool false) :: e) R (H.set i q')) :
    XK N w0 (KI r L P ops Q (⟨some d, .call { callee := .value x, args := args.toArray, argTypes := tys }, ty, pos, aft, none⟩ :: rest)) e R H := fun a w hr st => by
  obtain ⟨Z, F, hz, hrr, hs, hff, hdd⟩ := st.ex
  have hlt : i < H.length := by
    rcases Nat.lt_or_ge i H.length with h | h
    · exact h
    · rw [List.getElem?_eq_none h] at hi; cases hi
  have hsw : Same W0 w := hsm.trans ⟨st.os, st.tape, st.output, st.size⟩
  obtain ⟨fn, tmps, assign, body, hrun, hround⟩ := hy w (F i) (hs i p hi) (fun b hb => (hff i b hb).2) ⟨hsw.os, hsw.tape, hsw.output, hsw.size, fun b hb => ⟨by
    rcases Nat.lt_or_ge b W0.heap.size with h | h
    · exact .inl (Classical.byContradiction fun hn => (hff i b hb).1 (hrr _ hnt b ⟨h, hn⟩).1)
    · exact .inr h, (hff i b hb).2⟩, fun b hb hn => (hrr _ hnt b ⟨hb, hn⟩).2⟩
  refine wpListIn_plain rfl fun K hK => ?_
  refine ⟨fun _ _ => trivial, ?_⟩
  rw [semAt_r r _ rfl, mk_eval]
  have hex : (execOp a.eval (⟨some d, .call { callee := .value x, args := args.toArray, argTypes := tys }, ty, pos, aft, none⟩ : Oper)).run P w = .ok (.round l fn tmps assign body) w := by
    simp [execOp, resolve, hr.ev hx, Deferred.ofValue, invoke, hr.evs ha, hrun]
  rw [hex]
  refine ⟨fun _ => by omega, ?_⟩
  have hround2 : RoundIn (Fr r) 8 P l fn tmps assign body w (YPost w (F i) q q') := ⟨hround.1, fun c cs _ => hround.2 c cs (room_wide _)⟩
  refine hround2.mono ?_
  rintro y W' (⟨rfl, F', hq, ht⟩ | ⟨rfl, F', hq, ht⟩)
  · refine hK _ _ ?_
    rw [mk_put]
    exact k1 _ _ (hr.put hd _) (Turns.st ⟨st.os, st.tape, st.output, st.size⟩ hz hrr hs hff hdd hlt hq ht)
  · refine hK _ _ ?_
    rw [mk_put]
    exact k2 _ _ (hr.put hd _) (Turns.st ⟨st.os, st.tape, st.output, st.size⟩ hz hrr hs hff hdd hlt hq ht)
/-! iterators -/
/-- g, with lb caught, hands over encs, one behind the other, and is content to be told to stop; it looks at p alone -/
def Iter (P : Program) (g : FuncId) (lb : List Value) (encs : List (List Value)) (p : Piece) : Prop :=
  ∀ (l : Nat) (J Jx : Nat → HP) (W : World) (F : Nat → Prop), p.Le (all W) → (∀ b, p.Z b → ¬ F b) → (J 0).sat F W → (∀ b, F b → b < W.heap.size) →
    (∀ (k : Nat) (vs : List Value) (W1 : World) (F1 : Nat → Prop), encs[k]? = some vs → (J k).sat F1 W1 → (∀ b, F1 b → b < W1.heap.size) → Turns W W1 F F1 → YieldAt Fence.wide 9 P l vs.toArray W1 (YPost W1 F1 (J (k + 1)) (Jx (k + 1)))) →
    Calls P g (Value.func (.yield l) #[] #[] :: lb).toArray W fun y W' => (∃ v, y = .returned v) ∧ ∃ F', Turns W W' F F' ∧ ((J encs.length).sat F' W' ∨ ∃ k, k < encs.length ∧ (Jx (k + 1)).sat F' W')
def bindE : List Nat → List Value → Env → Env
  | p :: ps, v :: vs, e => bindE ps vs ((p, v) :: e)
  | _, _, e => e
theorem Rep.bind : ∀ {ps : List Nat} {vs : List Value} {e : Env} {a : Act}, Rep N e a → (∀ p ∈ ps, p < N) → Rep N (bindE ps vs e) { tmps := (ps.zip vs).foldl (fun t (p, v) => t.setIfInBounds p v) a.tmps, defers := a.defers }
  | [], vs, e, a, h, _ => h
  | p :: ps, [], e, a, h, _ => h
  | p :: ps, v :: vs, e, a, h, hp => Rep.bind (a := a.put (some p) v) (h.put (hp p (by simp)) v) (fun q hq => hp q (by simp [hq]))
/-- a range over an iterator -/
theorem XC.range {gf : FuncId} {lb : List Value} {encs : List (List Value)} {p : Piece} {g : Operand} {ps : List Nat} {assign body : Code} (hg : e.ev g = some (.func (.func gf) #[] lb.toArray)) (hf : callB P gf = true) (hit : Iter P gf lb encs p) (hp : p ∈ R)
    (hps : ∀ vs ∈ encs, vs.length = ps.length) (hpN : ∀ q ∈ ps, q < N) (Hs Hx : Nat → List HP) (Mid : Nat → List Value → Env → List HP → Prop) (h0 : H = Hs 0 ++ [HP.marks L])
    (hassign : ∀ (l k : Nat) (vs : List Value) (W1 : World) (q : Piece) (X : HP), encs[k]? = some vs → Same w0 W1 → XK N W1 (KC (some l) [] P assign (Fx fun a w => ∃ e1 H1, Mid k vs e1 H1 ∧ Rep N e1 a ∧ St W1 (R ++ [q]) (H1 ++ [X]) w)) (bindE ps vs e) (R ++ [q]) (Hs k ++ [X]))
    (hbody : ∀ (l k : Nat) (vs : List Value) (W1 : World) (q : Piece) (X : HP) (e1 : Env) (H1 : List HP), encs[k]? = some vs → Same w0 W1 → Mid k vs e1 H1 →
      XK N W1 (KC (some l) [] P body (fun x _ w => (x = .normal ∧ St W1 (R ++ [q]) (Hs (k + 1) ++ [X]) w) ∨ (x = .ret ∧ St W1 (R ++ [q]) (Hx (k + 1) ++ [X]) w))) e1 (R ++ [q]) (H1 ++ [X]))
    (hdone : ∀ D, XK N w0 (KQ (D :: L) Q .normal) e R (Hs encs.length ++ [HP.marks (D :: L)])) (hret : ∀ D k, k < encs.length → XK N w0 (KC none (D :: L) P .ret Q) e R (Hx (k + 1) ++ [HP.marks (D :: L)])) :
    XK N w0 (KC none L P (Code.rangeFunc g ps.toArray assign body) Q) e R H := fun a w hr st => by
  subst h0
  unfold callB at hf
  cases hq : P.funcs[gf]? with
  | none => simp [hq] at hf
  | some fnn =>
  simp [hq] at hf
  obtain ⟨hf1, hf2⟩ := hf
  have eg : ∀ args w, (callFunc gf args).run P w = .ok (.enter gf args) w := fun args w => by
    cases hb : fnn.body with
    | none => simp [hb] at hf2
    | some c => simp [callFunc, hq, hf1, hb]
  refine wpIn_rangeFunc (F := Fence.wide) fun fn hfn => ?_
  let rec' : LoopState → Option Code → Loop := fun s pe => { state := s, pending := pe, fn, tmps := a.tmps, params := ps.toArray, assign, body, defers := w.heap.size }
  have st1 : St w0 R (Hs 0 ++ [HP.lp (w.heap.size + 1) (w.heap.size :: L) (rec' .ready none)]) ((w.alloc (.deferred (some []))).alloc (.loop (rec' .ready none))) := st.loopNew
  obtain ⟨W1, hW1⟩ : ∃ W1, (w.alloc (.deferred (some []))).alloc (.loop (rec' .ready none)) = W1 := ⟨_, rfl⟩
  rw [hW1] at st1
  obtain ⟨F, hsat, hlt, hbase⟩ := st1.join
  refine ⟨w.heap.size + 1, [markD w.heap.size], W1, { target := .fn (.func gf) lb.toArray, args := #[.func (.yield (w.heap.size + 1)) #[] #[]] }, W1, gf, #[.func (.yield (w.heap.size + 1)) #[] #[]] ++ lb.toArray, W1,
    by rw [← hW1]; exact run_enterLoop_outer _ _ _ _ _, ?_, fun _ _ => trivial, by simp [invoke, go_sem, eg], fun h => by simp [Fence.wide] at h, ?_⟩
  · have := hr.ev hg
    rw [mk_eval]
    simp only [resolve, this]
    simp [go_sem]
  refine callsIn_wide.2 ?_
  have hcall := hit (w.heap.size + 1) (fun k => HP.many (Hs k ++ [HP.lp (w.heap.size + 1) (w.heap.size :: L) (rec' .ready none)])) (fun k => HP.many (Hx k ++ [HP.lp (w.heap.size + 1) (w.heap.size :: L) (rec' .done (some .ret))])) W1 F
    (fun b hb => ⟨(hbase.ro p hp b hb).1, (hbase.ro p hp b hb).2.2⟩) (fun b hb => (hbase.ro p hp b hb).2.1) hsat hlt ?_
  · rw [show (#[Value.func (.yield (w.heap.size + 1)) #[] #[]] ++ lb.toArray) = (Value.func (.yield (w.heap.size + 1)) #[] #[] :: lb).toArray by simp]
    refine hcall.mono ?_
    rintro y W2 ⟨⟨v, rfl⟩, F2, ht, h | ⟨k, hk, h⟩⟩
    · have st2 := St.split hbase ht h
      refine ⟨none, _, run_endLoop st2.loopRec (by simp [rec']), ?_⟩
      have := hdone w.heap.size a _ hr (st2.loopEnd (rc' := { rec' .ready none with state := .exhausted }))
      unfold KQ mk at this
      rw [hr.defers] at this
      unfold mk
      rw [hr.defers]
      exact this
    · have st2 := St.split hbase ht h
      refine ⟨some .ret, _, run_endLoop st2.loopRec (by simp [rec']), ?_⟩
      have := hret w.heap.size k hk a _ hr (st2.loopEnd (rc' := { rec' .done (some .ret) with state := .exhausted }))
      unfold KC mk at this
      rw [hr.defers] at this
      unfold mk
      rw [hr.defers]
      exact this
  · intro k vs W2 F2 hvs hs2 hlt2 ht2
    have st2 := St.split hbase ht2 hs2
    have hl2 := st2.loopRec
    have hvl := hps vs (List.mem_of_getElem? hvs)
    refine ⟨fn, _, assign, body, run_yield hl2 (by simp [rec', hvl]), roundIn_of_wpIn (F := Fence.wide) hfn ?_⟩
    have stR := St.roundStart hbase ht2 hlt2 hs2
    have hsame : Same w0 W2 := hbase.same.trans ht2.same
    have hrep : Rep N (bindE ps vs e) { tmps := (ps.zip vs).foldl (fun t (p, v) => t.setIfInBounds p v) a.tmps, defers := a.defers } := Rep.bind hr hpN
    rw [hr.defers] at hrep
    have h1 := hassign (w.heap.size + 1) k vs W2 (nt W2 F2) _ hvs hsame _ _ hrep stR
    unfold KC at h1
    rw [mk_nil] at h1
    simp only [rec', List.zip_toArray, List.foldl_toArray', List.size_toArray]
    refine wpIn_mono h1 ?_
    rintro x a1 W3 hx
    cases x with
    | normal =>
      obtain ⟨e1, H1, hmid, hr1, st3⟩ := hx
      refine ⟨_, run_beginRound st3.loopRec rfl, ?_⟩
      have st4 := st3.loopPut (rc' := rec' .busy none)
      have h2 := hbody (w.heap.size + 1) k vs W2 (nt W2 F2) _ e1 H1 hvs hsame hmid a1 _ hr1 st4
      unfold KC at h2
      rw [mk_nil] at h2
      refine wpIn_mono h2 ?_
      rintro x a4 W4 (⟨rfl, st5⟩ | ⟨rfl, st5⟩)
      · refine ⟨_, _, run_endRound none st5.loopRec, .inl ⟨rfl, ?_⟩⟩
        obtain ⟨F', h3, _, h4⟩ := St.turnsMany (st5.loopPut (rc' := rec' .ready none)) (by simp : nt W2 F2 ∈ R ++ [nt W2 F2])
        exact ⟨F', h3, h4⟩
      · refine ⟨_, _, run_endRound (some .ret) st5.loopRec, .inr ⟨rfl, ?_⟩⟩
        obtain ⟨F', h3, _, h4⟩ := St.turnsMany (st5.loopPut (rc' := rec' .done (some .ret))) (by simp : nt W2 F2 ∈ R ++ [nt W2 F2])
        exact ⟨F', h3, h4⟩
    | _ => exact hx.elim
/-! the beginning and the end of a function that holds such a loop -/
theorem XC.enter {f : FuncId} {fn : Func} {c : Code} {vs : List Value} {w : World} {Post : Ending → World → Prop} (hf : P.funcs[f]? = some fn) (hb : fn.body = some c) (hN : fn.ntmps = N) (hl : vs.length ≤ N) {R : List Piece} {H : List HP} (st : St w R H w)
    (h : XK N w (KC none [] P c (bodyPostM Fence.wide 9 P fn Post)) (argEnv 0 vs) R (H ++ [HP.marks []])) : Calls P f vs.toArray w Post := by
  refine (callsIn_wide (n := 9)).1 (callsIn_of_wp_marks hf hb trivial ?_ rfl)
  have := h { tmps := vs.toArray ++ Array.replicate (fn.ntmps - vs.toArray.size) undef, defers := [] } w ⟨?_, rfl, fun t v hv => ?_⟩ ?_
  · unfold KC at this
    rw [mk_nil] at this
    exact this
  · simp; omega
  · obtain ⟨_, h2⟩ := argEnv_get vs 0 t v hv
    rw [Nat.sub_zero] at h2
    have hlt : t < vs.length := by
      rcases Nat.lt_or_ge t vs.length with h | h
      · exact h
      · rw [List.getElem?_eq_none h] at h2; cases h2
    rw [Array.getElem?_append_left (by simpa using hlt)]
    simpa using h2
  · obtain ⟨Z, F, hz, hr, hs, hf, hd⟩ := st.ex
    refine ⟨st.os, st.tape, st.output, st.size, Z, fun i b => i < H.length ∧ F i b, hz, hr, fun i p hi => ?_, fun i b h => hf i b h.2, fun i j b hij h k => hd i j b hij h.2 k.2⟩
    rcases Nat.lt_or_ge i H.length with h | h
    · rw [List.getElem?_append_left h] at hi
      have := hs i p hi
      show p.sat (fun b => i < H.length ∧ F i b) w
      rwa [show (fun b => i < H.length ∧ F i b) = F i by funext b; simp [h]]
    · rw [List.getElem?_append_right h] at hi
      have : i - H.length = 0 := by
        rcases Nat.eq_zero_or_pos (i - H.length) with h | h
        · exact h
        · rw [List.getElem?_eq_none (by simp; omega)] at hi; cases hi
      rw [this] at hi
      simp at hi
      subst hi
      exact ⟨List.nodup_nil, fun D hD => by cases hD⟩
theorem leaves_marks {fn : Func} {tmps : Array Value} {Post : Ending → World → Prop} {v : Value} : ∀ (L : List Nat) (Hs : List HP) (w : World), St w0 R (Hs ++ [HP.marks L]) w → (∀ w, St w0 R Hs w → (results fn tmps).run P w = .ok v w ∧ Post (.returned v) w) →
    LeavesInM Fence.wide 9 P fn tmps Post (L.map markD) .returning w
  | [], Hs, w, st, h => ⟨v, h w (st.weak (fun _ hp => hp) id (fun _ _ _ _ h => h) (fun i p hi => by
      have : i < Hs.length := by
        rcases Nat.lt_or_ge i Hs.length with h | h
        · exact h
        · rw [List.getElem?_eq_none h] at hi; cases hi
      show (Hs ++ [HP.marks []])[i]? = some p
      rw [List.getElem?_append_left this]; exact hi))⟩
  | D :: L, Hs, w, st, h => by
    obtain ⟨F, hF⟩ := st.sat (i := Hs.length) last_get
    have hD := (hF.2 D (by simp)).2
    refine ⟨by simp, .inl ⟨D, _, rfl, run_takeDeferred hD, leaves_marks L Hs _ ?_ h⟩⟩
    have := st.turn (q := HP.marks L) (w' := w.putObj D (.deferred none)) (i := Hs.length) last_get (by simp) rfl rfl rfl (fun F hF hlt => ⟨F, ⟨(List.nodup_cons.1 hF.1).2, fun D' hD' => ⟨(hF.2 D' (by simp [hD'])).1, (World.putObj_heap_other (fun e : D' = D => (List.nodup_cons.1 hF.1).1 (e ▸ hD'))).trans (hF.2 D' (by simp [hD'])).2⟩⟩, fun b hb => ⟨.inl hb, by simpa using hlt b hb⟩, fun b hb hn => World.putObj_heap_other (fun e => hn (e ▸ (hF.2 D (by simp)).1))⟩)
    rwa [last_set] at this
theorem XC.ret0 {fn : Func} {Post : Ending → World → Prop} {x : Exit} {Hs : List HP} (hx : x = .ret ∨ x = .normal) (hr : fn.results = #[]) (h : ∀ w, St w0 R Hs w → Post (.returned (.tuple #[])) w) : XK N w0 (KQ L (bodyPostM Fence.wide 9 P fn Post) x) e R (Hs ++ [HP.marks L]) := fun a w hrp st => by
  have := leaves_marks (P := P) (fn := fn) (tmps := a.tmps) (v := .tuple #[]) L Hs w st (fun w st => ⟨results_none hr _ _ _, h w st⟩)
  rcases hx with rfl | rfl
  · unfold KQ mk; rw [hrp.defers]; exact this
  · unfold KQ mk; rw [hrp.defers]; exact this
theorem XC.ret1 {fn : Func} {Post : Ending → World → Prop} {Hs : List HP} {t : Nat} {v : Value} (hr : fn.results = #[.tmp t]) (ht : e.get t = some v) (h : ∀ w, St w0 R Hs w → Post (.returned v) w) : XK N w0 (KQ L (bodyPostM Fence.wide 9 P fn Post) .ret) e R (Hs ++ [HP.marks L]) := fun a w hrp st => by
  have := leaves_marks (P := P) (fn := fn) (tmps := a.tmps) (v := v) L Hs w st (fun w st => ⟨by rw [results_tmp hr, Array.getD_eq_getD_getElem?, hrp.get t v ht]; rfl, h w st⟩)
  unfold KQ mk; rw [hrp.defers]; exact this
theorem XC.fin {x : Exit} (h : ∀ a w, Rep N e a → St w0 R H w → Q x (mk L a) w) : XK N w0 (KQ L Q x) e R H := h
theorem XC.mid {K : Act → World → Prop} (h : XK N w0 (fun a w => K (mk L a) w) e R H) : XK N w0 (KQ L (Fx K) .normal) e R H := h
theorem XI.start {K : Act → World → Prop} (h : XK N w0 K e R H) : XK N w0 (Fx K .normal) e R H := h
theorem XC.assigned {M : Env → List HP → Prop} {H1 : List HP} {X : HP} (hm : M e H1) : XK N w0 (KQ [] (Fx fun a w => ∃ e1 H1, M e1 H1 ∧ Rep N e1 a ∧ St w0 R (H1 ++ [X]) w) .normal) e R (H1 ++ [X]) := fun a w hr st => ⟨e, H1, hm, by rw [mk_nil]; exact hr, st⟩
theorem XC.bodyN {H2 : List HP} : XK N w0 (KQ L (fun x _ w => (x = .normal ∧ St w0 R H w) ∨ (x = .ret ∧ St w0 R H2 w)) .normal) e R H := fun a w hr st => .inl ⟨rfl, st⟩
theorem XC.bodyR {H2 : List HP} : XK N w0 (KQ L (fun x _ w => (x = .normal ∧ St w0 R H2 w) ∨ (x = .ret ∧ St w0 R H w)) .ret) e R H := fun a w hr st => .inr ⟨rfl, st⟩
/-- an iterator begins -/
theorem St.iter {W : World} {F : Nat → Prop} {p : Piece} {J : HP} (hp : p.Le (all W)) (hd : ∀ b, p.Z b → ¬ F b) (hs : J.sat F W) (hF : ∀ b, F b → b < W.heap.size) : St W [p, nt W F] [J] W := by
  have st := St.startM hs hF
  obtain ⟨Z, G, hz, hr, hs, hf, hd2⟩ := st.ex
  refine ⟨st.os, st.tape, st.output, st.size, Z, G, hz, fun q hq b hb => ?_, hs, hf, hd2⟩
  simp only [List.mem_cons, List.not_mem_nil, or_false] at hq
  rcases hq with rfl | rfl
  · exact ⟨(hr (nt W F) (by simp [nt]) b ⟨(hp b hb).1, hd b hb⟩).1, (hp b hb).2⟩
  · exact hr (nt W F) (by simp [nt]) b hb
end
end Go.Proofs.Ytbgibbbggajgaaa
