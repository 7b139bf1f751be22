/- Iterators: their contract, a call of yield, a range over one. -/
import Derived.KernelRfl
import Derived.Test.YtbgibbbggajgaaaGreatProg
import Derived.Test.YtbgibbbggajgaaaGreatAuditTellsK1
namespace Go.Proofs.YtbgibbbggajgaaaGreat
set_option linter.all false
open Go.RowKit

/-- all but what F has -/
def nt (W : World) (F : Nat → Prop) : Piece := ⟨W, fun b => b < W.heap.size ∧ ¬ F b⟩
structure Same (w w' : World) : Prop where
  os : w'.os = w.os
  tape : w'.tape = w.tape
  output : w'.output = w.output
  size : w.heap.size ≤ w'.heap.size
theorem Same.refl (w : World) : Same w w := ⟨rfl, rfl, rfl, Nat.le_refl _⟩
theorem Same.trans {a b c : World} (h : Same a b) (k : Same b c) : Same a c := ⟨k.os.trans h.os, k.tape.trans h.tape, k.output.trans h.output, Nat.le_trans h.size k.size⟩
theorem Turns.same {w w' : World} {F F' : Nat → Prop} (h : Turns w w' F F') : Same w w' := ⟨h.os, h.tape, h.output, h.size⟩
theorem Turns.refl {w : World} {F : Nat → Prop} (h : ∀ b, F b → b < w.heap.size) : Turns w w F F := ⟨rfl, rfl, rfl, Nat.le_refl _, fun b hb => ⟨.inl hb, h b hb⟩, fun _ _ _ => rfl⟩
theorem Turns.trans {a b c : World} {F G K : Nat → Prop} (h : Turns a b F G) (k : Turns b c G K) : Turns a c F K := by
  refine ⟨k.os.trans h.os, k.tape.trans h.tape, k.output.trans h.output, Nat.le_trans h.size k.size, fun x hx => ⟨?_, (k.new x hx).2⟩, fun x hx hn => ?_⟩
  · rcases (k.new x hx).1 with h1 | h1
    · exact (h.new x h1).1
    · exact .inr (Nat.le_trans h.size h1)
  · refine (k.old x (Nat.lt_of_lt_of_le hx h.size) (fun hg => ?_)).trans (h.old x hx hn)
    rcases (h.new x hg).1 with h1 | h1
    · exact hn h1
    · omega
/-- what stands while own blocks are lent -/
structure Base (w0 W : World) (R : List Piece) (F : Nat → Prop) : Prop where
  same : Same w0 W
  ro : ∀ p ∈ R, ∀ b, p.Z b → b < W.heap.size ∧ ¬ F b ∧ W.heap[b]? = p.w.heap[b]?
section
variable {w0 w W W1 : World} {R : List Piece} {H : List HP} {F F1 : Nat → Prop}
theorem St.join (st : St w0 R H w) : ∃ F, (HP.many H).sat F w ∧ (∀ b, F b → b < w.heap.size) ∧ Base w0 w R F := by
  obtain ⟨Z, F, hz, hr, hs, hf, hd⟩ := st.ex
  refine ⟨fun b => ∃ i, F i b, ⟨F, hs, fun i b h => ⟨i, h⟩, fun i j b hij h => hd i j b hij h⟩, fun b ⟨i, h⟩ => (hf i b h).2, ⟨⟨st.os, st.tape, st.output, st.size⟩, fun p hp b hb => ⟨hz b (hr p hp b hb).1, fun ⟨i, h⟩ => (hf i b h).1 (hr p hp b hb).1, (hr p hp b hb).2⟩⟩⟩
theorem St.split (hb : Base w0 W R F) (ht : Turns W W1 F F1) (hs : (HP.many H).sat F1 W1) : St w0 R H W1 := by
  obtain ⟨G, h1, h2, h3⟩ := hs
  have h := hb.same.trans ht.same
  refine ⟨h.os, h.tape, h.output, h.size, fun b => ∃ p ∈ R, p.Z b, G, fun b ⟨p, hp, hz⟩ => Nat.lt_of_lt_of_le (hb.ro p hp b hz).1 ht.size, fun p hp b hz => ⟨⟨p, hp, hz⟩, ?_⟩, h1, fun i b hg => ⟨?_, (ht.new b (h2 i b hg)).2⟩, fun i j b hij hg => h3 i j b hij hg⟩
  · obtain ⟨h4, h5, h6⟩ := hb.ro p hp b hz
    exact (ht.old b h4 h5).trans h6
  · rintro ⟨p, hp, hz⟩
    obtain ⟨h4, h5, _⟩ := hb.ro p hp b hz
    rcases (ht.new b (h2 i b hg)).1 with h | h
    · exact h5 h
    · omega
/-- the beginning of a round -/
theorem St.roundStart (hb : Base w0 W R F) (ht : Turns W W1 F F1) (hlt : ∀ b, F1 b → b < W1.heap.size) (hs : (HP.many H).sat F1 W1) : St W1 (R ++ [nt W1 F1]) H W1 := by
  obtain ⟨G, h1, h2, h3⟩ := hs
  refine ⟨rfl, rfl, rfl, Nat.le_refl _, fun b => b < W1.heap.size ∧ ¬ F1 b, G, fun b h => h.1, fun p hp b hz => ?_, h1, fun i b hg => ⟨fun h => h.2 (h2 i b hg), hlt b (h2 i b hg)⟩, fun i j b hij hg => h3 i j b hij hg⟩
  simp only [List.mem_append, List.mem_singleton] at hp
  rcases hp with hp | rfl
  · obtain ⟨h4, h5, h6⟩ := hb.ro p hp b hz
    refine ⟨⟨Nat.lt_of_lt_of_le h4 ht.size, fun h => ?_⟩, (ht.old b h4 h5).trans h6⟩
    rcases (ht.new b h).1 with h | h
    · exact h5 h
    · omega
  · exact ⟨hz, rfl⟩
/-- .. and its end -/
theorem St.turnsMany (st : St w0 R H w) (hR : nt w0 F ∈ R) : ∃ F', (HP.many H).sat F' w ∧ (∀ b, F' b → b < w.heap.size) ∧ Turns w0 w F F' := by
  obtain ⟨F', h1, h2, hb⟩ := st.join
  refine ⟨F', h1, h2, st.os, st.tape, st.output, st.size, fun b h => ⟨?_, h2 b h⟩, fun b h hn => (hb.ro _ hR b ⟨h, hn⟩).2.2⟩
  rcases Nat.lt_or_ge b w0.heap.size with h3 | h3
  · exact .inl (Classical.byContradiction fun hn => (hb.ro _ hR b ⟨h3, hn⟩).2.1 h)
  · exact .inr h3
end
/-! the chunks of a loop -/
def HP.marks (L : List Nat) : HP := ⟨fun F w => L.Nodup ∧ ∀ D ∈ L, F D ∧ w.heap[D]? = some (.deferred (some [])), fun _ _ _ h hk => ⟨h.1, fun D hD => ⟨(h.2 D hD).1, (hk D (h.2 D hD).1).trans (h.2 D hD).2⟩⟩⟩
def HP.lp (l : Nat) (L : List Nat) (rc : Loop) : HP := ⟨fun F w => (F l ∧ w.heap[l]? = some (.loop rc)) ∧ (HP.marks L).sat F w, fun F w w' h hk => ⟨⟨h.1.1, (hk l h.1.1).trans h.1.2⟩, (HP.marks L).loc F w w' h.2 hk⟩⟩
theorem HP.lp_put {l : Nat} {L : List Nat} {rc rc' : Loop} {F : Nat → Prop} {w : World} (h : (HP.lp l L rc).sat F w) : (HP.lp l L rc').sat F (w.putObj l (.loop rc')) := by
  obtain ⟨⟨h1, h2⟩, h3, h4⟩ := h
  refine ⟨⟨h1, World.putObj_heap_same (Array.getElem?_eq_some_iff.1 h2).1⟩, h3, fun D hD => ⟨(h4 D hD).1, ?_⟩⟩
  refine (World.putObj_heap_other (fun e => ?_)).trans (h4 D hD).2
  subst e
  have := (h4 D hD).2
  rw [h2] at this
  cases this
section
variable {P : Program} {N : Nat} {w0 w : World} {e : Env} {R : List Piece} {H : List HP} {Q : Exit → Act → World → Prop} {ops : Array Oper} {rest : List Oper} {r : Option Nat} {L : List Nat}
theorem last_get {Hs : List HP} {p : HP} : (Hs ++ [p])[Hs.length]? = some p := by simp
theorem last_set {Hs : List HP} {p q : HP} : (Hs ++ [p]).set Hs.length q = Hs ++ [q] := by simp
/-- the loop's record turns -/
theorem St.loopPut {Hs : List HP} {l : Nat} {rc rc' : Loop} (st : St w0 R (Hs ++ [HP.lp l L rc]) w) : St w0 R (Hs ++ [HP.lp l L rc']) (w.putObj l (.loop rc')) := by
  have := st.turn (q := HP.lp l L rc') (w' := w.putObj l (.loop rc')) (i := Hs.length) last_get (by simp) rfl rfl rfl (fun F hF hlt => ⟨F, HP.lp_put hF, fun b hb => ⟨.inl hb, by simpa using hlt b hb⟩, fun b hb hn => World.putObj_heap_other (fun e => hn (e ▸ hF.1.1))⟩)
  rwa [last_set] at this
theorem St.loopRec {Hs : List HP} {l : Nat} {rc : Loop} (st : St w0 R (Hs ++ [HP.lp l L rc]) w) : w.heap[l]? = some (.loop rc) := (st.sat (i := Hs.length) last_get).choose_spec.1.2
/-- the loop is over -/
theorem St.loopEnd {Hs : List HP} {l : Nat} {rc rc' : Loop} (st : St w0 R (Hs ++ [HP.lp l L rc]) w) : St w0 R (Hs ++ [HP.marks L]) (w.putObj l (.loop rc')) := by
  have := st.turn (q := HP.marks L) (w' := w.putObj l (.loop rc')) (i := Hs.length) last_get (by simp) rfl rfl rfl (fun F hF hlt => ⟨F, (HP.lp_put (rc' := rc') hF).2, fun b hb => ⟨.inl hb, by simpa using hlt b hb⟩, fun b hb hn => World.putObj_heap_other (fun e => hn (e ▸ hF.1.1))⟩)
  rwa [last_set] at this
/-- the loop begins -/
theorem St.loopNew {Hs : List HP} {rc : Loop} (st : St w0 R (Hs ++ [HP.marks L]) w) : St w0 R (Hs ++ [HP.lp (w.heap.size + 1) (w.heap.size :: L) rc]) ((w.alloc (.deferred (some []))).alloc (.loop rc)) := by
  have hb : Below w.heap.size w ((w.alloc (.deferred (some []))).alloc (.loop rc)) := ((Below.refl _ w).alloc (Nat.le_refl _) _).alloc (by simp) _
  have hL1 : ((w.alloc (.deferred (some []))).alloc (.loop rc)).heap[w.heap.size + 1]? = some (.loop rc) := by
    have := World.alloc_heap_new (w.alloc (.deferred (some []))) (.loop rc)
    rwa [World.size_alloc] at this
  have hK1 : ((w.alloc (.deferred (some []))).alloc (.loop rc)).heap[w.heap.size]? = some (.deferred (some [])) :=
    (Below.heap_alloc _ _ _ (by simp)).trans (World.alloc_heap_new w _)
  have hsz : ((w.alloc (.deferred (some []))).alloc (.loop rc)).heap.size = w.heap.size + 1 + 1 := by simp
  have := st.turn (q := HP.lp (w.heap.size + 1) (w.heap.size :: L) rc) (i := Hs.length) last_get hb.size hb.os hb.tape hb.output (fun F hF hlt => by
    refine ⟨fun b => F b ∨ (w.heap.size ≤ b ∧ b < w.heap.size + 1 + 1), ⟨⟨.inr ⟨by omega, by omega⟩, hL1⟩, ?_, ?_⟩, fun b hb' => ?_, fun b hb' _ => hb.block b hb'⟩
    · rw [List.nodup_cons]
      refine ⟨fun hm => ?_, hF.1⟩
      have := hlt _ (hF.2 _ hm).1
      omega
    · intro D hD
      rcases List.mem_cons.1 hD with rfl | hD
      · exact ⟨.inr ⟨by omega, by omega⟩, hK1⟩
      · obtain ⟨h1, h2⟩ := hF.2 D hD
        exact ⟨.inl h1, (hb.block D (hlt D h1)).trans h2⟩
    · rcases hb' with h | h
      · exact ⟨.inl h, by have := hlt b h; omega⟩
      · exact ⟨.inr h.1, by omega⟩)
  rwa [last_set] at this
/-! yield -/
/-- what a call of yield does: on, or no more -/
def YPost (W1 : World) (F1 : Nat → Prop) (q q' : HP) : Ending → World → Prop := fun y W' => (y = .returned (.bool true) ∧ ∃ F', q.sat F' W' ∧ Turns W1 W' F1 F') ∨ (y = .returned (.bool false) ∧ ∃ F', q'.sat F' W' ∧ Turns W1 W' F1 F')
theorem Turns.st {W' : World} {F' : Nat → Prop} {q : HP} {Z : Nat → Prop} {F : Nat → Nat → Prop} {i : Nat} (hos : w.os = w0.os ∧ w.tape = w0.tape ∧ w.output = w0.output ∧ w0.heap.size ≤ w.heap.size) (hz : ∀ b, Z b → b < w.heap.size)
    (hrr : ∀ p ∈ R, ∀ b, p.Z b → Z b ∧ w.heap[b]? = p.w.heap[b]?) (hs : ∀ (i : Nat) (p : HP), H[i]? = some p → p.sat (F i) w) (hff : ∀ i b, F i b → ¬ Z b ∧ b < w.heap.size) (hdd : ∀ i j b, i ≠ j → F i b → ¬ F j b)
    (hlt : i < H.length) (hq' : q.sat F' W') (ht : Turns w W' (F i) F') : St w0 R (H.set i q) W' := by
  refine ⟨ht.os.trans hos.1, ht.tape.trans hos.2.1, ht.output.trans hos.2.2.1, Nat.le_trans hos.2.2.2 ht.size, Z, fun j => if j = i then F' else F j, fun b h => Nat.lt_of_lt_of_le (hz b h) ht.size, fun p hp b h => ?_, fun j r hj => ?_, fun j b h => ?_, fun j k b hjk h => ?_⟩
  · exact ⟨(hrr p hp b h).1, (ht.old b (hz b (hrr p hp b h).1) (fun hfb => (hff i b hfb).1 (hrr p hp b h).1)).trans (hrr p hp b h).2⟩
  · rw [List.getElem?_set] at hj
    split at hj
    · rename_i e; subst e
      first | (rw [if_pos hlt] at hj; cases hj) | cases hj
      simpa using hq'
    · rename_i e
      simp only [if_neg (Ne.symm e)]
      exact r.loc _ _ _ (hs j r hj) (fun b hb => ht.old b (hff j b hb).2 (hdd j i b (Ne.symm e) hb))
  · dsimp only at h
    split at h
    · refine ⟨fun hzb => ?_, (ht.new b h).2⟩
      rcases (ht.new b h).1 with h | h
      · exact (hff i b h).1 hzb
      · have := hz b hzb; omega
    · exact ⟨(hff j b h).1, Nat.lt_of_lt_of_le (hff j b h).2 ht.size⟩
  · dsimp only at h ⊢
    split at h <;> split
    · rename_i h1 h2; omega
    · rename_i e1 e2
      intro hk
      rcases (ht.new b h).1 with h | h
      · exact hdd i k b (by omega) h hk
      · have := (hff k b hk).2; omega
    · rename_i e1 e2
      intro hk
      rcases (ht.new b hk).1 with hk | hk
      · exact hdd j i b (by omega) h hk
      · have := (hff j b h).2; omega
    · exact hdd j k b hjk h
theorem XI.yield (i : Nat) {W0 : World} {F0 : Nat → Prop} {d l : Nat} {ty : TypeId} {pos : String} {aft : Array Edge} {x : Operand} {args : List Operand} {vs : List Value} {tys : Array TypeId} {p q q' : HP}
    (hx : e.ev x = some (.func (.yield l) #[] #[])) (ha : e.evs args = some vs) (hd : d < N) (hnt : nt W0 F0 ∈ R) (hsm : Same W0 w0) (hi : H[i]? = some p)
    (hy : ∀ W1 F1, p.sat F1 W1 → (∀ b, F1 b → b < W1.heap.size) → Turns W0 W1 F0 F1 → YieldAt Fence.wide 9 P l vs.toArray W1 (YPost W1 F1 q q'))
    (k1 : XK N w0 (KI r L P ops Q rest) ((d, .bool true) :: e) R (H.set i q)) (k2 : XK N w0 (KI r L P ops Q rest) ((d, .bool false) :: e) R (H.set i q')) :
    XK N w0 (KI r L P ops Q (⟨some d, .call { callee := .value x, args := args.toArray, argTypes := tys }, ty, pos, aft, none⟩ :: rest)) e R H := fun a w hr st => by
  obtain ⟨Z, F, hz, hrr, hs, hff, hdd⟩ := st.ex
  have hlt : i < H.length := by
    rcases Nat.lt_or_ge i H.length with h | h
    · exact h
    · rw [List.getElem?_eq_none h] at hi; cases hi
  have hsw : Same W0 w := hsm.trans ⟨st.os, st.tape, st.output, st.size⟩
  obtain ⟨fn, tmps, assign, body, hrun, hround⟩ := hy w (F i) (hs i p hi) (fun b hb => (hff i b hb).2) ⟨hsw.os, hsw.tape, hsw.output, hsw.size, fun b hb => ⟨by
    rcases Nat.lt_or_ge b W0.heap.size with h | h
    · exact .inl (Classical.byContradiction fun hn => (hff i b hb).1 (hrr _ hnt b ⟨h, hn⟩).1)
    · exact .inr h, (hff i b hb).2⟩, fun b hb hn => (hrr _ hnt b ⟨hb, hn⟩).2⟩
  refine wpListIn_plain rfl fun K hK => ?_
  refine ⟨fun _ _ => trivial, ?_⟩
  rw [semAt_r r _ rfl, mk_eval]
  have hex : (execOp a.eval (⟨some d, .call { callee := .value x, args := args.toArray, argTypes := tys }, ty, pos, aft, none⟩ : Oper)).run P w = .ok (.round l fn tmps assign body) w := by
    simp [execOp, resolve, hr.ev hx, Deferred.ofValue, invoke, hr.evs ha, hrun]
  rw [hex]
  refine ⟨fun _ => by omega, ?_⟩
  have hround2 : RoundIn (Fr r) 8 P l fn tmps assign body w (YPost w (F i) q q') := ⟨hround.1, fun c cs _ => hround.2 c cs (room_wide _)⟩
  refine hround2.mono ?_
  rintro y W' (⟨rfl, F', hq, ht⟩ | ⟨rfl, F', hq, ht⟩)
  · refine hK _ _ ?_
    rw [mk_put]
    exact k1 _ _ (hr.put hd _) (Turns.st ⟨st.os, st.tape, st.output, st.size⟩ hz hrr hs hff hdd hlt hq ht)
  · refine hK _ _ ?_
    rw [mk_put]
    exact k2 _ _ (hr.put hd _) (Turns.st ⟨st.os, st.tape, st.output, st.size⟩ hz hrr hs hff hdd hlt hq ht)
/-! iterators -/
/-- g, with lb caught, hands over encs, one behind the other, and is content to be told to stop; it looks at p alone -/
def Iter (P : Program) (g : FuncId) (lb : List Value) (encs : List (List Value)) (p : Piece) : Prop :=
  ∀ (l : Nat) (J Jx : Nat → HP) (W : World) (F : Nat → Prop), p.Le (all W) → (∀ b, p.Z b → ¬ F b) → (J 0).sat F W → (∀ b, F b → b < W.heap.size) →
    (∀ (k : Nat) (vs : List Value) (W1 : World) (F1 : Nat → Prop), encs[k]? = some vs → (J k).sat F1 W1 → (∀ b, F1 b → b < W1.heap.size) → Turns W W1 F F1 → YieldAt Fence.wide 9 P l vs.toArray W1 (YPost W1 F1 (J (k + 1)) (Jx (k + 1)))) →
    Calls P g (Value.func (.yield l) #[] #[] :: lb).toArray W fun y W' => (∃ v, y = .returned v) ∧ ∃ F', Turns W W' F F' ∧ ((J encs.length).sat F' W' ∨ ∃ k, k < encs.length ∧ (Jx (k + 1)).sat F' W')
def bindE : List Nat → List Value → Env → Env
  | p :: ps, v :: vs, e => bindE ps vs ((p, v) :: e)
  | _, _, e => e
theorem Rep.bind : ∀ {ps : List Nat} {vs : List Value} {e : Env} {a : Act}, Rep N e a → (∀ p ∈ ps, p < N) → Rep N (bindE ps vs e) { tmps := (ps.zip vs).foldl (fun t (p, v) => t.setIfInBounds p v) a.tmps, defers := a.defers }
  | [], vs, e, a, h, _ => h
  | p :: ps, [], e, a, h, _ => h
  | p :: ps, v :: vs, e, a, h, hp => Rep.bind (a := a.put (some p) v) (h.put (hp p (by simp)) v) (fun q hq => hp q (by simp [hq]))
/-- a range over an iterator -/
theorem XC.range {gf : FuncId} {lb : List Value} {encs : List (List Value)} {p : Piece} {g : Operand} {ps : List Nat} {assign body : Code} (hg : e.ev g = some (.func (.func gf) #[] lb.toArray)) (hf : callB P gf = true) (hit : Iter P gf lb encs p) (hp : p ∈ R)
    (hps : ∀ vs ∈ encs, vs.length = ps.length) (hpN : ∀ q ∈ ps, q < N) (Hs Hx : Nat → List HP) (Mid : Nat → List Value → Env → List HP → Prop) (h0 : H = Hs 0 ++ [HP.marks L])
    (hassign : ∀ (l k : Nat) (vs : List Value) (W1 : World) (q : Piece) (X : HP), encs[k]? = some vs → Same w0 W1 → XK N W1 (KC (some l) [] P assign (Fx fun a w => ∃ e1 H1, Mid k vs e1 H1 ∧ Rep N e1 a ∧ St W1 (R ++ [q]) (H1 ++ [X]) w)) (bindE ps vs e) (R ++ [q]) (Hs k ++ [X]))
    (hbody : ∀ (l k : Nat) (vs : List Value) (W1 : World) (q : Piece) (X : HP) (e1 : Env) (H1 : List HP), encs[k]? = some vs → Same w0 W1 → Mid k vs e1 H1 →
      XK N W1 (KC (some l) [] P body (fun x _ w => (x = .normal ∧ St W1 (R ++ [q]) (Hs (k + 1) ++ [X]) w) ∨ (x = .ret ∧ St W1 (R ++ [q]) (Hx (k + 1) ++ [X]) w))) e1 (R ++ [q]) (H1 ++ [X]))
    (hdone : ∀ D, XK N w0 (KQ (D :: L) Q .normal) e R (Hs encs.length ++ [HP.marks (D :: L)])) (hret : ∀ D k, k < encs.length → XK N w0 (KC none (D :: L) P .ret Q) e R (Hx (k + 1) ++ [HP.marks (D :: L)])) :
    XK N w0 (KC none L P (Code.rangeFunc g ps.toArray assign body) Q) e R H := fun a w hr st => by
  subst h0
  unfold callB at hf
  cases hq : P.funcs[gf]? with
  | none => simp [hq] at hf
  | some fnn =>
  simp [hq] at hf
  obtain ⟨hf1, hf2⟩ := hf
  have eg : ∀ args w, (callFunc gf args).run P w = .ok (.enter gf args) w := fun args w => by
    cases hb : fnn.body with
    | none => simp [hb] at hf2
    | some c => simp [callFunc, hq, hf1, hb]
  refine wpIn_rangeFunc (F := Fence.wide) fun fn hfn => ?_
  let rec' : LoopState → Option Code → Loop := fun s pe => { state := s, pending := pe, fn, tmps := a.tmps, params := ps.toArray, assign, body, defers := w.heap.size }
  have st1 : St w0 R (Hs 0 ++ [HP.lp (w.heap.size + 1) (w.heap.size :: L) (rec' .ready none)]) ((w.alloc (.deferred (some []))).alloc (.loop (rec' .ready none))) := st.loopNew
  obtain ⟨W1, hW1⟩ : ∃ W1, (w.alloc (.deferred (some []))).alloc (.loop (rec' .ready none)) = W1 := ⟨_, rfl⟩
  rw [hW1] at st1
  obtain ⟨F, hsat, hlt, hbase⟩ := st1.join
  refine ⟨w.heap.size + 1, [markD w.heap.size], W1, { target := .fn (.func gf) lb.toArray, args := #[.func (.yield (w.heap.size + 1)) #[] #[]] }, W1, gf, #[.func (.yield (w.heap.size + 1)) #[] #[]] ++ lb.toArray, W1,
    by rw [← hW1]; exact run_enterLoop_outer _ _ _ _ _, ?_, fun _ _ => trivial, by simp [invoke, go_sem, eg], fun h => by simp [Fence.wide] at h, ?_⟩
  · have := hr.ev hg
    rw [mk_eval]
    simp only [resolve, this]
    simp [go_sem]
  refine callsIn_wide.2 ?_
  have hcall := hit (w.heap.size + 1) (fun k => HP.many (Hs k ++ [HP.lp (w.heap.size + 1) (w.heap.size :: L) (rec' .ready none)])) (fun k => HP.many (Hx k ++ [HP.lp (w.heap.size + 1) (w.heap.size :: L) (rec' .done (some .ret))])) W1 F
    (fun b hb => ⟨(hbase.ro p hp b hb).1, (hbase.ro p hp b hb).2.2⟩) (fun b hb => (hbase.ro p hp b hb).2.1) hsat hlt ?_
  · rw [show (#[Value.func (.yield (w.heap.size + 1)) #[] #[]] ++ lb.toArray) = (Value.func (.yield (w.heap.size + 1)) #[] #[] :: lb).toArray by simp]
    refine hcall.mono ?_
    rintro y W2 ⟨⟨v, rfl⟩, F2, ht, h | ⟨k, hk, h⟩⟩
    · have st2 := St.split hbase ht h
      refine ⟨none, _, run_endLoop st2.loopRec (by simp [rec']), ?_⟩
      have := hdone w.heap.size a _ hr (st2.loopEnd (rc' := { rec' .ready none with state := .exhausted }))
      unfold KQ mk at this
      rw [hr.defers] at this
      unfold mk
      rw [hr.defers]
      exact this
    · have st2 := St.split hbase ht h
      refine ⟨some .ret, _, run_endLoop st2.loopRec (by simp [rec']), ?_⟩
      have := hret w.heap.size k hk a _ hr (st2.loopEnd (rc' := { rec' .done (some .ret) with state := .exhausted }))
      unfold KC mk at this
      rw [hr.defers] at this
      unfold mk
      rw [hr.defers]
      exact this
  · intro k vs W2 F2 hvs hs2 hlt2 ht2
    have st2 := St.split hbase ht2 hs2
    have hl2 := st2.loopRec
    have hvl := hps vs (List.mem_of_getElem? hvs)
    refine ⟨fn, _, assign, body, run_yield hl2 (by simp [rec', hvl]), roundIn_of_wpIn (F := Fence.wide) hfn ?_⟩
    have stR := St.roundStart hbase ht2 hlt2 hs2
    have hsame : Same w0 W2 := hbase.same.trans ht2.same
    have hrep : Rep N (bindE ps vs e) { tmps := (ps.zip vs).foldl (fun t (p, v) => t.setIfInBounds p v) a.tmps, defers := a.defers } := Rep.bind hr hpN
    rw [hr.defers] at hrep
    have h1 := hassign (w.heap.size + 1) k vs W2 (nt W2 F2) _ hvs hsame _ _ hrep stR
    unfold KC at h1
    rw [mk_nil] at h1
    simp only [rec', List.zip_toArray, List.foldl_toArray', List.size_toArray]
    refine wpIn_mono h1 ?_
    rintro x a1 W3 hx
    cases x with
    | normal =>
      obtain ⟨e1, H1, hmid, hr1, st3⟩ := hx
      refine ⟨_, run_beginRound st3.loopRec rfl, ?_⟩
      have st4 := st3.loopPut (rc' := rec' .busy none)
      have h2 := hbody (w.heap.size + 1) k vs W2 (nt W2 F2) _ e1 H1 hvs hsame hmid a1 _ hr1 st4
      unfold KC at h2
      rw [mk_nil] at h2
      refine wpIn_mono h2 ?_
      rintro x a4 W4 (⟨rfl, st5⟩ | ⟨rfl, st5⟩)
      · refine ⟨_, _, run_endRound none st5.loopRec, .inl ⟨rfl, ?_⟩⟩
        obtain ⟨F', h3, _, h4⟩ := St.turnsMany (st5.loopPut (rc' := rec' .ready none)) (by simp : nt W2 F2 ∈ R ++ [nt W2 F2])
        exact ⟨F', h3, h4⟩
      · refine ⟨_, _, run_endRound (some .ret) st5.loopRec, .inr ⟨rfl, ?_⟩⟩
        obtain ⟨F', h3, _, h4⟩ := St.turnsMany (st5.loopPut (rc' := rec' .done (some .ret))) (by simp : nt W2 F2 ∈ R ++ [nt W2 F2])
        exact ⟨F', h3, h4⟩
    | _ => exact hx.elim
/-! the beginning and the end of a function that holds such a loop -/
theorem XC.enter {f : FuncId} {fn : Func} {c : Code} {vs : List Value} {w : World} {Post : Ending → World → Prop} (hf : P.funcs[f]? = some fn) (hb : fn.body = some c) (hN : fn.ntmps = N) (hl : vs.length ≤ N) {R : List Piece} {H : List HP} (st : St w R H w)
    (h : XK N w (KC none [] P c (bodyPostM Fence.wide 9 P fn Post)) (argEnv 0 vs) R (H ++ [HP.marks []])) : Calls P f vs.toArray w Post := by
  refine (callsIn_wide (n := 9)).1 (callsIn_of_wp_marks hf hb trivial ?_ rfl)
  have := h { tmps := vs.toArray ++ Array.replicate (fn.ntmps - vs.toArray.size) undef, defers := [] } w ⟨?_, rfl, fun t v hv => ?_⟩ ?_
  · unfold KC at this
    rw [mk_nil] at this
    exact this
  · simp; omega
  · obtain ⟨_, h2⟩ := argEnv_get vs 0 t v hv
    rw [Nat.sub_zero] at h2
    have hlt : t < vs.length := by
      rcases Nat.lt_or_ge t vs.length with h | h
      · exact h
      · rw [List.getElem?_eq_none h] at h2; cases h2
    rw [Array.getElem?_append_left (by simpa using hlt)]
    simpa using h2
  · obtain ⟨Z, F, hz, hr, hs, hf, hd⟩ := st.ex
    refine ⟨st.os, st.tape, st.output, st.size, Z, fun i b => i < H.length ∧ F i b, hz, hr, fun i p hi => ?_, fun i b h => hf i b h.2, fun i j b hij h k => hd i j b hij h.2 k.2⟩
    rcases Nat.lt_or_ge i H.length with h | h
    · rw [List.getElem?_append_left h] at hi
      have := hs i p hi
      show p.sat (fun b => i < H.length ∧ F i b) w
      rwa [show (fun b => i < H.length ∧ F i b) = F i by funext b; simp [h]]
    · rw [List.getElem?_append_right h] at hi
      have : i - H.length = 0 := by
        rcases Nat.eq_zero_or_pos (i - H.length) with h | h
        · exact h
        · rw [List.getElem?_eq_none (by simp; omega)] at hi; cases hi
      rw [this] at hi
      simp at hi
      subst hi
      exact ⟨List.nodup_nil, fun D hD => by cases hD⟩
theorem leaves_marks {fn : Func} {tmps : Array Value} {Post : Ending → World → Prop} {v : Value} : ∀ (L : List Nat) (Hs : List HP) (w : World), St w0 R (Hs ++ [HP.marks L]) w → (∀ w, St w0 R Hs w → (results fn tmps).run P w = .ok v w ∧ Post (.returned v) w) →
    LeavesInM Fence.wide 9 P fn tmps Post (L.map markD) .returning w
  | [], Hs, w, st, h => ⟨v, h w (st.weak (fun _ hp => hp) id (fun _ _ _ _ h => h) (fun i p hi => by
      have : i < Hs.length := by
        rcases Nat.lt_or_ge i Hs.length with h | h
        · exact h
        · rw [List.getElem?_eq_none h] at hi; cases hi
      show (Hs ++ [HP.marks []])[i]? = some p
      rw [List.getElem?_append_left this]; exact hi))⟩
  | D :: L, Hs, w, st, h => by
    obtain ⟨F, hF⟩ := st.sat (i := Hs.length) last_get
    have hD := (hF.2 D (by simp)).2
    refine ⟨by simp, .inl ⟨D, _, rfl, run_takeDeferred hD, leaves_marks L Hs _ ?_ h⟩⟩
    have := st.turn (q := HP.marks L) (w' := w.putObj D (.deferred none)) (i := Hs.length) last_get (by simp) rfl rfl rfl (fun F hF hlt => ⟨F, ⟨(List.nodup_cons.1 hF.1).2, fun D' hD' => ⟨(hF.2 D' (by simp [hD'])).1, (World.putObj_heap_other (fun e : D' = D => (List.nodup_cons.1 hF.1).1 (e ▸ hD'))).trans (hF.2 D' (by simp [hD'])).2⟩⟩, fun b hb => ⟨.inl hb, by simpa using hlt b hb⟩, fun b hb hn => World.putObj_heap_other (fun e => hn (e ▸ (hF.2 D (by simp)).1))⟩)
    rwa [last_set] at this
theorem XC.ret0 {fn : Func} {Post : Ending → World → Prop} {x : Exit} {Hs : List HP} (hx : x = .ret ∨ x = .normal) (hr : fn.results = #[]) (h : ∀ w, St w0 R Hs w → Post (.returned (.tuple #[])) w) : XK N w0 (KQ L (bodyPostM Fence.wide 9 P fn Post) x) e R (Hs ++ [HP.marks L]) := fun a w hrp st => by
  have := leaves_marks (P := P) (fn := fn) (tmps := a.tmps) (v := .tuple #[]) L Hs w st (fun w st => ⟨results_none hr _ _ _, h w st⟩)
  rcases hx with rfl | rfl
  · unfold KQ mk; rw [hrp.defers]; exact this
  · unfold KQ mk; rw [hrp.defers]; exact this
theorem XC.ret1 {fn : Func} {Post : Ending → World → Prop} {Hs : List HP} {t : Nat} {v : Value} (hr : fn.results = #[.tmp t]) (ht : e.get t = some v) (h : ∀ w, St w0 R Hs w → Post (.returned v) w) : XK N w0 (KQ L (bodyPostM Fence.wide 9 P fn Post) .ret) e R (Hs ++ [HP.marks L]) := fun a w hrp st => by
  have := leaves_marks (P := P) (fn := fn) (tmps := a.tmps) (v := v) L Hs w st (fun w st => ⟨by rw [results_tmp hr, Array.getD_eq_getD_getElem?, hrp.get t v ht]; rfl, h w st⟩)
  unfold KQ mk; rw [hrp.defers]; exact this
theorem XC.fin {x : Exit} (h : ∀ a w, Rep N e a → St w0 R H w → Q x (mk L a) w) : XK N w0 (KQ L Q x) e R H := h
theorem XI.start {K : Act → World → Prop} (h : XK N w0 K e R H) : XK N w0 (Fx K .normal) e R H := h
theorem XC.assigned {M : Env → List HP → Prop} {H1 : List HP} {X : HP} (hm : M e H1) : XK N w0 (KQ [] (Fx fun a w => ∃ e1 H1, M e1 H1 ∧ Rep N e1 a ∧ St w0 R (H1 ++ [X]) w) .normal) e R (H1 ++ [X]) := fun a w hr st => ⟨e, H1, hm, by rw [mk_nil]; exact hr, st⟩
theorem XC.bodyN {H2 : List HP} : XK N w0 (KQ L (fun x _ w => (x = .normal ∧ St w0 R H w) ∨ (x = .ret ∧ St w0 R H2 w)) .normal) e R H := fun a w hr st => .inl ⟨rfl, st⟩
theorem XC.bodyR {H2 : List HP} : XK N w0 (KQ L (fun x _ w => (x = .normal ∧ St w0 R H2 w) ∨ (x = .ret ∧ St w0 R H w)) .ret) e R H := fun a w hr st => .inr ⟨rfl, st⟩
/-- an iterator begins -/
theorem St.iter {W : World} {F : Nat → Prop} {p : Piece} {J : HP} (hp : p.Le (all W)) (hd : ∀ b, p.Z b → ¬ F b) (hs : J.sat F W) (hF : ∀ b, F b → b < W.heap.size) : St W [p, nt W F] [J] W := by
  have st := St.startM hs hF
  obtain ⟨Z, G, hz, hr, hs, hf, hd2⟩ := st.ex
  refine ⟨st.os, st.tape, st.output, st.size, Z, G, hz, fun q hq b hb => ?_, hs, hf, hd2⟩
  simp only [List.mem_cons, List.not_mem_nil, or_false] at hq
  rcases hq with rfl | rfl
  · exact ⟨(hr (nt W F) (by simp [nt]) b ⟨(hp b hb).1, hd b hb⟩).1, (hp b hb).2⟩
  · exact hr (nt W F) (by simp [nt]) b hb
end
end Go.Proofs.YtbgibbbggajgaaaGreat
/- Graphs, in plain words: what hangs on what, and in which order it can be had. No program in sight. -/
namespace Go.Proofs.YtbgibbbggajgaaaGreat
set_option linter.all false

/-- does a row name what is no node? -/
def badG (g : List (List Int)) : Bool := g.any fun l => l.any fun u => decide (u < 0) || decide ((g.length : Int) ≤ u)
def numbersG (g : List (List Int)) : Int := if 100 < g.length then 1 else if badG g then 4 else 0
/-- node v hangs on u, once more: how many each waits for, who uses each, what was met -/
def hstep (v : Nat) (s : List Int × List (List Int) × List Int) (u : Int) : List Int × List (List Int) × List Int :=
  if s.2.2.contains u then s else (s.1.set v (s.1[v]?.getD 0 + 1), s.2.1.set u.toNat (s.2.1[u.toNat]?.getD [] ++ [(v : Int)]), s.2.2 ++ [u])
def hrow (v : Nat) (s : List Int × List (List Int)) (l : List Int) : List Int × List (List Int) × List Int := l.foldl (hstep v) (s.1, s.2, [])
def hangTo (g : List (List Int)) : Nat → List Int × List (List Int)
  | 0 => (List.replicate g.length 0, List.replicate g.length [])
  | k + 1 => let r := hrow k (hangTo g k) (g[k]?.getD []); (r.1, r.2.1)
/-- the least node that is not had, and all of whose sources are -/
def nextG (g : List (List Int)) (M : List Nat) : Option Nat := (List.range g.length).find? fun v => !(M.contains v) && (g[v]?.getD []).all fun u => M.contains u.toNat
def orderG (g : List (List Int)) : Nat → List Nat → Option (List Nat)
  | 0, M => some M
  | k + 1, M => match nextG g M with
    | none => none
    | some v => orderG g k (M ++ [v])
/-- each of a row once, as they come -/
def dset (l : List Int) : List Int := l.foldl (fun a u => if a.contains u then a else a ++ [u]) []

theorem badG_of {g : List (List Int)} {k j : Nat} {l : List Int} {u : Int} (hk : g[k]? = some l) (hj : l[j]? = some u) (hu : u < 0 ∨ (g.length : Int) ≤ u) : badG g = true := by
  unfold badG
  simp only [List.any_eq_true, Bool.or_eq_true, decide_eq_true_eq]
  exact ⟨l, List.mem_of_getElem? hk, u, List.mem_of_getElem? hj, hu⟩
theorem badG_no {g : List (List Int)} (h : ∀ (k : Nat) (l : List Int), g[k]? = some l → ∀ (j : Nat) (u : Int), l[j]? = some u → 0 ≤ u ∧ u < g.length) : badG g = false := by
  cases hb : badG g with
  | false => rfl
  | true =>
    unfold badG at hb
    simp only [List.any_eq_true, Bool.or_eq_true, decide_eq_true_eq] at hb
    obtain ⟨l, hl, u, hu, hbad⟩ := hb
    obtain ⟨k, hk⟩ := List.getElem?_of_mem hl
    obtain ⟨j, hj⟩ := List.getElem?_of_mem hu
    have := h k l hk j u hj
    omega
/-- all numbers are nodes -/
def InG (g : List (List Int)) : Prop := ∀ l ∈ g, ∀ u ∈ l, 0 ≤ u ∧ u < g.length
theorem InG.of {g : List (List Int)} (h : badG g = false) : InG g := by
  intro l hl u hu
  by_cases h0 : u < 0 ∨ (g.length : Int) ≤ u
  · have hb : badG g = true := by
      unfold badG
      simp only [List.any_eq_true, Bool.or_eq_true, decide_eq_true_eq]
      exact ⟨l, hl, u, hu, h0⟩
    rw [h] at hb
    cases hb
  · omega
theorem hstep_len (v : Nat) (s : List Int × List (List Int) × List Int) (u : Int) : (hstep v s u).1.length = s.1.length ∧ (hstep v s u).2.1.length = s.2.1.length := by
  unfold hstep; split <;> simp
theorem hrow_len (v : Nat) : ∀ (l : List Int) (s : List Int × List (List Int) × List Int), (l.foldl (hstep v) s).1.length = s.1.length ∧ (l.foldl (hstep v) s).2.1.length = s.2.1.length
  | [], s => ⟨rfl, rfl⟩
  | u :: l, s => by rw [List.foldl_cons]; have h1 := hrow_len v l (hstep v s u); have h2 := hstep_len v s u; exact ⟨h1.1.trans h2.1, h1.2.trans h2.2⟩
theorem hangTo_len (g : List (List Int)) : ∀ k, (hangTo g k).1.length = g.length ∧ (hangTo g k).2.length = g.length
  | 0 => by simp [hangTo]
  | k + 1 => by
    have h := hangTo_len g k
    have h1 := hrow_len k (g[k]?.getD []) ((hangTo g k).1, (hangTo g k).2, [])
    exact ⟨h1.1.trans h.1, h1.2.trans h.2⟩
/-! what it comes to -/
theorem hstep_met (v : Nat) (s : List Int × List (List Int) × List Int) (u : Int) : (hstep v s u).2.2 = if s.2.2.contains u then s.2.2 else s.2.2 ++ [u] := by unfold hstep; split <;> rfl
theorem hrow_met (v : Nat) : ∀ (l : List Int) (s : List Int × List (List Int) × List Int), (l.foldl (hstep v) s).2.2 = l.foldl (fun a u => if a.contains u then a else a ++ [u]) s.2.2
  | [], s => rfl
  | u :: l, s => by rw [List.foldl_cons, List.foldl_cons, hrow_met v l, hstep_met]
/-- waits: node v's own -/
theorem hrow_own (v : Nat) : ∀ (l : List Int) (s : List Int × List (List Int) × List Int), v < s.1.length → s.1[v]? = some (s.2.2.length : Int) → (l.foldl (hstep v) s).1[v]? = some ((l.foldl (hstep v) s).2.2.length : Int)
  | [], s, _, h => h
  | u :: l, s, hv, h => by
    rw [List.foldl_cons]
    refine hrow_own v l _ (by rw [(hstep_len v s u).1]; exact hv) ?_
    unfold hstep
    split
    · exact h
    · simp only [h, Option.getD_some]
      rw [List.getElem?_set_self hv]
      simp
theorem hrow_other (v : Nat) : ∀ (l : List Int) (s : List Int × List (List Int) × List Int) (x : Nat), x ≠ v → (l.foldl (hstep v) s).1[x]? = s.1[x]?
  | [], s, x, _ => rfl
  | u :: l, s, x, hx => by
    rw [List.foldl_cons, hrow_other v l _ x hx]
    unfold hstep
    split
    · rfl
    · exact List.getElem?_set_ne (Ne.symm hx)
/-- users -/
theorem hrow_users (v : Nat) : ∀ (l : List Int) (s : List Int × List (List Int) × List Int) (x : Nat), (∀ u ∈ l, 0 ≤ u ∧ u < s.2.1.length) → x < s.2.1.length →
    (l.foldl (hstep v) s).2.1[x]? = some (s.2.1[x]?.getD [] ++ if (x : Int) ∈ l ∧ (x : Int) ∉ s.2.2 then [(v : Int)] else [])
  | [], s, x, _, hx => by simp [List.getElem?_eq_getElem hx]
  | u :: l, s, x, hl, hx => by
    have hu := hl u (by simp)
    have hlen := (hstep_len v s u).2
    rw [List.foldl_cons, hrow_users v l (hstep v s u) x (fun y hy => by rw [hlen]; exact hl y (by simp [hy])) (by rw [hlen]; exact hx)]
    unfold hstep
    by_cases hc : s.2.2.contains u = true
    · have hc' : u ∈ s.2.2 := by simpa using hc
      simp only [hc, if_true, List.mem_cons]
      congr 2
      by_cases hxu : (x : Int) = u
      · rw [hxu]; simp [hc']
      · simp [hxu]
    · have hc' : u ∉ s.2.2 := by simpa using hc
      simp only [hc, Bool.false_eq_true, if_false, List.mem_cons, List.mem_append, List.mem_singleton, List.not_mem_nil, or_false]
      by_cases hxu : (x : Int) = u
      · subst hxu
        have e : ((x : Int)).toNat = x := by simp
        rw [e, List.getElem?_set_self hx]
        simp [hc']
      · have hne : u.toNat ≠ x := by omega
        rw [List.getElem?_set_ne hne]
        simp [hxu]
theorem hangTo_spec {g : List (List Int)} (hg : InG g) : ∀ k, k ≤ g.length → (∀ v, v < g.length → (hangTo g k).1[v]? = some (if v < k then ((dset (g[v]?.getD [])).length : Int) else 0)) ∧
    ∀ u, u < g.length → (hangTo g k).2[u]? = some (((List.range k).filter fun v => (g[v]?.getD []).contains (u : Int)).map Int.ofNat)
  | 0, _ => by
    refine ⟨fun v hv => ?_, fun u hu => ?_⟩
    · simp [hangTo, hv]
    · simp [hangTo, hu]
  | k + 1, hk => by
    obtain ⟨h1, h2⟩ := hangTo_spec hg k (by omega)
    have hl := hangTo_len g k
    have hin : ∀ u ∈ g[k]?.getD [], 0 ≤ u ∧ u < (hangTo g k).2.length := fun u hu => by
      rw [hl.2]
      have : g[k]? = some (g[k]'(by omega)) := List.getElem?_eq_getElem _
      rw [this] at hu
      exact hg _ (List.getElem_mem _) u hu
    refine ⟨fun v hv => ?_, fun u hu => ?_⟩
    · show (((g[k]?.getD []).foldl (hstep k) ((hangTo g k).1, (hangTo g k).2, [])).1)[v]? = _
      by_cases hvk : v = k
      · subst hvk
        have := hrow_own v (g[v]?.getD []) ((hangTo g v).1, (hangTo g v).2, []) (by rw [hl.1]; exact hv) (by rw [h1 v hv]; simp)
        rw [this, hrow_met]
        simp [dset]
      · rw [hrow_other k _ _ v hvk, h1 v hv]
        congr 1
        by_cases h : v < k
        · rw [if_pos h, if_pos (by omega)]
        · rw [if_neg h, if_neg (by omega)]
    · show (((g[k]?.getD []).foldl (hstep k) ((hangTo g k).1, (hangTo g k).2, [])).2.1)[u]? = _
      rw [hrow_users k _ _ u hin (by rw [hl.2]; exact hu), h2 u hu, List.range_succ, List.filter_append, List.map_append]
      simp only [Option.getD_some, List.not_mem_nil, not_false_eq_true, and_true]
      congr 2
      by_cases h : (u : Int) ∈ g[k]?.getD []
      · simp [h]
      · simp [h]
theorem hangTo_users_le {g : List (List Int)} (hg : InG g) {k u : Nat} (hk : k ≤ g.length) {l : List Int} (hu : (hangTo g k).2[u]? = some l) : l.length ≤ k := by
  have hlt : u < g.length := by
    rw [← (hangTo_len g k).2]
    rcases Nat.lt_or_ge u (hangTo g k).2.length with h | h
    · exact h
    · rw [List.getElem?_eq_none h] at hu; cases hu
  rw [(hangTo_spec hg k hk).2 u hlt] at hu
  cases hu
  rw [List.length_map]
  have := List.length_filter_le (fun v => (g[v]?.getD []).contains (u : Int)) (List.range k)
  simpa using this
end Go.Proofs.YtbgibbbggajgaaaGreat
/- graph: what is met; whether the numbers are right; what waits for what. -/
namespace Go.Proofs.YtbgibbbggajgaaaGreat
set_option linter.all false
open Go.RowKit

/-- a set, as a map -/
def setL (ks : List Int) : List (Int × Value) := ks.map fun k => (k, .agg #[])
theorem mget_setL : ∀ (ks : List Int) (k : Int), mget (setL ks) k = if ks.contains k then some (.agg #[]) else none
  | [], k => by simp [setL, mget]
  | a :: ks, k => by
    rw [setL, List.map_cons, mget_cons]
    have := mget_setL ks k
    rw [setL] at this
    rw [this]
    by_cases h : a = k
    · subst h; simp
    · simp [h, Ne.symm h]
theorem mset_setL : ∀ (ks : List Int) (k : Int), mset (setL ks) k (.agg #[]) = setL (if ks.contains k then ks else ks ++ [k])
  | [], k => by simp [setL, mset]
  | a :: ks, k => by
    have ih := mset_setL ks k
    rw [setL, List.map_cons, mset]
    rw [setL] at ih
    by_cases h : a = k
    · subst h; simp [setL]
    · rw [if_neg h, ih]
      have hk : ¬ k = a := fun e => h e.symm
      by_cases hc : ks.contains k = true
      · have : (a :: ks).contains k = true := by simp at hc ⊢; exact .inr hc
        rw [if_pos hc, if_pos this]; rfl
      · have hm : k ∉ ks := by simpa using hc
        have : ¬ (a :: ks).contains k = true := by simp [hk, hm]
        rw [if_neg hc, if_neg this]; rfl
theorem all_snoc {p : Nat → Prop} {k : Nat} (h : ∀ i, i < k → p i) (hk : p k) : ∀ i, i < k + 1 → p i := fun i hi => by
  rcases Nat.lt_or_ge i k with h1 | h1
  · exact h i h1
  · have : i = k := by omega
    exact this ▸ hk
theorem setL_bool (ks : List Int) (k : Int) : (mget (setL ks) k).isSome = ks.contains k := by rw [mget_setL]; split <;> simp_all
theorem setL_val (ks : List Int) (k : Int) : (mget (setL ks) k).getD (.agg #[]) = .agg #[] := by rw [mget_setL]; split <;> rfl

theorem marks_has (r : Nat) (v : Int) (ks : List Int) (w : World) (hm : MapI w r (setL ks)) :
    Calls Tryz.prog 102 #[.map (some r), .int .i64 v] w (Rt (.bool (ks.contains v)) w) := by
  refine XK.enter (vs := [.map (some r), .int .i64 v]) Tryz.func102 rfl Tryz.ntmps102 (by simp) ?_
  refine XK.seq ?_

  refine XK.region ?_
  refine xk_assign rfl (by decide) ?_
  refine XK.nilN ?_
  refine XK.seq ?_

  refine XK.region ?_
  refine xk_move rfl (by decide) ?_
  refine xk_move rfl (by decide) ?_
  refine xk_lookup (kt := 3) (et := 192) (kd := .i64) (z := .agg #[]) (l := setL ks) true (by kernel_rfl) (by kernel_rfl) (by kernel_rfl) rfl rfl (fun w1 st => hm.below (st.started (by simp))) (by decide) ?_
  rw [setL_bool, setL_val]
  refine xk_move rfl (by decide) ?_
  refine xk_extract rfl rfl (by decide) ?_
  refine xk_extract rfl rfl (by decide) ?_
  refine xk_alloc (cs := []) (zeroB_of (by kernel_rfl)) (by decide) fun g1 => ?_
  (first | (refine xk_storeN 0 rfl rfl rfl (by kernel_rfl) (by simp [Value.cells, Value.oneCell']) (by simp [Value.cells]) ?_) | (refine xk_storeN 1 rfl rfl rfl (by kernel_rfl) (by simp [Value.cells, Value.oneCell']) (by simp [Value.cells]) ?_) | (refine xk_storeN 2 rfl rfl rfl (by kernel_rfl) (by simp [Value.cells, Value.oneCell']) (by simp [Value.cells]) ?_) | (refine xk_storeN 3 rfl rfl rfl (by kernel_rfl) (by simp [Value.cells, Value.oneCell']) (by simp [Value.cells]) ?_) | (refine xk_storeN 4 rfl rfl rfl (by kernel_rfl) (by simp [Value.cells, Value.oneCell']) (by simp [Value.cells]) ?_) | (refine xk_storeN 5 rfl rfl rfl (by kernel_rfl) (by simp [Value.cells, Value.oneCell']) (by simp [Value.cells]) ?_) | (refine xk_storeN 6 rfl rfl rfl (by kernel_rfl) (by simp [Value.cells, Value.oneCell']) (by simp [Value.cells]) ?_) | (refine xk_storeN 7 rfl rfl rfl (by kernel_rfl) (by simp [Value.cells, Value.oneCell']) (by simp [Value.cells]) ?_) | (refine xk_storeN 8 rfl rfl rfl (by kernel_rfl) (by simp [Value.cells, Value.oneCell']) (by simp [Value.cells]) ?_)); simp only [putN, Value.cells, List.set, List.take, List.drop, List.nil_append, List.append_nil, List.length_cons, List.length_nil, List.cons_append, Nat.reduceAdd]
  refine xk_assign rfl (by decide) ?_
  refine XK.nilN ?_
  refine XK.seq ?_

  refine XK.region ?_
  refine xk_move rfl (by decide) ?_
  refine xk_assign rfl (by decide) ?_
  refine XK.nilN ?_
  refine XK.ret ?_
  refine XK.norm ?_
  exact XK.ret1 rfl rfl fun w1 st => ⟨rfl, st.below (by simp)⟩

theorem marks_add (r : Nat) (v : Int) (ks : List Int) (w : World) (F : Nat → Prop) (hp : (HP.map r (setL ks)).sat F w) (hF : ∀ b, F b → b < w.heap.size) :
    Calls Tryz.prog 103 #[.map (some r), .int .i64 v] w (fun y w' => y = .returned (.tuple #[]) ∧ ∃ F', (HP.map r (setL (if ks.contains v then ks else ks ++ [v]))).sat F' w' ∧ Turns w w' F F') := by
  refine XK.enterM (p := HP.map r (setL ks)) (F := F) (vs := [.map (some r), .int .i64 v]) Tryz.func103 rfl Tryz.ntmps103 (by simp) hp hF ?_

  refine XK.region ?_
  refine xk_move rfl (by decide) ?_
  refine xk_move rfl (by decide) ?_
  refine xk_buildS (zs := []) (L := []) (zeroB_of (by kernel_rfl)) (by kernel_rfl) rfl (by simp [fillL, setN, Value.cells]; rfl) (by decide) ?_
  refine xk_mapUpdate (kt := 3) (et := 192) (kd := .i64) (l := setL ks) 0 (by kernel_rfl) (by kernel_rfl) rfl rfl rfl rfl ?_
  rw [mset_setL]
  refine XK.nilN ?_
  exact XK.ret0 (.inr rfl) rfl fun w1 st => ⟨rfl, st.turns hF (by simp) (i := 0) rfl⟩

theorem numbersG_any (A : Option Addr) (n c : Nat) (g : List (List Int)) (w : World) (hg : GrS (all w) A n g) (hn : n = g.length) (hn2 : (n : Int) ≤ 9223372036854775806) (hlen : ∀ l ∈ g, (l.length : Int) ≤ 9223372036854775806) :
    Calls Tryz.prog 100 #[.slice A n c] w (Rt (.int .i64 (numbersG g)) w) := by
  refine XK.enter (vs := [.slice A n c]) Tryz.func100 rfl Tryz.ntmps100 (by simp) ?_
  refine XK.seq ?_

  refine XK.region ?_
  refine xk_assign rfl (by decide) ?_
  refine XK.nilN ?_
  refine XK.seq ?_
  refine XK.seq ?_

  refine XK.region ?_
  refine xk_move rfl (by decide) ?_
  refine xk_len (el := 22) (by kernel_rfl) rfl (by decide) ?_
  refine xk_gtr rfl rfl (by decide) ?_
  refine XK.nilN ?_
  refine XK.if_ rfl (fun h => ?_) (fun h => ?_)
  ·
    refine XK.seq ?_

    refine XK.region ?_
    refine xk_assign rfl (by decide) ?_
    refine XK.nilN ?_
    refine XK.ret ?_
    refine XK.norm ?_
    exact XK.ret1 rfl rfl fun w1 st => ⟨by simp [numbersG, ← hn]; omega, st.below (by simp)⟩
  ·
    refine XK.skip ?_
    refine XK.norm ?_
    refine XK.seq ?_
    refine XK.seq ?_

    refine XK.region ?_
    refine xk_move rfl (by decide) ?_
    refine xk_len (el := 22) (by kernel_rfl) rfl (by decide) ?_
    refine xk_move rfl (by decide) ?_
    refine XK.nilN ?_
    refine XK.envS [(12, .int .i64 0), (11, .int .i64 n), (10, .slice A n c), (0, .slice A n c)] ?_
    refine XK.block ?_
    refine XK.loop (fun m e R H => ∃ k : Nat, k ≤ n ∧ m = n - k ∧ (∀ (i : Nat), i < k → ∀ l : List Int, g[i]? = some l → ∀ (j : Nat) (u : Int), l[j]? = some u → 0 ≤ u ∧ u < g.length) ∧ e = [(12, .int .i64 k), (11, .int .i64 n), (10, .slice A n c), (0, .slice A n c)] ∧ R = [all w] ∧ H = []) n ⟨0, by omega, rfl, (fun i h => absurd h (by omega)), rfl, rfl, rfl⟩ fun m e R H hI => ?_
    obtain ⟨k, hk, rfl, hin, rfl, rfl, rfl⟩ := hI
    refine XK.seq ?_

    refine XK.region ?_
    refine xk_lss rfl rfl (by decide) ?_
    refine XK.nilN ?_
    refine XK.seq ?_
    refine XK.if_ rfl (fun h => ?_) (fun h => ?_)
    ·
      refine XK.skip ?_
      refine XK.norm ?_
      refine XK.seq ?_
      refine XK.block ?_
      refine XK.seq ?_
      have hkn : k < n := by omega
      obtain ⟨l, hl⟩ : ∃ l, g[k]? = some l := ⟨g[k]'(by omega), List.getElem?_eq_getElem _⟩
      obtain ⟨b, off, B, c2, rfl, c1, hsl⟩ := hg.row hl
      have hll := hlen l (List.mem_of_getElem? hl)

      refine XK.region ?_
      refine xk_at (k) (off + k) (el := 22) (sz := 1) (by kernel_rfl) (by kernel_rfl) rfl rfl (by omega) (by omega) (by omega) (by decide) ?_
      refine xk_ld rfl ?_
      refine xk_assign rfl (by decide) ?_
      refine XK.nilN ?_
      refine XK.seq ?_

      refine XK.region ?_
      refine xk_move rfl (by decide) ?_
      refine xk_len (el := 3) (by kernel_rfl) rfl (by decide) ?_
      refine xk_move rfl (by decide) ?_
      refine XK.nilN ?_
      refine XK.envS [(18, .int .i64 0), (17, .int .i64 l.length), (16, .slice B l.length c2), (12, .int .i64 k), (11, .int .i64 n), (10, .slice (some ⟨b, off, none⟩) n c), (0, .slice (some ⟨b, off, none⟩) n c)] ?_
      refine XK.block ?_
      refine XK.loop (fun m e R H => ∃ j : Nat, j ≤ l.length ∧ m = l.length - j ∧ (∀ (i : Nat), i < j → ∀ u : Int, l[i]? = some u → 0 ≤ u ∧ u < g.length) ∧ e = [(18, .int .i64 j), (17, .int .i64 l.length), (16, .slice B l.length c2), (12, .int .i64 k), (11, .int .i64 n), (10, .slice (some ⟨b, off, none⟩) n c), (0, .slice (some ⟨b, off, none⟩) n c)] ∧ R = [all w] ∧ H = []) l.length ⟨0, by omega, rfl, (fun i h => absurd h (by omega)), rfl, rfl, rfl⟩ fun m e R H hI => ?_
      obtain ⟨j, hj, rfl, hin2, rfl, rfl, rfl⟩ := hI
      refine XK.seq ?_

      refine XK.region ?_
      refine xk_lss rfl rfl (by decide) ?_
      refine XK.nilN ?_
      refine XK.seq ?_
      refine XK.if_ rfl (fun h => ?_) (fun h => ?_)
      ·
        refine XK.skip ?_
        refine XK.norm ?_
        refine XK.seq ?_
        refine XK.block ?_
        refine XK.seq ?_
        have hjl : j < l.length := by omega
        obtain ⟨b2, off2, rfl, hz2, hc2⟩ := hsl.2 (by omega)
        obtain ⟨u, hu⟩ : ∃ u, l[j]? = some u := ⟨l[j]'(by omega), List.getElem?_eq_getElem _⟩
        have c3 : ROc w b2 (off2 + j) (.int .i64 u) := ⟨hz2, hc2 j _ (by simp [intCells, hu])⟩

        refine XK.region ?_
        refine xk_at (j) (off2 + j) (el := 3) (sz := 1) (by kernel_rfl) (by kernel_rfl) rfl rfl (by omega) (by omega) (by omega) (by decide) ?_
        refine xk_ld rfl ?_
        refine xk_assign rfl (by decide) ?_
        refine XK.nilN ?_
        refine XK.seq ?_

        refine XK.region ?_
        refine xk_move rfl (by decide) ?_
        refine xk_lss rfl rfl (by decide) ?_
        refine xk_move rfl (by decide) ?_
        refine xk_split (t := 24) rfl (fun hg => ?_) (fun hg => ?_)
        ·
          refine xk_guardF rfl rfl rfl (by decide) ?_
          refine xk_guardF rfl rfl rfl (by decide) ?_
          refine xk_guardF rfl rfl rfl (by decide) ?_
          refine xk_guardF rfl rfl rfl (by decide) ?_
          (first | refine xk_pickT rfl rfl (by decide) ?_ | refine xk_pickF rfl rfl (by decide) ?_)
          refine XK.nilN ?_
          refine XK.cond rfl (fun _ => ?_) (fun h => by cases h)
          refine XK.seq ?_

          refine XK.region ?_
          refine xk_assign rfl (by decide) ?_
          refine XK.nilN ?_
          refine XK.ret ?_
          refine XK.norm ?_
          exact XK.ret1 rfl rfl fun w1 st => ⟨by rw [show numbersG g = 4 by simp [numbersG, ← hn, badG_of hl hu (by omega)]; omega], st.below (by simp)⟩
        ·
          refine xk_guardT rfl rfl ?_; refine xk_move rfl (by decide) ?_
          refine xk_guardT rfl rfl ?_; refine xk_move rfl (by decide) ?_
          refine xk_guardT rfl rfl ?_; refine xk_len (el := 22) (by kernel_rfl) rfl (by decide) ?_
          refine xk_guardT rfl rfl ?_; refine xk_geq rfl rfl (by decide) ?_
          (first | refine xk_pickT rfl rfl (by decide) ?_ | refine xk_pickF rfl rfl (by decide) ?_)
          refine XK.nilN ?_
          refine XK.if_ rfl (fun h => ?_) (fun h => ?_)
          ·
            refine XK.seq ?_

            refine XK.region ?_
            refine xk_assign rfl (by decide) ?_
            refine XK.nilN ?_
            refine XK.ret ?_
            refine XK.norm ?_
            exact XK.ret1 rfl rfl fun w1 st => ⟨by rw [show numbersG g = 4 by simp [numbersG, ← hn, badG_of hl hu (by omega)]; omega], st.below (by simp)⟩
          ·
            refine XK.skip ?_
            refine XK.norm ?_

            refine XK.region ?_
            refine xk_add rfl rfl (wrap_in (by omega)) (by decide) ?_
            refine xk_move rfl (by decide) ?_
            refine XK.nilN ?_
            exact XK.envS [(18, .int .i64 (j + 1)), (17, .int .i64 l.length), (16, .slice (some ⟨b2, off2, none⟩) l.length c2), (12, .int .i64 k), (11, .int .i64 n), (10, .slice (some ⟨b, off, none⟩) n c), (0, .slice (some ⟨b, off, none⟩) n c)] (XK.round (l.length - (j + 1)) (by omega) ⟨j + 1, by omega, rfl, all_snoc hin2 (fun x hx => by rw [hu] at hx; cases hx; omega), rfl, rfl, rfl⟩)
      ·
        refine XK.exit ?_
        refine XK.norm ?_

        refine XK.region ?_
        refine xk_add rfl rfl (wrap_in (by omega)) (by decide) ?_
        refine xk_move rfl (by decide) ?_
        refine XK.nilN ?_
        exact XK.envS [(12, .int .i64 (k + 1)), (11, .int .i64 n), (10, .slice (some ⟨b, off, none⟩) n c), (0, .slice (some ⟨b, off, none⟩) n c)] (XK.round (n - (k + 1)) (by omega) ⟨k + 1, by omega, rfl, all_snoc hin (fun x hx j u hju => by rw [hl] at hx; cases hx; exact hin2 j (by have := (List.getElem?_eq_some_iff.1 hju).1; omega) u hju), rfl, rfl, rfl⟩)
    ·
      refine XK.exit ?_
      refine XK.norm ?_
      refine XK.seq ?_

      refine XK.region ?_
      refine xk_assign rfl (by decide) ?_
      refine XK.nilN ?_
      refine XK.ret ?_
      refine XK.norm ?_
      exact XK.ret1 rfl rfl fun w1 st => ⟨by rw [show numbersG g = 0 by simp [numbersG, ← hn, badG_no (fun i l hi => hin i (by have := (List.getElem?_eq_some_iff.1 hi).1; omega) l hi)]; omega], st.below (by simp)⟩

end Go.Proofs.YtbgibbbggajgaaaGreat
/- graph.hang: on how many each node hangs, and which hang on it. -/
namespace Go.Proofs.YtbgibbbggajgaaaGreat
set_option linter.all false
open Go.RowKit

/-- rows of the call's own, by their slices -/
def HU (vals : List Value) (U : List (List Int)) : List HP := List.zipWith (fun v l => HP.own 3 1 v l.length (intCells l)) vals U
theorem HU_get {vals : List Value} {U : List (List Int)} {i : Nat} {v : Value} {l : List Int} (hv : vals[i]? = some v) (hl : U[i]? = some l) : (HU vals U)[i]? = some (HP.own 3 1 v l.length (intCells l)) := by
  simp [HU, List.getElem?_zipWith, hv, hl]
theorem HU_set : ∀ (vals : List Value) (U : List (List Int)) (i : Nat) (v : Value) (l : List Int), (HU vals U).set i (HP.own 3 1 v l.length (intCells l)) = HU (vals.set i v) (U.set i l)
  | [], U, i, v, l => by cases U <;> simp [HU]
  | a :: vals, [], i, v, l => by cases i <;> simp [HU]
  | a :: vals, b :: U, 0, v, l => by simp [HU]
  | a :: vals, b :: U, i + 1, v, l => by
    have := HU_set vals U i v l
    simpa [HU] using this
theorem HU_rep (n : Nat) : HU (List.replicate n (.slice none 0 0)) (List.replicate n []) = List.replicate n (HP.own 3 1 (.slice none 0 0) 0 []) := by
  simp [HU, intCells]
theorem intCells_set (W : List Int) (i : Nat) (v : Int) : (intCells W).set i (.int .i64 v) = intCells (W.set i v) := by simp [intCells, List.map_set]
theorem intCells_at {W : List Int} {i : Nat} {v : Int} (h : W[i]? = some v) : (intCells W)[i]? = some (.int .i64 v) := by simp [intCells, h]
theorem intCells_rep (n : Nat) : List.replicate n (Value.int .i64 0) = intCells (List.replicate n 0) := by simp [intCells]
theorem intCells_snoc (W : List Int) (v : Int) : intCells W ++ [.int .i64 v] = intCells (W ++ [v]) := by simp [intCells]
/-- what a row is, when it is written no more -/
theorem GrS.of {q : Piece} {gU n : Nat} {vals : List Value} {U : List (List Int)} (h1 : ∃ F, (HP.blk gU 22 vals).sat F q.w ∧ ∀ b, F b → q.Z b) (h2 : ∃ F, (HP.many (HU vals U)).sat F q.w ∧ ∀ b, F b → q.Z b) (hv : vals.length = n) (hU : U.length = n) : GrS q (some ⟨gU, 0, none⟩) n U := by
  obtain ⟨F1, s1, z1⟩ := h1
  obtain ⟨F2, ⟨G, s2, g2, _⟩, z2⟩ := h2
  refine ⟨vals.map fun v => [v], ?_, hU.symm, ?_⟩
  · have key : ∀ (vals : List Value) (U : List (List Int)), vals.length = U.length → (∀ (i : Nat) (v : Value) (l : List Int), vals[i]? = some v → U[i]? = some l → LstR (slq q) l [v]) → Rows (LstR (slq q)) 1 U (vals.map fun v => [v]) := by
      intro vals
      induction vals with
      | nil => intro U h _; cases U with
        | nil => trivial
        | cons => simp at h
      | cons v vals ih => intro U h hk; cases U with
        | nil => simp at h
        | cons l U => exact ⟨rfl, hk 0 v l rfl rfl, ih U (by simpa using h) (fun i v l h1 h2 => hk (i + 1) v l (by simpa using h1) (by simpa using h2))⟩
    refine key vals U (hv.trans hU.symm) fun i v l h1 h2 => ?_
    obtain ⟨A, c, rfl, hs⟩ := SlS.of_own (Y := q.Z) (s2 i _ (HU_get h1 h2)) (fun b hb => z2 b (g2 i b hb))
    exact ⟨A, l.length, c, rfl, rfl, hs⟩
  · rw [show (vals.map fun v => [v]).flatten = vals by clear s1 s2 hv; induction vals <;> simp_all]
    exact SlS.of_blk (c := 0) s1 z1 (by omega)
theorem hrow_met_le (v : Nat) : ∀ (l : List Int) (s : List Int × List (List Int) × List Int), (l.foldl (hstep v) s).2.2.length ≤ s.2.2.length + l.length
  | [], s => by simp
  | u :: l, s => by
    have := hrow_met_le v l (hstep v s u)
    have h2 : (hstep v s u).2.2.length ≤ s.2.2.length + 1 := by rw [hstep_met]; split <;> simp
    simp only [List.foldl_cons, List.length_cons]
    omega
/-- what stands while row k is gone through -/
theorem hangIn {g : List (List Int)} (hg : InG g) {k j : Nat} {l : List Int} (hl : g[k]? = some l) {s : List Int × List (List Int) × List Int} (hs : s = (l.take j).foldl (hstep k) ((hangTo g k).1, (hangTo g k).2, [])) :
    s.1.length = g.length ∧ s.2.1.length = g.length ∧ s.1[k]? = some (s.2.2.length : Int) ∧ s.2.2.length ≤ j ∧ ∀ (u : Nat) x, s.2.1[u]? = some x → x.length ≤ k + 1 := by
  have hk : k < g.length := (List.getElem?_eq_some_iff.1 hl).1
  have h1 := hrow_len k (l.take j) ((hangTo g k).1, (hangTo g k).2, [])
  have h2 := hangTo_len g k
  have h3 := hangTo_spec hg k (by omega)
  have hmem : ∀ u ∈ l, 0 ≤ u ∧ u < g.length := hg l (List.mem_of_getElem? hl)
  subst hs
  refine ⟨h1.1.trans h2.1, h1.2.trans h2.2, ?_, ?_, fun u x hx => ?_⟩
  · exact hrow_own k _ _ (by rw [h2.1]; exact hk) (by rw [h3.1 k hk]; simp)
  · have := hrow_met_le k (l.take j) ((hangTo g k).1, (hangTo g k).2, [])
    simp only [List.length_nil, List.length_take] at this
    omega
  · have hu : u < g.length := by
      have := (List.getElem?_eq_some_iff.1 hx).1
      rw [h1.2, h2.2] at this
      exact this
    have h4 := hrow_users k (l.take j) ((hangTo g k).1, (hangTo g k).2, []) u (fun y hy => by rw [h2.2]; exact hmem y (List.mem_of_mem_take hy)) (by rw [h2.2]; exact hu)
    rw [h4] at hx
    cases hx
    obtain ⟨z, hz⟩ : ∃ z, (hangTo g k).2[u]? = some z := ⟨_, List.getElem?_eq_getElem (by rw [h2.2]; exact hu)⟩
    have h5 := hangTo_users_le hg (by omega : k ≤ g.length) hz
    simp only [hz, Option.getD_some, List.length_append]
    split <;> simp <;> omega
theorem hang_next {g : List (List Int)} {k j : Nat} {l : List Int} {u : Int} (hu : l[j]? = some u) (s0 : List Int × List (List Int) × List Int) : (l.take (j + 1)).foldl (hstep k) s0 = hstep k ((l.take j).foldl (hstep k) s0) u := by
  rw [List.take_add_one, hu, Option.toList_some, List.foldl_append]; rfl
theorem hang_row {g : List (List Int)} {k : Nat} {l : List Int} (hl : g[k]? = some l) : hangTo g (k + 1) = (((l.take l.length).foldl (hstep k) ((hangTo g k).1, (hangTo g k).2, [])).1, ((l.take l.length).foldl (hstep k) ((hangTo g k).1, (hangTo g k).2, [])).2.1) := by
  rw [List.take_length, hangTo, hl]; rfl

/-- what hang hands back -/
def HangOk (g : List (List Int)) (n : Nat) (v : Value) (hs : List HP) (q : Piece) : Prop := ∃ gW gU : Nat, v = .tuple #[.slice (some ⟨gW, 0, none⟩) n n, .slice (some ⟨gU, 0, none⟩) n n] ∧ hs = [HP.blk gW 3 (intCells (hangTo g n).1)] ∧ GrS q (some ⟨gU, 0, none⟩) n (hangTo g n).2
theorem hang_any (A : Option Addr) (n c : Nat) (g : List (List Int)) (w : World) (hg : GrS (all w) A n g) (hn : n = g.length) (hn2 : n ≤ 100) (hin : InG g) (hlen : ∀ l ∈ g, (l.length : Int) ≤ 9223372036854775806) :
    Calls Tryz.prog 101 #[.slice A n c] w (fun y w' => (∃ v hs q, y = .returned v ∧ q.w = w' ∧ HangOk g n v hs q ∧ New w hs q) ∧ Below w.heap.size w w') := by
  refine XK.enter (vs := [.slice A n c]) Tryz.func101 rfl Tryz.ntmps101 (by simp) ?_
  refine XK.seq ?_

  refine XK.region ?_
  refine xk_assign rfl (by decide) ?_
  refine xk_assign rfl (by decide) ?_
  refine XK.nilN ?_
  refine XK.seq ?_

  refine XK.region ?_
  refine xk_move rfl (by decide) ?_
  refine xk_len (el := 22) (by kernel_rfl) rfl (by decide) ?_
  refine xk_makeT 8 (el := 3) (z := .int .i64 0) (by kernel_rfl) (by kernel_rfl) rfl rfl rfl (by omega) (by omega) (by decide) fun gW => ?_
  refine xk_assign rfl (by decide) ?_
  refine XK.nilN ?_
  refine XK.seq ?_

  refine XK.region ?_
  refine xk_move rfl (by decide) ?_
  refine xk_len (el := 22) (by kernel_rfl) rfl (by decide) ?_
  refine xk_makeT 24 (el := 22) (z := .slice none 0 0) (by kernel_rfl) (by kernel_rfl) rfl rfl rfl (by omega) (by omega) (by decide) fun gU => ?_
  refine xk_assign rfl (by decide) ?_
  refine XK.nilN ?_
  refine XK.seq ?_
  refine XK.seq ?_

  refine XK.region ?_
  refine xk_move rfl (by decide) ?_
  refine xk_len (el := 22) (by kernel_rfl) rfl (by decide) ?_
  refine xk_move rfl (by decide) ?_
  refine XK.nilN ?_
  refine XK.envS [(17, .int .i64 0), (16, .int .i64 n), (15, .slice A n c), (3, .slice (some ⟨gU, 0, none⟩) n n), (2, .slice (some ⟨gW, 0, none⟩) n n)] ?_
  refine XK.nils n 3 1 ?_
  refine XK.block ?_
  refine XK.loop (fun m e R H => ∃ (k : Nat) (vals : List Value), k ≤ n ∧ m = n - k ∧ vals.length = n ∧ e = [(17, .int .i64 k), (16, .int .i64 n), (15, .slice A n c), (3, .slice (some ⟨gU, 0, none⟩) n n), (2, .slice (some ⟨gW, 0, none⟩) n n)] ∧ R = [all w] ∧ H = [HP.many (HU vals (hangTo g k).2), HP.blk gU 22 vals, HP.blk gW 3 (intCells (hangTo g k).1)]) n ⟨0, List.replicate n (.slice none 0 0), by omega, rfl, by simp, rfl, rfl, by rw [hangTo, ← hn, HU_rep, ← intCells_rep]⟩ fun m e R H hI => ?_
  obtain ⟨k, vals, hk, rfl, hv, rfl, rfl, rfl⟩ := hI
  refine XK.seq ?_

  refine XK.region ?_
  refine xk_lss rfl rfl (by decide) ?_
  refine XK.nilN ?_
  refine XK.seq ?_
  refine XK.if_ rfl (fun h => ?_) (fun h => ?_)
  ·
    refine XK.skip ?_
    refine XK.norm ?_
    refine XK.seq ?_
    refine XK.block ?_
    refine XK.seq ?_
    have hkn : k < n := by omega
    obtain ⟨l, hl⟩ : ∃ l, g[k]? = some l := ⟨g[k]'(by omega), List.getElem?_eq_getElem _⟩
    obtain ⟨b, off, B, c2, rfl, c1, hsl⟩ := hg.row hl
    have hll := hlen l (List.mem_of_getElem? hl)
    have hmem := hin l (List.mem_of_getElem? hl)

    refine XK.region ?_
    refine xk_move rfl (by decide) ?_
    refine xk_at (k) (off + k) (el := 22) (sz := 1) (by kernel_rfl) (by kernel_rfl) rfl rfl (by omega) (by omega) (by omega) (by decide) ?_
    refine xk_ld rfl ?_
    refine xk_assign rfl (by decide) ?_
    refine xk_assign rfl (by decide) ?_
    refine XK.nilN ?_
    refine XK.seq ?_

    refine XK.region ?_
    refine xk_makeMap (by decide) fun r => ?_
    refine xk_assign rfl (by decide) ?_
    refine XK.nilN ?_
    refine XK.seq ?_

    refine XK.region ?_
    refine xk_move rfl (by decide) ?_
    refine xk_len (el := 3) (by kernel_rfl) rfl (by decide) ?_
    refine xk_move rfl (by decide) ?_
    refine XK.nilN ?_
    refine XK.envS [(25, .int .i64 0), (24, .int .i64 l.length), (23, .slice B l.length c2), (6, .map (some r)), (4, .int .i64 k), (17, .int .i64 k), (16, .int .i64 n), (15, .slice (some ⟨b, off, none⟩) n c), (3, .slice (some ⟨gU, 0, none⟩) n n), (2, .slice (some ⟨gW, 0, none⟩) n n)] ?_
    refine XK.block ?_
    refine XK.loop (fun m e R H => ∃ (j : Nat) (vals : List Value) (s : List Int × List (List Int) × List Int), j ≤ l.length ∧ m = l.length - j ∧ vals.length = n ∧ s = (l.take j).foldl (hstep k) ((hangTo g k).1, (hangTo g k).2, []) ∧ e = [(25, .int .i64 j), (24, .int .i64 l.length), (23, .slice B l.length c2), (6, .map (some r)), (4, .int .i64 k), (17, .int .i64 k), (16, .int .i64 n), (15, .slice (some ⟨b, off, none⟩) n c), (3, .slice (some ⟨gU, 0, none⟩) n n), (2, .slice (some ⟨gW, 0, none⟩) n n)] ∧ R = [all w] ∧ H = [HP.map r (setL s.2.2), HP.many (HU vals s.2.1), HP.blk gU 22 vals, HP.blk gW 3 (intCells s.1)]) l.length ⟨0, vals, _, by omega, rfl, hv, rfl, rfl, rfl, rfl⟩ fun m e R H hI => ?_
    obtain ⟨j, vals, s, hj, rfl, hv, hs, rfl, rfl, rfl⟩ := hI
    refine XK.seq ?_

    refine XK.region ?_
    refine xk_lss rfl rfl (by decide) ?_
    refine XK.nilN ?_
    refine XK.seq ?_
    refine XK.if_ rfl (fun h => ?_) (fun h => ?_)
    ·
      refine XK.skip ?_
      refine XK.norm ?_
      refine XK.seq ?_
      refine XK.block ?_
      refine XK.seq ?_
      have hjl : j < l.length := by omega
      obtain ⟨b2, off2, rfl, hz2, hc2⟩ := hsl.2 (by omega)
      obtain ⟨u, hu⟩ : ∃ u, l[j]? = some u := ⟨l[j]'(by omega), List.getElem?_eq_getElem _⟩
      have c3 : ROc w b2 (off2 + j) (.int .i64 u) := ⟨hz2, hc2 j _ (by simp [intCells, hu])⟩
      obtain ⟨hW, hU, hWk, hM, hUl⟩ := hangIn hin hl hs
      obtain ⟨hu0, hun⟩ := hmem u (List.mem_of_getElem? hu)
      obtain ⟨vu, hvu⟩ : ∃ v, vals[u.toNat]? = some v := ⟨_, List.getElem?_eq_getElem (by omega)⟩
      obtain ⟨Uu, hUu⟩ : ∃ x, s.2.1[u.toNat]? = some x := ⟨_, List.getElem?_eq_getElem (by omega)⟩
      have hUl2 := hUl _ _ hUu
      have hnx := hang_next (g := g) (k := k) hu ((hangTo g k).1, (hangTo g k).2, [])
      rw [← hs] at hnx

      refine XK.region ?_
      refine xk_at (j) (off2 + j) (el := 3) (sz := 1) (by kernel_rfl) (by kernel_rfl) rfl rfl (by omega) (by omega) (by omega) (by decide) ?_
      refine xk_ld rfl ?_
      refine xk_assign rfl (by decide) ?_
      refine XK.nilN ?_
      refine XK.seq ?_
      refine XK.seq ?_

      refine XK.region ?_
      refine xk_move rfl (by decide) ?_
      refine xk_move rfl (by decide) ?_
      refine xk_callR (f := 102) (fi := []) (ca := []) (by kernel_rfl) rfl rfl (by decide) (fun w1 st => marks_has r u s.2.2 w1 (st.map (i := 0) rfl)) ?_
      refine XK.nilN ?_
      refine XK.cond rfl (fun h => ?_) (fun h => ?_)
      ·
        refine XK.exit ?_
        refine XK.norm ?_

        refine XK.region ?_
        refine xk_add rfl rfl (wrap_in (by omega)) (by decide) ?_
        refine xk_move rfl (by decide) ?_
        refine XK.nilN ?_
        exact XK.envS [(25, .int .i64 (j + 1)), (24, .int .i64 l.length), (23, .slice (some ⟨b2, off2, none⟩) l.length c2), (6, .map (some r)), (4, .int .i64 k), (17, .int .i64 k), (16, .int .i64 n), (15, .slice (some ⟨b, off, none⟩) n c), (3, .slice (some ⟨gU, 0, none⟩) n n), (2, .slice (some ⟨gW, 0, none⟩) n n)] (XK.round (l.length - (j + 1)) (by omega) ⟨j + 1, vals, _, by omega, rfl, hv, hnx.symm, rfl, rfl, by rw [hstep, if_pos h]⟩)
      ·
        refine XK.skip ?_
        refine XK.norm ?_
        refine XK.seq ?_

        refine XK.region ?_
        refine xk_move rfl (by decide) ?_
        refine xk_move rfl (by decide) ?_
        refine xk_callM (f := 103) (fi := []) (ca := []) 0 (HP.map r (setL (if s.2.2.contains u then s.2.2 else s.2.2 ++ [u]))) (by kernel_rfl) rfl rfl rfl ⟨by decide, rfl⟩ (fun w1 F st hp hF => marks_add r u s.2.2 w1 F hp hF) ?_
        dsimp only [List.set]
        refine XK.nilN ?_
        refine XK.seq ?_

        refine XK.region ?_
        refine xk_move rfl (by decide) ?_
        refine xk_move rfl (by decide) ?_
        refine xk_at (k) (k) (el := 3) (sz := 1) (by kernel_rfl) (by kernel_rfl) rfl rfl (by omega) (by omega) (by omega) (by decide) ?_
        refine xk_load (by kernel_rfl) rfl (Rd.blk 3 rfl (intCells_at hWk)) (by decide) ?_
        refine xk_add rfl rfl (wrap_in (by omega)) (by decide) ?_
        refine xk_at (k) (k) (el := 3) (sz := 1) (by kernel_rfl) (by kernel_rfl) rfl rfl (by omega) (by omega) (by omega) (by decide) ?_
        refine xk_store 3 rfl (by kernel_rfl) rfl rfl rfl (by simp [intCells]; omega) ?_
        dsimp only [List.set]
        rw [intCells_set]
        refine XK.nilN ?_

        refine XK.region ?_
        refine xk_move rfl (by decide) ?_
        refine xk_move rfl (by decide) ?_
        refine xk_move rfl (by decide) ?_
        refine xk_move rfl (by decide) ?_
        refine xk_at (u.toNat) (u.toNat) (el := 22) (sz := 1) (by kernel_rfl) (by kernel_rfl) rfl rfl (by omega) (by omega) (by omega) (by decide) ?_
        refine xk_load (by kernel_rfl) rfl (Rd.blk 2 rfl hvu) (by decide) ?_
        refine XK.take 1 u.toNat rfl (HU_get hvu hUu) ?_
        dsimp only [List.set]
        refine xk_move rfl (by decide) ?_
        refine xk_slice (el := 3) (sz := 1) (zs := [.int .i64 0]) (by kernel_rfl) (zeroB_of (by kernel_rfl)) (by kernel_rfl) rfl (by decide) (by decide) rfl (by simp [fillL, setN, Value.cells, List.range_succ, List.set]; rfl) (by decide) fun g3 => ?_
        refine xk_appendT 1 1 8 1 (n' := Uu.length + 1) (el := 3) (by kernel_rfl) (by kernel_rfl) (by decide) rfl rfl rfl (sl_blk 0 rfl rfl) (by simp [Value.oneCell']) rfl (by omega) (by omega) (by decide) fun A' k' => ?_
        dsimp only [List.set]
        rw [intCells_snoc]
        refine xk_at (u.toNat) (u.toNat) (el := 22) (sz := 1) (by kernel_rfl) (by kernel_rfl) rfl rfl (by omega) (by omega) (by omega) (by decide) ?_
        refine xk_store 4 rfl (by kernel_rfl) rfl rfl rfl (by omega) ?_
        dsimp only [List.set]
        refine XK.weak [1, 2, 3, 4, 5] rfl (by decide) (fun _ hp => hp) ?_
        refine XK.give 1 u.toNat rfl (by rw [List.getElem?_set_self (by simp [HU]; omega)]) ?_
        dsimp only [List.set]
        rw [List.set_set, show Uu.length + 1 = (Uu ++ [(k : Int)]).length by simp, HU_set]
        refine XK.nilN ?_

        refine XK.region ?_
        refine xk_add rfl rfl (wrap_in (by omega)) (by decide) ?_
        refine xk_move rfl (by decide) ?_
        refine XK.nilN ?_
        exact XK.envS [(25, .int .i64 (j + 1)), (24, .int .i64 l.length), (23, .slice (some ⟨b2, off2, none⟩) l.length c2), (6, .map (some r)), (4, .int .i64 k), (17, .int .i64 k), (16, .int .i64 n), (15, .slice (some ⟨b, off, none⟩) n c), (3, .slice (some ⟨gU, 0, none⟩) n n), (2, .slice (some ⟨gW, 0, none⟩) n n)] (XK.round (l.length - (j + 1)) (by omega) ⟨j + 1, vals.set u.toNat (.slice A' (Uu ++ [(k : Int)]).length k'), _, by omega, rfl, by simpa using hv, hnx.symm, rfl, rfl, by rw [hstep, if_neg (by rw [h]; decide), if_neg (by rw [h]; decide), hWk, hUu]; rfl⟩)
    ·
      refine XK.exit ?_
      refine XK.norm ?_

      refine XK.region ?_
      obtain rfl : j = l.length := by omega
      have hrw := hang_row hl
      rw [← hs] at hrw
      refine xk_add rfl rfl (wrap_in (by omega)) (by decide) ?_
      refine xk_move rfl (by decide) ?_
      refine XK.nilN ?_
      exact XK.weak [1, 2, 3] rfl (by decide) (by simp) (XK.envS [(17, .int .i64 (k + 1)), (16, .int .i64 n), (15, .slice (some ⟨b, off, none⟩) n c), (3, .slice (some ⟨gU, 0, none⟩) n n), (2, .slice (some ⟨gW, 0, none⟩) n n)] (XK.round (n - (k + 1)) (by omega) ⟨k + 1, vals, by omega, rfl, hv, rfl, rfl, by rw [hrw]⟩))
  ·
    refine XK.exit ?_
    refine XK.norm ?_
    refine XK.seq ?_
    obtain rfl : k = n := by omega
    have hUl := (hangTo_len g k).2

    refine XK.region ?_
    refine xk_move rfl (by decide) ?_
    refine xk_move rfl (by decide) ?_
    refine xk_assign rfl (by decide) ?_
    refine xk_assign rfl (by decide) ?_
    refine XK.nilN ?_
    refine XK.ret ?_
    refine XK.norm ?_
    refine XK.still [] [0, 1] [2] (by simp) rfl (by decide) (by decide) fun q hq _ hfr => ?_
    refine XK.ret2 rfl rfl rfl fun w1 st => ⟨⟨_, _, ⟨w1, q.Z⟩, rfl, rfl, ⟨gW, gU, rfl, rfl, ?_⟩, st.newR (by simp) (by simp) (hfr (by simp) (by simp))⟩, st.below (by simp)⟩
    exact (GrS.of (hq 1 _ (by simp) rfl) (hq 0 _ (by simp) rfl) hv (by omega)).le fun b hb => ⟨hb, st.ro (by simp) hb⟩

end Go.Proofs.YtbgibbbggajgaaaGreat
/- The order of a graph, as it is reckoned: how many each node still waits for. No program in sight. -/
namespace Go.Proofs.YtbgibbbggajgaaaGreat
set_option linter.all false

def natI (M : List Nat) : List Int := M.map Int.ofNat
/-- can node v be had next? -/
def okN (g : List (List Int)) (M : List Nat) (v : Nat) : Bool := !(M.contains v) && (g[v]?.getD []).all fun u => M.contains u.toNat
/-- how many sources of v are not had yet -/
def waitN (g : List (List Int)) (M : List Nat) (v : Nat) : Nat := ((dset (g[v]?.getD [])).filter fun u => !(M.contains u.toNat)).length
def waitsG (g : List (List Int)) (M : List Nat) : List Int := (List.range g.length).map fun v => (waitN g M v : Int)
def decBy (W : List Int) (us : List Int) : List Int := us.foldl (fun W u => W.set u.toNat (W[u.toNat]?.getD 0 - 1)) W
def usersG (g : List (List Int)) (v : Nat) : List Int := ((List.range g.length).filter fun x => (g[x]?.getD []).contains (v : Int)).map Int.ofNat
def orderE (g : List (List Int)) : Int × List Nat := if numbersG g ≠ 0 then (numbersG g, []) else match orderG g g.length [] with
  | some M => (0, M)
  | none => (5, [])
theorem natI_has (M : List Nat) (v : Nat) : (natI M).contains (v : Int) = M.contains v := by
  rw [Bool.eq_iff_iff]
  simp only [natI, List.contains_iff_mem, List.mem_map]
  constructor
  · rintro ⟨a, h, e⟩
    have : a = v := Int.ofNat.inj e
    exact this ▸ h
  · exact fun h => ⟨v, h, rfl⟩
theorem natI_snoc (M : List Nat) (v : Nat) : natI (M ++ [v]) = natI M ++ [(v : Int)] := by simp [natI]
theorem waitsG_get {g : List (List Int)} {M : List Nat} {v : Nat} (h : v < g.length) : (waitsG g M)[v]? = some (waitN g M v : Int) := by simp [waitsG, h]
theorem waitsG_len (g : List (List Int)) (M : List Nat) : (waitsG g M).length = g.length := by simp [waitsG]
theorem dset_fold (l : List Int) : ∀ (a : List Int), (∀ u, u ∈ l.foldl (fun a u => if a.contains u then a else a ++ [u]) a ↔ u ∈ a ∨ u ∈ l) ∧ (a.Nodup → (l.foldl (fun a u => if a.contains u then a else a ++ [u]) a).Nodup) ∧ (l.foldl (fun a u => if a.contains u then a else a ++ [u]) a).length ≤ a.length + l.length := by
  induction l with
  | nil => intro a; simp
  | cons x l ih =>
    intro a
    rw [List.foldl_cons]
    obtain ⟨h1, h2, h3⟩ := ih (if a.contains x then a else a ++ [x])
    refine ⟨fun u => ?_, fun hn => h2 ?_, ?_⟩
    · rw [h1]
      split
      · rename_i hc
        have : x ∈ a := by simpa using hc
        constructor
        · rintro (h | h)
          · exact .inl h
          · exact .inr (by simp [h])
        · rintro (h | h)
          · exact .inl h
          · rcases List.mem_cons.1 h with rfl | h
            · exact .inl this
            · exact .inr h
      · simp [or_assoc]
    · split
      · exact hn
      · rename_i hc
        have : x ∉ a := by simpa using hc
        rw [List.nodup_append]
        refine ⟨hn, by simp, fun y hy z hz => ?_⟩
        simp at hz
        subst hz
        exact fun e => this (e ▸ hy)
    · refine Nat.le_trans h3 ?_
      split <;> simp <;> omega
theorem dset_mem (l : List Int) (u : Int) : u ∈ dset l ↔ u ∈ l := by have := (dset_fold l []).1 u; simpa [dset] using this
theorem dset_nodup (l : List Int) : (dset l).Nodup := (dset_fold l []).2.1 List.nodup_nil
theorem dset_len (l : List Int) : (dset l).length ≤ l.length := by have := (dset_fold l []).2.2; simpa [dset] using this
theorem waitN_le (g : List (List Int)) (M : List Nat) (v : Nat) : waitN g M v ≤ (g[v]?.getD []).length := Nat.le_trans (List.length_filter_le _ _) (dset_len _)
theorem waitN_zero (g : List (List Int)) (M : List Nat) (v : Nat) : waitN g M v = 0 ↔ ((g[v]?.getD []).all fun u => M.contains u.toNat) = true := by
  unfold waitN
  rw [List.length_eq_zero_iff, List.filter_eq_nil_iff, List.all_eq_true]
  constructor
  · intro h u hu
    have := h u ((dset_mem _ _).2 hu)
    simpa using this
  · intro h u hu
    have := h u ((dset_mem _ _).1 hu)
    simpa using this
theorem okN_met {g : List (List Int)} {M : List Nat} {v : Nat} (h : M.contains v = true) : okN g M v = false := by rw [okN, h]; rfl
theorem okN_waits {g : List (List Int)} {M : List Nat} {v : Nat} (h : (waitN g M v : Int) > 0) : okN g M v = false := by
  have : ¬ waitN g M v = 0 := by omega
  rw [waitN_zero] at this
  rw [okN]
  simp only [Bool.not_eq_true] at this
  rw [this, Bool.and_false]
theorem okN_free {g : List (List Int)} {M : List Nat} {v : Nat} (h : M.contains v = false) (h2 : ¬ (waitN g M v : Int) > 0) : okN g M v = true := by
  have : waitN g M v = 0 := by omega
  rw [waitN_zero] at this
  rw [okN, h, this]
  rfl
theorem nextG_none {g : List (List Int)} {M : List Nat} (h : ∀ j, j < g.length → okN g M j = false) : nextG g M = none := by
  unfold nextG
  rw [List.find?_eq_none]
  intro x hx
  have := h x (by simpa using hx)
  unfold okN at this
  rw [this]
  simp
theorem nextG_some {g : List (List Int)} {M : List Nat} {v : Nat} (hv : v < g.length) (h : ∀ j, j < v → okN g M j = false) (hk : okN g M v = true) : nextG g M = some v := by
  unfold nextG
  rw [List.find?_range_eq_some]
  refine ⟨hk, by simpa using hv, fun j hj => ?_⟩
  have := h j hj
  unfold okN at this
  rw [this]
  rfl
theorem orderG_step {g : List (List Int)} {M : List Nat} {v k : Nat} (h : nextG g M = some v) : orderG g (k + 1) M = orderG g k (M ++ [v]) := by rw [orderG, h]
theorem orderG_stop {g : List (List Int)} {M : List Nat} {k : Nat} (h : nextG g M = none) : orderG g (k + 1) M = none := by rw [orderG, h]
theorem decBy_len : ∀ (us W : List Int), (decBy W us).length = W.length
  | [], W => rfl
  | u :: us, W => by rw [decBy, List.foldl_cons]; have := decBy_len us (W.set u.toNat (W[u.toNat]?.getD 0 - 1)); rw [decBy] at this; rw [this]; simp
theorem decBy_next {us W : List Int} {j : Nat} {u : Int} (h : us[j]? = some u) : decBy W (us.take (j + 1)) = (decBy W (us.take j)).set u.toNat ((decBy W (us.take j))[u.toNat]?.getD 0 - 1) := by
  rw [List.take_add_one, h, Option.toList_some, decBy, List.foldl_append]; rfl
theorem decBy_get : ∀ (us W : List Int) (x : Nat), (∀ u ∈ us, 0 ≤ u) → x < W.length → (decBy W us)[x]? = some (W[x]?.getD 0 - (us.count (x : Int) : Int))
  | [], W, x, _, h => by simp [decBy, h]
  | u :: us, W, x, hu, h => by
    rw [decBy, List.foldl_cons]
    have := decBy_get us (W.set u.toNat (W[u.toNat]?.getD 0 - 1)) x (fun y hy => hu y (by simp [hy])) (by simpa using h)
    rw [decBy] at this
    rw [this]
    have h0 := hu u (by simp)
    congr 1
    by_cases e : u = (x : Int)
    · subst e
      have e2 : ((x : Int)).toNat = x := by simp
      rw [e2, List.getElem?_set_self h, List.count_cons_self]
      simp only [Option.getD_some]
      omega
    · have e2 : u.toNat ≠ x := by omega
      rw [List.getElem?_set_ne e2, List.count_cons_of_ne e]
theorem usersG_mem {g : List (List Int)} {v : Nat} {u : Int} (h : u ∈ usersG g v) : 0 ≤ u ∧ u < g.length := by
  simp only [usersG, List.mem_map, List.mem_filter, List.mem_range] at h
  obtain ⟨a, ⟨h1, _⟩, rfl⟩ := h
  simp; omega
theorem usersG_len (g : List (List Int)) (v : Nat) : (usersG g v).length ≤ g.length := by
  rw [usersG, List.length_map]
  have := List.length_filter_le (fun x => (g[x]?.getD []).contains (v : Int)) (List.range g.length)
  simpa using this
theorem usersG_count {g : List (List Int)} {v x : Nat} (hx : x < g.length) : (usersG g v).count (x : Int) = if (g[x]?.getD []).contains (v : Int) then 1 else 0 := by
  have hnd : (usersG g v).Nodup := List.Pairwise.map _ (fun a b h e => h (Int.ofNat.inj e)) (List.Pairwise.filter _ List.nodup_range)
  rw [List.Nodup.count hnd]
  have : ((x : Int) ∈ usersG g v) ↔ (g[x]?.getD []).contains (v : Int) = true := by
    simp only [usersG, List.mem_map, List.mem_filter, List.mem_range]
    constructor
    · rintro ⟨a, ⟨_, h⟩, e⟩
      have : a = x := Int.ofNat.inj e
      exact this ▸ h
    · intro h; exact ⟨x, ⟨hx, h⟩, rfl⟩
  by_cases h : (g[x]?.getD []).contains (v : Int) = true
  · rw [if_pos (this.2 h), if_pos h]
  · rw [if_neg (fun e => h (this.1 e)), if_neg h]
theorem filter_one {l : List Int} (hn : l.Nodup) {p q : Int → Bool} {a : Int} (ha : p a = true) (hq : ∀ u ∈ l, q u = (p u && decide (u ≠ a))) : (l.filter p).length = (l.filter q).length + if l.contains a then 1 else 0 := by
  induction l with
  | nil => simp
  | cons x l ih =>
    have hn' := List.nodup_cons.1 hn
    have ih := ih hn'.2 (fun u hu => hq u (by simp [hu]))
    have hx := hq x (by simp)
    by_cases e : x = a
    · subst e
      have hc : ¬ l.contains x = true := by simpa using hn'.1
      rw [if_neg hc] at ih
      have hc2 : (x :: l).contains x = true := by simp
      rw [if_pos hc2, List.filter_cons_of_pos ha, List.filter_cons_of_neg (by rw [hx]; simp), List.length_cons, ih]
    · have hc : (x :: l).contains a = l.contains a := by
        rw [List.contains_cons]
        have : (a == x) = false := by simp; exact fun h => e h.symm
        rw [this, Bool.false_or]
      rw [hc]
      by_cases hp : p x = true
      · rw [List.filter_cons_of_pos hp, List.filter_cons_of_pos (by rw [hx, hp]; simp [e]), List.length_cons, List.length_cons, ih]
        omega
      · rw [List.filter_cons_of_neg hp, List.filter_cons_of_neg (by rw [hx]; simp [hp]), ih]
theorem waitN_snoc {g : List (List Int)} (hg : InG g) {M : List Nat} {v x : Nat} (hv : M.contains v = false) (hx : x < g.length) : (waitN g M x : Int) - (if (g[x]?.getD []).contains (v : Int) then 1 else 0) = waitN g (M ++ [v]) x := by
  have hin : ∀ u ∈ g[x]?.getD [], 0 ≤ u := fun u hu => by
    have h1 : g[x]? = some (g[x]'hx) := List.getElem?_eq_getElem _
    rw [h1] at hu
    exact (hg _ (List.getElem_mem _) u hu).1
  have key := filter_one (dset_nodup (g[x]?.getD [])) (p := fun u => !(M.contains u.toNat)) (q := fun u => !((M ++ [v]).contains u.toNat)) (a := (v : Int)) (by simp only [Int.toNat_natCast]; rw [hv]; rfl) (fun u hu => by
    have h0 := hin u ((dset_mem _ _).1 hu)
    have hiff : (u.toNat = v) ↔ u = (v : Int) := by omega
    simp only [List.contains_eq_mem, List.mem_append, List.mem_singleton, hiff, Bool.decide_or, Bool.not_or, decide_not])
  have hc : (dset (g[x]?.getD [])).contains (v : Int) = (g[x]?.getD []).contains (v : Int) := by
    rw [Bool.eq_iff_iff]; simp only [List.contains_iff_mem]; exact dset_mem _ _
  rw [hc] at key
  unfold waitN
  rw [key]
  split <;> omega
theorem waits_snoc {g : List (List Int)} (hg : InG g) {M : List Nat} {v : Nat} (hv : M.contains v = false) : decBy (waitsG g M) (usersG g v) = waitsG g (M ++ [v]) := by
  apply List.ext_getElem?
  intro x
  rcases Nat.lt_or_ge x g.length with hx | hx
  · rw [decBy_get _ _ _ (fun u hu => (usersG_mem hu).1) (by rw [waitsG_len]; exact hx), waitsG_get hx, waitsG_get hx, usersG_count hx]
    congr 1
    have := waitN_snoc hg hv hx
    simp only [Option.getD_some]
    rw [← this]
    split <;> rfl
  · rw [List.getElem?_eq_none (by rw [decBy_len, waitsG_len]; exact hx), List.getElem?_eq_none (by rw [waitsG_len]; exact hx)]
theorem waits_start {g : List (List Int)} (hg : InG g) : (hangTo g g.length).1 = waitsG g [] := by
  apply List.ext_getElem?
  intro x
  rcases Nat.lt_or_ge x g.length with hx | hx
  · rw [(hangTo_spec hg g.length (Nat.le_refl _)).1 x hx, waitsG_get hx, if_pos hx]
    congr 2
    unfold waitN
    rw [List.filter_eq_self.2 (by simp)]
  · rw [List.getElem?_eq_none (by rw [(hangTo_len g _).1]; exact hx), List.getElem?_eq_none (by rw [waitsG_len]; exact hx)]
theorem users_row {g : List (List Int)} (hg : InG g) {v : Nat} (hv : v < g.length) : (hangTo g g.length).2[v]? = some (usersG g v) := (hangTo_spec hg g.length (Nat.le_refl _)).2 v hv
end Go.Proofs.YtbgibbbggajgaaaGreat
/- graph.Order: all nodes, again and again the least that can be had. -/
namespace Go.Proofs.YtbgibbbggajgaaaGreat
set_option linter.all false
open Go.RowKit
theorem waits_set (W us : List Int) (j : Nat) (u x : Int) (hj : us[j]? = some u) (hx : (decBy W (us.take j))[u.toNat]? = some x) : (intCells (decBy W (us.take j))).set u.toNat (.int .i64 (x - 1)) = intCells (decBy W (us.take (j + 1))) := by
  rw [intCells_set, decBy_next hj, hx]; rfl
theorem orderE_bad {g : List (List Int)} (h : numbersG g ≠ 0) : orderE g = (numbersG g, []) := by unfold orderE; rw [if_pos h]
theorem orderE_none {g : List (List Int)} (h0 : numbersG g = 0) (h : orderG g g.length [] = none) : orderE g = (5, []) := by unfold orderE; rw [if_neg (by simp [h0]), h]
theorem orderE_some {g : List (List Int)} {M : List Nat} (h0 : numbersG g = 0) (h : orderG g g.length [] = some M) : orderE g = (0, M) := by unfold orderE; rw [if_neg (by simp [h0]), h]
theorem numbersG_zero {g : List (List Int)} (h : numbersG g = 0) : g.length ≤ 100 ∧ InG g := by
  unfold numbersG at h
  split at h
  · cases h
  · split at h
    · cases h
    · rename_i h1 h2; exact ⟨by omega, InG.of (by simpa using h2)⟩
/-- a row with an error number -/
def OrdOk (w : World) (M : List Nat) (err : Int) (y : Ending) (w' : World) : Prop := (∃ A m c, y = .returned (.tuple #[.slice A m c, .int .i64 err]) ∧ m = M.length ∧ SlS (fresh w w') 1 A m (intCells (natI M))) ∧ Below w.heap.size w w'
theorem OrdOk.nil {w w' : World} {err : Int} (h : Below w.heap.size w w') : OrdOk w [] err (.returned (.tuple #[.slice none 0 0, .int .i64 err])) w' := ⟨⟨none, 0, 0, rfl, rfl, SlS.nil _ 1⟩, h⟩

theorem order_any (A : Option Addr) (n c : Nat) (g : List (List Int)) (w : World) (hg : GrS (all w) A n g) (hn : n = g.length) (hn2 : (n : Int) ≤ 9223372036854775806) (hlen : ∀ l ∈ g, (l.length : Int) ≤ 9223372036854775806) :
    Calls Tryz.prog 52 #[.slice A n c] w (OrdOk w (orderE g).2 (orderE g).1) := by
  refine XK.enter (vs := [.slice A n c]) Tryz.func52 rfl Tryz.ntmps52 (by simp) ?_
  refine XK.seq ?_

  refine XK.region ?_
  refine xk_assign rfl (by decide) ?_
  refine xk_assign rfl (by decide) ?_
  refine XK.nilN ?_
  refine XK.seq ?_
  refine XK.seq ?_

  refine XK.region ?_
  refine xk_move rfl (by decide) ?_
  refine xk_callR (f := 100) (fi := []) (ca := []) (by kernel_rfl) rfl rfl (by decide) (fun w1 st => numbersG_any A n c g w1 (hg.le (all_le (st.started (by simp)))) hn hn2 hlen) ?_
  refine xk_assign rfl (by decide) ?_
  refine XK.nilN ?_
  refine XK.seq ?_

  refine XK.region ?_
  refine xk_move rfl (by decide) ?_
  refine xk_neq rfl rfl (by decide) ?_
  refine XK.nilN ?_
  refine XK.if_ rfl (fun h => ?_) (fun h => ?_)
  ·
    refine XK.seq ?_

    refine XK.region ?_
    refine xk_move rfl (by decide) ?_
    refine xk_assign rfl (by decide) ?_
    refine xk_assign rfl (by decide) ?_
    refine XK.nilN ?_
    refine XK.ret ?_
    refine XK.norm ?_
    exact XK.ret2 rfl rfl rfl fun w1 st => by
      rw [orderE_bad h]
      exact OrdOk.nil (st.below (by simp))
  ·
    have h0 : numbersG g = 0 := Classical.byContradiction h
    obtain ⟨hn100, hin⟩ := numbersG_zero h0
    refine XK.skip ?_
    refine XK.norm ?_
    refine XK.seq ?_

    refine XK.region ?_
    refine xk_move rfl (by decide) ?_
    refine xk_callN (f := 101) (fi := []) (ca := []) (by kernel_rfl) rfl rfl (by decide) (HangOk g n) (fun w1 st => hang_any A n c g w1 (hg.le (all_le (st.started (by simp)))) hn (by omega) hin hlen) ?_
    rintro _ _ q ⟨gW, gU, rfl, rfl, hq⟩ hfq
    refine xk_move rfl (by decide) ?_
    refine xk_extract rfl rfl (by decide) ?_
    refine xk_extract rfl rfl (by decide) ?_
    refine xk_assign rfl (by decide) ?_
    refine xk_assign rfl (by decide) ?_
    refine XK.nilN ?_
    refine XK.seq ?_

    refine XK.region ?_
    refine xk_makeMap (by decide) fun r => ?_
    refine xk_assign rfl (by decide) ?_
    refine XK.nilN ?_
    refine XK.seq ?_

    refine XK.region ?_
    refine xk_assign rfl (by decide) ?_
    refine XK.nilN ?_
    refine XK.seq ?_
    refine XK.nilrow 3 1 ?_
    refine XK.envS [(8, .slice none 0 0), (7, .map (some r)), (6, .slice (some ⟨gU, 0, none⟩) n n), (5, .slice (some ⟨gW, 0, none⟩) n n), (0, .slice A n c)] ?_
    refine XK.block ?_
    refine XK.loop (fun m e R H => ∃ (M : List Nat) (A' : Option Addr) (c' : Nat), M.length ≤ n ∧ m = n - M.length ∧ orderG g (n - M.length) M = orderG g g.length [] ∧ e = [(8, .slice A' M.length c'), (7, .map (some r)), (6, .slice (some ⟨gU, 0, none⟩) n n), (5, .slice (some ⟨gW, 0, none⟩) n n), (0, .slice A n c)] ∧ R = [q, all w] ∧ H = [HP.own 3 1 (.slice A' M.length c') M.length (intCells (natI M)), HP.map r (setL (natI M)), HP.blk gW 3 (intCells (waitsG g M))]) n ⟨[], none, 0, by simp, rfl, by rw [hn]; rfl, rfl, rfl, by rw [hn, waits_start hin]; rfl⟩ fun m e R H hI => ?_
    obtain ⟨M, A', c', hM, rfl, hord, rfl, rfl, rfl⟩ := hI
    refine XK.seq ?_
    refine XK.seq ?_

    refine XK.region ?_
    refine xk_move rfl (by decide) ?_
    refine xk_len (el := 3) (by kernel_rfl) rfl (by decide) ?_
    refine xk_move rfl (by decide) ?_
    refine xk_len (el := 22) (by kernel_rfl) rfl (by decide) ?_
    refine xk_lss rfl rfl (by decide) ?_
    refine XK.nilN ?_
    refine XK.if_ rfl (fun h => ?_) (fun h => ?_)
    ·
      refine XK.skip ?_
      refine XK.norm ?_
      refine XK.block ?_
      refine XK.seq ?_

      refine XK.region ?_
      refine xk_assign rfl (by decide) ?_
      refine XK.nilN ?_
      refine XK.cut (fun e R H => ∃ v : Nat, v ≤ n ∧ (∀ j, j < v → okN g M j = false) ∧ (v < n → okN g M v = true) ∧ e = [(9, .int .i64 v), (8, .slice A' M.length c'), (7, .map (some r)), (6, .slice (some ⟨gU, 0, none⟩) n n), (5, .slice (some ⟨gW, 0, none⟩) n n), (0, .slice A n c)] ∧ R = [q, all w] ∧ H = [HP.own 3 1 (.slice A' M.length c') M.length (intCells (natI M)), HP.map r (setL (natI M)), HP.blk gW 3 (intCells (waitsG g M))]) ?_ ?_
      ·
        refine XK.envS [(9, .int .i64 0), (8, .slice A' M.length c'), (7, .map (some r)), (6, .slice (some ⟨gU, 0, none⟩) n n), (5, .slice (some ⟨gW, 0, none⟩) n n), (0, .slice A n c)] ?_
        refine XK.block ?_
        refine XK.loop (fun m e R H => ∃ v : Nat, v ≤ n ∧ m = n - v ∧ (∀ j, j < v → okN g M j = false) ∧ e = [(9, .int .i64 v), (8, .slice A' M.length c'), (7, .map (some r)), (6, .slice (some ⟨gU, 0, none⟩) n n), (5, .slice (some ⟨gW, 0, none⟩) n n), (0, .slice A n c)] ∧ R = [q, all w] ∧ H = [HP.own 3 1 (.slice A' M.length c') M.length (intCells (natI M)), HP.map r (setL (natI M)), HP.blk gW 3 (intCells (waitsG g M))]) n ⟨0, by omega, rfl, fun j h => absurd h (by omega), rfl, rfl, rfl⟩ fun m e R H hI => ?_
        obtain ⟨v, hv, rfl, hno, rfl, rfl, rfl⟩ := hI
        refine XK.seq ?_
        refine XK.seq ?_

        refine XK.region ?_
        refine xk_move rfl (by decide) ?_
        refine xk_move rfl (by decide) ?_
        refine xk_len (el := 22) (by kernel_rfl) rfl (by decide) ?_
        refine xk_lss rfl rfl (by decide) ?_
        refine xk_move rfl (by decide) ?_
        refine xk_split (t := 32) rfl (fun hlt => ?_) (fun hlt => ?_)
        ·
          refine xk_guardT rfl rfl ?_; refine xk_move rfl (by decide) ?_
          refine xk_guardT rfl rfl ?_; refine xk_move rfl (by decide) ?_
          refine xk_guardT rfl rfl ?_; refine xk_callR (f := 102) (fi := []) (ca := []) (by kernel_rfl) rfl rfl (by decide) (fun w1 st => (natI_has M v) ▸ marks_has r v (natI M) w1 (st.map (i := 1) rfl)) ?_
          refine xk_guardT rfl rfl ?_; refine xk_move rfl (by decide) ?_
          refine xk_splitB (t := 36) rfl (fun hc => ?_) (fun hc => ?_)
          ·
            refine xk_guardF rfl rfl rfl (by decide) ?_
            refine xk_guardF rfl rfl rfl (by decide) ?_
            refine xk_guardF rfl rfl rfl (by decide) ?_
            refine xk_guardF rfl rfl rfl (by decide) ?_
            refine xk_guardF rfl rfl rfl (by decide) ?_
            refine xk_guardT rfl rfl ?_; (first | refine xk_pickT rfl rfl (by decide) ?_ | refine xk_pickF rfl rfl (by decide) ?_)
            (first | refine xk_pickT rfl rfl (by decide) ?_ | refine xk_pickF rfl rfl (by decide) ?_)
            refine XK.nilN ?_
            refine XK.cond rfl (fun _ => ?_) (fun h => by cases h)
            refine XK.skip ?_
            refine XK.norm ?_
            refine XK.block ?_

            refine XK.region ?_
            refine xk_move rfl (by decide) ?_
            refine xk_add rfl rfl (wrap_in (by omega)) (by decide) ?_
            refine xk_assign rfl (by decide) ?_
            refine XK.nilN ?_
            exact XK.envS [(9, .int .i64 (v + 1)), (8, .slice A' M.length c'), (7, .map (some r)), (6, .slice (some ⟨gU, 0, none⟩) n n), (5, .slice (some ⟨gW, 0, none⟩) n n), (0, .slice A n c)] (XK.round (n - (v + 1)) (by omega) ⟨v + 1, by omega, rfl, all_snoc hno (okN_met hc), rfl, rfl, rfl⟩)
          ·
            refine xk_guardT rfl rfl ?_; refine xk_move rfl (by decide) ?_
            refine xk_guardT rfl rfl ?_; refine xk_move rfl (by decide) ?_
            have hvn : v < g.length := by omega
            refine xk_guardT rfl rfl ?_; refine xk_at (v) (v) (el := 3) (sz := 1) (by kernel_rfl) (by kernel_rfl) rfl rfl (by omega) (by omega) (by omega) (by decide) ?_
            refine xk_guardT rfl rfl ?_; refine xk_load (by kernel_rfl) rfl (Rd.blk 2 rfl (intCells_at (waitsG_get hvn))) (by decide) ?_
            refine xk_guardT rfl rfl ?_; refine xk_gtr rfl rfl (by decide) ?_
            refine xk_guardT rfl rfl ?_; (first | refine xk_pickT rfl rfl (by decide) ?_ | refine xk_pickF rfl rfl (by decide) ?_)
            (first | refine xk_pickT rfl rfl (by decide) ?_ | refine xk_pickF rfl rfl (by decide) ?_)
            refine XK.nilN ?_
            refine XK.if_ rfl (fun h => ?_) (fun h => ?_)
            ·
              refine XK.skip ?_
              refine XK.norm ?_
              refine XK.block ?_

              refine XK.region ?_
              refine xk_move rfl (by decide) ?_
              refine xk_add rfl rfl (wrap_in (by omega)) (by decide) ?_
              refine xk_assign rfl (by decide) ?_
              refine XK.nilN ?_
              exact XK.envS [(9, .int .i64 (v + 1)), (8, .slice A' M.length c'), (7, .map (some r)), (6, .slice (some ⟨gU, 0, none⟩) n n), (5, .slice (some ⟨gW, 0, none⟩) n n), (0, .slice A n c)] (XK.round (n - (v + 1)) (by omega) ⟨v + 1, by omega, rfl, all_snoc hno (okN_waits h), rfl, rfl, rfl⟩)
            ·
              refine XK.exit ?_
              refine XK.norm ?_
              exact XK.envS [(9, .int .i64 v), (8, .slice A' M.length c'), (7, .map (some r)), (6, .slice (some ⟨gU, 0, none⟩) n n), (5, .slice (some ⟨gW, 0, none⟩) n n), (0, .slice A n c)] (XK.meet ⟨v, hv, hno, fun _ => okN_free hc h, rfl, rfl, rfl⟩)
        ·
          refine xk_guardF rfl rfl rfl (by decide) ?_
          refine xk_guardF rfl rfl rfl (by decide) ?_
          refine xk_guardF rfl rfl rfl (by decide) ?_
          refine xk_guardF rfl rfl rfl (by decide) ?_
          refine xk_guardU rfl rfl (by decide) ?_
          refine xk_guardU rfl rfl (by decide) ?_
          refine xk_guardU rfl rfl (by decide) ?_
          refine xk_guardU rfl rfl (by decide) ?_
          refine xk_guardU rfl rfl (by decide) ?_
          refine xk_guardF rfl rfl rfl (by decide) ?_
          (first | refine xk_pickT rfl rfl (by decide) ?_ | refine xk_pickF rfl rfl (by decide) ?_)
          refine XK.nilN ?_
          refine XK.cond rfl (fun h => by cases h) (fun _ => ?_)
          refine XK.exit ?_
          refine XK.norm ?_
          exact XK.envS [(9, .int .i64 v), (8, .slice A' M.length c'), (7, .map (some r)), (6, .slice (some ⟨gU, 0, none⟩) n n), (5, .slice (some ⟨gW, 0, none⟩) n n), (0, .slice A n c)] (XK.meet ⟨v, hv, hno, fun h => absurd h (by omega), rfl, rfl, rfl⟩)
      rintro _ _ _ ⟨v, hv, hno, hok, rfl, rfl, rfl⟩
      refine XK.seq ?_
      refine XK.seq ?_

      refine XK.region ?_
      refine xk_move rfl (by decide) ?_
      refine xk_move rfl (by decide) ?_
      refine xk_len (el := 22) (by kernel_rfl) rfl (by decide) ?_
      refine xk_eql rfl rfl (by decide) ?_
      refine XK.nilN ?_
      refine XK.if_ rfl (fun h => ?_) (fun h => ?_)
      ·
        refine XK.seq ?_

        refine XK.region ?_
        refine xk_assign rfl (by decide) ?_
        refine xk_assign rfl (by decide) ?_
        refine XK.nilN ?_
        refine XK.ret ?_
        refine XK.norm ?_
        exact XK.ret2 rfl rfl rfl fun w1 st => by
          have hnone : orderG g g.length [] = none := by
            rw [← hord, show n - M.length = (n - M.length - 1) + 1 by omega]
            exact orderG_stop (nextG_none fun j hj => hno j (by omega))
          rw [orderE_none h0 hnone]
          exact OrdOk.nil (st.below (by simp))
      ·
        have hvn : v < n := by omega
        have hv1 := hok hvn
        have hMv : M.contains v = false := by
          cases hb : M.contains v with
          | false => rfl
          | true => rw [okN_met hb] at hv1; cases hv1
        have hnx := nextG_some (by omega : v < g.length) hno hv1
        have hU := users_row hin (by omega : v < g.length)
        rw [← hn] at hU
        obtain ⟨b1, o1, B1, d1, hA1, hz1, hcl1, hs1⟩ := hq.rowP hU
        cases hA1
        have hul := usersG_len g v
        refine XK.skip ?_
        refine XK.norm ?_
        refine XK.seq ?_

        refine XK.region ?_
        refine xk_move rfl (by decide) ?_
        refine xk_move rfl (by decide) ?_
        refine xk_callM (f := 103) (fi := []) (ca := []) 1 (HP.map r (setL (if (natI M).contains (v : Int) then natI M else natI M ++ [(v : Int)]))) (by kernel_rfl) rfl rfl rfl ⟨by decide, rfl⟩ (fun w1 F st hp hF => marks_add r v (natI M) w1 F hp hF) ?_
        dsimp only [List.set]
        rw [if_neg (by rw [natI_has, hMv]; decide), ← natI_snoc]
        refine XK.nilN ?_
        refine XK.seq ?_

        refine XK.region ?_
        refine xk_move rfl (by decide) ?_
        refine xk_move rfl (by decide) ?_
        refine xk_slice (el := 3) (sz := 1) (zs := [.int .i64 0]) (by kernel_rfl) (zeroB_of (by kernel_rfl)) (by kernel_rfl) rfl (by decide) (by decide) rfl (by simp [fillL, setN, Value.cells, List.range_succ, List.set]; rfl) (by decide) fun g1 => ?_
        refine xk_appendT 1 1 8 1 (n' := (M ++ [v]).length) (el := 3) (by kernel_rfl) (by kernel_rfl) (by decide) rfl rfl rfl (sl_blk 0 rfl rfl) (by simp [Value.oneCell']) (by simp) (by simp; omega) (by simp; omega) (by decide) fun A2 c2 => ?_
        dsimp only [List.set]
        rw [intCells_snoc, ← natI_snoc]
        refine xk_assign rfl (by decide) ?_
        refine XK.nilN ?_
        refine XK.seq ?_

        refine XK.region ?_
        refine xk_move rfl (by decide) ?_
        refine xk_move rfl (by decide) ?_
        refine xk_at (v) (v) (el := 22) (sz := 1) (by kernel_rfl) (by kernel_rfl) rfl rfl (by omega) (by omega) (by omega) (by decide) ?_
        refine xk_load (by kernel_rfl) rfl (Rd.ro (p := q) (by simp) hz1 (by simpa using hcl1)) (by decide) ?_
        refine xk_len (el := 3) (by kernel_rfl) rfl (by decide) ?_
        refine xk_move rfl (by decide) ?_
        refine XK.nilN ?_
        refine XK.weak [1, 2, 3] rfl (by decide) (fun _ hp => hp) ?_
        refine XK.envS [(62, .int .i64 0), (61, .int .i64 (usersG g v).length), (60, .slice B1 (usersG g v).length d1), (8, .slice A2 (M ++ [v]).length c2), (7, .map (some r)), (6, .slice (some ⟨gU, 0, none⟩) n n), (5, .slice (some ⟨gW, 0, none⟩) n n), (0, .slice A n c)] ?_
        refine XK.block ?_
        refine XK.loop (fun m e R H => ∃ j : Nat, j ≤ (usersG g v).length ∧ m = (usersG g v).length - j ∧ e = [(62, .int .i64 j), (61, .int .i64 (usersG g v).length), (60, .slice B1 (usersG g v).length d1), (8, .slice A2 (M ++ [v]).length c2), (7, .map (some r)), (6, .slice (some ⟨gU, 0, none⟩) n n), (5, .slice (some ⟨gW, 0, none⟩) n n), (0, .slice A n c)] ∧ R = [q, all w] ∧ H = [HP.own 3 1 (.slice A2 (M ++ [v]).length c2) (M ++ [v]).length (intCells (natI (M ++ [v]))), HP.map r (setL (natI (M ++ [v]))), HP.blk gW 3 (intCells (decBy (waitsG g M) ((usersG g v).take j)))]) (usersG g v).length ⟨0, by omega, rfl, rfl, rfl, rfl⟩ fun m e R H hI => ?_
        obtain ⟨j, hj, rfl, rfl, rfl, rfl⟩ := hI
        refine XK.seq ?_

        refine XK.region ?_
        refine xk_lss rfl rfl (by decide) ?_
        refine XK.nilN ?_
        refine XK.seq ?_
        refine XK.if_ rfl (fun h => ?_) (fun h => ?_)
        ·
          refine XK.skip ?_
          refine XK.norm ?_
          refine XK.seq ?_
          refine XK.block ?_
          refine XK.seq ?_
          have hjl : j < (usersG g v).length := by omega
          obtain ⟨b2, off2, rfl, hz2, hc2⟩ := hs1.2 (by omega)
          obtain ⟨u, hu⟩ : ∃ u, (usersG g v)[j]? = some u := ⟨_, List.getElem?_eq_getElem hjl⟩
          have c3 := hc2 j _ (intCells_at hu)
          obtain ⟨hu0, hun⟩ := usersG_mem (List.mem_of_getElem? hu)
          have hug : u.toNat < g.length := by omega
          have hx := decBy_get ((usersG g v).take j) (waitsG g M) u.toNat (fun y hy => (usersG_mem (List.mem_of_mem_take hy)).1) (by rw [waitsG_len]; exact hug)
          rw [waitsG_get hug] at hx
          have hcnt : ((usersG g v).take j).count ((u.toNat : Nat) : Int) ≤ j := Nat.le_trans List.count_le_length (by simp; omega)
          obtain ⟨x, hxe⟩ : ∃ x : Int, x = (some (waitN g M u.toNat : Int)).getD 0 - (((usersG g v).take j).count ((u.toNat : Nat) : Int) : Int) := ⟨_, rfl⟩
          rw [← hxe] at hx
          have hwl := waitN_le g M u.toNat
          have hgl : ((g[u.toNat]?.getD []).length : Int) ≤ 9223372036854775806 := by
            rw [List.getElem?_eq_getElem hug]; exact hlen _ (List.getElem_mem _)
          simp only [Option.getD_some] at hxe

          refine XK.region ?_
          refine xk_at (j) (off2 + j) (el := 3) (sz := 1) (by kernel_rfl) (by kernel_rfl) rfl rfl (by omega) (by omega) (by omega) (by decide) ?_
          refine xk_load (by kernel_rfl) rfl (Rd.ro (p := q) (by simp) hz2 c3) (by decide) ?_
          refine xk_assign rfl (by decide) ?_
          refine XK.nilN ?_

          refine XK.region ?_
          refine xk_move rfl (by decide) ?_
          refine xk_move rfl (by decide) ?_
          refine xk_at (u.toNat) (u.toNat) (el := 3) (sz := 1) (by kernel_rfl) (by kernel_rfl) rfl rfl (by omega) (by omega) (by omega) (by decide) ?_
          refine xk_load (by kernel_rfl) rfl (Rd.blk 2 rfl (intCells_at hx)) (by decide) ?_
          refine xk_sub rfl rfl (wrap_in (by omega)) (by decide) ?_
          refine xk_at (u.toNat) (u.toNat) (el := 3) (sz := 1) (by kernel_rfl) (by kernel_rfl) rfl rfl (by omega) (by omega) (by omega) (by decide) ?_
          refine xk_store 2 rfl (by kernel_rfl) rfl rfl rfl (by rw [show (intCells (decBy (waitsG g M) ((usersG g v).take j))).length = g.length by simp [intCells, decBy_len, waitsG_len]]; exact hug) ?_
          dsimp only [List.set]
          rw [waits_set _ _ j u x hu hx]
          refine XK.nilN ?_

          refine XK.region ?_
          refine xk_add rfl rfl (wrap_in (by omega)) (by decide) ?_
          refine xk_move rfl (by decide) ?_
          refine XK.nilN ?_
          exact XK.envS [(62, .int .i64 (j + 1)), (61, .int .i64 (usersG g v).length), (60, .slice (some ⟨b2, off2, none⟩) (usersG g v).length d1), (8, .slice A2 (M ++ [v]).length c2), (7, .map (some r)), (6, .slice (some ⟨gU, 0, none⟩) n n), (5, .slice (some ⟨gW, 0, none⟩) n n), (0, .slice A n c)] (XK.round ((usersG g v).length - (j + 1)) (by omega) ⟨j + 1, by omega, rfl, rfl, rfl, rfl⟩)
        ·
          refine XK.exit ?_
          refine XK.norm ?_
          exact XK.envS [(8, .slice A2 (M ++ [v]).length c2), (7, .map (some r)), (6, .slice (some ⟨gU, 0, none⟩) n n), (5, .slice (some ⟨gW, 0, none⟩) n n), (0, .slice A n c)] (XK.round (n - (M ++ [v]).length) (by simp; omega) ⟨M ++ [v], A2, c2, (by simp; omega), rfl, by rw [← hord, show n - M.length = (n - (M ++ [v]).length) + 1 by simp; omega, orderG_step hnx], rfl, rfl, by rw [show j = (usersG g v).length by omega, List.take_length, waits_snoc hin hMv]⟩)
    ·
      refine XK.exit ?_
      refine XK.norm ?_
      refine XK.seq ?_

      refine XK.region ?_
      refine xk_move rfl (by decide) ?_
      refine xk_assign rfl (by decide) ?_
      refine xk_assign rfl (by decide) ?_
      refine XK.nilN ?_
      refine XK.ret ?_
      refine XK.norm ?_
      refine XK.still [] [0] [] (by simp) rfl (by decide) (by decide) fun p hp _ hfr => ?_
      refine XK.ret2 rfl rfl rfl fun w1 st => ?_
      have hsome : orderG g g.length [] = some M := by rw [← hord, show n - M.length = 0 by omega]; rfl
      rw [orderE_some h0 hsome]
      exact ⟨⟨_, _, _, rfl, rfl, (SlS.own (hp 0 _ (by simp) rfl)).le (st.fresh_le (by simp) (hfr (by simp) (by simp)))⟩, st.below (by simp)⟩

end Go.Proofs.YtbgibbbggajgaaaGreat
/- conf: its small functions, and the two that ask one behind the other. -/
namespace Go.Proofs.YtbgibbbggajgaaaGreat
set_option linter.all false
open Go.RowKit
theorem zeros_snoc {es : List Int} {k : Nat} (hz : ∀ j, j < k → es[j]? = some 0) (h : es[k]? = some 0) : ∀ j, j < k + 1 → es[j]? = some 0 := fun j hj => by
  rcases Nat.lt_or_ge j k with h1 | h1
  · exact hz j h1
  · have : j = k := by omega
    rw [this]
    exact h

theorem when_any (b : Bool) (e : Int) (w : World) :
    Calls Tryz.prog 124 #[.bool b, .int .i64 e] w (Rt (.int .i64 (whenE b e)) w) := by
  refine XK.enter (vs := [.bool b, .int .i64 e]) Tryz.func124 rfl Tryz.ntmps124 (by simp) ?_
  refine XK.seq ?_

  refine XK.region ?_
  refine xk_assign rfl (by decide) ?_
  refine XK.nilN ?_
  refine XK.seq ?_
  refine XK.seq ?_

  refine XK.region ?_
  refine xk_move rfl (by decide) ?_
  refine XK.nilN ?_
  refine XK.cond rfl (fun h => ?_) (fun h => ?_)
  ·
    refine XK.seq ?_

    refine XK.region ?_
    refine xk_move rfl (by decide) ?_
    refine xk_assign rfl (by decide) ?_
    refine XK.nilN ?_
    refine XK.ret ?_
    refine XK.norm ?_
    exact XK.ret1 rfl rfl fun w1 st => ⟨by simp [whenE, h], st.below (by simp)⟩
  ·
    refine XK.skip ?_
    refine XK.norm ?_
    refine XK.seq ?_

    refine XK.region ?_
    refine xk_assign rfl (by decide) ?_
    refine XK.nilN ?_
    refine XK.ret ?_
    refine XK.norm ?_
    exact XK.ret1 rfl rfl fun w1 st => ⟨by simp [whenE, h], st.below (by simp)⟩

theorem within_any (n lo hi : Int) (w : World) :
    Calls Tryz.prog 130 #[.int .i64 n, .int .i64 lo, .int .i64 hi] w (Rt (.bool (withinB n lo hi)) w) := by
  refine XK.enter (vs := [.int .i64 n, .int .i64 lo, .int .i64 hi]) Tryz.func130 rfl Tryz.ntmps130 (by simp) ?_
  refine XK.seq ?_

  refine XK.region ?_
  refine xk_assign rfl (by decide) ?_
  refine XK.nilN ?_
  refine XK.seq ?_

  refine XK.region ?_
  refine xk_move rfl (by decide) ?_
  refine xk_move rfl (by decide) ?_
  refine xk_geq rfl rfl (by decide) ?_
  refine xk_move rfl (by decide) ?_
  refine xk_split (t := 10) rfl (fun hg => ?_) (fun hg => ?_)
  ·
    refine xk_guardT rfl rfl ?_; refine xk_move rfl (by decide) ?_
    refine xk_guardT rfl rfl ?_; refine xk_move rfl (by decide) ?_
    refine xk_guardT rfl rfl ?_; refine xk_leq rfl rfl (by decide) ?_
    (first | refine xk_pickT rfl rfl (by decide) ?_ | refine xk_pickF rfl rfl (by decide) ?_)
    refine xk_assign rfl (by decide) ?_
    refine XK.nilN ?_
    refine XK.ret ?_
    refine XK.norm ?_
    exact XK.ret1 rfl rfl fun w1 st => ⟨by simp [withinB, hg], st.below (by simp)⟩
  ·
    refine xk_guardF rfl rfl rfl (by decide) ?_
    refine xk_guardF rfl rfl rfl (by decide) ?_
    refine xk_guardF rfl rfl rfl (by decide) ?_
    (first | refine xk_pickT rfl rfl (by decide) ?_ | refine xk_pickF rfl rfl (by decide) ?_)
    refine xk_assign rfl (by decide) ?_
    refine XK.nilN ?_
    refine XK.ret ?_
    refine XK.norm ?_
    exact XK.ret1 rfl rfl fun w1 st => ⟨by simp [withinB, hg], st.below (by simp)⟩

theorem first_any (A : Option Addr) (n c : Nat) (fs : List (FuncId × List Value)) (es : List Int) (w : World) (hs : SlS (all w) 1 A n (fs.map fun f => .func (.func f.1) #[] f.2.toArray)) (hn : fs.length = n) (hl : es.length = n) (hn2 : (n : Int) ≤ 9223372036854775806) (hc : ∀ f ∈ fs, callB Tryz.prog f.1 = true)
    (hf : ∀ (i : Nat) (f : FuncId × List Value) (e : Int), fs[i]? = some f → es[i]? = some e → ∀ w', Below w.heap.size w w' → Calls Tryz.prog f.1 f.2.toArray w' (Rt (.int .i64 e) w')) :
    Calls Tryz.prog 78 #[.slice A n c] w (Rt (.int .i64 (firstE es)) w) := by
  refine XK.enter (vs := [.slice A n c]) Tryz.func78 rfl Tryz.ntmps78 (by simp) ?_
  refine XK.seq ?_

  refine XK.region ?_
  refine xk_assign rfl (by decide) ?_
  refine XK.nilN ?_
  refine XK.seq ?_
  refine XK.seq ?_

  refine XK.region ?_
  refine xk_move rfl (by decide) ?_
  refine xk_len (el := 149) (by kernel_rfl) rfl (by decide) ?_
  refine xk_move rfl (by decide) ?_
  refine XK.nilN ?_
  refine XK.envS [(8, .int .i64 0), (7, .int .i64 n), (6, .slice A n c)] ?_
  refine XK.block ?_
  refine XK.loop (fun m e R H => ∃ k : Nat, k ≤ n ∧ m = n - k ∧ (∀ j, j < k → es[j]? = some 0) ∧ e = [(8, .int .i64 k), (7, .int .i64 n), (6, .slice A n c)] ∧ R = [all w] ∧ H = []) n ⟨0, by omega, rfl, fun j hj => absurd hj (by omega), rfl, rfl, rfl⟩ fun m e R H hI => ?_
  obtain ⟨k, hk, rfl, hz, rfl, rfl, rfl⟩ := hI
  refine XK.seq ?_

  refine XK.region ?_
  refine xk_lss rfl rfl (by decide) ?_
  refine XK.nilN ?_
  refine XK.seq ?_
  refine XK.if_ rfl (fun h => ?_) (fun h => ?_)
  ·
    refine XK.skip ?_
    refine XK.norm ?_
    refine XK.seq ?_
    refine XK.block ?_
    refine XK.seq ?_
    have hkn : k < n := by omega
    obtain ⟨f, hf1⟩ : ∃ f, fs[k]? = some f := ⟨fs[k]'(by omega), List.getElem?_eq_getElem _⟩
    obtain ⟨e1, he1⟩ : ∃ e, es[k]? = some e := ⟨es[k]'(by omega), List.getElem?_eq_getElem _⟩
    obtain ⟨b, off, rfl, hzb, hc1⟩ := hs.2 (by omega)
    have c1 : ROc w b (off + k) (.func (.func f.1) #[] f.2.toArray) := ⟨hzb, hc1 k _ (by simp [hf1])⟩

    refine XK.region ?_
    refine xk_at (k) (off + k) (el := 149) (sz := 1) (by kernel_rfl) (by kernel_rfl) rfl rfl (by omega) (by omega) (by omega) (by decide) ?_
    refine xk_ld rfl ?_
    refine xk_assign rfl (by decide) ?_
    refine XK.nilN ?_
    refine XK.seq ?_

    refine XK.region ?_
    refine xk_move rfl (by decide) ?_
    refine xk_callR (f := f.1) (fi := []) (ca := f.2) (hc f (List.mem_of_getElem? hf1)) rfl rfl (by decide) (fun w1 st => by have := hf k f e1 hf1 he1 w1 (st.started (by simp)); simpa using this) ?_
    refine xk_assign rfl (by decide) ?_
    refine XK.nilN ?_
    refine XK.seq ?_

    refine XK.region ?_
    refine xk_move rfl (by decide) ?_
    refine xk_neq rfl rfl (by decide) ?_
    refine XK.nilN ?_
    refine XK.if_ rfl (fun h => ?_) (fun h => ?_)
    ·
      refine XK.seq ?_

      refine XK.region ?_
      refine xk_move rfl (by decide) ?_
      refine xk_assign rfl (by decide) ?_
      refine XK.nilN ?_
      refine XK.ret ?_
      refine XK.norm ?_
      exact XK.ret1 rfl rfl fun w1 st => ⟨by rw [firstE_at hz he1 h], st.below (by simp)⟩
    ·
      refine XK.skip ?_
      refine XK.norm ?_

      refine XK.region ?_
      refine xk_add rfl rfl (wrap_in (by omega)) (by decide) ?_
      refine xk_move rfl (by decide) ?_
      refine XK.nilN ?_
      exact XK.envS [(8, .int .i64 (k + 1)), (7, .int .i64 n), (6, .slice (some ⟨b, off, none⟩) n c)] (XK.round (n - (k + 1)) (by omega) ⟨k + 1, by omega, rfl, (zeros_snoc hz (by rw [he1, show e1 = 0 by omega])), rfl, rfl, rfl⟩)
  ·
    refine XK.exit ?_
    refine XK.norm ?_
    refine XK.seq ?_

    refine XK.region ?_
    refine xk_assign rfl (by decide) ?_
    refine XK.nilN ?_
    refine XK.ret ?_
    refine XK.norm ?_
    exact XK.ret1 rfl rfl fun w1 st => ⟨by rw [firstE_none (fun j hj => hz j (by omega))], st.below (by simp)⟩

theorem each_int (A : Option Addr) (n c : Nat) (id : FuncId) (ca : List Value) (rows : List (List Value)) (es : List Int) (w : World) (hs : SlS (all w) 1 A n rows.flatten) (hr : ∀ r ∈ rows, r.length = 1) (hn : rows.length = n) (hl : es.length = n) (hn2 : (n : Int) ≤ 9223372036854775806) (hc : callB Tryz.prog id = true)
    (hf : ∀ (i : Nat) (r : List Value) (e : Int), rows[i]? = some r → es[i]? = some e → ∀ w', Below w.heap.size w w' → Calls Tryz.prog id (r ++ ca).toArray w' (Rt (.int .i64 e) w')) :
    Calls Tryz.prog 128 #[.slice A n c, .func (.func id) #[] ca.toArray] w (Rt (.int .i64 (firstE es)) w) := by
  refine XK.enter (vs := [.slice A n c, .func (.func id) #[] ca.toArray]) Tryz.func128 rfl Tryz.ntmps128 (by simp) ?_
  refine XK.seq ?_

  refine XK.region ?_
  refine xk_assign rfl (by decide) ?_
  refine XK.nilN ?_
  refine XK.seq ?_
  refine XK.seq ?_

  refine XK.region ?_
  refine xk_move rfl (by decide) ?_
  refine xk_len (el := 3) (by kernel_rfl) rfl (by decide) ?_
  refine xk_move rfl (by decide) ?_
  refine XK.nilN ?_
  refine XK.envS [(10, .int .i64 0), (9, .int .i64 n), (8, .slice A n c), (1, .func (.func id) #[] ca.toArray)] ?_
  refine XK.block ?_
  refine XK.loop (fun m e R H => ∃ k : Nat, k ≤ n ∧ m = n - k ∧ (∀ j, j < k → es[j]? = some 0) ∧ e = [(10, .int .i64 k), (9, .int .i64 n), (8, .slice A n c), (1, .func (.func id) #[] ca.toArray)] ∧ R = [all w] ∧ H = []) n ⟨0, by omega, rfl, fun j hj => absurd hj (by omega), rfl, rfl, rfl⟩ fun m e R H hI => ?_
  obtain ⟨k, hk, rfl, hz, rfl, rfl, rfl⟩ := hI
  refine XK.seq ?_

  refine XK.region ?_
  refine xk_lss rfl rfl (by decide) ?_
  refine XK.nilN ?_
  refine XK.seq ?_
  refine XK.if_ rfl (fun h => ?_) (fun h => ?_)
  ·
    refine XK.skip ?_
    refine XK.norm ?_
    refine XK.seq ?_
    refine XK.block ?_
    refine XK.seq ?_
    have hkn : k < n := by omega
    obtain ⟨r, hr1⟩ : ∃ r, rows[k]? = some r := ⟨rows[k]'(by omega), List.getElem?_eq_getElem _⟩
    obtain ⟨e1, he1⟩ : ∃ e, es[k]? = some e := ⟨es[k]'(by omega), List.getElem?_eq_getElem _⟩
    obtain ⟨b, off, rfl, c1⟩ := hs.row hr hr1 hkn
    have hr2 := hr r (List.mem_of_getElem? hr1)
    obtain ⟨v, rfl⟩ : ∃ v, r = [v] := by match r, hr2 with | [v], _ => exact ⟨v, rfl⟩
    have c2 := c1.at_ (j := 0) rfl

    refine XK.region ?_
    refine xk_at (k) (off + k * 1) (el := 3) (sz := 1) (by kernel_rfl) (by kernel_rfl) rfl rfl (by omega) (by omega) (by omega) (by decide) ?_
    refine xk_load (by kernel_rfl) rfl (Rd.roc (by simp) (by simpa using c2)) (by decide) ?_
    refine xk_assign rfl (by decide) ?_
    refine XK.nilN ?_
    refine XK.seq ?_

    refine XK.region ?_
    refine xk_move rfl (by decide) ?_
    refine xk_move rfl (by decide) ?_
    refine xk_callR (f := id) (fi := []) (ca := ca) hc rfl rfl (by decide) (fun w1 st => by have := hf k [v] e1 hr1 he1 w1 (st.started (by simp)); simpa using this) ?_
    refine xk_assign rfl (by decide) ?_
    refine XK.nilN ?_
    refine XK.seq ?_

    refine XK.region ?_
    refine xk_move rfl (by decide) ?_
    refine xk_neq rfl rfl (by decide) ?_
    refine XK.nilN ?_
    refine XK.if_ rfl (fun h => ?_) (fun h => ?_)
    ·
      refine XK.seq ?_

      refine XK.region ?_
      refine xk_move rfl (by decide) ?_
      refine xk_assign rfl (by decide) ?_
      refine XK.nilN ?_
      refine XK.ret ?_
      refine XK.norm ?_
      exact XK.ret1 rfl rfl fun w1 st => ⟨by rw [firstE_at hz he1 h], st.below (by simp)⟩
    ·
      refine XK.skip ?_
      refine XK.norm ?_

      refine XK.region ?_
      refine xk_add rfl rfl (wrap_in (by omega)) (by decide) ?_
      refine xk_move rfl (by decide) ?_
      refine XK.nilN ?_
      exact XK.envS [(10, .int .i64 (k + 1)), (9, .int .i64 n), (8, .slice (some ⟨b, off, none⟩) n c), (1, .func (.func id) #[] ca.toArray)] (XK.round (n - (k + 1)) (by omega) ⟨k + 1, by omega, rfl, (zeros_snoc hz (by rw [he1, show e1 = 0 by omega])), rfl, rfl, rfl⟩)
  ·
    refine XK.exit ?_
    refine XK.norm ?_
    refine XK.seq ?_

    refine XK.region ?_
    refine xk_assign rfl (by decide) ?_
    refine XK.nilN ?_
    refine XK.ret ?_
    refine XK.norm ?_
    exact XK.ret1 rfl rfl fun w1 st => ⟨by rw [firstE_none (fun j hj => hz j (by omega))], st.below (by simp)⟩

theorem each_clk (A : Option Addr) (n c : Nat) (id : FuncId) (ca : List Value) (rows : List (List Value)) (es : List Int) (w : World) (hs : SlS (all w) 6 A n rows.flatten) (hr : ∀ r ∈ rows, r.length = 6) (hone : ∀ r ∈ rows, ∀ u ∈ r, u.oneCell' = true) (hn : rows.length = n) (hl : es.length = n) (hn2 : (n : Int) ≤ 9223372036854775806) (hc : callB Tryz.prog id = true)
    (hf : ∀ (i : Nat) (r : List Value) (e : Int), rows[i]? = some r → es[i]? = some e → ∀ w', Below w.heap.size w w' → Calls Tryz.prog id ([Value.agg r.toArray] ++ ca).toArray w' (Rt (.int .i64 e) w')) :
    Calls Tryz.prog 82 #[.slice A n c, .func (.func id) #[] ca.toArray] w (Rt (.int .i64 (firstE es)) w) := by
  refine XK.enter (vs := [.slice A n c, .func (.func id) #[] ca.toArray]) Tryz.func82 rfl Tryz.ntmps82 (by simp) ?_
  refine XK.seq ?_

  refine XK.region ?_
  refine xk_assign rfl (by decide) ?_
  refine XK.nilN ?_
  refine XK.seq ?_
  refine XK.seq ?_

  refine XK.region ?_
  refine xk_move rfl (by decide) ?_
  refine xk_len (el := 87) (by kernel_rfl) rfl (by decide) ?_
  refine xk_move rfl (by decide) ?_
  refine XK.nilN ?_
  refine XK.envS [(10, .int .i64 0), (9, .int .i64 n), (8, .slice A n c), (1, .func (.func id) #[] ca.toArray)] ?_
  refine XK.block ?_
  refine XK.loop (fun m e R H => ∃ k : Nat, k ≤ n ∧ m = n - k ∧ (∀ j, j < k → es[j]? = some 0) ∧ e = [(10, .int .i64 k), (9, .int .i64 n), (8, .slice A n c), (1, .func (.func id) #[] ca.toArray)] ∧ R = [all w] ∧ H = []) n ⟨0, by omega, rfl, fun j hj => absurd hj (by omega), rfl, rfl, rfl⟩ fun m e R H hI => ?_
  obtain ⟨k, hk, rfl, hz, rfl, rfl, rfl⟩ := hI
  refine XK.seq ?_

  refine XK.region ?_
  refine xk_lss rfl rfl (by decide) ?_
  refine XK.nilN ?_
  refine XK.seq ?_
  refine XK.if_ rfl (fun h => ?_) (fun h => ?_)
  ·
    refine XK.skip ?_
    refine XK.norm ?_
    refine XK.seq ?_
    refine XK.block ?_
    refine XK.seq ?_
    have hkn : k < n := by omega
    obtain ⟨r, hr1⟩ : ∃ r, rows[k]? = some r := ⟨rows[k]'(by omega), List.getElem?_eq_getElem _⟩
    obtain ⟨e1, he1⟩ : ∃ e, es[k]? = some e := ⟨es[k]'(by omega), List.getElem?_eq_getElem _⟩
    obtain ⟨b, off, rfl, c1⟩ := hs.row hr hr1 hkn
    have hr2 := hr r (List.mem_of_getElem? hr1)

    refine XK.region ?_
    refine xk_at (k) (off + k * 6) (el := 87) (sz := 6) (by kernel_rfl) (by kernel_rfl) rfl rfl (by omega) (by omega) (by omega) (by decide) ?_
    refine xk_loadN 6 (by kernel_rfl) rfl (by first | assumption | exact RdN.whole 0 rfl | exact RdN.whole 1 rfl | exact RdN.whole 2 rfl | exact RdN.whole 3 rfl | exact RdN.whole 4 rfl | exact RdN.whole 5 rfl | exact RdN.whole 6 rfl | exact RdN.whole 7 rfl | exact RdN.whole 8 rfl | exact RdN.roc (by simp) (by assumption)) hr2 (by decide) ?_
    refine xk_alloc (cs := [.int .u8 0, .slice none 0 0, .int .u64 0, .int .i64 0, .int .i64 0, .int .i64 0]) (zeroB_of (by kernel_rfl)) (by decide) fun g1 => ?_
    refine xk_storeN 0 rfl rfl rfl (by rw [show (Value.agg r.toArray).cells.size = 6 by simp [Value.cells, hr2]]; kernel_rfl) (hone r (List.mem_of_getElem? hr1)) (by simp [Value.cells, hr2]) ?_
    rw [putN_all (by simp [Value.cells, hr2])]
    dsimp only [List.set, Value.cells]
    refine XK.nilN ?_
    refine XK.seq ?_

    refine XK.region ?_
    refine xk_move rfl (by decide) ?_
    refine xk_loadN 6 (by kernel_rfl) rfl (by first | assumption | exact RdN.whole 0 rfl | exact RdN.whole 1 rfl | exact RdN.whole 2 rfl | exact RdN.whole 3 rfl | exact RdN.whole 4 rfl | exact RdN.whole 5 rfl | exact RdN.whole 6 rfl | exact RdN.whole 7 rfl | exact RdN.whole 8 rfl | exact RdN.roc (by simp) (by assumption)) hr2 (by decide) ?_
    refine xk_callR (f := id) (fi := []) (ca := ca) hc rfl rfl (by decide) (fun w1 st => by have := hf k r e1 hr1 he1 w1 (st.started (by simp)); simpa using this) ?_
    refine xk_assign rfl (by decide) ?_
    refine XK.nilN ?_
    refine XK.seq ?_

    refine XK.region ?_
    refine xk_move rfl (by decide) ?_
    refine xk_neq rfl rfl (by decide) ?_
    refine XK.nilN ?_
    refine XK.if_ rfl (fun h => ?_) (fun h => ?_)
    ·
      refine XK.seq ?_

      refine XK.region ?_
      refine xk_move rfl (by decide) ?_
      refine xk_assign rfl (by decide) ?_
      refine XK.nilN ?_
      refine XK.ret ?_
      refine XK.norm ?_
      exact XK.ret1 rfl rfl fun w1 st => ⟨by rw [firstE_at hz he1 h], st.below (by simp)⟩
    ·
      refine XK.skip ?_
      refine XK.norm ?_

      refine XK.region ?_
      refine xk_add rfl rfl (wrap_in (by omega)) (by decide) ?_
      refine xk_move rfl (by decide) ?_
      refine XK.nilN ?_
      exact XK.weak [] rfl (by decide) (by simp) (XK.envS [(10, .int .i64 (k + 1)), (9, .int .i64 n), (8, .slice (some ⟨b, off, none⟩) n c), (1, .func (.func id) #[] ca.toArray)] (XK.round (n - (k + 1)) (by omega) ⟨k + 1, by omega, rfl, (zeros_snoc hz (by rw [he1, show e1 = 0 by omega])), rfl, rfl, rfl⟩))
  ·
    refine XK.exit ?_
    refine XK.norm ?_
    refine XK.seq ?_

    refine XK.region ?_
    refine xk_assign rfl (by decide) ?_
    refine XK.nilN ?_
    refine XK.ret ?_
    refine XK.norm ?_
    exact XK.ret1 rfl rfl fun w1 st => ⟨by rw [firstE_none (fun j hj => hz j (by omega))], st.below (by simp)⟩

theorem each_dom (A : Option Addr) (n c : Nat) (id : FuncId) (ca : List Value) (rows : List (List Value)) (es : List Int) (w : World) (hs : SlS (all w) 3 A n rows.flatten) (hr : ∀ r ∈ rows, r.length = 3) (hone : ∀ r ∈ rows, ∀ u ∈ r, u.oneCell' = true) (hn : rows.length = n) (hl : es.length = n) (hn2 : (n : Int) ≤ 9223372036854775806) (hc : callB Tryz.prog id = true)
    (hf : ∀ (i : Nat) (r : List Value) (e : Int), rows[i]? = some r → es[i]? = some e → ∀ w', Below w.heap.size w w' → Calls Tryz.prog id ([Value.agg r.toArray] ++ ca).toArray w' (Rt (.int .i64 e) w')) :
    Calls Tryz.prog 88 #[.slice A n c, .func (.func id) #[] ca.toArray] w (Rt (.int .i64 (firstE es)) w) := by
  refine XK.enter (vs := [.slice A n c, .func (.func id) #[] ca.toArray]) Tryz.func88 rfl Tryz.ntmps88 (by simp) ?_
  refine XK.seq ?_

  refine XK.region ?_
  refine xk_assign rfl (by decide) ?_
  refine XK.nilN ?_
  refine XK.seq ?_
  refine XK.seq ?_

  refine XK.region ?_
  refine xk_move rfl (by decide) ?_
  refine xk_len (el := 89) (by kernel_rfl) rfl (by decide) ?_
  refine xk_move rfl (by decide) ?_
  refine XK.nilN ?_
  refine XK.envS [(10, .int .i64 0), (9, .int .i64 n), (8, .slice A n c), (1, .func (.func id) #[] ca.toArray)] ?_
  refine XK.block ?_
  refine XK.loop (fun m e R H => ∃ k : Nat, k ≤ n ∧ m = n - k ∧ (∀ j, j < k → es[j]? = some 0) ∧ e = [(10, .int .i64 k), (9, .int .i64 n), (8, .slice A n c), (1, .func (.func id) #[] ca.toArray)] ∧ R = [all w] ∧ H = []) n ⟨0, by omega, rfl, fun j hj => absurd hj (by omega), rfl, rfl, rfl⟩ fun m e R H hI => ?_
  obtain ⟨k, hk, rfl, hz, rfl, rfl, rfl⟩ := hI
  refine XK.seq ?_

  refine XK.region ?_
  refine xk_lss rfl rfl (by decide) ?_
  refine XK.nilN ?_
  refine XK.seq ?_
  refine XK.if_ rfl (fun h => ?_) (fun h => ?_)
  ·
    refine XK.skip ?_
    refine XK.norm ?_
    refine XK.seq ?_
    refine XK.block ?_
    refine XK.seq ?_
    have hkn : k < n := by omega
    obtain ⟨r, hr1⟩ : ∃ r, rows[k]? = some r := ⟨rows[k]'(by omega), List.getElem?_eq_getElem _⟩
    obtain ⟨e1, he1⟩ : ∃ e, es[k]? = some e := ⟨es[k]'(by omega), List.getElem?_eq_getElem _⟩
    obtain ⟨b, off, rfl, c1⟩ := hs.row hr hr1 hkn
    have hr2 := hr r (List.mem_of_getElem? hr1)

    refine XK.region ?_
    refine xk_at (k) (off + k * 3) (el := 89) (sz := 3) (by kernel_rfl) (by kernel_rfl) rfl rfl (by omega) (by omega) (by omega) (by decide) ?_
    refine xk_loadN 3 (by kernel_rfl) rfl (by first | assumption | exact RdN.whole 0 rfl | exact RdN.whole 1 rfl | exact RdN.whole 2 rfl | exact RdN.whole 3 rfl | exact RdN.whole 4 rfl | exact RdN.whole 5 rfl | exact RdN.whole 6 rfl | exact RdN.whole 7 rfl | exact RdN.whole 8 rfl | exact RdN.roc (by simp) (by assumption)) hr2 (by decide) ?_
    refine xk_alloc (cs := [.int .i64 0, .int .i64 0, .bool false]) (zeroB_of (by kernel_rfl)) (by decide) fun g1 => ?_
    refine xk_storeN 0 rfl rfl rfl (by rw [show (Value.agg r.toArray).cells.size = 3 by simp [Value.cells, hr2]]; kernel_rfl) (hone r (List.mem_of_getElem? hr1)) (by simp [Value.cells, hr2]) ?_
    rw [putN_all (by simp [Value.cells, hr2])]
    dsimp only [List.set, Value.cells]
    refine XK.nilN ?_
    refine XK.seq ?_

    refine XK.region ?_
    refine xk_move rfl (by decide) ?_
    refine xk_loadN 3 (by kernel_rfl) rfl (by first | assumption | exact RdN.whole 0 rfl | exact RdN.whole 1 rfl | exact RdN.whole 2 rfl | exact RdN.whole 3 rfl | exact RdN.whole 4 rfl | exact RdN.whole 5 rfl | exact RdN.whole 6 rfl | exact RdN.whole 7 rfl | exact RdN.whole 8 rfl | exact RdN.roc (by simp) (by assumption)) hr2 (by decide) ?_
    refine xk_callR (f := id) (fi := []) (ca := ca) hc rfl rfl (by decide) (fun w1 st => by have := hf k r e1 hr1 he1 w1 (st.started (by simp)); simpa using this) ?_
    refine xk_assign rfl (by decide) ?_
    refine XK.nilN ?_
    refine XK.seq ?_

    refine XK.region ?_
    refine xk_move rfl (by decide) ?_
    refine xk_neq rfl rfl (by decide) ?_
    refine XK.nilN ?_
    refine XK.if_ rfl (fun h => ?_) (fun h => ?_)
    ·
      refine XK.seq ?_

      refine XK.region ?_
      refine xk_move rfl (by decide) ?_
      refine xk_assign rfl (by decide) ?_
      refine XK.nilN ?_
      refine XK.ret ?_
      refine XK.norm ?_
      exact XK.ret1 rfl rfl fun w1 st => ⟨by rw [firstE_at hz he1 h], st.below (by simp)⟩
    ·
      refine XK.skip ?_
      refine XK.norm ?_

      refine XK.region ?_
      refine xk_add rfl rfl (wrap_in (by omega)) (by decide) ?_
      refine xk_move rfl (by decide) ?_
      refine XK.nilN ?_
      exact XK.weak [] rfl (by decide) (by simp) (XK.envS [(10, .int .i64 (k + 1)), (9, .int .i64 n), (8, .slice (some ⟨b, off, none⟩) n c), (1, .func (.func id) #[] ca.toArray)] (XK.round (n - (k + 1)) (by omega) ⟨k + 1, by omega, rfl, (zeros_snoc hz (by rw [he1, show e1 = 0 by omega])), rfl, rfl, rfl⟩))
  ·
    refine XK.exit ?_
    refine XK.norm ?_
    refine XK.seq ?_

    refine XK.region ?_
    refine xk_assign rfl (by decide) ?_
    refine XK.nilN ?_
    refine XK.ret ?_
    refine XK.norm ?_
    exact XK.ret1 rfl rfl fun w1 st => ⟨by rw [firstE_none (fun j hj => hz j (by omega))], st.below (by simp)⟩

theorem each_rst (A : Option Addr) (n c : Nat) (id : FuncId) (ca : List Value) (rows : List (List Value)) (es : List Int) (w : World) (hs : SlS (all w) 1 A n rows.flatten) (hr : ∀ r ∈ rows, r.length = 1) (hone : ∀ r ∈ rows, ∀ u ∈ r, u.oneCell' = true) (hn : rows.length = n) (hl : es.length = n) (hn2 : (n : Int) ≤ 9223372036854775806) (hc : callB Tryz.prog id = true)
    (hf : ∀ (i : Nat) (r : List Value) (e : Int), rows[i]? = some r → es[i]? = some e → ∀ w', Below w.heap.size w w' → Calls Tryz.prog id ([Value.agg r.toArray] ++ ca).toArray w' (Rt (.int .i64 e) w')) :
    Calls Tryz.prog 93 #[.slice A n c, .func (.func id) #[] ca.toArray] w (Rt (.int .i64 (firstE es)) w) := by
  refine XK.enter (vs := [.slice A n c, .func (.func id) #[] ca.toArray]) Tryz.func93 rfl Tryz.ntmps93 (by simp) ?_
  refine XK.seq ?_

  refine XK.region ?_
  refine xk_assign rfl (by decide) ?_
  refine XK.nilN ?_
  refine XK.seq ?_
  refine XK.seq ?_

  refine XK.region ?_
  refine xk_move rfl (by decide) ?_
  refine xk_len (el := 91) (by kernel_rfl) rfl (by decide) ?_
  refine xk_move rfl (by decide) ?_
  refine XK.nilN ?_
  refine XK.envS [(10, .int .i64 0), (9, .int .i64 n), (8, .slice A n c), (1, .func (.func id) #[] ca.toArray)] ?_
  refine XK.block ?_
  refine XK.loop (fun m e R H => ∃ k : Nat, k ≤ n ∧ m = n - k ∧ (∀ j, j < k → es[j]? = some 0) ∧ e = [(10, .int .i64 k), (9, .int .i64 n), (8, .slice A n c), (1, .func (.func id) #[] ca.toArray)] ∧ R = [all w] ∧ H = []) n ⟨0, by omega, rfl, fun j hj => absurd hj (by omega), rfl, rfl, rfl⟩ fun m e R H hI => ?_
  obtain ⟨k, hk, rfl, hz, rfl, rfl, rfl⟩ := hI
  refine XK.seq ?_

  refine XK.region ?_
  refine xk_lss rfl rfl (by decide) ?_
  refine XK.nilN ?_
  refine XK.seq ?_
  refine XK.if_ rfl (fun h => ?_) (fun h => ?_)
  ·
    refine XK.skip ?_
    refine XK.norm ?_
    refine XK.seq ?_
    refine XK.block ?_
    refine XK.seq ?_
    have hkn : k < n := by omega
    obtain ⟨r, hr1⟩ : ∃ r, rows[k]? = some r := ⟨rows[k]'(by omega), List.getElem?_eq_getElem _⟩
    obtain ⟨e1, he1⟩ : ∃ e, es[k]? = some e := ⟨es[k]'(by omega), List.getElem?_eq_getElem _⟩
    obtain ⟨b, off, rfl, c1⟩ := hs.row hr hr1 hkn
    have hr2 := hr r (List.mem_of_getElem? hr1)

    refine XK.region ?_
    refine xk_at (k) (off + k * 1) (el := 91) (sz := 1) (by kernel_rfl) (by kernel_rfl) rfl rfl (by omega) (by omega) (by omega) (by decide) ?_
    refine xk_loadN 1 (by kernel_rfl) rfl (by first | assumption | exact RdN.whole 0 rfl | exact RdN.whole 1 rfl | exact RdN.whole 2 rfl | exact RdN.whole 3 rfl | exact RdN.whole 4 rfl | exact RdN.whole 5 rfl | exact RdN.whole 6 rfl | exact RdN.whole 7 rfl | exact RdN.whole 8 rfl | exact RdN.roc (by simp) (by assumption)) hr2 (by decide) ?_
    refine xk_alloc (cs := [.int .i64 0]) (zeroB_of (by kernel_rfl)) (by decide) fun g1 => ?_
    refine xk_storeN 0 rfl rfl rfl (by rw [show (Value.agg r.toArray).cells.size = 1 by simp [Value.cells, hr2]]; kernel_rfl) (hone r (List.mem_of_getElem? hr1)) (by simp [Value.cells, hr2]) ?_
    rw [putN_all (by simp [Value.cells, hr2])]
    dsimp only [List.set, Value.cells]
    refine XK.nilN ?_
    refine XK.seq ?_

    refine XK.region ?_
    refine xk_move rfl (by decide) ?_
    refine xk_loadN 1 (by kernel_rfl) rfl (by first | assumption | exact RdN.whole 0 rfl | exact RdN.whole 1 rfl | exact RdN.whole 2 rfl | exact RdN.whole 3 rfl | exact RdN.whole 4 rfl | exact RdN.whole 5 rfl | exact RdN.whole 6 rfl | exact RdN.whole 7 rfl | exact RdN.whole 8 rfl | exact RdN.roc (by simp) (by assumption)) hr2 (by decide) ?_
    refine xk_callR (f := id) (fi := []) (ca := ca) hc rfl rfl (by decide) (fun w1 st => by have := hf k r e1 hr1 he1 w1 (st.started (by simp)); simpa using this) ?_
    refine xk_assign rfl (by decide) ?_
    refine XK.nilN ?_
    refine XK.seq ?_

    refine XK.region ?_
    refine xk_move rfl (by decide) ?_
    refine xk_neq rfl rfl (by decide) ?_
    refine XK.nilN ?_
    refine XK.if_ rfl (fun h => ?_) (fun h => ?_)
    ·
      refine XK.seq ?_

      refine XK.region ?_
      refine xk_move rfl (by decide) ?_
      refine xk_assign rfl (by decide) ?_
      refine XK.nilN ?_
      refine XK.ret ?_
      refine XK.norm ?_
      exact XK.ret1 rfl rfl fun w1 st => ⟨by rw [firstE_at hz he1 h], st.below (by simp)⟩
    ·
      refine XK.skip ?_
      refine XK.norm ?_

      refine XK.region ?_
      refine xk_add rfl rfl (wrap_in (by omega)) (by decide) ?_
      refine xk_move rfl (by decide) ?_
      refine XK.nilN ?_
      exact XK.weak [] rfl (by decide) (by simp) (XK.envS [(10, .int .i64 (k + 1)), (9, .int .i64 n), (8, .slice (some ⟨b, off, none⟩) n c), (1, .func (.func id) #[] ca.toArray)] (XK.round (n - (k + 1)) (by omega) ⟨k + 1, by omega, rfl, (zeros_snoc hz (by rw [he1, show e1 = 0 by omega])), rfl, rfl, rfl⟩))
  ·
    refine XK.exit ?_
    refine XK.norm ?_
    refine XK.seq ?_

    refine XK.region ?_
    refine xk_assign rfl (by decide) ?_
    refine XK.nilN ?_
    refine XK.ret ?_
    refine XK.norm ?_
    exact XK.ret1 rfl rfl fun w1 st => ⟨by rw [firstE_none (fun j hj => hz j (by omega))], st.below (by simp)⟩

theorem each_dev (A : Option Addr) (n c : Nat) (id : FuncId) (ca : List Value) (rows : List (List Value)) (es : List Int) (w : World) (hs : SlS (all w) 6 A n rows.flatten) (hr : ∀ r ∈ rows, r.length = 6) (hone : ∀ r ∈ rows, ∀ u ∈ r, u.oneCell' = true) (hn : rows.length = n) (hl : es.length = n) (hn2 : (n : Int) ≤ 9223372036854775806) (hc : callB Tryz.prog id = true)
    (hf : ∀ (i : Nat) (r : List Value) (e : Int), rows[i]? = some r → es[i]? = some e → ∀ w', Below w.heap.size w w' → Calls Tryz.prog id ([Value.agg r.toArray] ++ ca).toArray w' (Rt (.int .i64 e) w')) :
    Calls Tryz.prog 96 #[.slice A n c, .func (.func id) #[] ca.toArray] w (Rt (.int .i64 (firstE es)) w) := by
  refine XK.enter (vs := [.slice A n c, .func (.func id) #[] ca.toArray]) Tryz.func96 rfl Tryz.ntmps96 (by simp) ?_
  refine XK.seq ?_

  refine XK.region ?_
  refine xk_assign rfl (by decide) ?_
  refine XK.nilN ?_
  refine XK.seq ?_
  refine XK.seq ?_

  refine XK.region ?_
  refine xk_move rfl (by decide) ?_
  refine xk_len (el := 94) (by kernel_rfl) rfl (by decide) ?_
  refine xk_move rfl (by decide) ?_
  refine XK.nilN ?_
  refine XK.envS [(10, .int .i64 0), (9, .int .i64 n), (8, .slice A n c), (1, .func (.func id) #[] ca.toArray)] ?_
  refine XK.block ?_
  refine XK.loop (fun m e R H => ∃ k : Nat, k ≤ n ∧ m = n - k ∧ (∀ j, j < k → es[j]? = some 0) ∧ e = [(10, .int .i64 k), (9, .int .i64 n), (8, .slice A n c), (1, .func (.func id) #[] ca.toArray)] ∧ R = [all w] ∧ H = []) n ⟨0, by omega, rfl, fun j hj => absurd hj (by omega), rfl, rfl, rfl⟩ fun m e R H hI => ?_
  obtain ⟨k, hk, rfl, hz, rfl, rfl, rfl⟩ := hI
  refine XK.seq ?_

  refine XK.region ?_
  refine xk_lss rfl rfl (by decide) ?_
  refine XK.nilN ?_
  refine XK.seq ?_
  refine XK.if_ rfl (fun h => ?_) (fun h => ?_)
  ·
    refine XK.skip ?_
    refine XK.norm ?_
    refine XK.seq ?_
    refine XK.block ?_
    refine XK.seq ?_
    have hkn : k < n := by omega
    obtain ⟨r, hr1⟩ : ∃ r, rows[k]? = some r := ⟨rows[k]'(by omega), List.getElem?_eq_getElem _⟩
    obtain ⟨e1, he1⟩ : ∃ e, es[k]? = some e := ⟨es[k]'(by omega), List.getElem?_eq_getElem _⟩
    obtain ⟨b, off, rfl, c1⟩ := hs.row hr hr1 hkn
    have hr2 := hr r (List.mem_of_getElem? hr1)

    refine XK.region ?_
    refine xk_at (k) (off + k * 6) (el := 94) (sz := 6) (by kernel_rfl) (by kernel_rfl) rfl rfl (by omega) (by omega) (by omega) (by decide) ?_
    refine xk_loadN 6 (by kernel_rfl) rfl (by first | assumption | exact RdN.whole 0 rfl | exact RdN.whole 1 rfl | exact RdN.whole 2 rfl | exact RdN.whole 3 rfl | exact RdN.whole 4 rfl | exact RdN.whole 5 rfl | exact RdN.whole 6 rfl | exact RdN.whole 7 rfl | exact RdN.whole 8 rfl | exact RdN.roc (by simp) (by assumption)) hr2 (by decide) ?_
    refine xk_alloc (cs := [.int .i64 0, .int .i64 0, .int .i64 0, .int .u32 0, .slice none 0 0, .slice none 0 0]) (zeroB_of (by kernel_rfl)) (by decide) fun g1 => ?_
    refine xk_storeN 0 rfl rfl rfl (by rw [show (Value.agg r.toArray).cells.size = 6 by simp [Value.cells, hr2]]; kernel_rfl) (hone r (List.mem_of_getElem? hr1)) (by simp [Value.cells, hr2]) ?_
    rw [putN_all (by simp [Value.cells, hr2])]
    dsimp only [List.set, Value.cells]
    refine XK.nilN ?_
    refine XK.seq ?_

    refine XK.region ?_
    refine xk_move rfl (by decide) ?_
    refine xk_loadN 6 (by kernel_rfl) rfl (by first | assumption | exact RdN.whole 0 rfl | exact RdN.whole 1 rfl | exact RdN.whole 2 rfl | exact RdN.whole 3 rfl | exact RdN.whole 4 rfl | exact RdN.whole 5 rfl | exact RdN.whole 6 rfl | exact RdN.whole 7 rfl | exact RdN.whole 8 rfl | exact RdN.roc (by simp) (by assumption)) hr2 (by decide) ?_
    refine xk_callR (f := id) (fi := []) (ca := ca) hc rfl rfl (by decide) (fun w1 st => by have := hf k r e1 hr1 he1 w1 (st.started (by simp)); simpa using this) ?_
    refine xk_assign rfl (by decide) ?_
    refine XK.nilN ?_
    refine XK.seq ?_

    refine XK.region ?_
    refine xk_move rfl (by decide) ?_
    refine xk_neq rfl rfl (by decide) ?_
    refine XK.nilN ?_
    refine XK.if_ rfl (fun h => ?_) (fun h => ?_)
    ·
      refine XK.seq ?_

      refine XK.region ?_
      refine xk_move rfl (by decide) ?_
      refine xk_assign rfl (by decide) ?_
      refine XK.nilN ?_
      refine XK.ret ?_
      refine XK.norm ?_
      exact XK.ret1 rfl rfl fun w1 st => ⟨by rw [firstE_at hz he1 h], st.below (by simp)⟩
    ·
      refine XK.skip ?_
      refine XK.norm ?_

      refine XK.region ?_
      refine xk_add rfl rfl (wrap_in (by omega)) (by decide) ?_
      refine xk_move rfl (by decide) ?_
      refine XK.nilN ?_
      exact XK.weak [] rfl (by decide) (by simp) (XK.envS [(10, .int .i64 (k + 1)), (9, .int .i64 n), (8, .slice (some ⟨b, off, none⟩) n c), (1, .func (.func id) #[] ca.toArray)] (XK.round (n - (k + 1)) (by omega) ⟨k + 1, by omega, rfl, (zeros_snoc hz (by rw [he1, show e1 = 0 by omega])), rfl, rfl, rfl⟩))
  ·
    refine XK.exit ?_
    refine XK.norm ?_
    refine XK.seq ?_

    refine XK.region ?_
    refine xk_assign rfl (by decide) ?_
    refine XK.nilN ?_
    refine XK.ret ?_
    refine XK.norm ?_
    exact XK.ret1 rfl rfl fun w1 st => ⟨by rw [firstE_none (fun j hj => hz j (by omega))], st.below (by simp)⟩

end Go.Proofs.YtbgibbbggajgaaaGreat
/- conf: what is right of a clock, a domain, a reset line, a device, and of how many there are. -/
namespace Go.Proofs.YtbgibbbggajgaaaGreat
set_option linter.all false
open Go.RowKit

def shapeB (kind : Int) (n : Nat) : Bool := if kind = 111 then decide (n = 0) else if kind = 112 ∨ kind = 100 ∨ kind = 103 then decide (n = 1) else if kind = 109 then withinB n 1 4 else false
def numbersB (kind rate mul div lock : Int) : Bool :=
  if kind = 111 then decide (1 ≤ rate) && decide (rate ≤ 1099511627776) else if kind = 112 then withinB mul 1 1000 && withinB div 1 1000 && withinB lock 0 20 else if kind = 100 then withinB div 1 1000 else true
def clockE (n1 : Nat) (c : Clk) : Int := firstE [whenE (!shapeB c.kind c.src.length) 1, firstE (c.src.map fun f => whenE (!withinB f 0 ((n1 : Int) - 1)) 4), whenE (!numbersB c.kind c.rate c.mul c.div c.lock) 3]
def domainE (n2 : Nat) (d : Dom) : Int := firstE [whenE (decide (¬ d.above = -1) && !withinB d.above 0 ((n2 : Int) - 1)) 4, whenE (!withinB d.delay 0 20) 3]
def resetE (r : Int) : Int := whenE (!withinB r 0 20) 3
def deviceE (n1 n2 n3 n4 : Nat) (d : Dev) : Int :=
  firstE [whenE (!withinB d.clock 0 ((n1 : Int) - 1)) 4, whenE (!withinB d.domain 0 ((n2 : Int) - 1)) 4, whenE (!withinB d.reset 0 ((n3 : Int) - 1)) 4, firstE (d.needs.map fun f => whenE (!withinB f 0 ((n4 : Int) - 1)) 4)]
def manyE (d : Dev) : Int := whenE (decide ((8 : Int) < d.regs.length) || decide ((6 : Int) < d.needs.length)) 8
theorem flat1 (l : List Value) : (l.map fun v => [v]).flatten = l := by induction l <;> simp_all

theorem shape_any (kind rate mul div lock : Int) (A : Option Addr) (n k : Nat) (w : World) :
    Calls Tryz.prog 126 #[.agg #[.int .u8 kind, .slice A n k, .int .u64 rate, .int .i64 mul, .int .i64 div, .int .i64 lock]] w (Rt (.bool (shapeB kind n)) w) := by
  refine XK.enter (vs := [.agg #[.int .u8 kind, .slice A n k, .int .u64 rate, .int .i64 mul, .int .i64 div, .int .i64 lock]]) Tryz.func126 rfl Tryz.ntmps126 (by simp) ?_
  refine XK.seq ?_

  refine XK.region ?_
  refine xk_box rfl (by decide) fun g1 => ?_
  refine xk_assign rfl (by decide) ?_
  refine XK.nilN ?_
  refine XK.seq ?_
  refine XK.seq ?_

  refine XK.region ?_
  refine xk_field (off := 0) (by kernel_rfl) rfl (by decide) ?_
  refine xk_ld rfl ?_
  refine XK.nilN ?_
  refine XK.block ?_
  refine XK.seq ?_

  refine XK.region ?_
  refine xk_eql rfl rfl (by decide) ?_
  refine xk_assign rfl (by decide) ?_
  refine XK.nilN ?_
  refine XK.if_ rfl (fun h => ?_) (fun h => ?_)
  ·
    refine XK.seq ?_

    refine XK.region ?_
    refine xk_field (off := 1) (by kernel_rfl) rfl (by decide) ?_
    refine xk_ld rfl ?_
    refine xk_len (el := 3) (by kernel_rfl) rfl (by decide) ?_
    refine xk_eql rfl rfl (by decide) ?_
    refine xk_assign rfl (by decide) ?_
    refine XK.nilN ?_
    refine XK.ret ?_
    refine XK.norm ?_
    exact XK.ret1 rfl rfl fun w1 st => ⟨by first | (exfalso; omega) | (simp [shapeB, *]; done) | (simp [shapeB, *]; omega), st.below (by simp)⟩
  ·
    refine XK.seq ?_
    refine XK.seq ?_

    refine XK.region ?_
    refine xk_eql rfl rfl (by decide) ?_
    refine xk_assign rfl (by decide) ?_
    refine XK.nilN ?_
    refine XK.if_ rfl (fun h => ?_) (fun h => ?_)
    ·
      refine XK.skip ?_
      refine XK.norm ?_
      refine XK.if_ rfl (fun h => ?_) (fun h => ?_)
      ·
        refine XK.seq ?_

        refine XK.region ?_
        refine xk_field (off := 1) (by kernel_rfl) rfl (by decide) ?_
        refine xk_ld rfl ?_
        refine xk_len (el := 3) (by kernel_rfl) rfl (by decide) ?_
        refine xk_eql rfl rfl (by decide) ?_
        refine xk_assign rfl (by decide) ?_
        refine XK.nilN ?_
        refine XK.ret ?_
        refine XK.norm ?_
        exact XK.ret1 rfl rfl fun w1 st => ⟨by first | (exfalso; omega) | (simp [shapeB, *]; done) | (simp [shapeB, *]; omega), st.below (by simp)⟩
      ·
        refine XK.seq ?_

        refine XK.region ?_
        refine xk_eql rfl rfl (by decide) ?_
        refine xk_assign rfl (by decide) ?_
        refine XK.nilN ?_
        refine XK.if_ rfl (fun h => ?_) (fun h => ?_)
        ·
          refine XK.seq ?_

          refine XK.region ?_
          refine xk_field (off := 1) (by kernel_rfl) rfl (by decide) ?_
          refine xk_ld rfl ?_
          refine xk_len (el := 3) (by kernel_rfl) rfl (by decide) ?_
          refine xk_callR (f := 130) (fi := []) (ca := []) (by kernel_rfl) rfl rfl (by decide) (fun w1 st => within_any _ _ _ w1) ?_
          refine xk_assign rfl (by decide) ?_
          refine XK.nilN ?_
          refine XK.ret ?_
          refine XK.norm ?_
          exact XK.ret1 rfl rfl fun w1 st => ⟨by first | (exfalso; omega) | (simp [shapeB, *]; done) | (simp [shapeB, *]; omega), st.below (by simp)⟩
        ·
          refine XK.skip ?_
          refine XK.norm ?_
          refine XK.seq ?_

          refine XK.region ?_
          refine xk_assign rfl (by decide) ?_
          refine XK.nilN ?_
          refine XK.ret ?_
          refine XK.norm ?_
          exact XK.ret1 rfl rfl fun w1 st => ⟨by first | (exfalso; omega) | (simp [shapeB, *]; done) | (simp [shapeB, *]; omega), st.below (by simp)⟩
    ·
      refine XK.seq ?_

      refine XK.region ?_
      refine xk_eql rfl rfl (by decide) ?_
      refine xk_assign rfl (by decide) ?_
      refine XK.nilN ?_
      refine XK.if_ rfl (fun h => ?_) (fun h => ?_)
      ·
        refine XK.skip ?_
        refine XK.norm ?_
        refine XK.if_ rfl (fun h => ?_) (fun h => ?_)
        ·
          refine XK.seq ?_

          refine XK.region ?_
          refine xk_field (off := 1) (by kernel_rfl) rfl (by decide) ?_
          refine xk_ld rfl ?_
          refine xk_len (el := 3) (by kernel_rfl) rfl (by decide) ?_
          refine xk_eql rfl rfl (by decide) ?_
          refine xk_assign rfl (by decide) ?_
          refine XK.nilN ?_
          refine XK.ret ?_
          refine XK.norm ?_
          exact XK.ret1 rfl rfl fun w1 st => ⟨by first | (exfalso; omega) | (simp [shapeB, *]; done) | (simp [shapeB, *]; omega), st.below (by simp)⟩
        ·
          refine XK.seq ?_

          refine XK.region ?_
          refine xk_eql rfl rfl (by decide) ?_
          refine xk_assign rfl (by decide) ?_
          refine XK.nilN ?_
          refine XK.if_ rfl (fun h => ?_) (fun h => ?_)
          ·
            refine XK.seq ?_

            refine XK.region ?_
            refine xk_field (off := 1) (by kernel_rfl) rfl (by decide) ?_
            refine xk_ld rfl ?_
            refine xk_len (el := 3) (by kernel_rfl) rfl (by decide) ?_
            refine xk_callR (f := 130) (fi := []) (ca := []) (by kernel_rfl) rfl rfl (by decide) (fun w1 st => within_any _ _ _ w1) ?_
            refine xk_assign rfl (by decide) ?_
            refine XK.nilN ?_
            refine XK.ret ?_
            refine XK.norm ?_
            exact XK.ret1 rfl rfl fun w1 st => ⟨by first | (exfalso; omega) | (simp [shapeB, *]; done) | (simp [shapeB, *]; omega), st.below (by simp)⟩
          ·
            refine XK.skip ?_
            refine XK.norm ?_
            refine XK.seq ?_

            refine XK.region ?_
            refine xk_assign rfl (by decide) ?_
            refine XK.nilN ?_
            refine XK.ret ?_
            refine XK.norm ?_
            exact XK.ret1 rfl rfl fun w1 st => ⟨by first | (exfalso; omega) | (simp [shapeB, *]; done) | (simp [shapeB, *]; omega), st.below (by simp)⟩
      ·

        refine XK.region ?_
        refine xk_eql rfl rfl (by decide) ?_
        refine xk_assign rfl (by decide) ?_
        refine XK.nilN ?_
        refine XK.if_ rfl (fun h => ?_) (fun h => ?_)
        ·
          refine XK.seq ?_

          refine XK.region ?_
          refine xk_field (off := 1) (by kernel_rfl) rfl (by decide) ?_
          refine xk_ld rfl ?_
          refine xk_len (el := 3) (by kernel_rfl) rfl (by decide) ?_
          refine xk_eql rfl rfl (by decide) ?_
          refine xk_assign rfl (by decide) ?_
          refine XK.nilN ?_
          refine XK.ret ?_
          refine XK.norm ?_
          exact XK.ret1 rfl rfl fun w1 st => ⟨by first | (exfalso; omega) | (simp [shapeB, *]; done) | (simp [shapeB, *]; omega), st.below (by simp)⟩
        ·
          refine XK.seq ?_

          refine XK.region ?_
          refine xk_eql rfl rfl (by decide) ?_
          refine xk_assign rfl (by decide) ?_
          refine XK.nilN ?_
          refine XK.if_ rfl (fun h => ?_) (fun h => ?_)
          ·
            refine XK.seq ?_

            refine XK.region ?_
            refine xk_field (off := 1) (by kernel_rfl) rfl (by decide) ?_
            refine xk_ld rfl ?_
            refine xk_len (el := 3) (by kernel_rfl) rfl (by decide) ?_
            refine xk_callR (f := 130) (fi := []) (ca := []) (by kernel_rfl) rfl rfl (by decide) (fun w1 st => within_any _ _ _ w1) ?_
            refine xk_assign rfl (by decide) ?_
            refine XK.nilN ?_
            refine XK.ret ?_
            refine XK.norm ?_
            exact XK.ret1 rfl rfl fun w1 st => ⟨by first | (exfalso; omega) | (simp [shapeB, *]; done) | (simp [shapeB, *]; omega), st.below (by simp)⟩
          ·
            refine XK.skip ?_
            refine XK.norm ?_
            refine XK.seq ?_

            refine XK.region ?_
            refine xk_assign rfl (by decide) ?_
            refine XK.nilN ?_
            refine XK.ret ?_
            refine XK.norm ?_
            exact XK.ret1 rfl rfl fun w1 st => ⟨by first | (exfalso; omega) | (simp [shapeB, *]; done) | (simp [shapeB, *]; omega), st.below (by simp)⟩

theorem numbers_any (kind rate mul div lock : Int) (A : Option Addr) (n k : Nat) (w : World) :
    Calls Tryz.prog 132 #[.agg #[.int .u8 kind, .slice A n k, .int .u64 rate, .int .i64 mul, .int .i64 div, .int .i64 lock]] w (Rt (.bool (numbersB kind rate mul div lock)) w) := by
  refine XK.enter (vs := [.agg #[.int .u8 kind, .slice A n k, .int .u64 rate, .int .i64 mul, .int .i64 div, .int .i64 lock]]) Tryz.func132 rfl Tryz.ntmps132 (by simp) ?_
  refine XK.seq ?_

  refine XK.region ?_
  refine xk_box rfl (by decide) fun g1 => ?_
  refine xk_assign rfl (by decide) ?_
  refine XK.nilN ?_
  refine XK.seq ?_
  refine XK.seq ?_

  refine XK.region ?_
  refine xk_field (off := 0) (by kernel_rfl) rfl (by decide) ?_
  refine xk_ld rfl ?_
  refine XK.nilN ?_
  refine XK.block ?_
  refine XK.seq ?_

  refine XK.region ?_
  refine xk_eql rfl rfl (by decide) ?_
  refine xk_assign rfl (by decide) ?_
  refine XK.nilN ?_
  refine XK.if_ rfl (fun h => ?_) (fun h => ?_)
  ·
    refine XK.seq ?_

    refine XK.region ?_
    refine xk_field (off := 2) (by kernel_rfl) rfl (by decide) ?_
    refine xk_ld rfl ?_
    refine xk_geq rfl rfl (by decide) ?_
    refine xk_move rfl (by decide) ?_
    refine xk_splitB (t := 10) rfl (fun hg => ?_) (fun hg => ?_)
    ·
      refine xk_guardT rfl rfl ?_; refine xk_field (off := 2) (by kernel_rfl) rfl (by decide) ?_
      refine xk_guardT rfl rfl ?_; refine xk_ld rfl ?_
      refine xk_guardT rfl rfl ?_; refine xk_leq rfl rfl (by decide) ?_
      (first | refine xk_pickT rfl rfl (by decide) ?_ | refine xk_pickF rfl rfl (by decide) ?_)
      refine xk_assign rfl (by decide) ?_
      refine XK.nilN ?_
      refine XK.ret ?_
      refine XK.norm ?_
      exact XK.ret1 rfl rfl fun w1 st => ⟨by simp [numbersB, *], st.below (by simp)⟩
    ·
      refine xk_guardF rfl rfl rfl (by decide) ?_
      refine xk_guardF rfl rfl rfl (by decide) ?_
      refine xk_guardF rfl rfl rfl (by decide) ?_
      (first | refine xk_pickT rfl rfl (by decide) ?_ | refine xk_pickF rfl rfl (by decide) ?_)
      refine xk_assign rfl (by decide) ?_
      refine XK.nilN ?_
      refine XK.ret ?_
      refine XK.norm ?_
      exact XK.ret1 rfl rfl fun w1 st => ⟨by simp [numbersB, *], st.below (by simp)⟩
  ·
    refine XK.seq ?_

    refine XK.region ?_
    refine xk_eql rfl rfl (by decide) ?_
    refine xk_assign rfl (by decide) ?_
    refine XK.nilN ?_
    refine XK.if_ rfl (fun h => ?_) (fun h => ?_)
    ·
      refine XK.seq ?_

      refine XK.region ?_
      refine xk_field (off := 3) (by kernel_rfl) rfl (by decide) ?_
      refine xk_ld rfl ?_
      refine xk_callR (f := 130) (fi := []) (ca := []) (by kernel_rfl) rfl rfl (by decide) (fun w1 st => within_any _ _ _ w1) ?_
      refine xk_move rfl (by decide) ?_
      refine xk_splitB (t := 20) rfl (fun hg => ?_) (fun hg => ?_)
      ·
        refine xk_guardT rfl rfl ?_; refine xk_field (off := 4) (by kernel_rfl) rfl (by decide) ?_
        refine xk_guardT rfl rfl ?_; refine xk_ld rfl ?_
        refine xk_guardT rfl rfl ?_; refine xk_callR (f := 130) (fi := []) (ca := []) (by kernel_rfl) rfl rfl (by decide) (fun w1 st => within_any _ _ _ w1) ?_
        (first | refine xk_pickT rfl rfl (by decide) ?_ | refine xk_pickF rfl rfl (by decide) ?_)
        refine xk_move rfl (by decide) ?_
        refine xk_splitB (t := 25) rfl (fun hg => ?_) (fun hg => ?_)
        ·
          refine xk_guardT rfl rfl ?_; refine xk_field (off := 5) (by kernel_rfl) rfl (by decide) ?_
          refine xk_guardT rfl rfl ?_; refine xk_ld rfl ?_
          refine xk_guardT rfl rfl ?_; refine xk_callR (f := 130) (fi := []) (ca := []) (by kernel_rfl) rfl rfl (by decide) (fun w1 st => within_any _ _ _ w1) ?_
          (first | refine xk_pickT rfl rfl (by decide) ?_ | refine xk_pickF rfl rfl (by decide) ?_)
          refine xk_assign rfl (by decide) ?_
          refine XK.nilN ?_
          refine XK.ret ?_
          refine XK.norm ?_
          exact XK.ret1 rfl rfl fun w1 st => ⟨by simp [numbersB, *], st.below (by simp)⟩
        ·
          refine xk_guardF rfl rfl rfl (by decide) ?_
          refine xk_guardF rfl rfl rfl (by decide) ?_
          refine xk_guardF rfl rfl rfl (by decide) ?_
          (first | refine xk_pickT rfl rfl (by decide) ?_ | refine xk_pickF rfl rfl (by decide) ?_)
          refine xk_assign rfl (by decide) ?_
          refine XK.nilN ?_
          refine XK.ret ?_
          refine XK.norm ?_
          exact XK.ret1 rfl rfl fun w1 st => ⟨by simp [numbersB, *], st.below (by simp)⟩
      ·
        refine xk_guardF rfl rfl rfl (by decide) ?_
        refine xk_guardF rfl rfl rfl (by decide) ?_
        refine xk_guardF rfl rfl rfl (by decide) ?_
        (first | refine xk_pickT rfl rfl (by decide) ?_ | refine xk_pickF rfl rfl (by decide) ?_)
        refine xk_move rfl (by decide) ?_
        refine xk_guardF rfl rfl rfl (by decide) ?_
        refine xk_guardF rfl rfl rfl (by decide) ?_
        refine xk_guardF rfl rfl rfl (by decide) ?_
        (first | refine xk_pickT rfl rfl (by decide) ?_ | refine xk_pickF rfl rfl (by decide) ?_)
        refine xk_assign rfl (by decide) ?_
        refine XK.nilN ?_
        refine XK.ret ?_
        refine XK.norm ?_
        exact XK.ret1 rfl rfl fun w1 st => ⟨by simp [numbersB, *], st.below (by simp)⟩
    ·
      refine XK.seq ?_

      refine XK.region ?_
      refine xk_eql rfl rfl (by decide) ?_
      refine xk_assign rfl (by decide) ?_
      refine XK.nilN ?_
      refine XK.if_ rfl (fun h => ?_) (fun h => ?_)
      ·
        refine XK.seq ?_

        refine XK.region ?_
        refine xk_field (off := 4) (by kernel_rfl) rfl (by decide) ?_
        refine xk_ld rfl ?_
        refine xk_callR (f := 130) (fi := []) (ca := []) (by kernel_rfl) rfl rfl (by decide) (fun w1 st => within_any _ _ _ w1) ?_
        refine xk_assign rfl (by decide) ?_
        refine XK.nilN ?_
        refine XK.ret ?_
        refine XK.norm ?_
        exact XK.ret1 rfl rfl fun w1 st => ⟨by simp [numbersB, *], st.below (by simp)⟩
      ·
        refine XK.skip ?_
        refine XK.norm ?_
        refine XK.seq ?_

        refine XK.region ?_
        refine xk_assign rfl (by decide) ?_
        refine XK.nilN ?_
        refine XK.ret ?_
        refine XK.norm ?_
        exact XK.ret1 rfl rfl fun w1 st => ⟨by simp [numbersB, *], st.below (by simp)⟩

theorem clock_1 (kind rate mul div lock : Int) (A : Option Addr) (n k : Nat) (gc : Nat) (w : World) (hb : ROn w gc 0 [.int .u8 kind, .slice A n k, .int .u64 rate, .int .i64 mul, .int .i64 div, .int .i64 lock]) :
    Calls Tryz.prog 125 #[.pointer (some ⟨gc, 0, none⟩)] w (Rt (.int .i64 (whenE (!shapeB kind n) 1)) w) := by
  refine XK.enter (vs := [.pointer (some ⟨gc, 0, none⟩)]) Tryz.func125 rfl Tryz.ntmps125 (by simp) ?_
  refine XK.seq ?_

  refine XK.region ?_
  refine xk_assign rfl (by decide) ?_
  refine XK.nilN ?_
  refine XK.seq ?_

  refine XK.region ?_
  refine xk_ldN 6 rfl ?_
  refine xk_callR (f := 126) (fi := []) (ca := []) (by kernel_rfl) rfl rfl (by decide) (fun w1 st => shape_any _ _ _ _ _ _ _ _ w1) ?_
  (first | refine xk_notD rfl (by decide) ?_ | refine xk_not rfl (by decide) ?_)
  refine xk_callR (f := 124) (fi := []) (ca := []) (by kernel_rfl) rfl rfl (by decide) (fun w1 st => when_any _ _ w1) ?_
  refine xk_assign rfl (by decide) ?_
  refine XK.nilN ?_
  refine XK.ret ?_
  refine XK.norm ?_
  exact XK.ret1 rfl rfl fun w1 st => ⟨rfl, st.below (by simp)⟩

theorem clock_3 (kind rate mul div lock : Int) (A : Option Addr) (n k : Nat) (gc : Nat) (w : World) (hb : ROn w gc 0 [.int .u8 kind, .slice A n k, .int .u64 rate, .int .i64 mul, .int .i64 div, .int .i64 lock]) :
    Calls Tryz.prog 131 #[.pointer (some ⟨gc, 0, none⟩)] w (Rt (.int .i64 (whenE (!numbersB kind rate mul div lock) 3)) w) := by
  refine XK.enter (vs := [.pointer (some ⟨gc, 0, none⟩)]) Tryz.func131 rfl Tryz.ntmps131 (by simp) ?_
  refine XK.seq ?_

  refine XK.region ?_
  refine xk_assign rfl (by decide) ?_
  refine XK.nilN ?_
  refine XK.seq ?_

  refine XK.region ?_
  refine xk_ldN 6 rfl ?_
  refine xk_callR (f := 132) (fi := []) (ca := []) (by kernel_rfl) rfl rfl (by decide) (fun w1 st => numbers_any _ _ _ _ _ _ _ _ w1) ?_
  (first | refine xk_notD rfl (by decide) ?_ | refine xk_not rfl (by decide) ?_)
  refine xk_callR (f := 124) (fi := []) (ca := []) (by kernel_rfl) rfl rfl (by decide) (fun w1 st => when_any _ _ w1) ?_
  refine xk_assign rfl (by decide) ?_
  refine XK.nilN ?_
  refine XK.ret ?_
  refine XK.norm ?_
  exact XK.ret1 rfl rfl fun w1 st => ⟨rfl, st.below (by simp)⟩

theorem clock_2_1 (f : Int) (A1 A2 A3 A4 : Option Addr) (n1 k1 n2 k2 n3 k3 n4 k4 : Nat) (gs : Nat) (w : World) (hs : ROn w gs 0 [.slice A1 n1 k1, .slice A2 n2 k2, .slice A3 n3 k3, .slice A4 n4 k4]) (hz1 : (n1 : Int) ≤ 9223372036854775806) :
    Calls Tryz.prog 129 #[.int .i64 f, .pointer (some ⟨gs, 0, none⟩)] w (Rt (.int .i64 (whenE (!withinB f 0 ((n1 : Int) - 1)) 4)) w) := by
  refine XK.enter (vs := [.int .i64 f, .pointer (some ⟨gs, 0, none⟩)]) Tryz.func129 rfl Tryz.ntmps129 (by simp) ?_
  refine XK.seq ?_

  refine XK.region ?_
  refine xk_assign rfl (by decide) ?_
  refine XK.nilN ?_
  refine XK.seq ?_

  refine XK.region ?_
  refine xk_move rfl (by decide) ?_
  refine xk_field (off := 0) (by kernel_rfl) rfl (by decide) ?_
  refine xk_ld rfl ?_
  refine xk_len (el := 87) (by kernel_rfl) rfl (by decide) ?_
  refine xk_sub rfl rfl (wrap_in (by omega)) (by decide) ?_
  refine xk_callR (f := 130) (fi := []) (ca := []) (by kernel_rfl) rfl rfl (by decide) (fun w1 st => within_any _ _ _ w1) ?_
  (first | refine xk_notD rfl (by decide) ?_ | refine xk_not rfl (by decide) ?_)
  refine xk_callR (f := 124) (fi := []) (ca := []) (by kernel_rfl) rfl rfl (by decide) (fun w1 st => when_any _ _ w1) ?_
  refine xk_assign rfl (by decide) ?_
  refine XK.nilN ?_
  refine XK.ret ?_
  refine XK.norm ?_
  exact XK.ret1 rfl rfl fun w1 st => ⟨rfl, st.below (by simp)⟩

theorem clock_2 (kind rate mul div lock : Int) (A : Option Addr) (n k : Nat) (A1 A2 A3 A4 : Option Addr) (n1 k1 n2 k2 n3 k3 n4 k4 : Nat) (gc gs : Nat) (w : World) (hb : ROn w gc 0 [.int .u8 kind, .slice A n k, .int .u64 rate, .int .i64 mul, .int .i64 div, .int .i64 lock]) (hs : ROn w gs 0 [.slice A1 n1 k1, .slice A2 n2 k2, .slice A3 n3 k3, .slice A4 n4 k4]) (hz1 : (n1 : Int) ≤ 9223372036854775806) (zs : List Int) (hA : SlS (all w) 1 A n (intCells zs)) (hn : n = zs.length) (hz : (n : Int) ≤ 9223372036854775806) :
    Calls Tryz.prog 127 #[.pointer (some ⟨gc, 0, none⟩), .pointer (some ⟨gs, 0, none⟩)] w (Rt (.int .i64 (firstE (zs.map fun f => whenE (!withinB f 0 ((n1 : Int) - 1)) 4))) w) := by
  refine XK.enter (vs := [.pointer (some ⟨gc, 0, none⟩), .pointer (some ⟨gs, 0, none⟩)]) Tryz.func127 rfl Tryz.ntmps127 (by simp) ?_
  refine XK.seq ?_

  refine XK.region ?_
  refine xk_assign rfl (by decide) ?_
  refine XK.nilN ?_
  refine XK.seq ?_

  refine XK.region ?_
  refine xk_field (off := 1) (by kernel_rfl) rfl (by decide) ?_
  refine xk_ld rfl ?_
  refine xk_func (vf := []) (vc := [.pointer (some ⟨gs, 0, none⟩)]) rfl rfl (by decide) ?_
  refine xk_callR (f := 128) (fi := []) (ca := []) (by kernel_rfl) rfl rfl (by decide) (fun w1 st => each_int _ _ _ 129 [.pointer (some ⟨gs, 0, none⟩)] ((intCells zs).map fun v => [v]) (zs.map fun f => whenE (!withinB f 0 ((n1 : Int) - 1)) 4) w1 (by rw [flat1]; exact hA.le (all_le (st.started (by simp)))) (by simp) (by simp [intCells]; omega) (by simp; omega) (by omega) (by kernel_rfl) (fun i r x hr hx w2 hb2 => by
    obtain ⟨f, hf, rfl⟩ : ∃ f, zs[i]? = some f ∧ r = [.int .i64 f] := by
      rw [List.getElem?_map, intCells, List.getElem?_map] at hr
      cases hq : zs[i]? with
      | none => simp [hq] at hr
      | some f => simp [hq] at hr; exact ⟨f, rfl, hr.symm⟩
    rw [List.getElem?_map, hf] at hx
    cases hx
    exact clock_2_1 f A1 A2 A3 A4 n1 k1 n2 k2 n3 k3 n4 k4 gs w2 ((hs.below (st.started (by simp))).below hb2) hz1)) ?_
  refine xk_assign rfl (by decide) ?_
  refine XK.nilN ?_
  refine XK.ret ?_
  refine XK.norm ?_
  exact XK.ret1 rfl rfl fun w1 st => ⟨rfl, st.below (by simp)⟩

theorem clock_any (kind rate mul div lock : Int) (A : Option Addr) (n k : Nat) (A1 A2 A3 A4 : Option Addr) (n1 k1 n2 k2 n3 k3 n4 k4 : Nat) (w : World) (hz1 : (n1 : Int) ≤ 9223372036854775806) (zs : List Int) (hA : SlS (all w) 1 A n (intCells zs)) (hn : n = zs.length) (hz : (n : Int) ≤ 9223372036854775806) :
    Calls Tryz.prog 84 #[.agg #[.slice A1 n1 k1, .slice A2 n2 k2, .slice A3 n3 k3, .slice A4 n4 k4], .agg #[.int .u8 kind, .slice A n k, .int .u64 rate, .int .i64 mul, .int .i64 div, .int .i64 lock]] w (Rt (.int .i64 (clockE n1 ⟨kind, zs, rate, mul, div, lock⟩)) w) := by
  refine XK.enter (vs := [.agg #[.slice A1 n1 k1, .slice A2 n2 k2, .slice A3 n3 k3, .slice A4 n4 k4], .agg #[.int .u8 kind, .slice A n k, .int .u64 rate, .int .i64 mul, .int .i64 div, .int .i64 lock]]) Tryz.func84 rfl Tryz.ntmps84 (by simp) ?_
  refine XK.seq ?_

  refine XK.region ?_
  refine xk_box rfl (by decide) fun g1 => ?_
  refine xk_box rfl (by decide) fun g2 => ?_
  refine xk_assign rfl (by decide) ?_
  refine XK.nilN ?_
  refine XK.seq ?_

  refine XK.region ?_
  refine xk_func (vf := []) (vc := [.pointer (some ⟨g2, 0, none⟩)]) rfl rfl (by decide) ?_
  refine xk_func (vf := []) (vc := [.pointer (some ⟨g2, 0, none⟩), .pointer (some ⟨g1, 0, none⟩)]) rfl rfl (by decide) ?_
  refine xk_func (vf := []) (vc := [.pointer (some ⟨g2, 0, none⟩)]) rfl rfl (by decide) ?_
  refine xk_slice (el := 149) (sz := 1) (zs := [.nilFunc]) (by kernel_rfl) (zeroB_of (by kernel_rfl)) (by kernel_rfl) rfl (by decide) (by decide) rfl (by simp [fillL, setN, Value.cells, List.range_succ, List.set]; rfl) (by decide) fun g3 => ?_
  refine xk_callR (f := 78) (fi := []) (ca := []) (by kernel_rfl) rfl rfl (by decide) (fun w1 st => first_any _ _ _ [(125, [.pointer (some ⟨g2, 0, none⟩)]), (127, [.pointer (some ⟨g2, 0, none⟩), .pointer (some ⟨g1, 0, none⟩)]), (131, [.pointer (some ⟨g2, 0, none⟩)])] [whenE (!shapeB kind n) 1, firstE (zs.map fun f => whenE (!withinB f 0 ((n1 : Int) - 1)) 4), whenE (!numbersB kind rate mul div lock) 3] w1 (st.slS (i := 0) (n := 3) (sz := 1) (cs := [.func (.func 125) #[] #[.pointer (some ⟨g2, 0, none⟩)], .func (.func 127) #[] #[.pointer (some ⟨g2, 0, none⟩), .pointer (some ⟨g1, 0, none⟩)], .func (.func 131) #[] #[.pointer (some ⟨g2, 0, none⟩)]]) rfl rfl) rfl rfl (by decide) (by simp only [List.mem_cons, List.not_mem_nil, or_false]; rintro f (rfl | rfl | rfl) <;> kernel_rfl) (fun i f x hf hx w2 hb2 => by
    have hbb := (st.started (by simp)).trans (hb2.mono st.size)
    match i, hf, hx with
    | 0, hf, hx => cases hf; cases hx; exact clock_1 kind rate mul div lock A n k g2 w2 (st.box (cs := [.int .u8 kind, .slice A n k, .int .u64 rate, .int .i64 mul, .int .i64 div, .int .i64 lock]) (i := 1) rfl |>.below hb2)
    | 1, hf, hx => cases hf; cases hx; exact clock_2 kind rate mul div lock A n k A1 A2 A3 A4 n1 k1 n2 k2 n3 k3 n4 k4 g2 g1 w2 (st.box (cs := [.int .u8 kind, .slice A n k, .int .u64 rate, .int .i64 mul, .int .i64 div, .int .i64 lock]) (i := 1) rfl |>.below hb2) (st.box (cs := [.slice A1 n1 k1, .slice A2 n2 k2, .slice A3 n3 k3, .slice A4 n4 k4]) (i := 2) rfl |>.below hb2) hz1 zs (hA.le (all_le hbb)) hn hz
    | 2, hf, hx => cases hf; cases hx; exact clock_3 kind rate mul div lock A n k g2 w2 (st.box (cs := [.int .u8 kind, .slice A n k, .int .u64 rate, .int .i64 mul, .int .i64 div, .int .i64 lock]) (i := 1) rfl |>.below hb2)
    | i + 3, hf, _ => simp at hf)) ?_
  refine xk_assign rfl (by decide) ?_
  refine XK.nilN ?_
  refine XK.ret ?_
  refine XK.norm ?_
  exact XK.ret1 rfl rfl fun w1 st => ⟨by simp [clockE, hn], st.below (by simp)⟩

theorem domain_1 (above delay : Int) (ret : Bool) (A1 A2 A3 A4 : Option Addr) (n1 k1 n2 k2 n3 k3 n4 k4 : Nat) (gd gs : Nat) (w : World) (hd : ROn w gd 0 [.int .i64 above, .int .i64 delay, .bool ret]) (hs : ROn w gs 0 [.slice A1 n1 k1, .slice A2 n2 k2, .slice A3 n3 k3, .slice A4 n4 k4]) (hz2 : (n2 : Int) ≤ 9223372036854775806) :
    Calls Tryz.prog 134 #[.pointer (some ⟨gd, 0, none⟩), .pointer (some ⟨gs, 0, none⟩)] w (Rt (.int .i64 (whenE (decide (¬ above = -1) && !withinB above 0 ((n2 : Int) - 1)) 4)) w) := by
  refine XK.enter (vs := [.pointer (some ⟨gd, 0, none⟩), .pointer (some ⟨gs, 0, none⟩)]) Tryz.func134 rfl Tryz.ntmps134 (by simp) ?_
  refine XK.seq ?_

  refine XK.region ?_
  refine xk_assign rfl (by decide) ?_
  refine XK.nilN ?_
  refine XK.seq ?_

  refine XK.region ?_
  refine xk_field (off := 0) (by kernel_rfl) rfl (by decide) ?_
  refine xk_ld rfl ?_
  refine xk_neq rfl rfl (by decide) ?_
  refine xk_move rfl (by decide) ?_
  refine xk_split (t := 6) rfl (fun hg => ?_) (fun hg => ?_)
  ·
    refine xk_guardT rfl rfl ?_; refine xk_field (off := 0) (by kernel_rfl) rfl (by decide) ?_
    refine xk_guardT rfl rfl ?_; refine xk_ld rfl ?_
    refine xk_guardT rfl rfl ?_; refine xk_field (off := 1) (by kernel_rfl) rfl (by decide) ?_
    refine xk_guardT rfl rfl ?_; refine xk_ld rfl ?_
    refine xk_guardT rfl rfl ?_; refine xk_len (el := 89) (by kernel_rfl) rfl (by decide) ?_
    refine xk_guardT rfl rfl ?_; refine xk_sub rfl rfl (wrap_in (by omega)) (by decide) ?_
    refine xk_guardT rfl rfl ?_; refine xk_callR (f := 130) (fi := []) (ca := []) (by kernel_rfl) rfl rfl (by decide) (fun w1 st => within_any _ _ _ w1) ?_
    refine xk_guardT rfl rfl ?_; (first | refine xk_notD rfl (by decide) ?_ | refine xk_not rfl (by decide) ?_)
    (first | refine xk_pickT rfl rfl (by decide) ?_ | refine xk_pickF rfl rfl (by decide) ?_)
    refine xk_callR (f := 124) (fi := []) (ca := []) (by kernel_rfl) rfl rfl (by decide) (fun w1 st => when_any _ _ w1) ?_
    refine xk_assign rfl (by decide) ?_
    refine XK.nilN ?_
    refine XK.ret ?_
    refine XK.norm ?_
    exact XK.ret1 rfl rfl fun w1 st => ⟨by simp [hg], st.below (by simp)⟩
  ·
    refine xk_guardF rfl rfl rfl (by decide) ?_
    refine xk_guardF rfl rfl rfl (by decide) ?_
    refine xk_guardF rfl rfl rfl (by decide) ?_
    refine xk_guardF rfl rfl rfl (by decide) ?_
    refine xk_guardF rfl rfl rfl (by decide) ?_
    refine xk_guardF rfl rfl rfl (by decide) ?_
    refine xk_guardF rfl rfl rfl (by decide) ?_
    refine xk_guardF rfl rfl rfl (by decide) ?_
    (first | refine xk_pickT rfl rfl (by decide) ?_ | refine xk_pickF rfl rfl (by decide) ?_)
    refine xk_callR (f := 124) (fi := []) (ca := []) (by kernel_rfl) rfl rfl (by decide) (fun w1 st => when_any _ _ w1) ?_
    refine xk_assign rfl (by decide) ?_
    refine XK.nilN ?_
    refine XK.ret ?_
    refine XK.norm ?_
    exact XK.ret1 rfl rfl fun w1 st => ⟨by simp [hg], st.below (by simp)⟩

theorem domain_2 (above delay : Int) (ret : Bool) (gd : Nat) (w : World) (hd : ROn w gd 0 [.int .i64 above, .int .i64 delay, .bool ret]) :
    Calls Tryz.prog 135 #[.pointer (some ⟨gd, 0, none⟩)] w (Rt (.int .i64 (whenE (!withinB delay 0 20) 3)) w) := by
  refine XK.enter (vs := [.pointer (some ⟨gd, 0, none⟩)]) Tryz.func135 rfl Tryz.ntmps135 (by simp) ?_
  refine XK.seq ?_

  refine XK.region ?_
  refine xk_assign rfl (by decide) ?_
  refine XK.nilN ?_
  refine XK.seq ?_

  refine XK.region ?_
  refine xk_field (off := 1) (by kernel_rfl) rfl (by decide) ?_
  refine xk_ld rfl ?_
  refine xk_callR (f := 130) (fi := []) (ca := []) (by kernel_rfl) rfl rfl (by decide) (fun w1 st => within_any _ _ _ w1) ?_
  (first | refine xk_notD rfl (by decide) ?_ | refine xk_not rfl (by decide) ?_)
  refine xk_callR (f := 124) (fi := []) (ca := []) (by kernel_rfl) rfl rfl (by decide) (fun w1 st => when_any _ _ w1) ?_
  refine xk_assign rfl (by decide) ?_
  refine XK.nilN ?_
  refine XK.ret ?_
  refine XK.norm ?_
  exact XK.ret1 rfl rfl fun w1 st => ⟨rfl, st.below (by simp)⟩

theorem domain_any (above delay : Int) (ret : Bool) (A1 A2 A3 A4 : Option Addr) (n1 k1 n2 k2 n3 k3 n4 k4 : Nat) (w : World) (hz2 : (n2 : Int) ≤ 9223372036854775806) :
    Calls Tryz.prog 90 #[.agg #[.slice A1 n1 k1, .slice A2 n2 k2, .slice A3 n3 k3, .slice A4 n4 k4], .agg #[.int .i64 above, .int .i64 delay, .bool ret]] w (Rt (.int .i64 (domainE n2 ⟨above, delay, ret⟩)) w) := by
  refine XK.enter (vs := [.agg #[.slice A1 n1 k1, .slice A2 n2 k2, .slice A3 n3 k3, .slice A4 n4 k4], .agg #[.int .i64 above, .int .i64 delay, .bool ret]]) Tryz.func90 rfl Tryz.ntmps90 (by simp) ?_
  refine XK.seq ?_

  refine XK.region ?_
  refine xk_box rfl (by decide) fun g1 => ?_
  refine xk_box rfl (by decide) fun g2 => ?_
  refine xk_assign rfl (by decide) ?_
  refine XK.nilN ?_
  refine XK.seq ?_

  refine XK.region ?_
  refine xk_func (vf := []) (vc := [.pointer (some ⟨g2, 0, none⟩), .pointer (some ⟨g1, 0, none⟩)]) rfl rfl (by decide) ?_
  refine xk_func (vf := []) (vc := [.pointer (some ⟨g2, 0, none⟩)]) rfl rfl (by decide) ?_
  refine xk_slice (el := 149) (sz := 1) (zs := [.nilFunc]) (by kernel_rfl) (zeroB_of (by kernel_rfl)) (by kernel_rfl) rfl (by decide) (by decide) rfl (by simp [fillL, setN, Value.cells, List.range_succ, List.set]; rfl) (by decide) fun g3 => ?_
  refine xk_callR (f := 78) (fi := []) (ca := []) (by kernel_rfl) rfl rfl (by decide) (fun w1 st => first_any _ _ _ [(134, [.pointer (some ⟨g2, 0, none⟩), .pointer (some ⟨g1, 0, none⟩)]), (135, [.pointer (some ⟨g2, 0, none⟩)])] [whenE (decide (¬ above = -1) && !withinB above 0 ((n2 : Int) - 1)) 4, whenE (!withinB delay 0 20) 3] w1 (st.slS (i := 0) (n := 2) (sz := 1) (cs := [.func (.func 134) #[] #[.pointer (some ⟨g2, 0, none⟩), .pointer (some ⟨g1, 0, none⟩)], .func (.func 135) #[] #[.pointer (some ⟨g2, 0, none⟩)]]) rfl rfl) rfl rfl (by decide) (by simp only [List.mem_cons, List.not_mem_nil, or_false]; rintro f (rfl | rfl) <;> kernel_rfl) (fun i f x hf hx w2 hb2 => by
    have hbb := (st.started (by simp)).trans (hb2.mono st.size)
    match i, hf, hx with
    | 0, hf, hx => cases hf; cases hx; exact domain_1 above delay ret A1 A2 A3 A4 n1 k1 n2 k2 n3 k3 n4 k4 g2 g1 w2 (st.box (cs := [.int .i64 above, .int .i64 delay, .bool ret]) (i := 1) rfl |>.below hb2) (st.box (cs := [.slice A1 n1 k1, .slice A2 n2 k2, .slice A3 n3 k3, .slice A4 n4 k4]) (i := 2) rfl |>.below hb2) hz2
    | 1, hf, hx => cases hf; cases hx; exact domain_2 above delay ret g2 w2 (st.box (cs := [.int .i64 above, .int .i64 delay, .bool ret]) (i := 1) rfl |>.below hb2)
    | i + 2, hf, _ => simp at hf)) ?_
  refine xk_assign rfl (by decide) ?_
  refine XK.nilN ?_
  refine XK.ret ?_
  refine XK.norm ?_
  exact XK.ret1 rfl rfl fun w1 st => ⟨rfl, st.below (by simp)⟩

theorem reset_any (r : Int) (w : World) :
    Calls Tryz.prog 94 #[.agg #[.int .i64 r]] w (Rt (.int .i64 (resetE r)) w) := by
  refine XK.enter (vs := [.agg #[.int .i64 r]]) Tryz.func94 rfl Tryz.ntmps94 (by simp) ?_
  refine XK.seq ?_

  refine XK.region ?_
  refine xk_box rfl (by decide) fun g1 => ?_
  refine xk_assign rfl (by decide) ?_
  refine XK.nilN ?_
  refine XK.seq ?_

  refine XK.region ?_
  refine xk_field (off := 0) (by kernel_rfl) rfl (by decide) ?_
  refine xk_ld rfl ?_
  refine xk_callR (f := 130) (fi := []) (ca := []) (by kernel_rfl) rfl rfl (by decide) (fun w1 st => within_any _ _ _ w1) ?_
  (first | refine xk_notD rfl (by decide) ?_ | refine xk_not rfl (by decide) ?_)
  refine xk_callR (f := 124) (fi := []) (ca := []) (by kernel_rfl) rfl rfl (by decide) (fun w1 st => when_any _ _ w1) ?_
  refine xk_assign rfl (by decide) ?_
  refine XK.nilN ?_
  refine XK.ret ?_
  refine XK.norm ?_
  exact XK.ret1 rfl rfl fun w1 st => ⟨rfl, st.below (by simp)⟩

theorem device_1 (clock domain reset clamp : Int) (A B : Option Addr) (n k nb kb : Nat) (A1 A2 A3 A4 : Option Addr) (n1 k1 n2 k2 n3 k3 n4 k4 : Nat) (gd gs : Nat) (w : World) (hd : ROn w gd 0 [.int .i64 clock, .int .i64 domain, .int .i64 reset, .int .u32 clamp, .slice B nb kb, .slice A n k]) (hs : ROn w gs 0 [.slice A1 n1 k1, .slice A2 n2 k2, .slice A3 n3 k3, .slice A4 n4 k4]) (hz1 : (n1 : Int) ≤ 9223372036854775806) :
    Calls Tryz.prog 136 #[.pointer (some ⟨gd, 0, none⟩), .pointer (some ⟨gs, 0, none⟩)] w (Rt (.int .i64 (whenE (!withinB clock 0 ((n1 : Int) - 1)) 4)) w) := by
  refine XK.enter (vs := [.pointer (some ⟨gd, 0, none⟩), .pointer (some ⟨gs, 0, none⟩)]) Tryz.func136 rfl Tryz.ntmps136 (by simp) ?_
  refine XK.seq ?_

  refine XK.region ?_
  refine xk_assign rfl (by decide) ?_
  refine XK.nilN ?_
  refine XK.seq ?_

  refine XK.region ?_
  refine xk_field (off := 0) (by kernel_rfl) rfl (by decide) ?_
  refine xk_ld rfl ?_
  refine xk_field (off := 0) (by kernel_rfl) rfl (by decide) ?_
  refine xk_ld rfl ?_
  refine xk_len (el := 87) (by kernel_rfl) rfl (by decide) ?_
  refine xk_sub rfl rfl (wrap_in (by omega)) (by decide) ?_
  refine xk_callR (f := 130) (fi := []) (ca := []) (by kernel_rfl) rfl rfl (by decide) (fun w1 st => within_any _ _ _ w1) ?_
  (first | refine xk_notD rfl (by decide) ?_ | refine xk_not rfl (by decide) ?_)
  refine xk_callR (f := 124) (fi := []) (ca := []) (by kernel_rfl) rfl rfl (by decide) (fun w1 st => when_any _ _ w1) ?_
  refine xk_assign rfl (by decide) ?_
  refine XK.nilN ?_
  refine XK.ret ?_
  refine XK.norm ?_
  exact XK.ret1 rfl rfl fun w1 st => ⟨rfl, st.below (by simp)⟩

theorem device_2 (clock domain reset clamp : Int) (A B : Option Addr) (n k nb kb : Nat) (A1 A2 A3 A4 : Option Addr) (n1 k1 n2 k2 n3 k3 n4 k4 : Nat) (gd gs : Nat) (w : World) (hd : ROn w gd 0 [.int .i64 clock, .int .i64 domain, .int .i64 reset, .int .u32 clamp, .slice B nb kb, .slice A n k]) (hs : ROn w gs 0 [.slice A1 n1 k1, .slice A2 n2 k2, .slice A3 n3 k3, .slice A4 n4 k4]) (hz2 : (n2 : Int) ≤ 9223372036854775806) :
    Calls Tryz.prog 137 #[.pointer (some ⟨gd, 0, none⟩), .pointer (some ⟨gs, 0, none⟩)] w (Rt (.int .i64 (whenE (!withinB domain 0 ((n2 : Int) - 1)) 4)) w) := by
  refine XK.enter (vs := [.pointer (some ⟨gd, 0, none⟩), .pointer (some ⟨gs, 0, none⟩)]) Tryz.func137 rfl Tryz.ntmps137 (by simp) ?_
  refine XK.seq ?_

  refine XK.region ?_
  refine xk_assign rfl (by decide) ?_
  refine XK.nilN ?_
  refine XK.seq ?_

  refine XK.region ?_
  refine xk_field (off := 1) (by kernel_rfl) rfl (by decide) ?_
  refine xk_ld rfl ?_
  refine xk_field (off := 1) (by kernel_rfl) rfl (by decide) ?_
  refine xk_ld rfl ?_
  refine xk_len (el := 89) (by kernel_rfl) rfl (by decide) ?_
  refine xk_sub rfl rfl (wrap_in (by omega)) (by decide) ?_
  refine xk_callR (f := 130) (fi := []) (ca := []) (by kernel_rfl) rfl rfl (by decide) (fun w1 st => within_any _ _ _ w1) ?_
  (first | refine xk_notD rfl (by decide) ?_ | refine xk_not rfl (by decide) ?_)
  refine xk_callR (f := 124) (fi := []) (ca := []) (by kernel_rfl) rfl rfl (by decide) (fun w1 st => when_any _ _ w1) ?_
  refine xk_assign rfl (by decide) ?_
  refine XK.nilN ?_
  refine XK.ret ?_
  refine XK.norm ?_
  exact XK.ret1 rfl rfl fun w1 st => ⟨rfl, st.below (by simp)⟩

theorem device_3 (clock domain reset clamp : Int) (A B : Option Addr) (n k nb kb : Nat) (A1 A2 A3 A4 : Option Addr) (n1 k1 n2 k2 n3 k3 n4 k4 : Nat) (gd gs : Nat) (w : World) (hd : ROn w gd 0 [.int .i64 clock, .int .i64 domain, .int .i64 reset, .int .u32 clamp, .slice B nb kb, .slice A n k]) (hs : ROn w gs 0 [.slice A1 n1 k1, .slice A2 n2 k2, .slice A3 n3 k3, .slice A4 n4 k4]) (hz3 : (n3 : Int) ≤ 9223372036854775806) :
    Calls Tryz.prog 138 #[.pointer (some ⟨gd, 0, none⟩), .pointer (some ⟨gs, 0, none⟩)] w (Rt (.int .i64 (whenE (!withinB reset 0 ((n3 : Int) - 1)) 4)) w) := by
  refine XK.enter (vs := [.pointer (some ⟨gd, 0, none⟩), .pointer (some ⟨gs, 0, none⟩)]) Tryz.func138 rfl Tryz.ntmps138 (by simp) ?_
  refine XK.seq ?_

  refine XK.region ?_
  refine xk_assign rfl (by decide) ?_
  refine XK.nilN ?_
  refine XK.seq ?_

  refine XK.region ?_
  refine xk_field (off := 2) (by kernel_rfl) rfl (by decide) ?_
  refine xk_ld rfl ?_
  refine xk_field (off := 2) (by kernel_rfl) rfl (by decide) ?_
  refine xk_ld rfl ?_
  refine xk_len (el := 91) (by kernel_rfl) rfl (by decide) ?_
  refine xk_sub rfl rfl (wrap_in (by omega)) (by decide) ?_
  refine xk_callR (f := 130) (fi := []) (ca := []) (by kernel_rfl) rfl rfl (by decide) (fun w1 st => within_any _ _ _ w1) ?_
  (first | refine xk_notD rfl (by decide) ?_ | refine xk_not rfl (by decide) ?_)
  refine xk_callR (f := 124) (fi := []) (ca := []) (by kernel_rfl) rfl rfl (by decide) (fun w1 st => when_any _ _ w1) ?_
  refine xk_assign rfl (by decide) ?_
  refine XK.nilN ?_
  refine XK.ret ?_
  refine XK.norm ?_
  exact XK.ret1 rfl rfl fun w1 st => ⟨rfl, st.below (by simp)⟩

theorem device_4_1 (f : Int) (A1 A2 A3 A4 : Option Addr) (n1 k1 n2 k2 n3 k3 n4 k4 : Nat) (gs : Nat) (w : World) (hs : ROn w gs 0 [.slice A1 n1 k1, .slice A2 n2 k2, .slice A3 n3 k3, .slice A4 n4 k4]) (hz4 : (n4 : Int) ≤ 9223372036854775806) :
    Calls Tryz.prog 140 #[.int .i64 f, .pointer (some ⟨gs, 0, none⟩)] w (Rt (.int .i64 (whenE (!withinB f 0 ((n4 : Int) - 1)) 4)) w) := by
  refine XK.enter (vs := [.int .i64 f, .pointer (some ⟨gs, 0, none⟩)]) Tryz.func140 rfl Tryz.ntmps140 (by simp) ?_
  refine XK.seq ?_

  refine XK.region ?_
  refine xk_assign rfl (by decide) ?_
  refine XK.nilN ?_
  refine XK.seq ?_

  refine XK.region ?_
  refine xk_move rfl (by decide) ?_
  refine xk_field (off := 3) (by kernel_rfl) rfl (by decide) ?_
  refine xk_ld rfl ?_
  refine xk_len (el := 94) (by kernel_rfl) rfl (by decide) ?_
  refine xk_sub rfl rfl (wrap_in (by omega)) (by decide) ?_
  refine xk_callR (f := 130) (fi := []) (ca := []) (by kernel_rfl) rfl rfl (by decide) (fun w1 st => within_any _ _ _ w1) ?_
  (first | refine xk_notD rfl (by decide) ?_ | refine xk_not rfl (by decide) ?_)
  refine xk_callR (f := 124) (fi := []) (ca := []) (by kernel_rfl) rfl rfl (by decide) (fun w1 st => when_any _ _ w1) ?_
  refine xk_assign rfl (by decide) ?_
  refine XK.nilN ?_
  refine XK.ret ?_
  refine XK.norm ?_
  exact XK.ret1 rfl rfl fun w1 st => ⟨rfl, st.below (by simp)⟩

theorem device_4 (clock domain reset clamp : Int) (A B : Option Addr) (n k nb kb : Nat) (A1 A2 A3 A4 : Option Addr) (n1 k1 n2 k2 n3 k3 n4 k4 : Nat) (gd gs : Nat) (w : World) (hd : ROn w gd 0 [.int .i64 clock, .int .i64 domain, .int .i64 reset, .int .u32 clamp, .slice B nb kb, .slice A n k]) (hs : ROn w gs 0 [.slice A1 n1 k1, .slice A2 n2 k2, .slice A3 n3 k3, .slice A4 n4 k4]) (hz4 : (n4 : Int) ≤ 9223372036854775806) (zs : List Int) (hA : SlS (all w) 1 A n (intCells zs)) (hn : n = zs.length) (hz : (n : Int) ≤ 9223372036854775806) :
    Calls Tryz.prog 139 #[.pointer (some ⟨gd, 0, none⟩), .pointer (some ⟨gs, 0, none⟩)] w (Rt (.int .i64 (firstE (zs.map fun f => whenE (!withinB f 0 ((n4 : Int) - 1)) 4))) w) := by
  refine XK.enter (vs := [.pointer (some ⟨gd, 0, none⟩), .pointer (some ⟨gs, 0, none⟩)]) Tryz.func139 rfl Tryz.ntmps139 (by simp) ?_
  refine XK.seq ?_

  refine XK.region ?_
  refine xk_assign rfl (by decide) ?_
  refine XK.nilN ?_
  refine XK.seq ?_

  refine XK.region ?_
  refine xk_field (off := 5) (by kernel_rfl) rfl (by decide) ?_
  refine xk_ld rfl ?_
  refine xk_func (vf := []) (vc := [.pointer (some ⟨gs, 0, none⟩)]) rfl rfl (by decide) ?_
  refine xk_callR (f := 128) (fi := []) (ca := []) (by kernel_rfl) rfl rfl (by decide) (fun w1 st => each_int _ _ _ 140 [.pointer (some ⟨gs, 0, none⟩)] ((intCells zs).map fun v => [v]) (zs.map fun f => whenE (!withinB f 0 ((n4 : Int) - 1)) 4) w1 (by rw [flat1]; exact hA.le (all_le (st.started (by simp)))) (by simp) (by simp [intCells]; omega) (by simp; omega) (by omega) (by kernel_rfl) (fun i r x hr hx w2 hb2 => by
    obtain ⟨f, hf, rfl⟩ : ∃ f, zs[i]? = some f ∧ r = [.int .i64 f] := by
      rw [List.getElem?_map, intCells, List.getElem?_map] at hr
      cases hq : zs[i]? with
      | none => simp [hq] at hr
      | some f => simp [hq] at hr; exact ⟨f, rfl, hr.symm⟩
    rw [List.getElem?_map, hf] at hx
    cases hx
    exact device_4_1 f A1 A2 A3 A4 n1 k1 n2 k2 n3 k3 n4 k4 gs w2 ((hs.below (st.started (by simp))).below hb2) hz4)) ?_
  refine xk_assign rfl (by decide) ?_
  refine XK.nilN ?_
  refine XK.ret ?_
  refine XK.norm ?_
  exact XK.ret1 rfl rfl fun w1 st => ⟨rfl, st.below (by simp)⟩

theorem device_any (rg : List Rg) (clock domain reset clamp : Int) (A B : Option Addr) (n k nb kb : Nat) (A1 A2 A3 A4 : Option Addr) (n1 k1 n2 k2 n3 k3 n4 k4 : Nat) (w : World) (hz1 : (n1 : Int) ≤ 9223372036854775806) (hz2 : (n2 : Int) ≤ 9223372036854775806) (hz3 : (n3 : Int) ≤ 9223372036854775806) (hz4 : (n4 : Int) ≤ 9223372036854775806) (zs : List Int) (hA : SlS (all w) 1 A n (intCells zs)) (hn : n = zs.length) (hz : (n : Int) ≤ 9223372036854775806) :
    Calls Tryz.prog 98 #[.agg #[.slice A1 n1 k1, .slice A2 n2 k2, .slice A3 n3 k3, .slice A4 n4 k4], .agg #[.int .i64 clock, .int .i64 domain, .int .i64 reset, .int .u32 clamp, .slice B nb kb, .slice A n k]] w (Rt (.int .i64 (deviceE n1 n2 n3 n4 ⟨clock, domain, reset, clamp, rg, zs⟩)) w) := by
  refine XK.enter (vs := [.agg #[.slice A1 n1 k1, .slice A2 n2 k2, .slice A3 n3 k3, .slice A4 n4 k4], .agg #[.int .i64 clock, .int .i64 domain, .int .i64 reset, .int .u32 clamp, .slice B nb kb, .slice A n k]]) Tryz.func98 rfl Tryz.ntmps98 (by simp) ?_
  refine XK.seq ?_

  refine XK.region ?_
  refine xk_box rfl (by decide) fun g1 => ?_
  refine xk_box rfl (by decide) fun g2 => ?_
  refine xk_assign rfl (by decide) ?_
  refine XK.nilN ?_
  refine XK.seq ?_

  refine XK.region ?_
  refine xk_func (vf := []) (vc := [.pointer (some ⟨g2, 0, none⟩), .pointer (some ⟨g1, 0, none⟩)]) rfl rfl (by decide) ?_
  refine xk_func (vf := []) (vc := [.pointer (some ⟨g2, 0, none⟩), .pointer (some ⟨g1, 0, none⟩)]) rfl rfl (by decide) ?_
  refine xk_func (vf := []) (vc := [.pointer (some ⟨g2, 0, none⟩), .pointer (some ⟨g1, 0, none⟩)]) rfl rfl (by decide) ?_
  refine xk_func (vf := []) (vc := [.pointer (some ⟨g2, 0, none⟩), .pointer (some ⟨g1, 0, none⟩)]) rfl rfl (by decide) ?_
  refine xk_slice (el := 149) (sz := 1) (zs := [.nilFunc]) (by kernel_rfl) (zeroB_of (by kernel_rfl)) (by kernel_rfl) rfl (by decide) (by decide) rfl (by simp [fillL, setN, Value.cells, List.range_succ, List.set]; rfl) (by decide) fun g3 => ?_
  refine xk_callR (f := 78) (fi := []) (ca := []) (by kernel_rfl) rfl rfl (by decide) (fun w1 st => first_any _ _ _ [(136, [.pointer (some ⟨g2, 0, none⟩), .pointer (some ⟨g1, 0, none⟩)]), (137, [.pointer (some ⟨g2, 0, none⟩), .pointer (some ⟨g1, 0, none⟩)]), (138, [.pointer (some ⟨g2, 0, none⟩), .pointer (some ⟨g1, 0, none⟩)]), (139, [.pointer (some ⟨g2, 0, none⟩), .pointer (some ⟨g1, 0, none⟩)])] [whenE (!withinB clock 0 ((n1 : Int) - 1)) 4, whenE (!withinB domain 0 ((n2 : Int) - 1)) 4, whenE (!withinB reset 0 ((n3 : Int) - 1)) 4, firstE (zs.map fun f => whenE (!withinB f 0 ((n4 : Int) - 1)) 4)] w1 (st.slS (i := 0) (n := 4) (sz := 1) (cs := [.func (.func 136) #[] #[.pointer (some ⟨g2, 0, none⟩), .pointer (some ⟨g1, 0, none⟩)], .func (.func 137) #[] #[.pointer (some ⟨g2, 0, none⟩), .pointer (some ⟨g1, 0, none⟩)], .func (.func 138) #[] #[.pointer (some ⟨g2, 0, none⟩), .pointer (some ⟨g1, 0, none⟩)], .func (.func 139) #[] #[.pointer (some ⟨g2, 0, none⟩), .pointer (some ⟨g1, 0, none⟩)]]) rfl rfl) rfl rfl (by decide) (by simp only [List.mem_cons, List.not_mem_nil, or_false]; rintro f (rfl | rfl | rfl | rfl) <;> kernel_rfl) (fun i f x hf hx w2 hb2 => by
    have hbb := (st.started (by simp)).trans (hb2.mono st.size)
    match i, hf, hx with
    | 0, hf, hx => cases hf; cases hx; exact device_1 clock domain reset clamp A B n k nb kb A1 A2 A3 A4 n1 k1 n2 k2 n3 k3 n4 k4 g2 g1 w2 (st.box (cs := [.int .i64 clock, .int .i64 domain, .int .i64 reset, .int .u32 clamp, .slice B nb kb, .slice A n k]) (i := 1) rfl |>.below hb2) (st.box (cs := [.slice A1 n1 k1, .slice A2 n2 k2, .slice A3 n3 k3, .slice A4 n4 k4]) (i := 2) rfl |>.below hb2) hz1
    | 1, hf, hx => cases hf; cases hx; exact device_2 clock domain reset clamp A B n k nb kb A1 A2 A3 A4 n1 k1 n2 k2 n3 k3 n4 k4 g2 g1 w2 (st.box (cs := [.int .i64 clock, .int .i64 domain, .int .i64 reset, .int .u32 clamp, .slice B nb kb, .slice A n k]) (i := 1) rfl |>.below hb2) (st.box (cs := [.slice A1 n1 k1, .slice A2 n2 k2, .slice A3 n3 k3, .slice A4 n4 k4]) (i := 2) rfl |>.below hb2) hz2
    | 2, hf, hx => cases hf; cases hx; exact device_3 clock domain reset clamp A B n k nb kb A1 A2 A3 A4 n1 k1 n2 k2 n3 k3 n4 k4 g2 g1 w2 (st.box (cs := [.int .i64 clock, .int .i64 domain, .int .i64 reset, .int .u32 clamp, .slice B nb kb, .slice A n k]) (i := 1) rfl |>.below hb2) (st.box (cs := [.slice A1 n1 k1, .slice A2 n2 k2, .slice A3 n3 k3, .slice A4 n4 k4]) (i := 2) rfl |>.below hb2) hz3
    | 3, hf, hx => cases hf; cases hx; exact device_4 clock domain reset clamp A B n k nb kb A1 A2 A3 A4 n1 k1 n2 k2 n3 k3 n4 k4 g2 g1 w2 (st.box (cs := [.int .i64 clock, .int .i64 domain, .int .i64 reset, .int .u32 clamp, .slice B nb kb, .slice A n k]) (i := 1) rfl |>.below hb2) (st.box (cs := [.slice A1 n1 k1, .slice A2 n2 k2, .slice A3 n3 k3, .slice A4 n4 k4]) (i := 2) rfl |>.below hb2) hz4 zs (hA.le (all_le hbb)) hn hz
    | i + 4, hf, _ => simp at hf)) ?_
  refine xk_assign rfl (by decide) ?_
  refine XK.nilN ?_
  refine XK.ret ?_
  refine XK.norm ?_
  exact XK.ret1 rfl rfl fun w1 st => ⟨rfl, st.below (by simp)⟩

theorem full_1 (rg : List Rg) (zs : List Int) (clock domain reset clamp : Int) (A B : Option Addr) (n k nb kb : Nat) (w : World) (hrg : nb = rg.length) (hn : n = zs.length) :
    Calls Tryz.prog 123 #[.agg #[.int .i64 clock, .int .i64 domain, .int .i64 reset, .int .u32 clamp, .slice B nb kb, .slice A n k]] w (Rt (.int .i64 (manyE ⟨clock, domain, reset, clamp, rg, zs⟩)) w) := by
  refine XK.enter (vs := [.agg #[.int .i64 clock, .int .i64 domain, .int .i64 reset, .int .u32 clamp, .slice B nb kb, .slice A n k]]) Tryz.func123 rfl Tryz.ntmps123 (by simp) ?_
  refine XK.seq ?_

  refine XK.region ?_
  refine xk_box rfl (by decide) fun g1 => ?_
  refine xk_assign rfl (by decide) ?_
  refine XK.nilN ?_
  refine XK.seq ?_

  refine XK.region ?_
  refine xk_field (off := 4) (by kernel_rfl) rfl (by decide) ?_
  refine xk_ld rfl ?_
  refine xk_len (el := 96) (by kernel_rfl) rfl (by decide) ?_
  refine xk_gtr rfl rfl (by decide) ?_
  refine xk_move rfl (by decide) ?_
  refine xk_split (t := 7) rfl (fun hg => ?_) (fun hg => ?_)
  ·
    refine xk_guardF rfl rfl rfl (by decide) ?_
    refine xk_guardF rfl rfl rfl (by decide) ?_
    refine xk_guardF rfl rfl rfl (by decide) ?_
    refine xk_guardF rfl rfl rfl (by decide) ?_
    (first | refine xk_pickT rfl rfl (by decide) ?_ | refine xk_pickF rfl rfl (by decide) ?_)
    refine xk_callR (f := 124) (fi := []) (ca := []) (by kernel_rfl) rfl rfl (by decide) (fun w1 st => when_any _ _ w1) ?_
    refine xk_assign rfl (by decide) ?_
    refine XK.nilN ?_
    refine XK.ret ?_
    refine XK.norm ?_
    exact XK.ret1 rfl rfl fun w1 st => ⟨by subst hrg hn; simp [manyE, hg], st.below (by simp)⟩
  ·
    refine xk_guardT rfl rfl ?_; refine xk_field (off := 5) (by kernel_rfl) rfl (by decide) ?_
    refine xk_guardT rfl rfl ?_; refine xk_ld rfl ?_
    refine xk_guardT rfl rfl ?_; refine xk_len (el := 3) (by kernel_rfl) rfl (by decide) ?_
    refine xk_guardT rfl rfl ?_; refine xk_gtr rfl rfl (by decide) ?_
    (first | refine xk_pickT rfl rfl (by decide) ?_ | refine xk_pickF rfl rfl (by decide) ?_)
    refine xk_callR (f := 124) (fi := []) (ca := []) (by kernel_rfl) rfl rfl (by decide) (fun w1 st => when_any _ _ w1) ?_
    refine xk_assign rfl (by decide) ?_
    refine XK.nilN ?_
    refine XK.ret ?_
    refine XK.norm ?_
    exact XK.ret1 rfl rfl fun w1 st => ⟨by subst hrg hn; simp [manyE, hg], st.below (by simp)⟩

end Go.Proofs.YtbgibbbggajgaaaGreat
/- conf: the graphs of a chip, and whether they have a cycle. -/
namespace Go.Proofs.YtbgibbbggajgaaaGreat
set_option linter.all false
open Go.RowKit
def Soc.small (s : Soc) : Prop := s.clocks.length ≤ 1000000 ∧ s.domains.length ≤ 1000000 ∧ s.resets.length ≤ 1000000 ∧ s.devs.length ≤ 1000000 ∧ (∀ c ∈ s.clocks, c.src.length ≤ 1000000) ∧ ∀ d ∈ s.devs, d.needs.length ≤ 1000000
structure SocW (w : World) (s : Soc) (A1 : Option Addr) (n1 : Nat) (A2 : Option Addr) (n2 : Nat) (A3 : Option Addr) (n3 : Nat) (A4 : Option Addr) (n4 : Nat) : Prop where
  clk : RsR (slq (all w)) (ClkR (slq (all w))) 87 6 A1 n1 s.clocks
  dom : RsR (slq (all w)) DomR 89 3 A2 n2 s.domains
  rst : RsR (slq (all w)) RstR 91 1 A3 n3 s.resets
  dev : RsR (slq (all w)) (DevR (slq (all w))) 94 6 A4 n4 s.devs
  small : s.small
section
variable {w w' : World} {s : Soc} {A1 A2 A3 A4 : Option Addr} {n1 n2 n3 n4 : Nat}
theorem SocW.le (h : SocW w s A1 n1 A2 n2 A3 n3 A4 n4) (hb : Below w.heap.size w w') : SocW w' s A1 n1 A2 n2 A3 n3 A4 n4 :=
  ⟨h.clk.mono (slq_le (all_le hb)) (fun _ _ => ClkR.mono (slq_le (all_le hb))), h.dom.mono (slq_le (all_le hb)) (fun _ _ h => h), h.rst.mono (slq_le (all_le hb)) (fun _ _ h => h), h.dev.mono (slq_le (all_le hb)) (fun _ _ => DevR.mono (slq_le (all_le hb))), h.small⟩
theorem SocW.len1 (h : SocW w s A1 n1 A2 n2 A3 n3 A4 n4) : n1 = s.clocks.length := by obtain ⟨_, _, h, _⟩ := h.clk; exact h
theorem SocW.len2 (h : SocW w s A1 n1 A2 n2 A3 n3 A4 n4) : n2 = s.domains.length := by obtain ⟨_, _, h, _⟩ := h.dom; exact h
theorem SocW.len3 (h : SocW w s A1 n1 A2 n2 A3 n3 A4 n4) : n3 = s.resets.length := by obtain ⟨_, _, h, _⟩ := h.rst; exact h
theorem SocW.len4 (h : SocW w s A1 n1 A2 n2 A3 n3 A4 n4) : n4 = s.devs.length := by obtain ⟨_, _, h, _⟩ := h.dev; exact h
end
/-- the elements of a row, one by one -/
theorem RsR.row {α : Type} {w : World} {R : α → List Value → Prop} {t : TypeId} {sz n : Nat} {A : Option Addr} {es : List α} (h : RsR (slq (all w)) R t sz A n es) {k : Nat} {e : α} (hk : es[k]? = some e) :
    ∃ b off r, A = some ⟨b, off, none⟩ ∧ r.length = sz ∧ R e r ∧ ROn w b (off + k * sz) r := by
  obtain ⟨rows, h1, h2, h3⟩ := h
  have hke := (List.getElem?_eq_some_iff.1 hk).1
  have hl := h1.len.1
  obtain ⟨r, hr⟩ : ∃ r, rows[k]? = some r := ⟨_, List.getElem?_eq_getElem (by omega)⟩
  obtain ⟨e', he, hrl, hR⟩ := h1.at_ hr
  rw [hk] at he
  cases he
  obtain ⟨b, off, hA, hro⟩ := SlS.row h3 h1.all_len hr (by omega)
  exact ⟨b, off, r, hA, hrl, hR, hro⟩
def clocksG (s : Soc) : List (List Int) := s.clocks.map (·.src)
def domsG (s : Soc) : List (List Int) := s.domains.map fun d => if d.above = -1 then [] else [d.above]
def needsG (s : Soc) : List (List Int) := s.devs.map (·.needs)
def cycE (g : List (List Int)) : Int := whenE (decide ((orderE g).1 = 5)) 5
theorem fill_set {vs : List Value} {v z : Value} {k n : Nat} (h : vs.length = k) (hk : k < n) : (vs ++ List.replicate (n - k) z).set k v = (vs ++ [v]) ++ List.replicate (n - (k + 1)) z := by
  rw [List.set_append_right _ _ (by omega), h, Nat.sub_self, show n - k = (n - (k + 1)) + 1 by omega, List.replicate_succ, List.set_cons_zero, List.append_assoc]; rfl
theorem fill_nil {vs : List Value} {z : Value} {k n : Nat} (hk : k < n) : vs ++ List.replicate (n - k) z = (vs ++ [z]) ++ List.replicate (n - (k + 1)) z := by
  rw [show n - k = (n - (k + 1)) + 1 by omega, List.replicate_succ, List.append_assoc]; rfl
theorem rows_next {g : List (List Int)} {k : Nat} {vs : List Value} {q q' : Piece} {l : List Int} {v : Value} (h : Rows (LstR (slq q)) 1 (g.take k) (vs.map fun v => [v])) (hl : q.Le q') (hg : g[k]? = some l) (hv : LstR (slq q') l [v]) : Rows (LstR (slq q')) 1 (g.take (k + 1)) ((vs ++ [v]).map fun v => [v]) := by
  rw [List.take_add_one, hg, Option.toList_some, List.map_append]
  exact (h.mono (fun _ _ => LstR.mono (slq_le hl))).snoc rfl hv
theorem GrS.ofBlk {q q2 : Piece} {g : List (List Int)} {vs : List Value} {gG n : Nat} {t : TypeId} (h : Rows (LstR (slq q)) 1 g (vs.map fun v => [v])) (hl : q.Le q2) (h1 : ∃ F, (HP.blk gG t vs).sat F q2.w ∧ ∀ b, F b → q2.Z b) (hn : n = g.length) : GrS q2 (some ⟨gG, 0, none⟩) n g := by
  obtain ⟨F, hs, hz⟩ := h1
  refine ⟨_, h.mono (fun _ _ => LstR.mono (slq_le hl)), hn, ?_⟩
  rw [show (vs.map fun v => [v]).flatten = vs by clear h hs; induction vs <;> simp_all]
  refine SlS.of_blk (c := 0) hs hz ?_
  have := h.len.1
  simp at this
  omega
/-- a list of the callee's own -/
def OwnOk (zs : List Int) (v : Value) (w w' : World) : Prop := ∃ A c, v = .slice A zs.length c ∧ SlS (fresh w w') 1 A zs.length (intCells zs)
/-- a graph of the callee's own -/
def GrOk (g : List (List Int)) (v : Value) (w w' : World) : Prop := ∃ A c, v = .slice A g.length c ∧ GrS (fresh w w') A g.length g

theorem check_any (A : Option Addr) (n c : Nat) (g : List (List Int)) (w : World) (hg : GrS (all w) A n g) (hn : n = g.length) (hn2 : (n : Int) ≤ 9223372036854775806) (hlen : ∀ l ∈ g, (l.length : Int) ≤ 9223372036854775806) :
    Calls Tryz.prog 133 #[.slice A n c] w (Rt (.int .i64 (orderE g).1) w) := by
  refine XK.enter (vs := [.slice A n c]) Tryz.func133 rfl Tryz.ntmps133 (by simp) ?_
  refine XK.seq ?_

  refine XK.region ?_
  refine xk_assign rfl (by decide) ?_
  refine XK.nilN ?_
  refine XK.seq ?_

  refine XK.region ?_
  refine xk_move rfl (by decide) ?_
  refine xk_callV (f := 52) (fi := []) (ca := []) (by kernel_rfl) rfl rfl (by decide) (fun v => ∃ A m c, v = .tuple #[.slice A m c, .int .i64 (orderE g).1]) (fun w1 st => (order_any A n c g w1 (hg.le (all_le (st.started (by simp)))) hn hn2 hlen).mono fun y w2 h => ?_) ?_
  · obtain ⟨⟨A', m, c', hy, _, _⟩, hb⟩ := h
    exact ⟨⟨_, hy, A', m, c', rfl⟩, hb⟩
  rintro _ ⟨A', m, c', rfl⟩
  refine xk_move rfl (by decide) ?_
  refine xk_extract rfl rfl (by decide) ?_
  refine xk_extract rfl rfl (by decide) ?_
  refine xk_assign rfl (by decide) ?_
  refine xk_assign rfl (by decide) ?_
  refine XK.nilN ?_
  refine XK.seq ?_

  refine XK.region ?_
  refine xk_move rfl (by decide) ?_
  refine xk_assign rfl (by decide) ?_
  refine XK.nilN ?_
  refine XK.ret ?_
  refine XK.norm ?_
  exact XK.ret1 rfl rfl fun w1 st => ⟨rfl, st.below (by simp)⟩

theorem cycle_any (A : Option Addr) (n c : Nat) (g : List (List Int)) (w : World) (hg : GrS (all w) A n g) (hn : n = g.length) (hn2 : (n : Int) ≤ 9223372036854775806) (hlen : ∀ l ∈ g, (l.length : Int) ≤ 9223372036854775806) :
    Calls Tryz.prog 86 #[.slice A n c] w (Rt (.int .i64 (cycE g)) w) := by
  refine XK.enter (vs := [.slice A n c]) Tryz.func86 rfl Tryz.ntmps86 (by simp) ?_
  refine XK.seq ?_

  refine XK.region ?_
  refine xk_assign rfl (by decide) ?_
  refine XK.nilN ?_
  refine XK.seq ?_

  refine XK.region ?_
  refine xk_move rfl (by decide) ?_
  refine xk_callR (f := 133) (fi := []) (ca := []) (by kernel_rfl) rfl rfl (by decide) (fun w1 st => check_any A n c g w1 (hg.le (all_le (st.started (by simp)))) hn hn2 hlen) ?_
  refine xk_eql rfl rfl (by decide) ?_
  refine xk_callR (f := 124) (fi := []) (ca := []) (by kernel_rfl) rfl rfl (by decide) (fun w1 st => when_any _ _ w1) ?_
  refine xk_assign rfl (by decide) ?_
  refine XK.nilN ?_
  refine XK.ret ?_
  refine XK.norm ?_
  exact XK.ret1 rfl rfl fun w1 st => ⟨rfl, st.below (by simp)⟩

theorem own_any (A : Option Addr) (n c : Nat) (zs : List Int) (w : World) (hs : SlS (all w) 1 A n (intCells zs)) (hn : n = zs.length) (hn2 : n ≤ 1000000) :
    Calls Tryz.prog 104 #[.slice A n c] w (fun y w' => (∃ v, y = .returned v ∧ OwnOk zs v w w') ∧ Below w.heap.size w w') := by
  refine XK.enter (vs := [.slice A n c]) Tryz.func104 rfl Tryz.ntmps104 (by simp) ?_
  refine XK.seq ?_

  refine XK.region ?_
  refine xk_assign rfl (by decide) ?_
  refine XK.nilN ?_
  refine XK.seq ?_

  refine XK.region ?_
  refine xk_move rfl (by decide) ?_
  refine XK.nilrow 3 1 ?_
  refine xk_appendT 0 1 8 n (n' := n) (v := .slice none 0 0) (el := 3) (by kernel_rfl) (by kernel_rfl) (by decide) rfl rfl rfl (sl_ro (by simp) hs) (by simp [intCells, Value.oneCell']) (by omega) (by omega) (by omega) (by decide) fun A' k' => ?_
  refine xk_assign rfl (by decide) ?_
  refine XK.nilN ?_
  refine XK.ret ?_
  refine XK.norm ?_
  refine XK.still [] [0] [] (by simp) rfl (by decide) (by decide) fun q hq _ hfr => ?_
  subst hn
  exact XK.ret1 rfl rfl fun w1 st => ⟨⟨_, rfl, A', k', rfl, (SlS.own (hq 0 _ (by simp) rfl)).le (st.fresh_le (by simp) (hfr (by simp) (by simp)))⟩, st.below (by simp)⟩

theorem clocks_any (s : Soc) (A1 A2 A3 A4 : Option Addr) (n1 k1 n2 k2 n3 k3 n4 k4 : Nat) (w : World) (hW : SocW w s A1 n1 A2 n2 A3 n3 A4 n4) :
    Calls Tryz.prog 54 #[.agg #[.slice A1 n1 k1, .slice A2 n2 k2, .slice A3 n3 k3, .slice A4 n4 k4]] w (fun y w' => (∃ v, y = .returned v ∧ GrOk (clocksG s) v w w') ∧ Below w.heap.size w w') := by
  have hn := hW.len1
  have hsm := hW.small
  unfold Soc.small at hsm
  obtain ⟨hs1, hs2, hs3, hs4, hs5, hs6⟩ := hsm
  refine XK.enter (vs := [.agg #[.slice A1 n1 k1, .slice A2 n2 k2, .slice A3 n3 k3, .slice A4 n4 k4]]) Tryz.func54 rfl Tryz.ntmps54 (by simp) ?_
  refine XK.seq ?_

  refine XK.region ?_
  refine xk_box rfl (by decide) fun g1 => ?_
  refine xk_assign rfl (by decide) ?_
  refine XK.nilN ?_
  refine XK.seq ?_

  refine XK.region ?_
  refine xk_field (off := 0) (by kernel_rfl) rfl (by decide) ?_
  refine xk_ld rfl ?_
  refine xk_len (el := 87) (by kernel_rfl) rfl (by decide) ?_
  refine xk_makeT 24 (el := 22) (z := .slice none 0 0) (by kernel_rfl) (by kernel_rfl) rfl rfl rfl (by omega) (by omega) (by decide) fun g2 => ?_
  refine xk_assign rfl (by decide) ?_
  refine XK.nilN ?_
  refine XK.seq ?_
  refine XK.seq ?_

  refine XK.region ?_
  refine xk_field (off := 0) (by kernel_rfl) rfl (by decide) ?_
  refine xk_ld rfl ?_
  refine xk_len (el := 87) (by kernel_rfl) rfl (by decide) ?_
  refine xk_move rfl (by decide) ?_
  refine XK.nilN ?_
  refine XK.envS [(13, .int .i64 0), (12, .int .i64 n1), (11, .slice A1 n1 k1), (3, .slice (some ⟨g2, 0, none⟩) n1 n1), (1, .pointer (some ⟨g1, 0, none⟩))] ?_
  refine XK.still [] [] [0, 1] (by simp) rfl (by decide) (by decide) fun q0 _ _ hfr0 => ?_
  refine XK.block ?_
  refine XK.loop (fun m e R H => ∃ (k : Nat) (vs : List Value) (q : Piece), k ≤ n1 ∧ m = n1 - k ∧ Fresh w q ∧ Rows (LstR (slq q)) 1 ((clocksG s).take k) (vs.map fun v => [v]) ∧ vs.length = k ∧ e = [(13, .int .i64 k), (12, .int .i64 n1), (11, .slice A1 n1 k1), (3, .slice (some ⟨g2, 0, none⟩) n1 n1), (1, .pointer (some ⟨g1, 0, none⟩))] ∧ R = [q, all w] ∧ H = [HP.blk g2 22 (vs ++ List.replicate (n1 - k) (.slice none 0 0)), HP.blk g1 30 [.slice A1 n1 k1, .slice A2 n2 k2, .slice A3 n3 k3, .slice A4 n4 k4]]) n1 ⟨0, [], _, by omega, rfl, hfr0 (by simp) (by simp), trivial, rfl, rfl, rfl, rfl⟩ fun m e R H hI => ?_
  obtain ⟨k, vs, q, hk, rfl, hfq, hrows, hvl, rfl, rfl, rfl⟩ := hI
  refine XK.seq ?_

  refine XK.region ?_
  refine xk_lss rfl rfl (by decide) ?_
  refine XK.nilN ?_
  refine XK.seq ?_
  refine XK.if_ rfl (fun h => ?_) (fun h => ?_)
  ·
    refine XK.skip ?_
    refine XK.norm ?_
    refine XK.seq ?_
    refine XK.block ?_
    refine XK.seq ?_
    have hkn : k < s.clocks.length := by omega
    obtain ⟨e, he⟩ : ∃ e, s.clocks[k]? = some e := ⟨_, List.getElem?_eq_getElem hkn⟩
    obtain ⟨b, off, r, rfl, hrl, hR, hro⟩ := hW.clk.row he
    obtain ⟨Af, nf, kf, rfl, hnf, hsf⟩ := hR
    have hgk : (clocksG s)[k]? = some (e.src) := by simp [clocksG, he]

    refine XK.region ?_
    refine xk_move rfl (by decide) ?_
    refine xk_at (k) (off + k * 6) (el := 87) (sz := 6) (by kernel_rfl) (by kernel_rfl) rfl rfl (by omega) (by omega) (by omega) (by decide) ?_
    refine xk_ldN 6 rfl ?_
    refine xk_alloc (cs := [.int .u8 0, .slice none 0 0, .int .u64 0, .int .i64 0, .int .i64 0, .int .i64 0]) (zeroB_of (by kernel_rfl)) (by decide) fun g3 => ?_
    refine xk_assign rfl (by decide) ?_
    (first | (refine xk_storeN 0 rfl rfl rfl (by kernel_rfl) (by simp [Value.cells, Value.oneCell']) (by simp [Value.cells]) ?_) | (refine xk_storeN 1 rfl rfl rfl (by kernel_rfl) (by simp [Value.cells, Value.oneCell']) (by simp [Value.cells]) ?_) | (refine xk_storeN 2 rfl rfl rfl (by kernel_rfl) (by simp [Value.cells, Value.oneCell']) (by simp [Value.cells]) ?_) | (refine xk_storeN 3 rfl rfl rfl (by kernel_rfl) (by simp [Value.cells, Value.oneCell']) (by simp [Value.cells]) ?_) | (refine xk_storeN 4 rfl rfl rfl (by kernel_rfl) (by simp [Value.cells, Value.oneCell']) (by simp [Value.cells]) ?_) | (refine xk_storeN 5 rfl rfl rfl (by kernel_rfl) (by simp [Value.cells, Value.oneCell']) (by simp [Value.cells]) ?_) | (refine xk_storeN 6 rfl rfl rfl (by kernel_rfl) (by simp [Value.cells, Value.oneCell']) (by simp [Value.cells]) ?_) | (refine xk_storeN 7 rfl rfl rfl (by kernel_rfl) (by simp [Value.cells, Value.oneCell']) (by simp [Value.cells]) ?_) | (refine xk_storeN 8 rfl rfl rfl (by kernel_rfl) (by simp [Value.cells, Value.oneCell']) (by simp [Value.cells]) ?_)); simp only [putN, Value.cells, List.set, List.take, List.drop, List.nil_append, List.append_nil, List.length_cons, List.length_nil, List.cons_append, Nat.reduceAdd]
    refine XK.nilN ?_

    refine XK.region ?_
    refine xk_move rfl (by decide) ?_
    refine xk_move rfl (by decide) ?_
    refine xk_field (off := 1) (by kernel_rfl) rfl (by decide) ?_
    refine xk_ld rfl ?_
    refine xk_call [q] (f := 104) (fi := []) (ca := []) (by kernel_rfl) rfl rfl (by decide) (by simp) (OwnOk e.src) (fun w1 st => own_any Af nf kf e.src w1 (SlS.le hsf (all_le (st.started (by simp)))) hnf (by have := hs5 e (List.mem_of_getElem? he); omega)) ?_
    rintro _ w1 q' ⟨Ao, co, rfl, hso⟩ hf' hle hfr2
    refine xk_at (k) (k) (el := 22) (sz := 1) (by kernel_rfl) (by kernel_rfl) rfl rfl (by omega) (by omega) (by omega) (by decide) ?_
    refine xk_store 1 rfl (by kernel_rfl) rfl rfl rfl (by simp; omega) ?_
    dsimp only [List.set]
    rw [fill_set hvl (by omega)]
    refine XK.nilN ?_

    refine XK.region ?_
    refine xk_add rfl rfl (wrap_in (by omega)) (by decide) ?_
    refine xk_move rfl (by decide) ?_
    refine XK.nilN ?_
    exact XK.weak [1, 2] rfl (by decide) (by simp) (XK.envS [(13, .int .i64 (k + 1)), (12, .int .i64 n1), (11, .slice (some ⟨b, off, none⟩) n1 k1), (3, .slice (some ⟨g2, 0, none⟩) n1 n1), (1, .pointer (some ⟨g1, 0, none⟩))] (XK.round (n1 - (k + 1)) (by omega) ⟨k + 1, vs ++ [_], q', by omega, rfl, hfr2 (by simpa using hfq), rows_next hrows (hle q (by simp)) hgk ⟨Ao, _, co, rfl, rfl, SlS.le hso hf'⟩, by simp [hvl], rfl, rfl, rfl⟩))
  ·
    refine XK.exit ?_
    refine XK.norm ?_
    refine XK.seq ?_
    obtain rfl : k = n1 := by omega
    rw [Nat.sub_self, List.replicate_zero, List.append_nil]
    rw [List.take_of_length_le (by simp [clocksG]; omega)] at hrows

    refine XK.region ?_
    refine xk_move rfl (by decide) ?_
    refine xk_assign rfl (by decide) ?_
    refine XK.nilN ?_
    refine XK.ret ?_
    refine XK.norm ?_
    refine XK.still [q] [0] [] (by simp) rfl (by decide) (by decide) fun q2 hq hle hfr => ?_
    have hgl : k = (clocksG s).length := by simp [clocksG]; omega
    exact XK.ret1 rfl rfl fun w1 st => ⟨⟨_, rfl, some ⟨g2, 0, none⟩, k, by rw [← hgl], by rw [← hgl]; exact (GrS.ofBlk hrows (hle q (by simp)) (hq 0 _ (by simp) rfl) hgl).le (st.fresh_le (by simp) (hfr (by simp) (by simpa using hfq)))⟩, st.below (by simp)⟩

theorem needs_any (s : Soc) (A1 A2 A3 A4 : Option Addr) (n1 k1 n2 k2 n3 k3 n4 k4 : Nat) (w : World) (hW : SocW w s A1 n1 A2 n2 A3 n3 A4 n4) :
    Calls Tryz.prog 65 #[.agg #[.slice A1 n1 k1, .slice A2 n2 k2, .slice A3 n3 k3, .slice A4 n4 k4]] w (fun y w' => (∃ v, y = .returned v ∧ GrOk (needsG s) v w w') ∧ Below w.heap.size w w') := by
  have hn := hW.len4
  have hsm := hW.small
  unfold Soc.small at hsm
  obtain ⟨hs1, hs2, hs3, hs4, hs5, hs6⟩ := hsm
  refine XK.enter (vs := [.agg #[.slice A1 n1 k1, .slice A2 n2 k2, .slice A3 n3 k3, .slice A4 n4 k4]]) Tryz.func65 rfl Tryz.ntmps65 (by simp) ?_
  refine XK.seq ?_

  refine XK.region ?_
  refine xk_box rfl (by decide) fun g1 => ?_
  refine xk_assign rfl (by decide) ?_
  refine XK.nilN ?_
  refine XK.seq ?_

  refine XK.region ?_
  refine xk_field (off := 3) (by kernel_rfl) rfl (by decide) ?_
  refine xk_ld rfl ?_
  refine xk_len (el := 94) (by kernel_rfl) rfl (by decide) ?_
  refine xk_makeT 24 (el := 22) (z := .slice none 0 0) (by kernel_rfl) (by kernel_rfl) rfl rfl rfl (by omega) (by omega) (by decide) fun g2 => ?_
  refine xk_assign rfl (by decide) ?_
  refine XK.nilN ?_
  refine XK.seq ?_
  refine XK.seq ?_

  refine XK.region ?_
  refine xk_field (off := 3) (by kernel_rfl) rfl (by decide) ?_
  refine xk_ld rfl ?_
  refine xk_len (el := 94) (by kernel_rfl) rfl (by decide) ?_
  refine xk_move rfl (by decide) ?_
  refine XK.nilN ?_
  refine XK.envS [(13, .int .i64 0), (12, .int .i64 n4), (11, .slice A4 n4 k4), (3, .slice (some ⟨g2, 0, none⟩) n4 n4), (1, .pointer (some ⟨g1, 0, none⟩))] ?_
  refine XK.still [] [] [0, 1] (by simp) rfl (by decide) (by decide) fun q0 _ _ hfr0 => ?_
  refine XK.block ?_
  refine XK.loop (fun m e R H => ∃ (k : Nat) (vs : List Value) (q : Piece), k ≤ n4 ∧ m = n4 - k ∧ Fresh w q ∧ Rows (LstR (slq q)) 1 ((needsG s).take k) (vs.map fun v => [v]) ∧ vs.length = k ∧ e = [(13, .int .i64 k), (12, .int .i64 n4), (11, .slice A4 n4 k4), (3, .slice (some ⟨g2, 0, none⟩) n4 n4), (1, .pointer (some ⟨g1, 0, none⟩))] ∧ R = [q, all w] ∧ H = [HP.blk g2 22 (vs ++ List.replicate (n4 - k) (.slice none 0 0)), HP.blk g1 30 [.slice A1 n1 k1, .slice A2 n2 k2, .slice A3 n3 k3, .slice A4 n4 k4]]) n4 ⟨0, [], _, by omega, rfl, hfr0 (by simp) (by simp), trivial, rfl, rfl, rfl, rfl⟩ fun m e R H hI => ?_
  obtain ⟨k, vs, q, hk, rfl, hfq, hrows, hvl, rfl, rfl, rfl⟩ := hI
  refine XK.seq ?_

  refine XK.region ?_
  refine xk_lss rfl rfl (by decide) ?_
  refine XK.nilN ?_
  refine XK.seq ?_
  refine XK.if_ rfl (fun h => ?_) (fun h => ?_)
  ·
    refine XK.skip ?_
    refine XK.norm ?_
    refine XK.seq ?_
    refine XK.block ?_
    refine XK.seq ?_
    have hkn : k < s.devs.length := by omega
    obtain ⟨e, he⟩ : ∃ e, s.devs[k]? = some e := ⟨_, List.getElem?_eq_getElem hkn⟩
    obtain ⟨b, off, r, rfl, hrl, hR, hro⟩ := hW.dev.row he
    obtain ⟨Ar, nr, kr, Af, nf, kf, rfl, _, hnf, _, hsf⟩ := hR
    have hgk : (needsG s)[k]? = some (e.needs) := by simp [needsG, he]

    refine XK.region ?_
    refine xk_move rfl (by decide) ?_
    refine xk_at (k) (off + k * 6) (el := 94) (sz := 6) (by kernel_rfl) (by kernel_rfl) rfl rfl (by omega) (by omega) (by omega) (by decide) ?_
    refine xk_ldN 6 rfl ?_
    refine xk_alloc (cs := [.int .i64 0, .int .i64 0, .int .i64 0, .int .u32 0, .slice none 0 0, .slice none 0 0]) (zeroB_of (by kernel_rfl)) (by decide) fun g3 => ?_
    refine xk_assign rfl (by decide) ?_
    (first | (refine xk_storeN 0 rfl rfl rfl (by kernel_rfl) (by simp [Value.cells, Value.oneCell']) (by simp [Value.cells]) ?_) | (refine xk_storeN 1 rfl rfl rfl (by kernel_rfl) (by simp [Value.cells, Value.oneCell']) (by simp [Value.cells]) ?_) | (refine xk_storeN 2 rfl rfl rfl (by kernel_rfl) (by simp [Value.cells, Value.oneCell']) (by simp [Value.cells]) ?_) | (refine xk_storeN 3 rfl rfl rfl (by kernel_rfl) (by simp [Value.cells, Value.oneCell']) (by simp [Value.cells]) ?_) | (refine xk_storeN 4 rfl rfl rfl (by kernel_rfl) (by simp [Value.cells, Value.oneCell']) (by simp [Value.cells]) ?_) | (refine xk_storeN 5 rfl rfl rfl (by kernel_rfl) (by simp [Value.cells, Value.oneCell']) (by simp [Value.cells]) ?_) | (refine xk_storeN 6 rfl rfl rfl (by kernel_rfl) (by simp [Value.cells, Value.oneCell']) (by simp [Value.cells]) ?_) | (refine xk_storeN 7 rfl rfl rfl (by kernel_rfl) (by simp [Value.cells, Value.oneCell']) (by simp [Value.cells]) ?_) | (refine xk_storeN 8 rfl rfl rfl (by kernel_rfl) (by simp [Value.cells, Value.oneCell']) (by simp [Value.cells]) ?_)); simp only [putN, Value.cells, List.set, List.take, List.drop, List.nil_append, List.append_nil, List.length_cons, List.length_nil, List.cons_append, Nat.reduceAdd]
    refine XK.nilN ?_

    refine XK.region ?_
    refine xk_move rfl (by decide) ?_
    refine xk_move rfl (by decide) ?_
    refine xk_field (off := 5) (by kernel_rfl) rfl (by decide) ?_
    refine xk_ld rfl ?_
    refine xk_call [q] (f := 104) (fi := []) (ca := []) (by kernel_rfl) rfl rfl (by decide) (by simp) (OwnOk e.needs) (fun w1 st => own_any Af nf kf e.needs w1 (SlS.le hsf (all_le (st.started (by simp)))) hnf (by have := hs6 e (List.mem_of_getElem? he); omega)) ?_
    rintro _ w1 q' ⟨Ao, co, rfl, hso⟩ hf' hle hfr2
    refine xk_at (k) (k) (el := 22) (sz := 1) (by kernel_rfl) (by kernel_rfl) rfl rfl (by omega) (by omega) (by omega) (by decide) ?_
    refine xk_store 1 rfl (by kernel_rfl) rfl rfl rfl (by simp; omega) ?_
    dsimp only [List.set]
    rw [fill_set hvl (by omega)]
    refine XK.nilN ?_

    refine XK.region ?_
    refine xk_add rfl rfl (wrap_in (by omega)) (by decide) ?_
    refine xk_move rfl (by decide) ?_
    refine XK.nilN ?_
    exact XK.weak [1, 2] rfl (by decide) (by simp) (XK.envS [(13, .int .i64 (k + 1)), (12, .int .i64 n4), (11, .slice (some ⟨b, off, none⟩) n4 k4), (3, .slice (some ⟨g2, 0, none⟩) n4 n4), (1, .pointer (some ⟨g1, 0, none⟩))] (XK.round (n4 - (k + 1)) (by omega) ⟨k + 1, vs ++ [_], q', by omega, rfl, hfr2 (by simpa using hfq), rows_next hrows (hle q (by simp)) hgk ⟨Ao, _, co, rfl, rfl, SlS.le hso hf'⟩, by simp [hvl], rfl, rfl, rfl⟩))
  ·
    refine XK.exit ?_
    refine XK.norm ?_
    refine XK.seq ?_
    obtain rfl : k = n4 := by omega
    rw [Nat.sub_self, List.replicate_zero, List.append_nil]
    rw [List.take_of_length_le (by simp [needsG]; omega)] at hrows

    refine XK.region ?_
    refine xk_move rfl (by decide) ?_
    refine xk_assign rfl (by decide) ?_
    refine XK.nilN ?_
    refine XK.ret ?_
    refine XK.norm ?_
    refine XK.still [q] [0] [] (by simp) rfl (by decide) (by decide) fun q2 hq hle hfr => ?_
    have hgl : k = (needsG s).length := by simp [needsG]; omega
    exact XK.ret1 rfl rfl fun w1 st => ⟨⟨_, rfl, some ⟨g2, 0, none⟩, k, by rw [← hgl], by rw [← hgl]; exact (GrS.ofBlk hrows (hle q (by simp)) (hq 0 _ (by simp) rfl) hgl).le (st.fresh_le (by simp) (hfr (by simp) (by simpa using hfq)))⟩, st.below (by simp)⟩

theorem doms_any (s : Soc) (A1 A2 A3 A4 : Option Addr) (n1 k1 n2 k2 n3 k3 n4 k4 : Nat) (w : World) (hW : SocW w s A1 n1 A2 n2 A3 n3 A4 n4) :
    Calls Tryz.prog 53 #[.agg #[.slice A1 n1 k1, .slice A2 n2 k2, .slice A3 n3 k3, .slice A4 n4 k4]] w (fun y w' => (∃ v, y = .returned v ∧ GrOk (domsG s) v w w') ∧ Below w.heap.size w w') := by
  have hn := hW.len2
  have hsm := hW.small
  unfold Soc.small at hsm
  obtain ⟨hs1, hs2, hs3, hs4, hs5, hs6⟩ := hsm
  refine XK.enter (vs := [.agg #[.slice A1 n1 k1, .slice A2 n2 k2, .slice A3 n3 k3, .slice A4 n4 k4]]) Tryz.func53 rfl Tryz.ntmps53 (by simp) ?_
  refine XK.seq ?_

  refine XK.region ?_
  refine xk_box rfl (by decide) fun g1 => ?_
  refine xk_assign rfl (by decide) ?_
  refine XK.nilN ?_
  refine XK.seq ?_

  refine XK.region ?_
  refine xk_field (off := 1) (by kernel_rfl) rfl (by decide) ?_
  refine xk_ld rfl ?_
  refine xk_len (el := 89) (by kernel_rfl) rfl (by decide) ?_
  refine xk_makeT 24 (el := 22) (z := .slice none 0 0) (by kernel_rfl) (by kernel_rfl) rfl rfl rfl (by omega) (by omega) (by decide) fun g2 => ?_
  refine xk_assign rfl (by decide) ?_
  refine XK.nilN ?_
  refine XK.seq ?_
  refine XK.seq ?_

  refine XK.region ?_
  refine xk_field (off := 1) (by kernel_rfl) rfl (by decide) ?_
  refine xk_ld rfl ?_
  refine xk_len (el := 89) (by kernel_rfl) rfl (by decide) ?_
  refine xk_move rfl (by decide) ?_
  refine XK.nilN ?_
  refine XK.envS [(13, .int .i64 0), (12, .int .i64 n2), (11, .slice A2 n2 k2), (3, .slice (some ⟨g2, 0, none⟩) n2 n2), (1, .pointer (some ⟨g1, 0, none⟩))] ?_
  refine XK.still [] [] [0, 1] (by simp) rfl (by decide) (by decide) fun q0 _ _ hfr0 => ?_
  refine XK.block ?_
  refine XK.loop (fun m e R H => ∃ (k : Nat) (vs : List Value) (q : Piece), k ≤ n2 ∧ m = n2 - k ∧ Fresh w q ∧ Rows (LstR (slq q)) 1 ((domsG s).take k) (vs.map fun v => [v]) ∧ vs.length = k ∧ e = [(13, .int .i64 k), (12, .int .i64 n2), (11, .slice A2 n2 k2), (3, .slice (some ⟨g2, 0, none⟩) n2 n2), (1, .pointer (some ⟨g1, 0, none⟩))] ∧ R = [q, all w] ∧ H = [HP.blk g2 22 (vs ++ List.replicate (n2 - k) (.slice none 0 0)), HP.blk g1 30 [.slice A1 n1 k1, .slice A2 n2 k2, .slice A3 n3 k3, .slice A4 n4 k4]]) n2 ⟨0, [], _, by omega, rfl, hfr0 (by simp) (by simp), trivial, rfl, rfl, rfl, rfl⟩ fun m e R H hI => ?_
  obtain ⟨k, vs, q, hk, rfl, hfq, hrows, hvl, rfl, rfl, rfl⟩ := hI
  refine XK.seq ?_

  refine XK.region ?_
  refine xk_lss rfl rfl (by decide) ?_
  refine XK.nilN ?_
  refine XK.seq ?_
  refine XK.if_ rfl (fun h => ?_) (fun h => ?_)
  ·
    refine XK.skip ?_
    refine XK.norm ?_
    refine XK.seq ?_
    refine XK.block ?_
    refine XK.seq ?_
    have hkn : k < s.domains.length := by omega
    obtain ⟨e, he⟩ : ∃ e, s.domains[k]? = some e := ⟨_, List.getElem?_eq_getElem hkn⟩
    obtain ⟨b, off, r, rfl, hrl, hR, hro⟩ := hW.dom.row he
    obtain rfl := hR
    have hgk : (domsG s)[k]? = some (if e.above = -1 then [] else [e.above]) := by simp [domsG, he]

    refine XK.region ?_
    refine xk_move rfl (by decide) ?_
    refine xk_at (k) (off + k * 3) (el := 89) (sz := 3) (by kernel_rfl) (by kernel_rfl) rfl rfl (by omega) (by omega) (by omega) (by decide) ?_
    refine xk_ldN 3 rfl ?_
    refine xk_alloc (cs := [.int .i64 0, .int .i64 0, .bool false]) (zeroB_of (by kernel_rfl)) (by decide) fun g3 => ?_
    refine xk_assign rfl (by decide) ?_
    (first | (refine xk_storeN 0 rfl rfl rfl (by kernel_rfl) (by simp [Value.cells, Value.oneCell']) (by simp [Value.cells]) ?_) | (refine xk_storeN 1 rfl rfl rfl (by kernel_rfl) (by simp [Value.cells, Value.oneCell']) (by simp [Value.cells]) ?_) | (refine xk_storeN 2 rfl rfl rfl (by kernel_rfl) (by simp [Value.cells, Value.oneCell']) (by simp [Value.cells]) ?_) | (refine xk_storeN 3 rfl rfl rfl (by kernel_rfl) (by simp [Value.cells, Value.oneCell']) (by simp [Value.cells]) ?_) | (refine xk_storeN 4 rfl rfl rfl (by kernel_rfl) (by simp [Value.cells, Value.oneCell']) (by simp [Value.cells]) ?_) | (refine xk_storeN 5 rfl rfl rfl (by kernel_rfl) (by simp [Value.cells, Value.oneCell']) (by simp [Value.cells]) ?_) | (refine xk_storeN 6 rfl rfl rfl (by kernel_rfl) (by simp [Value.cells, Value.oneCell']) (by simp [Value.cells]) ?_) | (refine xk_storeN 7 rfl rfl rfl (by kernel_rfl) (by simp [Value.cells, Value.oneCell']) (by simp [Value.cells]) ?_) | (refine xk_storeN 8 rfl rfl rfl (by kernel_rfl) (by simp [Value.cells, Value.oneCell']) (by simp [Value.cells]) ?_)); simp only [putN, Value.cells, List.set, List.take, List.drop, List.nil_append, List.append_nil, List.length_cons, List.length_nil, List.cons_append, Nat.reduceAdd]
    refine XK.nilN ?_
    refine XK.seq ?_

    refine XK.region ?_
    refine xk_field (off := 0) (by kernel_rfl) rfl (by decide) ?_
    refine xk_ld rfl ?_
    refine xk_neq rfl rfl (by decide) ?_
    refine XK.nilN ?_
    refine XK.if_ rfl (fun h => ?_) (fun h => ?_)
    ·

      refine XK.region ?_
      refine xk_move rfl (by decide) ?_
      refine xk_move rfl (by decide) ?_
      refine xk_field (off := 0) (by kernel_rfl) rfl (by decide) ?_
      refine xk_ld rfl ?_
      refine xk_slice (el := 3) (sz := 1) (zs := [.int .i64 0]) (by kernel_rfl) (zeroB_of (by kernel_rfl)) (by kernel_rfl) rfl (by decide) (by decide) rfl (by simp [fillL, setN, Value.cells, List.range_succ, List.set]; rfl) (by decide) fun g4 => ?_
      refine xk_at (k) (k) (el := 22) (sz := 1) (by kernel_rfl) (by kernel_rfl) rfl rfl (by omega) (by omega) (by omega) (by decide) ?_
      refine xk_store 2 rfl (by kernel_rfl) rfl rfl rfl (by simp; omega) ?_
      dsimp only [List.set]
      rw [fill_set hvl (by omega)]
      refine XK.nilN ?_

      refine XK.region ?_
      refine xk_add rfl rfl (wrap_in (by omega)) (by decide) ?_
      refine xk_move rfl (by decide) ?_
      refine XK.nilN ?_
      refine XK.still [q] [0] [2, 3] (by simp) rfl (by decide) (by decide) fun q' hq' hle hfr' => ?_
      obtain ⟨Fg, hsg, hzg⟩ := hq' 0 _ (by simp) rfl
      have hso := SlS.of_blk (n := 1) (sz := 1) (c := 0) hsg hzg rfl
      exact XK.weak [0, 1] rfl (by decide) (by simp) (XK.envS [(13, .int .i64 (k + 1)), (12, .int .i64 n2), (11, .slice (some ⟨b, off, none⟩) n2 k2), (3, .slice (some ⟨g2, 0, none⟩) n2 n2), (1, .pointer (some ⟨g1, 0, none⟩))] (XK.round (n2 - (k + 1)) (by omega) ⟨k + 1, vs ++ [_], q', by omega, rfl, hfr' (by simp) (by simpa using hfq), rows_next hrows (hle q (by simp)) hgk (by rw [if_neg h]; exact ⟨_, 1, 1, rfl, rfl, hso⟩), by simp [hvl], rfl, rfl, rfl⟩))
    ·
      refine XK.skip ?_
      refine XK.norm ?_

      refine XK.region ?_
      refine xk_add rfl rfl (wrap_in (by omega)) (by decide) ?_
      refine xk_move rfl (by decide) ?_
      refine XK.nilN ?_
      rw [fill_nil (k := k) (by omega)]
      exact XK.weak [1, 2] rfl (by decide) (by simp) (XK.envS [(13, .int .i64 (k + 1)), (12, .int .i64 n2), (11, .slice (some ⟨b, off, none⟩) n2 k2), (3, .slice (some ⟨g2, 0, none⟩) n2 n2), (1, .pointer (some ⟨g1, 0, none⟩))] (XK.round (n2 - (k + 1)) (by omega) ⟨k + 1, vs ++ [_], q, by omega, rfl, hfq, rows_next hrows (fun b hb => ⟨hb, rfl⟩) hgk (by rw [if_pos (Classical.not_not.1 h)]; exact ⟨_, 0, 0, rfl, rfl, SlS.nil _ 1⟩), by simp [hvl], rfl, rfl, rfl⟩))
  ·
    refine XK.exit ?_
    refine XK.norm ?_
    refine XK.seq ?_
    obtain rfl : k = n2 := by omega
    rw [Nat.sub_self, List.replicate_zero, List.append_nil]
    rw [List.take_of_length_le (by simp [domsG]; omega)] at hrows

    refine XK.region ?_
    refine xk_move rfl (by decide) ?_
    refine xk_assign rfl (by decide) ?_
    refine XK.nilN ?_
    refine XK.ret ?_
    refine XK.norm ?_
    refine XK.still [q] [0] [] (by simp) rfl (by decide) (by decide) fun q2 hq hle hfr => ?_
    have hgl : k = (domsG s).length := by simp [domsG]; omega
    exact XK.ret1 rfl rfl fun w1 st => ⟨⟨_, rfl, some ⟨g2, 0, none⟩, k, by rw [← hgl], by rw [← hgl]; exact (GrS.ofBlk hrows (hle q (by simp)) (hq 0 _ (by simp) rfl) hgl).le (st.fresh_le (by simp) (hfr (by simp) (by simpa using hfq)))⟩, st.below (by simp)⟩

end Go.Proofs.YtbgibbbggajgaaaGreat
