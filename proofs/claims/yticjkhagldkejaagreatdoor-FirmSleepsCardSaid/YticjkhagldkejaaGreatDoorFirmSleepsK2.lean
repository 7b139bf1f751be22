/- The small logic for code that ranges over functions, and for iterators: rounds, marks, yield. -/
import Derived.KernelRfl
import Derived.Test.YticjkhagldkejaaGreatDoorProg
import Derived.Test.YticjkhagldkejaaGreatDoorFirmSleepsK1
namespace Go.Proofs.YticjkhagldkejaaGreatDoor
set_option linter.all false
open Go.RowKit
section
abbrev Fr (r : Option Nat) : Fence := { Fence.wide with round := r }
def Sw (D : Nat) : Deferred := { target := .collected D, args := #[] }
def mk (L : List Nat) (a : Act) : Act := { tmps := a.tmps, defers := a.defers ++ L.map Sw }
theorem Nw (L : List Nat) (a : Act) : (mk L a).eval = a.eval := by funext x; cases x <;> rfl
theorem xF (L : List Nat) (a : Act) (d : Option Nat) (v : Value) : (mk L a).put d v = mk L (a.put d v) := by cases d <;> rfl
theorem So (a : Act) : mk [] a = a := by cases a; simp [mk]
def KI (r : Option Nat) (L : List Nat) (P : Program) (ops : Array Oper) (Q : Exit → Act → World → Prop) (l : List Oper) : Act → World → Prop := fun a w => wpListIn (Fr r) 9 P ops Q l (mk L a) w
def KC (r : Option Nat) (L : List Nat) (P : Program) (c : Code) (Q : Exit → Act → World → Prop) : Act → World → Prop := fun a w => c.wpIn (Fr r) 9 P Q (mk L a) w
def KQ (L : List Nat) (Q : Exit → Act → World → Prop) (x : Exit) : Act → World → Prop := fun a w => Q x (mk L a) w
def Fx (K : Act → World → Prop) : Exit → Act → World → Prop := Exit.then K fun _ _ _ => False
def Bi (o : Oper) : Bool := match o.op with | .defer _ => false | _ => true
section
variable {P : Program} {nn : Nat} {w0 w : World} {e : Env} {R : List Piece} {H : List HP} {Q : Exit → Act → World → Prop} {ops : Array Oper} {rest : List Oper} {r : Option Nat} {L : List Nat}
theorem Zl (r : Option Nat) (ρ : Operand → Value) {o : Oper} (h : Bi o = true) : Oper.semAt (Fr r).round ρ o = execOp ρ o := by
 have hd : ∀ c, o.op ≠ .defer c := fun c e => by unfold Bi at h; rw [e] at h; cases h
 cases r with
 | none => exact Oper.semAt_none ρ o
 | some l => exact Oper.semAt_some l ρ o hd
theorem aHZ {n m : Nat} {f : FuncId} {args : Array Value} {w : World} {A B : Ending → World → Prop} (h : Calls P f args w A) (hr : ∀ e w', A e w' → B e w') : CallsIn (Fr r) n P f args w B := by
 have h2 : CallsIn Fence.wide n P f args w B := callsIn_wide.2 (h.mono hr)
 cases r with
 | none => exact h2
 | some l => exact CallsIn.inRound l h2
theorem aD2 {n : Nat} {row : String} {args : Array Value} {w : World} {A B : Value → World → Prop} (h : Go.Rows P row args w A) (hr : ∀ v w', A v w' → B v w') : RowsIn (Fr r) n P row args w B := fun c cs _ => by
 obtain ⟨v, w', h1, h2⟩ := h c cs
 exact ⟨v, w', hr _ _ h1, stepsIn_wide.2 h2⟩
theorem aAm {o : Oper} {a : Act} {w : World} {K K' : Act → World → Prop} {Q' : Exit → Act → World → Prop} (hp : Bi o = true) (hK : ∀ a w, K a w → K' (mk L a) w) (h : o.wp P a w K (Fx K)) : o.wpIn (Fr r) 9 P (mk L a) w K' Q' := by
 refine ⟨fun _ _ => trivial, ?_⟩
 rw [Zl r _ hp, Nw]
 unfold Oper.wp at h
 generalize (execOp a.eval o).run P w = res at h ⊢
 cases res with
 | ok n w' =>
  cases n with
  | value v => show K' ((mk L a).put o.dst v) w'; rw [xF]; exact hK _ _ h
  | skip => show K' ((mk L a).put o.dst undef) w'; rw [xF]; exact hK _ _ h
  | defer d =>
   have := hK _ _ h
   rw [← xF] at this
   exact this
  | enter f args => exact ⟨fun _ => by omega, aHZ (m := 0) h fun e w'' he => by
    cases e with
    | returned v => show K' ((mk L a).put o.dst v) w''; rw [xF]; exact hK _ _ he
    | panicked c => exact he.elim
    | outgrown => obtain ⟨_, _, hf⟩ := he; exact hf.elim⟩
  | row row args => exact ⟨fun _ => by omega, aD2 h fun v w'' he => by show K' ((mk L a).put o.dst v) w''; rw [xF]; exact hK _ _ he⟩
  | _ => exact h.elim
 | halt x w' =>
  cases x with
  | panic v => exact (show False from h).elim
  | _ => exact h.elim
theorem XI.op {o : Oper} (hp : Bi o = true) (h : XK ⟨nn, []⟩ w0 (wpList P ops (Fx (KI r L P ops Q rest)) [o]) e R H) : XK ⟨nn, []⟩ w0 (KI r L P ops Q (o :: rest)) e R H := fun a w hr st => by
 have h := h a w hr st
 unfold wpList at h
 show wpListIn (Fr r) 9 P ops Q (o :: rest) (mk L a) w
 unfold wpListIn
 by_cases hw : Region.wanted o (yielded ops a.tmps) = true
 ·rw [if_pos hw] at h
  rw [if_pos (show Region.wanted o (yielded ops (mk L a).tmps) = true from hw)]
  rcases h with h | ⟨_, _, _, h⟩
  ·exact aAm hp (K := wpList P ops (Fx (KI r L P ops Q rest)) []) (fun a w h => h) (by
    unfold Oper.wp at h ⊢
    generalize (execOp a.eval o).run P w = res at h ⊢
    cases res with
    | ok n w' => cases n <;> first | exact h | exact Calls.mono h (fun x w'' hx => by cases x <;> first | exact hx | exact hx.elim | (obtain ⟨_, _, hf⟩ := hx; exact hf.elim))
    | halt x w' => cases x <;> exact h)
  ·exact h.elim
 ·rw [if_neg hw] at h
  rw [if_neg (show ¬ Region.wanted o (yielded ops (mk L a).tmps) = true from hw)]
  refine ⟨fun _ _ => trivial, ?_⟩
  rw [xF]
  exact h
theorem XI.back {K : Act → World → Prop} (h : XK ⟨nn, []⟩ w0 K e R H) : XK ⟨nn, []⟩ w0 (wpList P ops (Fx K) []) e R H := h
theorem XI.nil (h : XK ⟨nn, []⟩ w0 (KQ L Q .normal) e R H) : XK ⟨nn, []⟩ w0 (KI r L P ops Q []) e R H := h
theorem XC.region {id : Nat} {l : List Oper} (h : XK ⟨nn, []⟩ w0 (KI r L P l.toArray Q l) e R H) : XK ⟨nn, []⟩ w0 (KC r L P (Code.region id l.toArray false) Q) e R H := fun a w hr st => wpIn_region_lit (h a w hr st)
theorem XC.seq {x y : Code} (h : XK ⟨nn, []⟩ w0 (KC r L P x (Exit.then (y.wpIn (Fr r) 9 P Q) Q)) e R H) : XK ⟨nn, []⟩ w0 (KC r L P (Code.seq x y) Q) e R H := fun a w hr st => wpIn_seq (h a w hr st)
theorem XC.skip (h : XK ⟨nn, []⟩ w0 (KQ L Q .normal) e R H) : XK ⟨nn, []⟩ w0 (KC r L P Code.skip Q) e R H := fun a w hr st => wpIn_skip (h a w hr st)
theorem XC.exit {id : Nat} (h : XK ⟨nn, []⟩ w0 (KQ L Q (.exit id)) e R H) : XK ⟨nn, []⟩ w0 (KC r L P (Code.exit id) Q) e R H := fun a w hr st => wpIn_exit (h a w hr st)
theorem XC.ret (h : XK ⟨nn, []⟩ w0 (KQ L Q .ret) e R H) : XK ⟨nn, []⟩ w0 (KC r L P Code.ret Q) e R H := fun a w hr st => wpIn_ret (h a w hr st)
theorem XC.block {id : Nat} {c : Code} (h : XK ⟨nn, []⟩ w0 (KC r L P c (Exit.inBlock id Q)) e R H) : XK ⟨nn, []⟩ w0 (KC r L P (Code.block id c) Q) e R H := fun a w hr st => wpIn_block (h a w hr st)
theorem XC.cond {c : Operand} {x y : Code} {b : Bool} (hc : e.ev c = some (.bool b)) (ht : b = true → XK ⟨nn, []⟩ w0 (KC r L P x Q) e R H) (hf : b = false → XK ⟨nn, []⟩ w0 (KC r L P y Q) e R H) : XK ⟨nn, []⟩ w0 (KC r L P (Code.cond c x y) Q) e R H :=
 fun a w hr st => wpIn_cond_split (by rw [Nw]; exact hr.ev hc) (fun h => ht h a w hr st) (fun h => hf h a w hr st)
theorem XC.if_ {c : Operand} {x y : Code} {p : Prop} [Decidable p] (hc : e.ev c = some (.bool (decide p))) (ht : p → XK ⟨nn, []⟩ w0 (KC r L P x Q) e R H) (hf : ¬ p → XK ⟨nn, []⟩ w0 (KC r L P y Q) e R H) : XK ⟨nn, []⟩ w0 (KC r L P (Code.cond c x y) Q) e R H :=
 XC.cond hc (fun h => ht (of_decide_eq_true h)) (fun h => hf (of_decide_eq_false h))
theorem XC.iU {y : Code} (h : XK ⟨nn, []⟩ w0 (KC r L P y Q) e R H) : XK ⟨nn, []⟩ w0 (KQ L (Exit.then (y.wpIn (Fr r) 9 P Q) Q) .normal) e R H := h
theorem XC.Gr {K : Act → World → Prop} {id : Nat} (h : XK ⟨nn, []⟩ w0 (KQ L Q (.exit id)) e R H) : XK ⟨nn, []⟩ w0 (KQ L (Exit.then K Q) (.exit id)) e R H := h
theorem XC.Gq {K : Act → World → Prop} (h : XK ⟨nn, []⟩ w0 (KQ L Q .ret) e R H) : XK ⟨nn, []⟩ w0 (KQ L (Exit.then K Q) .ret) e R H := h
theorem XC.It {id : Nat} (h : XK ⟨nn, []⟩ w0 (KQ L Q .normal) e R H) : XK ⟨nn, []⟩ w0 (KQ L (Exit.inBlock id Q) .normal) e R H := h
theorem XC.Is {id : Nat} (h : XK ⟨nn, []⟩ w0 (KQ L Q .ret) e R H) : XK ⟨nn, []⟩ w0 (KQ L (Exit.inBlock id Q) .ret) e R H := h
theorem XC.Iv {id : Nat} (h : XK ⟨nn, []⟩ w0 (KQ L Q .normal) e R H) : XK ⟨nn, []⟩ w0 (KQ L (Exit.inBlock id Q) (.exit id)) e R H := fun a w hr st => by
 show Exit.inBlock id Q (.exit id) (mk L a) w
 simp only [Exit.inBlock, if_true]
 exact h a w hr st
theorem XC.Iu {id id' : Nat} (hne : Nat.beq id' id = false) (h : XK ⟨nn, []⟩ w0 (KQ L Q (.exit id')) e R H) : XK ⟨nn, []⟩ w0 (KQ L (Exit.inBlock id Q) (.exit id')) e R H := fun a w hr st => by
 have : ¬ id' = id := fun h => by subst h; simp at hne
 show Exit.inBlock id Q (.exit id') (mk L a) w
 simp only [Exit.inBlock, if_neg this]
 exact h a w hr st
theorem XC.norm {K K' : Act → World → Prop} (k : XK ⟨nn, []⟩ w0 K' e R H) (hk : XK ⟨nn, []⟩ w0 K' e R H → XK ⟨nn, []⟩ w0 K e R H := by
  intro h
  repeat (first | refine XC.iU ?_ | refine XC.Gr ?_ | refine XC.Gq ?_ | refine XC.It ?_ | refine XC.Iv ?_ | refine XC.Is ?_ | refine XC.Iu rfl ?_)
  exact h) : XK ⟨nn, []⟩ w0 K e R H := hk k
theorem XC.loop {c : Code} (I : Nat → List Nat → Env → List Piece → List HP → Prop) (n : Nat) (h0 : I n L e R H)
  (h : ∀ n L e R H, I n L e R H → XK ⟨nn, []⟩ w0 (KC none L P c (Exit.then (fun a' w' => ∃ m L' a e' R' H', (m < n ∧ I m L' e' R' H') ∧ a' = mk L' a ∧ cY ⟨nn, []⟩ e' a ∧ St w0 R' H' w') Q)) e R H) : XK ⟨nn, []⟩ w0 (KC none L P (Code.loop c) Q) e R H := fun a w hr st => by
 refine wpIn_wide.2 (Qw (fun n a' w => ∃ L a e R H, I n L e R H ∧ a' = mk L a ∧ cY ⟨nn, []⟩ e a ∧ St w0 R H w) n ⟨L, a, e, R, H, h0, rfl, hr, st⟩ fun n a' w ⟨L, a, e, R, H, hI, ha, hr, st⟩ => ?_)
 subst ha
 refine wp_mono (wpIn_wide.1 (h n L e R H hI a w hr st)) fun x a' w' hq => ?_
 cases x with
 | normal =>
  obtain ⟨m, L2, a2, e2, R2, H2, ⟨hlt, Vl⟩, uY, eM, uE⟩ := hq
  exact ⟨m, hlt, L2, a2, e2, R2, H2, Vl, uY, eM, uE⟩
 | _ => exact hq
theorem XC.round {I : Nat → List Nat → Env → List Piece → List HP → Prop} {n : Nat} (m : Nat) (hm : m < n) (hI : I m L e R H) :
  XK ⟨nn, []⟩ w0 (KQ L (Exit.then (fun a' w' => ∃ m L' a e' R' H', (m < n ∧ I m L' e' R' H') ∧ a' = mk L' a ∧ cY ⟨nn, []⟩ e' a ∧ St w0 R' H' w') Q) .normal) e R H := fun a _ hr st => ⟨m, L, a, e, R, H, ⟨hm, hI⟩, rfl, hr, st⟩
end
end
section
def nt (W : World) (F : Nat → Prop) : Piece := ⟨W, fun b => b < W.heap.size ∧ ¬ F b⟩
structure sE (w w' : World) : Prop where
 os : w'.os = w.os
 tape : w'.tape = w.tape
 output : w'.output = w.output
 size : w.heap.size ≤ w'.heap.size
theorem sE.refl (w : World) : sE w w := ⟨rfl, rfl, rfl, Nat.le_refl _⟩
theorem sE.trans {a b c : World} (h : sE a b) (k : sE b c) : sE a c := ⟨k.os.trans h.os, k.tape.trans h.tape, k.output.trans h.output, Nat.le_trans h.size k.size⟩
theorem bI.same {w w' : World} {F F' : Nat → Prop} (h : bI w w' F F') : sE w w' := ⟨h.os, h.tape, h.output, h.size⟩
theorem bI.refl {w : World} {F : Nat → Prop} (h : ∀ b, F b → b < w.heap.size) : bI w w F F := ⟨rfl, rfl, rfl, Nat.le_refl _, fun b hb => ⟨.inl hb, h b hb⟩, fun _ _ _ => rfl⟩
theorem bI.trans {a b c : World} {F G K : Nat → Prop} (h : bI a b F G) (k : bI b c G K) : bI a c F K := by
 refine ⟨k.os.trans h.os, k.tape.trans h.tape, k.output.trans h.output, Nat.le_trans h.size k.size, fun x hx => ⟨?_, (k.new x hx).2⟩, fun x hx hn => ?_⟩
 ·rcases (k.new x hx).1 with h1 | h1
  ·exact (h.new x h1).1
  ·exact .inr (Nat.le_trans h.size h1)
 ·refine (k.old x (Nat.lt_of_lt_of_le hx h.size) (fun hg => ?_)).trans (h.old x hx hn)
  rcases (h.new x hg).1 with h1 | h1
  ·exact hn h1
  ·omega
structure Xv (w0 W : World) (R : List Piece) (F : Nat → Prop) : Prop where
 same : sE w0 W
 ro : ∀ p ∈ R, ∀ b, p.Z b → b < W.heap.size ∧ ¬ F b ∧ W.heap[b]? = p.w.heap[b]?
section
variable {w0 w W W1 : World} {R : List Piece} {H : List HP} {F F1 : Nat → Prop}
theorem St.join (st : St w0 R H w) : ∃ F, (HP.many H).sat F w ∧ (∀ b, F b → b < w.heap.size) ∧ Xv w0 w R F := by
 obtain ⟨Z, F, hz, hr, hs, hf, hd⟩ := st.ex
 refine ⟨fun b => ∃ i, F i b, ⟨F, hs, fun i b h => ⟨i, h⟩, fun i j b hij h => hd i j b hij h⟩, fun b ⟨i, h⟩ => (hf i b h).2, ⟨⟨st.os, st.tape, st.output, st.size⟩, fun p hp b hb => ⟨hz b (hr p hp b hb).1, fun ⟨i, h⟩ => (hf i b h).1 (hr p hp b hb).1, (hr p hp b hb).2⟩⟩⟩
theorem St.split (hb : Xv w0 W R F) (ht : bI W W1 F F1) (hs : (HP.many H).sat F1 W1) : St w0 R H W1 := by
 obtain ⟨G, h1, h2, h3⟩ := hs
 have h := hb.same.trans ht.same
 refine ⟨h.os, h.tape, h.output, h.size, fun b => ∃ p ∈ R, p.Z b, G, fun b ⟨p, hp, hz⟩ => Nat.lt_of_lt_of_le (hb.ro p hp b hz).1 ht.size, fun p hp b hz => ⟨⟨p, hp, hz⟩, ?_⟩, h1, fun i b hg => ⟨?_, (ht.new b (h2 i b hg)).2⟩, fun i j b hij hg => h3 i j b hij hg⟩
 ·obtain ⟨h4, h5, h6⟩ := hb.ro p hp b hz
  exact (ht.old b h4 h5).trans h6
 ·rintro ⟨p, hp, hz⟩
  obtain ⟨h4, h5, _⟩ := hb.ro p hp b hz
  rcases (ht.new b (h2 i b hg)).1 with h | h
  ·exact h5 h
  ·omega
theorem St.aD5 (hb : Xv w0 W R F) (ht : bI W W1 F F1) (hlt : ∀ b, F1 b → b < W1.heap.size) (hs : (HP.many H).sat F1 W1) : St W1 (R ++ [nt W1 F1]) H W1 := by
 obtain ⟨G, h1, h2, h3⟩ := hs
 refine ⟨rfl, rfl, rfl, Nat.le_refl _, fun b => b < W1.heap.size ∧ ¬ F1 b, G, fun b h => h.1, fun p hp b hz => ?_, h1, fun i b hg => ⟨fun h => h.2 (h2 i b hg), hlt b (h2 i b hg)⟩, fun i j b hij hg => h3 i j b hij hg⟩
 simp only [List.mem_append, List.mem_singleton] at hp
 rcases hp with hp | rfl
 ·obtain ⟨h4, h5, h6⟩ := hb.ro p hp b hz
  refine ⟨⟨Nat.lt_of_lt_of_le h4 ht.size, fun h => ?_⟩, (ht.old b h4 h5).trans h6⟩
  rcases (ht.new b h).1 with h | h
  ·exact h5 h
  ·omega
 ·exact ⟨hz, rfl⟩
theorem St.Yw (st : St w0 R H w) (hR : nt w0 F ∈ R) : ∃ F', (HP.many H).sat F' w ∧ (∀ b, F' b → b < w.heap.size) ∧ bI w0 w F F' := by
 obtain ⟨F', h1, h2, hb⟩ := st.join
 refine ⟨F', h1, h2, st.os, st.tape, st.output, st.size, fun b h => ⟨?_, h2 b h⟩, fun b h hn => (hb.ro _ hR b ⟨h, hn⟩).2.2⟩
 rcases Nat.lt_or_ge b w0.heap.size with h3 | h3
 ·exact .inl (Classical.byContradiction fun hn => (hb.ro _ hR b ⟨h3, hn⟩).2.1 h)
 ·exact .inr h3
end
def HP.marks (L : List Nat) : HP := ⟨fun F w => L.Nodup ∧ ∀ D ∈ L, F D ∧ w.heap[D]? = some (.deferred (some [])), fun _ _ _ h hk => ⟨h.1, fun D hD => ⟨(h.2 D hD).1, (hk D (h.2 D hD).1).trans (h.2 D hD).2⟩⟩⟩
def HP.lp (l : Nat) (L : List Nat) (rc : Loop) : HP := ⟨fun F w => (F l ∧ w.heap[l]? = some (.loop rc)) ∧ (HP.marks L).sat F w, fun F w w' h hk => ⟨⟨h.1.1, (hk l h.1.1).trans h.1.2⟩, (HP.marks L).loc F w w' h.2 hk⟩⟩
theorem HP.aA5 {l : Nat} {L : List Nat} {rc rc' : Loop} {F : Nat → Prop} {w : World} (h : (HP.lp l L rc).sat F w) : (HP.lp l L rc').sat F (w.putObj l (.loop rc')) := by
 obtain ⟨⟨h1, h2⟩, h3, h4⟩ := h
 refine ⟨⟨h1, World.putObj_heap_same (Array.getElem?_eq_some_iff.1 h2).1⟩, h3, fun D hD => ⟨(h4 D hD).1, ?_⟩⟩
 refine (World.putObj_heap_other (fun e => ?_)).trans (h4 D hD).2
 subst e
 have := (h4 D hD).2
 rw [h2] at this
 cases this
section
variable {P : Program} {nn : Nat} {w0 w : World} {e : Env} {R : List Piece} {H : List HP} {Q : Exit → Act → World → Prop} {ops : Array Oper} {rest : List Oper} {r : Option Nat} {L : List Nat}
theorem Eg {Hs : List HP} {p : HP} : (Hs ++ [p])[Hs.length]? = some p := by simp
theorem Nz {Hs : List HP} {p q : HP} : (Hs ++ [p]).set Hs.length q = Hs ++ [q] := by simp
theorem St.Sz {Hs : List HP} {l : Nat} {rc rc' : Loop} (st : St w0 R (Hs ++ [HP.lp l L rc]) w) : St w0 R (Hs ++ [HP.lp l L rc']) (w.putObj l (.loop rc')) := by
 have := st.sL (q := HP.lp l L rc') (w' := w.putObj l (.loop rc')) (i := Hs.length) Eg (by simp) rfl rfl rfl (fun F hF hlt => ⟨F, HP.aA5 hF, fun b hb => ⟨.inl hb, by simpa using hlt b hb⟩, fun b hb hn => World.putObj_heap_other (fun e => hn (e ▸ hF.1.1))⟩)
 rwa [Nz] at this
theorem St.Ee {Hs : List HP} {l : Nat} {rc : Loop} (st : St w0 R (Hs ++ [HP.lp l L rc]) w) : w.heap[l]? = some (.loop rc) := (st.sat (i := Hs.length) Eg).choose_spec.1.2
theorem St.aA6 {Hs : List HP} {l : Nat} {rc rc' : Loop} (st : St w0 R (Hs ++ [HP.lp l L rc]) w) : St w0 R (Hs ++ [HP.marks L]) (w.putObj l (.loop rc')) := by
 have := st.sL (q := HP.marks L) (w' := w.putObj l (.loop rc')) (i := Hs.length) Eg (by simp) rfl rfl rfl (fun F hF hlt => ⟨F, (HP.aA5 (rc' := rc') hF).2, fun b hb => ⟨.inl hb, by simpa using hlt b hb⟩, fun b hb hn => World.putObj_heap_other (fun e => hn (e ▸ hF.1.1))⟩)
 rwa [Nz] at this
theorem St.aFb {Hs : List HP} {rc : Loop} (st : St w0 R (Hs ++ [HP.marks L]) w) : St w0 R (Hs ++ [HP.lp (w.heap.size + 1) (w.heap.size :: L) rc]) ((w.alloc (.deferred (some []))).alloc (.loop rc)) := by
 have hb : Below w.heap.size w ((w.alloc (.deferred (some []))).alloc (.loop rc)) := ((Below.refl _ w).alloc (Nat.le_refl _) _).alloc (by simp) _
 have hL1 : ((w.alloc (.deferred (some []))).alloc (.loop rc)).heap[w.heap.size + 1]? = some (.loop rc) := by
  have := World.alloc_heap_new (w.alloc (.deferred (some []))) (.loop rc)
  rwa [World.size_alloc] at this
 have hK1 : ((w.alloc (.deferred (some []))).alloc (.loop rc)).heap[w.heap.size]? = some (.deferred (some [])) :=
  (Below.heap_alloc _ _ _ (by simp)).trans (World.alloc_heap_new w _)
 have hsz : ((w.alloc (.deferred (some []))).alloc (.loop rc)).heap.size = w.heap.size + 1 + 1 := by simp
 have := st.sL (q := HP.lp (w.heap.size + 1) (w.heap.size :: L) rc) (i := Hs.length) Eg hb.size hb.os hb.tape hb.output (fun F hF hlt => by
  refine ⟨fun b => F b ∨ (w.heap.size ≤ b ∧ b < w.heap.size + 1 + 1), ⟨⟨.inr ⟨by omega, by omega⟩, hL1⟩, ?_, ?_⟩, fun b hb' => ?_, fun b hb' _ => hb.block b hb'⟩
  ·rw [List.nodup_cons]
   refine ⟨fun hm => ?_, hF.1⟩
   have := hlt _ (hF.2 _ hm).1
   omega
  ·intro D hD
   rcases List.mem_cons.1 hD with rfl | hD
   ·exact ⟨.inr ⟨by omega, by omega⟩, hK1⟩
   ·obtain ⟨h1, h2⟩ := hF.2 D hD
    exact ⟨.inl h1, (hb.block D (hlt D h1)).trans h2⟩
  ·rcases hb' with h | h
   ·exact ⟨.inl h, by have := hlt b h; omega⟩
   ·exact ⟨.inr h.1, by omega⟩)
 rwa [Nz] at this
def Xc (W1 : World) (F1 : Nat → Prop) (q q' : HP) : Ending → World → Prop := fun y W' => (y = .returned (.bool true) ∧ ∃ F', q.sat F' W' ∧ bI W1 W' F1 F') ∨ (y = .returned (.bool false) ∧ ∃ F', q'.sat F' W' ∧ bI W1 W' F1 F')
theorem bI.st {W' : World} {F' : Nat → Prop} {q : HP} {Z : Nat → Prop} {F : Nat → Nat → Prop} {i : Nat} (hos : w.os = w0.os ∧ w.tape = w0.tape ∧ w.output = w0.output ∧ w0.heap.size ≤ w.heap.size) (hz : ∀ b, Z b → b < w.heap.size)
  (cJ : ∀ p ∈ R, ∀ b, p.Z b → Z b ∧ w.heap[b]? = p.w.heap[b]?) (hs : ∀ (i : Nat) (p : HP), H[i]? = some p → p.sat (F i) w) (cQ : ∀ i b, F i b → ¬ Z b ∧ b < w.heap.size) (cW : ∀ i j b, i ≠ j → F i b → ¬ F j b)
  (hlt : i < H.length) (mE : q.sat F' W') (ht : bI w W' (F i) F') : St w0 R (H.set i q) W' := by
 refine ⟨ht.os.trans hos.1, ht.tape.trans hos.2.1, ht.output.trans hos.2.2.1, Nat.le_trans hos.2.2.2 ht.size, Z, fun j => if j = i then F' else F j, fun b h => Nat.lt_of_lt_of_le (hz b h) ht.size, fun p hp b h => ?_, fun j r hj => ?_, fun j b h => ?_, fun j k b jC h => ?_⟩
 ·exact ⟨(cJ p hp b h).1, (ht.old b (hz b (cJ p hp b h).1) (fun mS => (cQ i b mS).1 (cJ p hp b h).1)).trans (cJ p hp b h).2⟩
 ·rw [List.getElem?_set] at hj
  split at hj
  ·rename_i e; subst e
   first | (rw [if_pos hlt] at hj; cases hj) | cases hj
   simpa using mE
  ·rename_i e
   simp only [if_neg (Ne.symm e)]
   exact r.loc _ _ _ (hs j r hj) (fun b hb => ht.old b (cQ j b hb).2 (cW j i b (Ne.symm e) hb))
 ·dsimp only at h
  split at h
  ·refine ⟨fun fS => ?_, (ht.new b h).2⟩
   rcases (ht.new b h).1 with h | h
   ·exact (cQ i b h).1 fS
   ·have := hz b fS; omega
  ·exact ⟨(cQ j b h).1, Nat.lt_of_lt_of_le (cQ j b h).2 ht.size⟩
 ·dsimp only at h ⊢
  split at h <;> split
  ·rename_i h1 h2; omega
  ·rename_i e1 e2
   intro hk
   rcases (ht.new b h).1 with h | h
   ·exact cW i k b (by omega) h hk
   ·have := (cQ k b hk).2; omega
  ·rename_i e1 e2
   intro hk
   rcases (ht.new b hk).1 with hk | hk
   ·exact cW j i b (by omega) h hk
   ·have := (cQ j b h).2; omega
  ·exact cW j k b jC h
theorem XI.yield (i : Nat) {W0 : World} {F0 : Nat → Prop} {d l : Nat} {ty : TypeId} {pos : String} {aJ : Array Edge} {x : Operand} {args : List Operand} {vs : List Value} {tys : Array TypeId} {p q q' : HP}
  (hx : e.ev x = some (.func (.yield l) #[] #[])) (ha : e.cV args = some vs) (hd : d < nn) (hnt : nt W0 F0 ∈ R) (cU : sE W0 w0) (hi : H[i]? = some p)
  (hy : ∀ W1 F1, p.sat F1 W1 → (∀ b, F1 b → b < W1.heap.size) → bI W0 W1 F0 F1 → YieldAt Fence.wide 9 P l vs.toArray W1 (Xc W1 F1 q q'))
  (k1 : XK ⟨nn, []⟩ w0 (KI r L P ops Q rest) ((d, .bool true) :: e) R (H.set i q)) (k2 : XK ⟨nn, []⟩ w0 (KI r L P ops Q rest) ((d, .bool false) :: e) R (H.set i q')) :
  XK ⟨nn, []⟩ w0 (KI r L P ops Q (⟨some d, .call { callee := .value x, args := args.toArray, argTypes := tys }, ty, pos, aJ, none⟩ :: rest)) e R H := fun a w hr st => by
 obtain ⟨Z, F, hz, cJ, hs, cQ, cW⟩ := st.ex
 have hlt : i < H.length := by
  rcases Nat.lt_or_ge i H.length with h | h
  ·exact h
  ·rw [List.getElem?_eq_none h] at hi; cases hi
 have kO : sE W0 w := cU.trans ⟨st.os, st.tape, st.output, st.size⟩
 obtain ⟨fn, tmps, assign, body, hrun, aAL⟩ := hy w (F i) (hs i p hi) (fun b hb => (cQ i b hb).2) ⟨kO.os, kO.tape, kO.output, kO.size, fun b hb => ⟨by
  rcases Nat.lt_or_ge b W0.heap.size with h | h
  ·exact .inl (Classical.byContradiction fun hn => (cQ i b hb).1 (cJ _ hnt b ⟨h, hn⟩).1)
  ·exact .inr h, (cQ i b hb).2⟩, fun b hb hn => (cJ _ hnt b ⟨hb, hn⟩).2⟩
 refine wpListIn_plain rfl fun K hK => ?_
 refine ⟨fun _ _ => trivial, ?_⟩
 rw [Zl r _ rfl, Nw]
 have hex : (execOp a.eval (⟨some d, .call { callee := .value x, args := args.toArray, argTypes := tys }, ty, pos, aJ, none⟩ : Oper)).run P w = .ok (.round l fn tmps assign body) w := by
  simp [execOp, resolve, hr.ev hx, Deferred.ofValue, invoke, hr.cV ha, hrun]
 rw [hex]
 refine ⟨fun _ => by omega, ?_⟩
 have aFz : RoundIn (Fr r) 8 P l fn tmps assign body w (Xc w (F i) q q') := ⟨aAL.1, fun c cs _ => aAL.2 c cs (room_wide _)⟩
 refine aFz.mono ?_
 rintro y W' (⟨rfl, F', hq, ht⟩ | ⟨rfl, F', hq, ht⟩)
 ·refine hK _ _ ?_
  rw [xF]
  exact k1 _ _ (hr.put hd _) (bI.st ⟨st.os, st.tape, st.output, st.size⟩ hz cJ hs cQ cW hlt hq ht)
 ·refine hK _ _ ?_
  rw [xF]
  exact k2 _ _ (hr.put hd _) (bI.st ⟨st.os, st.tape, st.output, st.size⟩ hz cJ hs cQ cW hlt hq ht)
def Iter (P : Program) (g : FuncId) (lb : List Value) (encs : List (List Value)) (p : Piece) : Prop :=
 ∀ (l : Nat) (J Jx : Nat → HP) (W : World) (F : Nat → Prop), p.Le (all W) → (∀ b, p.Z b → ¬ F b) → (J 0).sat F W → (∀ b, F b → b < W.heap.size) →
  (∀ (k : Nat) (vs : List Value) (W1 : World) (F1 : Nat → Prop), encs[k]? = some vs → (J k).sat F1 W1 → (∀ b, F1 b → b < W1.heap.size) → bI W W1 F F1 → YieldAt Fence.wide 9 P l vs.toArray W1 (Xc W1 F1 (J (k + 1)) (Jx (k + 1)))) →
  Calls P g (Value.func (.yield l) #[] #[] :: lb).toArray W fun y W' => (∃ v, y = .returned v) ∧ ∃ F', bI W W' F F' ∧ ((J encs.length).sat F' W' ∨ ∃ k, k < encs.length ∧ (Jx (k + 1)).sat F' W')
def Qe : List Nat → List Value → Env → Env
 | p :: ps, v :: vs, e => Qe ps vs ((p, v) :: e)
 | _, _, e => e
theorem cY.bind : ∀ {ps : List Nat} {vs : List Value} {e : Env} {a : Act}, cY ⟨nn, []⟩ e a → (∀ p ∈ ps, p < nn) → cY ⟨nn, []⟩ (Qe ps vs e) { tmps := (ps.zip vs).foldl (fun t (p, v) => t.setIfInBounds p v) a.tmps, defers := a.defers }
 | [], vs, e, a, h, _ => h
 | p :: ps, [], e, a, h, _ => h
 | p :: ps, v :: vs, e, a, h, hp => cY.bind (a := a.put (some p) v) (h.put (hp p (by simp)) v) (fun q hq => hp q (by simp [hq]))
theorem XC.range {gf : FuncId} {lb : List Value} {encs : List (List Value)} {p : Piece} {g : Operand} {ps : List Nat} {assign body : Code} (hg : e.ev g = some (.func (.func gf) #[] lb.toArray)) (hf : fK P gf = true) (hit : Iter P gf lb encs p) (hp : p ∈ R)
  (hps : ∀ vs ∈ encs, vs.length = ps.length) (hpN : ∀ q ∈ ps, q < nn) (Hs Hx : Nat → List HP) (Mid : Nat → List Value → Env → List HP → Prop) (h0 : H = Hs 0 ++ [HP.marks L])
  (hassign : ∀ (l k : Nat) (vs : List Value) (W1 : World) (q : Piece) (X : HP), encs[k]? = some vs → sE w0 W1 → XK ⟨nn, []⟩ W1 (KC (some l) [] P assign (Fx fun a w => ∃ e1 H1, Mid k vs e1 H1 ∧ cY ⟨nn, []⟩ e1 a ∧ St W1 (R ++ [q]) (H1 ++ [X]) w)) (Qe ps vs e) (R ++ [q]) (Hs k ++ [X]))
  (hbody : ∀ (l k : Nat) (vs : List Value) (W1 : World) (q : Piece) (X : HP) (e1 : Env) (H1 : List HP), encs[k]? = some vs → sE w0 W1 → Mid k vs e1 H1 →
   XK ⟨nn, []⟩ W1 (KC (some l) [] P body (fun x _ w => (x = .normal ∧ St W1 (R ++ [q]) (Hs (k + 1) ++ [X]) w) ∨ (x = .ret ∧ St W1 (R ++ [q]) (Hx (k + 1) ++ [X]) w))) e1 (R ++ [q]) (H1 ++ [X]))
  (hdone : ∀ D, XK ⟨nn, []⟩ w0 (KQ (D :: L) Q .normal) e R (Hs encs.length ++ [HP.marks (D :: L)])) (aAM : ∀ D k, k < encs.length → XK ⟨nn, []⟩ w0 (KC none (D :: L) P .ret Q) e R (Hx (k + 1) ++ [HP.marks (D :: L)])) :
  XK ⟨nn, []⟩ w0 (KC none L P (Code.rangeFunc g ps.toArray assign body) Q) e R H := fun a w hr st => by
 subst h0
 unfold fK at hf
 cases hq : P.funcs[gf]? with
 | none => simp [hq] at hf
 | some fnn =>
 simp [hq] at hf
 obtain ⟨fG, fZ⟩ := hf
 have eg : ∀ args w, (callFunc gf args).run P w = .ok (.enter gf args) w := fun args w => by
  cases hb : fnn.body with
  | none => simp [hb] at fZ
  | some c => simp [callFunc, hq, fG, hb]
 refine wpIn_rangeFunc (F := Fence.wide) fun fn hfn => ?_
 let qL : LoopState → Option Code → Loop := fun s pe => { state := s, pending := pe, fn, tmps := a.tmps, params := ps.toArray, assign, body, defers := w.heap.size }
 have jA : St w0 R (Hs 0 ++ [HP.lp (w.heap.size + 1) (w.heap.size :: L) (qL .ready none)]) ((w.alloc (.deferred (some []))).alloc (.loop (qL .ready none))) := st.aFb
 obtain ⟨W1, hW1⟩ : ∃ W1, (w.alloc (.deferred (some []))).alloc (.loop (qL .ready none)) = W1 := ⟨_, rfl⟩
 rw [hW1] at jA
 obtain ⟨F, Tw, hlt, hbase⟩ := jA.join
 refine ⟨w.heap.size + 1, [Sw w.heap.size], W1, { target := .fn (.func gf) lb.toArray, args := #[.func (.yield (w.heap.size + 1)) #[] #[]] }, W1, gf, #[.func (.yield (w.heap.size + 1)) #[] #[]] ++ lb.toArray, W1,
  by rw [← hW1]; exact run_enterLoop_outer _ _ _ _ _, ?_, fun _ _ => trivial, by simp [invoke, go_sem, eg], fun h => by simp [Fence.wide] at h, ?_⟩
 ·have := hr.ev hg
  rw [Nw]
  simp only [resolve, this]
  simp [go_sem]
 refine callsIn_wide.2 ?_
 have wI := hit (w.heap.size + 1) (fun k => HP.many (Hs k ++ [HP.lp (w.heap.size + 1) (w.heap.size :: L) (qL .ready none)])) (fun k => HP.many (Hx k ++ [HP.lp (w.heap.size + 1) (w.heap.size :: L) (qL .done (some .ret))])) W1 F
  (fun b hb => ⟨(hbase.ro p hp b hb).1, (hbase.ro p hp b hb).2.2⟩) (fun b hb => (hbase.ro p hp b hb).2.1) Tw hlt ?_
 ·rw [show (#[Value.func (.yield (w.heap.size + 1)) #[] #[]] ++ lb.toArray) = (Value.func (.yield (w.heap.size + 1)) #[] #[] :: lb).toArray by simp]
  refine wI.mono ?_
  rintro y W2 ⟨⟨v, rfl⟩, F2, ht, h | ⟨k, hk, h⟩⟩
  ·have uE := St.split hbase ht h
   refine ⟨none, _, run_endLoop uE.Ee (by simp [qL]), ?_⟩
   have := hdone w.heap.size a _ hr (uE.aA6 (rc' := { qL .ready none with state := .exhausted }))
   unfold KQ mk at this
   rw [hr.defers] at this
   unfold mk
   rw [hr.defers]
   exact this
  ·have uE := St.split hbase ht h
   refine ⟨some .ret, _, run_endLoop uE.Ee (by simp [qL]), ?_⟩
   have := aAM w.heap.size k hk a _ hr (uE.aA6 (rc' := { qL .done (some .ret) with state := .exhausted }))
   unfold KC mk at this
   rw [hr.defers] at this
   unfold mk
   rw [hr.defers]
   exact this
 ·intro k vs W2 F2 hvs fF Bv Tr
  have uE := St.split hbase Tr fF
  have oF := uE.Ee
  have hvl := hps vs (List.mem_of_getElem? hvs)
  refine ⟨fn, _, assign, body, run_yield oF (by simp [qL, hvl]), roundIn_of_wpIn (F := Fence.wide) hfn ?_⟩
  have Rm := St.aD5 hbase Tr Bv fF
  have hsame : sE w0 W2 := hbase.same.trans Tr.same
  have wC : cY ⟨nn, []⟩ (Qe ps vs e) { tmps := (ps.zip vs).foldl (fun t (p, v) => t.setIfInBounds p v) a.tmps, defers := a.defers } := cY.bind hr hpN
  rw [hr.defers] at wC
  have h1 := hassign (w.heap.size + 1) k vs W2 (nt W2 F2) _ hvs hsame _ _ wC Rm
  unfold KC at h1
  rw [So] at h1
  simp only [qL, List.zip_toArray, List.foldl_toArray', List.size_toArray]
  refine wpIn_mono h1 ?_
  rintro x a1 W3 hx
  cases x with
  | normal =>
   obtain ⟨e1, H1, hmid, dJ, Ze⟩ := hx
   refine ⟨_, run_beginRound Ze.Ee rfl, ?_⟩
   have st4 := Ze.Sz (rc' := qL .busy none)
   have h2 := hbody (w.heap.size + 1) k vs W2 (nt W2 F2) _ e1 H1 hvs hsame hmid a1 _ dJ st4
   unfold KC at h2
   rw [So] at h2
   refine wpIn_mono h2 ?_
   rintro x a4 W4 (⟨rfl, Gs⟩ | ⟨rfl, Gs⟩)
   ·refine ⟨_, _, run_endRound none Gs.Ee, .inl ⟨rfl, ?_⟩⟩
    obtain ⟨F', h3, _, h4⟩ := St.Yw (Gs.Sz (rc' := qL .ready none)) (by simp : nt W2 F2 ∈ R ++ [nt W2 F2])
    exact ⟨F', h3, h4⟩
   ·refine ⟨_, _, run_endRound (some .ret) Gs.Ee, .inr ⟨rfl, ?_⟩⟩
    obtain ⟨F', h3, _, h4⟩ := St.Yw (Gs.Sz (rc' := qL .done (some .ret))) (by simp : nt W2 F2 ∈ R ++ [nt W2 F2])
    exact ⟨F', h3, h4⟩
  | _ => exact hx.elim
theorem XC.enter {f : FuncId} {fn : Func} {c : Code} {vs : List Value} {w : World} {Post : Ending → World → Prop} (hf : P.funcs[f]? = some fn) (hb : fn.body = some c) (hN : fn.ntmps = nn) (hl : vs.length ≤ nn) {R : List Piece} {H : List HP} (st : St w R H w)
  (h : XK ⟨nn, []⟩ w (KC none [] P c (bodyPostM Fence.wide 9 P fn Post)) (yO 0 vs) R (H ++ [HP.marks []])) : Calls P f vs.toArray w Post := by
 refine (callsIn_wide (n := 9)).1 (callsIn_of_wp_marks hf hb trivial ?_ rfl)
 have := h { tmps := vs.toArray ++ Array.replicate (fn.ntmps - vs.toArray.size) undef, defers := [] } w ⟨?_, rfl, fun t v hv => ?_⟩ ?_
 ·unfold KC at this
  rw [So] at this
  exact this
 ·simp; omega
 ·obtain ⟨_, h2⟩ := Lt vs 0 t v hv
  rw [Nat.sub_zero] at h2
  have hlt : t < vs.length := by
   rcases Nat.lt_or_ge t vs.length with h | h
   ·exact h
   ·rw [List.getElem?_eq_none h] at h2; cases h2
  rw [Array.getElem?_append_left (by simpa using hlt)]
  simpa using h2
 ·obtain ⟨Z, F, hz, hr, hs, hf, hd⟩ := st.ex
  refine ⟨st.os, st.tape, st.output, st.size, Z, fun i b => i < H.length ∧ F i b, hz, hr, fun i p hi => ?_, fun i b h => hf i b h.2, fun i j b hij h k => hd i j b hij h.2 k.2⟩
  rcases Nat.lt_or_ge i H.length with h | h
  ·rw [List.getElem?_append_left h] at hi
   have := hs i p hi
   show p.sat (fun b => i < H.length ∧ F i b) w
   rwa [show (fun b => i < H.length ∧ F i b) = F i by funext b; simp [h]]
  ·rw [List.getElem?_append_right h] at hi
   have : i - H.length = 0 := by
    rcases Nat.eq_zero_or_pos (i - H.length) with h | h
    ·exact h
    ·rw [List.getElem?_eq_none (by simp; omega)] at hi; cases hi
   rw [this] at hi
   simp at hi
   subst hi
   exact ⟨List.nodup_nil, fun D hD => by cases hD⟩
theorem Tc {fn : Func} {tmps : Array Value} {Post : Ending → World → Prop} {v : Value} : ∀ (L : List Nat) (Hs : List HP) (w : World), St w0 R (Hs ++ [HP.marks L]) w → (∀ w, St w0 R Hs w → (results fn tmps).run P w = .ok v w ∧ Post (.returned v) w) →
  LeavesInM Fence.wide 9 P fn tmps Post (L.map Sw) .returning w
 | [], Hs, w, st, h => ⟨v, h w (st.weak (fun _ hp => hp) id (fun _ _ _ _ h => h) (fun i p hi => by
   have : i < Hs.length := by
    rcases Nat.lt_or_ge i Hs.length with h | h
    ·exact h
    ·rw [List.getElem?_eq_none h] at hi; cases hi
   show (Hs ++ [HP.marks []])[i]? = some p
   rw [List.getElem?_append_left this]; exact hi))⟩
 | D :: L, Hs, w, st, h => by
  obtain ⟨F, hF⟩ := st.sat (i := Hs.length) Eg
  have hD := (hF.2 D (by simp)).2
  refine ⟨by simp, .inl ⟨D, _, rfl, run_takeDeferred hD, Tc L Hs _ ?_ h⟩⟩
  have := st.sL (q := HP.marks L) (w' := w.putObj D (.deferred none)) (i := Hs.length) Eg (by simp) rfl rfl rfl (fun F hF hlt => ⟨F, ⟨(List.nodup_cons.1 hF.1).2, fun D' Kh => ⟨(hF.2 D' (by simp [Kh])).1, (World.putObj_heap_other (fun e : D' = D => (List.nodup_cons.1 hF.1).1 (e ▸ Kh))).trans (hF.2 D' (by simp [Kh])).2⟩⟩, fun b hb => ⟨.inl hb, by simpa using hlt b hb⟩, fun b hb hn => World.putObj_heap_other (fun e => hn (e ▸ (hF.2 D (by simp)).1))⟩)
  rwa [Nz] at this
theorem XC.kV {fn : Func} {Post : Ending → World → Prop} {x : Exit} {Hs : List HP} (hx : x = .ret ∨ x = .normal) (hr : fn.results = #[]) (h : ∀ w, St w0 R Hs w → Post (.returned (.tuple #[])) w) : XK ⟨nn, []⟩ w0 (KQ L (bodyPostM Fence.wide 9 P fn Post) x) e R (Hs ++ [HP.marks L]) := fun a w bM st => by
 have := Tc (P := P) (fn := fn) (tmps := a.tmps) (v := .tuple #[]) L Hs w st (fun w st => ⟨results_none hr _ _ _, h w st⟩)
 rcases hx with rfl | rfl
 ·unfold KQ mk; rw [bM.defers]; exact this
 ·unfold KQ mk; rw [bM.defers]; exact this
theorem XC.aI {fn : Func} {Post : Ending → World → Prop} {Hs : List HP} {t : Nat} {v : Value} (hr : fn.results = #[.tmp t]) (ht : e.get t = some v) (h : ∀ w, St w0 R Hs w → Post (.returned v) w) : XK ⟨nn, []⟩ w0 (KQ L (bodyPostM Fence.wide 9 P fn Post) .ret) e R (Hs ++ [HP.marks L]) := fun a w bM st => by
 have := Tc (P := P) (fn := fn) (tmps := a.tmps) (v := v) L Hs w st (fun w st => ⟨by rw [results_tmp hr, Array.getD_eq_getD_getElem?, bM.get t v ht]; rfl, h w st⟩)
 unfold KQ mk; rw [bM.defers]; exact this
theorem XC.fin {x : Exit} (h : ∀ a w, cY ⟨nn, []⟩ e a → St w0 R H w → Q x (mk L a) w) : XK ⟨nn, []⟩ w0 (KQ L Q x) e R H := h
theorem XI.start {K : Act → World → Prop} (h : XK ⟨nn, []⟩ w0 K e R H) : XK ⟨nn, []⟩ w0 (Fx K .normal) e R H := h
end
end
section
def wV (g : List (List Int)) : Bool := g.any fun l => l.any fun u => decide (u < 0) || decide ((g.length : Int) ≤ u)
def lZ (g : List (List Int)) : Int := if 100 < g.length then 1 else if wV g then 4 else 0
def hstep (v : Nat) (s : List Int × List (List Int) × List Int) (u : Int) : List Int × List (List Int) × List Int :=
 if s.2.2.contains u then s else (s.1.set v (s.1[v]?.getD 0 + 1), s.2.1.set u.toNat (s.2.1[u.toNat]?.getD [] ++ [(v : Int)]), s.2.2 ++ [u])
def hrow (v : Nat) (s : List Int × List (List Int)) (l : List Int) : List Int × List (List Int) × List Int := l.foldl (hstep v) (s.1, s.2, [])
def eD (g : List (List Int)) : Nat → List Int × List (List Int)
 | 0 => (List.replicate g.length 0, List.replicate g.length [])
 | k + 1 => let r := hrow k (eD g k) (g[k]?.getD []); (r.1, r.2.1)
def zF (g : List (List Int)) (M : List Nat) : Option Nat := (List.range g.length).find? fun v => !(M.contains v) && (g[v]?.getD []).all fun u => M.contains u.toNat
def nV (g : List (List Int)) : Nat → List Nat → Option (List Nat)
 | 0, M => some M
 | k + 1, M => match zF g M with
  | none => none
  | some v => nV g k (M ++ [v])
def yA (l : List Int) : List Int := l.foldl (fun a u => if a.contains u then a else a ++ [u]) []
theorem aBW {g : List (List Int)} {k j : Nat} {l : List Int} {u : Int} (hk : g[k]? = some l) (hj : l[j]? = some u) (hu : u < 0 ∨ (g.length : Int) ≤ u) : wV g = true := by
 unfold wV
 simp only [List.any_eq_true, Bool.or_eq_true, decide_eq_true_eq]
 exact ⟨l, List.mem_of_getElem? hk, u, List.mem_of_getElem? hj, hu⟩
theorem aBX {g : List (List Int)} (h : ∀ (k : Nat) (l : List Int), g[k]? = some l → ∀ (j : Nat) (u : Int), l[j]? = some u → 0 ≤ u ∧ u < g.length) : wV g = false := by
 cases hb : wV g with
 | false => rfl
 | true =>
  unfold wV at hb
  simp only [List.any_eq_true, Bool.or_eq_true, decide_eq_true_eq] at hb
  obtain ⟨l, hl, u, hu, aBc⟩ := hb
  obtain ⟨k, hk⟩ := List.getElem?_of_mem hl
  obtain ⟨j, hj⟩ := List.getElem?_of_mem hu
  have := h k l hk j u hj
  omega
def sG (g : List (List Int)) : Prop := ∀ l ∈ g, ∀ u ∈ l, 0 ≤ u ∧ u < g.length
theorem sG.of {g : List (List Int)} (h : wV g = false) : sG g := by
 intro l hl u hu
 by_cases h0 : u < 0 ∨ (g.length : Int) ≤ u
 ·have hb : wV g = true := by
   unfold wV
   simp only [List.any_eq_true, Bool.or_eq_true, decide_eq_true_eq]
   exact ⟨l, hl, u, hu, h0⟩
  rw [h] at hb
  cases hb
 ·omega
theorem Ts (v : Nat) (s : List Int × List (List Int) × List Int) (u : Int) : (hstep v s u).1.length = s.1.length ∧ (hstep v s u).2.1.length = s.2.1.length := by
 unfold hstep; split <;> simp
theorem Ub (v : Nat) : ∀ (l : List Int) (s : List Int × List (List Int) × List Int), (l.foldl (hstep v) s).1.length = s.1.length ∧ (l.foldl (hstep v) s).2.1.length = s.2.1.length
 | [], s => ⟨rfl, rfl⟩
 | u :: l, s => by rw [List.foldl_cons]; have h1 := Ub v l (hstep v s u); have h2 := Ts v s u; exact ⟨h1.1.trans h2.1, h1.2.trans h2.2⟩
theorem Eu (g : List (List Int)) : ∀ k, (eD g k).1.length = g.length ∧ (eD g k).2.length = g.length
 | 0 => by simp [eD]
 | k + 1 => by
  have h := Eu g k
  have h1 := Ub k (g[k]?.getD []) ((eD g k).1, (eD g k).2, [])
  exact ⟨h1.1.trans h.1, h1.2.trans h.2⟩
theorem aAG (v : Nat) (s : List Int × List (List Int) × List Int) (u : Int) : (hstep v s u).2.2 = if s.2.2.contains u then s.2.2 else s.2.2 ++ [u] := by unfold hstep; split <;> rfl
theorem aAK (v : Nat) : ∀ (l : List Int) (s : List Int × List (List Int) × List Int), (l.foldl (hstep v) s).2.2 = l.foldl (fun a u => if a.contains u then a else a ++ [u]) s.2.2
 | [], s => rfl
 | u :: l, s => by rw [List.foldl_cons, List.foldl_cons, aAK v l, aAG]
theorem Ua (v : Nat) : ∀ (l : List Int) (s : List Int × List (List Int) × List Int), v < s.1.length → s.1[v]? = some (s.2.2.length : Int) → (l.foldl (hstep v) s).1[v]? = some ((l.foldl (hstep v) s).2.2.length : Int)
 | [], s, _, h => h
 | u :: l, s, hv, h => by
  rw [List.foldl_cons]
  refine Ua v l _ (by rw [(Ts v s u).1]; exact hv) ?_
  unfold hstep
  split
  ·exact h
  ·simp only [h, Option.getD_some]
   rw [List.getElem?_set_self hv]
   simp
theorem aAI (v : Nat) : ∀ (l : List Int) (s : List Int × List (List Int) × List Int) (x : Nat), x ≠ v → (l.foldl (hstep v) s).1[x]? = s.1[x]?
 | [], s, x, _ => rfl
 | u :: l, s, x, hx => by
  rw [List.foldl_cons, aAI v l _ x hx]
  unfold hstep
  split
  ·rfl
  ·exact List.getElem?_set_ne (Ne.symm hx)
theorem Tz (v : Nat) : ∀ (l : List Int) (s : List Int × List (List Int) × List Int) (x : Nat), (∀ u ∈ l, 0 ≤ u ∧ u < s.2.1.length) → x < s.2.1.length →
  (l.foldl (hstep v) s).2.1[x]? = some (s.2.1[x]?.getD [] ++ if (x : Int) ∈ l ∧ (x : Int) ∉ s.2.2 then [(v : Int)] else [])
 | [], s, x, _, hx => by simp [List.getElem?_eq_getElem hx]
 | u :: l, s, x, hl, hx => by
  have hu := hl u (by simp)
  have hlen := (Ts v s u).2
  rw [List.foldl_cons, Tz v l (hstep v s u) x (fun y hy => by rw [hlen]; exact hl y (by simp [hy])) (by rw [hlen]; exact hx)]
  unfold hstep
  by_cases hc : s.2.2.contains u = true
  ·have xR : u ∈ s.2.2 := by simpa using hc
   simp only [hc, if_true, List.mem_cons]
   congr 2
   by_cases Iz : (x : Int) = u
   ·rw [Iz]; simp [xR]
   ·simp [Iz]
  ·have xR : u ∉ s.2.2 := by simpa using hc
   simp only [hc, Bool.false_eq_true, if_false, List.mem_cons, List.mem_append, List.mem_singleton, List.not_mem_nil, or_false]
   by_cases Iz : (x : Int) = u
   ·subst Iz
    have e : ((x : Int)).toNat = x := by simp
    rw [e, List.getElem?_set_self hx]
    simp [xR]
   ·have hne : u.toNat ≠ x := by omega
    rw [List.getElem?_set_ne hne]
    simp [Iz]
theorem Ke {g : List (List Int)} (hg : sG g) : ∀ k, k ≤ g.length → (∀ v, v < g.length → (eD g k).1[v]? = some (if v < k then ((yA (g[v]?.getD [])).length : Int) else 0)) ∧
  ∀ u, u < g.length → (eD g k).2[u]? = some (((List.range k).filter fun v => (g[v]?.getD []).contains (u : Int)).map Int.ofNat)
 | 0, _ => by
  refine ⟨fun v hv => ?_, fun u hu => ?_⟩
  ·simp [eD, hv]
  ·simp [eD, hu]
 | k + 1, hk => by
  obtain ⟨h1, h2⟩ := Ke hg k (by omega)
  have hl := Eu g k
  have hin : ∀ u ∈ g[k]?.getD [], 0 ≤ u ∧ u < (eD g k).2.length := fun u hu => by
   rw [hl.2]
   have : g[k]? = some (g[k]'(by omega)) := List.getElem?_eq_getElem _
   rw [this] at hu
   exact hg _ (List.getElem_mem _) u hu
  refine ⟨fun v hv => ?_, fun u hu => ?_⟩
  ·show (((g[k]?.getD []).foldl (hstep k) ((eD g k).1, (eD g k).2, [])).1)[v]? = _
   by_cases hvk : v = k
   ·subst hvk
    have := Ua v (g[v]?.getD []) ((eD g v).1, (eD g v).2, []) (by rw [hl.1]; exact hv) (by rw [h1 v hv]; simp)
    rw [this, aAK]
    simp [yA]
   ·rw [aAI k _ _ v hvk, h1 v hv]
    congr 1
    by_cases h : v < k
    ·rw [if_pos h, if_pos (by omega)]
    ·rw [if_neg h, if_neg (by omega)]
  ·show (((g[k]?.getD []).foldl (hstep k) ((eD g k).1, (eD g k).2, [])).2.1)[u]? = _
   rw [Tz k _ _ u hin (by rw [hl.2]; exact hu), h2 u hu, List.range_succ, List.filter_append, List.map_append]
   simp only [Option.getD_some, List.not_mem_nil, not_false_eq_true, and_true]
   congr 2
   by_cases h : (u : Int) ∈ g[k]?.getD []
   ·simp [h]
   ·simp [h]
theorem aGg {g : List (List Int)} (hg : sG g) {k u : Nat} (hk : k ≤ g.length) {l : List Int} (hu : (eD g k).2[u]? = some l) : l.length ≤ k := by
 have hlt : u < g.length := by
  rw [← (Eu g k).2]
  rcases Nat.lt_or_ge u (eD g k).2.length with h | h
  ·exact h
  ·rw [List.getElem?_eq_none h] at hu; cases hu
 rw [(Ke hg k hk).2 u hlt] at hu
 cases hu
 rw [List.length_map]
 have := List.length_filter_le (fun v => (g[v]?.getD []).contains (u : Int)) (List.range k)
 simpa using this
end
section
set_option maxHeartbeats 4000000
set_option maxRecDepth 20000
def jK (ks : List Int) : List (Int × Value) := ks.map fun k => (k, .agg #[])
theorem Sv : ∀ (ks : List Int) (k : Int), jU (jK ks) k = if ks.contains k then some (.agg #[]) else none
 | [], k => by simp [jK, jU]
 | a :: ks, k => by
  rw [jK, List.map_cons, Il]
  have := Sv ks k
  rw [jK] at this
  rw [this]
  by_cases h : a = k
  ·subst h; simp
  ·simp [h, Ne.symm h]
theorem aAw : ∀ (ks : List Int) (k : Int), lD (jK ks) k (.agg #[]) = jK (if ks.contains k then ks else ks ++ [k])
 | [], k => by simp [jK, lD]
 | a :: ks, k => by
  have ih := aAw ks k
  rw [jK, List.map_cons, lD]
  rw [jK] at ih
  by_cases h : a = k
  ·subst h; simp [jK]
  ·rw [if_neg h, ih]
   have hk : ¬ k = a := fun e => h e.symm
   by_cases hc : ks.contains k = true
   ·have : (a :: ks).contains k = true := by simp at hc ⊢; exact .inr hc
    rw [if_pos hc, if_pos this]; rfl
   ·have hm : k ∉ ks := by simpa using hc
    have : ¬ (a :: ks).contains k = true := by simp [hk, hm]
    rw [if_neg hc, if_neg this]; rfl
theorem Qi {p : Nat → Prop} {k : Nat} (h : ∀ i, i < k → p i) (hk : p k) : ∀ i, i < k + 1 → p i := fun i hi => by
 rcases Nat.lt_or_ge i k with h1 | h1
 ·exact h i h1
 ·have : i = k := by omega
  exact this ▸ hk
theorem aDg (ks : List Int) (k : Int) : (jU (jK ks) k).isSome = ks.contains k := by rw [Sv]; split <;> simp_all
theorem aDf (ks : List Int) (k : Int) : (jU (jK ks) k).getD (.agg #[]) = .agg #[] := by rw [Sv]; split <;> rfl
theorem aA0 (r : Nat) (v : Int) (ks : List Int) (w : World) (hm : sF w r (jK ks)) :
  Calls Tryz.prog 195 #[.map (some r), .int .i64 v] w (Rt (.bool (ks.contains v)) w) := by
 refine XK.enter (vs := [.map (some r), .int .i64 v]) Tryz.func195 rfl Tryz.ntmps195 (by simp) ?_
 refine XK.go ?_
 refine Qq (kt := 3) (et := 330) (kd := .i64) (z := .agg #[]) (l := jK ks) true (by kernel_rfl) (by kernel_rfl) (by kernel_rfl) rfl rfl (fun w1 st => hm.below (st.started (by simp))) (by decide) ?_
 rw [aDg, aDf]
 refine XK.go ?_
 refine bZ (cs := []) (aM (by kernel_rfl)) (by decide) fun g1 => ?_
 refine eJ rfl rfl ?_; simp only [cC, Value.cells, List.set, List.take, List.drop, List.nil_append, List.append_nil, List.length_cons, List.length_nil, List.cons_append, Nat.reduceAdd]
 refine XK.go ?_
 exact XK.aI rfl rfl fun w1 st => ⟨rfl, st.below (by simp)⟩
theorem aA1 (r : Nat) (v : Int) (ks : List Int) (w : World) (F : Nat → Prop) (hp : (HP.map r (jK ks)).sat F w) (hF : ∀ b, F b → b < w.heap.size) :
  Calls Tryz.prog 194 #[.map (some r), .int .i64 v] w (fun y w' => y = .returned (.tuple #[]) ∧ ∃ F', (HP.map r (jK (if ks.contains v then ks else ks ++ [v]))).sat F' w' ∧ bI w w' F F') := by
 refine XK.dD (p := HP.map r (jK ks)) (F := F) (vs := [.map (some r), .int .i64 v]) Tryz.func194 rfl Tryz.ntmps194 (by simp) hp hF ?_
 refine XK.region ?_
 refine aG rfl (by decide) ?_
 refine aG rfl (by decide) ?_
 refine dB (zs := []) (L := []) (aM (by kernel_rfl)) (by kernel_rfl) rfl (by simp [aR, aU, Value.cells]; rfl) (by decide) ?_
 refine Ay (kt := 3) (et := 330) (kd := .i64) (l := jK ks) 0 (by kernel_rfl) (by kernel_rfl) rfl rfl rfl rfl ?_
 rw [aAw]
 refine XK.aE ?_
 exact XK.kV (.inr rfl) rfl fun w1 st => ⟨rfl, st.turns hF (by simp) (i := 0) rfl⟩
theorem aEz (A : Option Addr) (n c : Nat) (g : List (List Int)) (w : World) (hg : kT (all w) A n g) (hn : n = g.length) (hn2 : (n : Int) ≤ 9223372036854775806) (hlen : ∀ l ∈ g, (l.length : Int) ≤ 9223372036854775806) :
  Calls Tryz.prog 256 #[.slice A n c] w (Rt (.int .i64 (lZ g)) w) := by
 refine XK.enter (vs := [.slice A n c]) Tryz.func256 rfl Tryz.ntmps256 (by simp) ?_
 refine XK.go ?_
 refine XK.if_ rfl (fun h => ?_) (fun h => ?_)
 ·
  refine XK.go ?_
  exact XK.aI rfl rfl fun w1 st => ⟨by simp [lZ, ← hn]; omega, st.below (by simp)⟩
 ·
  refine XK.go ?_
  refine XK.aK [(12, .int .i64 0), (11, .int .i64 n), (10, .slice A n c), (0, .slice A n c)] ?_
  refine XK.go ?_
  refine XK.loop (fun m e R H => ∃ k : Nat, k ≤ n ∧ m = n - k ∧ (∀ (i : Nat), i < k → ∀ l : List Int, g[i]? = some l → ∀ (j : Nat) (u : Int), l[j]? = some u → 0 ≤ u ∧ u < g.length) ∧ e = [(12, .int .i64 k), (11, .int .i64 n), (10, .slice A n c), (0, .slice A n c)] ∧ R = [all w] ∧ H = []) n ⟨0, by omega, rfl, (fun i h => absurd h (by omega)), rfl, rfl, rfl⟩ fun m e R H hI => ?_
  obtain ⟨k, hk, rfl, hin, rfl, rfl, rfl⟩ := hI
  refine XK.go ?_
  refine XK.if_ rfl (fun h => ?_) (fun h => ?_)
  ·
   refine XK.go ?_
   have hkn : k < n := by omega
   obtain ⟨l, hl⟩ : ∃ l, g[k]? = some l := ⟨g[k]'(by omega), List.getElem?_eq_getElem _⟩
   obtain ⟨b, off, B, c2, rfl, c1, pJ⟩ := hg.row hl
   have uM := hlen l (List.mem_of_getElem? hl)
   refine XK.go ?_
   refine dH (k) (off + k) (el := 22) (sz := 1) (by kernel_rfl) (by kernel_rfl) rfl rfl (by omega) (by omega) (by omega) (by decide) ?_
   refine XK.go ?_
   refine XK.aK [(18, .int .i64 0), (17, .int .i64 l.length), (16, .slice B l.length c2), (12, .int .i64 k), (11, .int .i64 n), (10, .slice (some ⟨b, off, none⟩) n c), (0, .slice (some ⟨b, off, none⟩) n c)] ?_
   refine XK.go ?_
   refine XK.loop (fun m e R H => ∃ j : Nat, j ≤ l.length ∧ m = l.length - j ∧ (∀ (i : Nat), i < j → ∀ u : Int, l[i]? = some u → 0 ≤ u ∧ u < g.length) ∧ e = [(18, .int .i64 j), (17, .int .i64 l.length), (16, .slice B l.length c2), (12, .int .i64 k), (11, .int .i64 n), (10, .slice (some ⟨b, off, none⟩) n c), (0, .slice (some ⟨b, off, none⟩) n c)] ∧ R = [all w] ∧ H = []) l.length ⟨0, by omega, rfl, (fun i h => absurd h (by omega)), rfl, rfl, rfl⟩ fun m e R H hI => ?_
   obtain ⟨j, hj, rfl, Jr, rfl, rfl, rfl⟩ := hI
   refine XK.go ?_
   refine XK.if_ rfl (fun h => ?_) (fun h => ?_)
   ·
    refine XK.go ?_
    have hjl : j < l.length := by omega
    obtain ⟨b2, off2, rfl, lG, uW⟩ := pJ.2 (by omega)
    obtain ⟨u, hu⟩ : ∃ u, l[j]? = some u := ⟨l[j]'(by omega), List.getElem?_eq_getElem _⟩
    have c3 : eW w b2 (off2 + j) (.int .i64 u) := ⟨lG, uW j _ (by simp [aO, hu])⟩
    refine XK.go ?_
    refine dH (j) (off2 + j) (el := 3) (sz := 1) (by kernel_rfl) (by kernel_rfl) rfl rfl (by omega) (by omega) (by omega) (by decide) ?_
    refine XK.go ?_
    refine bT (t := 24) rfl (fun hg => ?_) (fun hg => ?_)
    ·
     refine XK.go ?_
     exact XK.aI rfl rfl fun w1 st => ⟨by rw [show lZ g = 4 by simp [lZ, ← hn, aBW hl hu (by omega)]; omega], st.below (by simp)⟩
    ·
     refine XK.go ?_
     refine XK.if_ rfl (fun h => ?_) (fun h => ?_)
     ·
      refine XK.go ?_
      exact XK.aI rfl rfl fun w1 st => ⟨by rw [show lZ g = 4 by simp [lZ, ← hn, aBW hl hu (by omega)]; omega], st.below (by simp)⟩
     ·
      refine XK.go ?_
      exact XK.aK [(18, .int .i64 (j + 1)), (17, .int .i64 l.length), (16, .slice (some ⟨b2, off2, none⟩) l.length c2), (12, .int .i64 k), (11, .int .i64 n), (10, .slice (some ⟨b, off, none⟩) n c), (0, .slice (some ⟨b, off, none⟩) n c)] (XK.round (l.length - (j + 1)) (by omega) ⟨j + 1, by omega, rfl, Qi Jr (fun x hx => by rw [hu] at hx; cases hx; omega), rfl, rfl, rfl⟩)
   ·
    refine XK.go ?_
    exact XK.aK [(12, .int .i64 (k + 1)), (11, .int .i64 n), (10, .slice (some ⟨b, off, none⟩) n c), (0, .slice (some ⟨b, off, none⟩) n c)] (XK.round (n - (k + 1)) (by omega) ⟨k + 1, by omega, rfl, Qi hin (fun x hx j u hju => by rw [hl] at hx; cases hx; exact Jr j (by have := (List.getElem?_eq_some_iff.1 hju).1; omega) u hju), rfl, rfl, rfl⟩)
  ·
   refine XK.go ?_
   exact XK.aI rfl rfl fun w1 st => ⟨by rw [show lZ g = 0 by simp [lZ, ← hn, aBX (fun i l hi => hin i (by have := (List.getElem?_eq_some_iff.1 hi).1; omega) l hi)]; omega], st.below (by simp)⟩
end
section
def HU (vals : List Value) (U : List (List Int)) : List HP := List.zipWith (fun v l => HP.own 3 1 v l.length (aO l)) vals U
theorem aCp {vals : List Value} {U : List (List Int)} {i : Nat} {v : Value} {l : List Int} (hv : vals[i]? = some v) (hl : U[i]? = some l) : (HU vals U)[i]? = some (HP.own 3 1 v l.length (aO l)) := by
 simp [HU, List.getElem?_zipWith, hv, hl]
theorem aCo : ∀ (vals : List Value) (U : List (List Int)) (i : Nat) (v : Value) (l : List Int), (HU vals U).set i (HP.own 3 1 v l.length (aO l)) = HU (vals.set i v) (U.set i l)
 | [], U, i, v, l => by cases U <;> simp [HU]
 | a :: vals, [], i, v, l => by cases i <;> simp [HU]
 | a :: vals, b :: U, 0, v, l => by simp [HU]
 | a :: vals, b :: U, i + 1, v, l => by
  have := aCo vals U i v l
  simpa [HU] using this
theorem aIn (n : Nat) : HU (List.replicate n (.slice none 0 0)) (List.replicate n []) = List.replicate n (HP.own 3 1 (.slice none 0 0) 0 []) := by
 simp [HU, aO]
theorem aAA (W : List Int) (i : Nat) (v : Int) : (aO W).set i (.int .i64 v) = aO (W.set i v) := by simp [aO, List.map_set]
theorem Oe {W : List Int} {i : Nat} {v : Int} (h : W[i]? = some v) : (aO W)[i]? = some (.int .i64 v) := by simp [aO, h]
theorem aFn (n : Nat) : List.replicate n (Value.int .i64 0) = aO (List.replicate n 0) := by simp [aO]
theorem aA9 (W : List Int) (v : Int) : aO W ++ [.int .i64 v] = aO (W ++ [v]) := by simp [aO]
theorem kT.of {q : Piece} {gU n : Nat} {vals : List Value} {U : List (List Int)} (h1 : ∃ F, (HP.aF gU 22 vals).sat F q.w ∧ ∀ b, F b → q.Z b) (h2 : ∃ F, (HP.many (HU vals U)).sat F q.w ∧ ∀ b, F b → q.Z b) (hv : vals.length = n) (hU : U.length = n) : kT q (some ⟨gU, 0, none⟩) n U := by
 obtain ⟨F1, s1, z1⟩ := h1
 obtain ⟨F2, ⟨G, s2, g2, _⟩, z2⟩ := h2
 refine ⟨vals.map fun v => [v], ?_, hU.symm, ?_⟩
 ·have key : ∀ (vals : List Value) (U : List (List Int)), vals.length = U.length → (∀ (i : Nat) (v : Value) (l : List Int), vals[i]? = some v → U[i]? = some l → oK (dU q) l [v]) → Rows (oK (dU q)) 1 U (vals.map fun v => [v]) := by
   intro vals
   induction vals with
   | nil => intro U h _; cases U with
    | nil => trivial
    | cons => simp at h
   | cons v vals ih => intro U h hk; cases U with
    | nil => simp at h
    | cons l U => exact ⟨rfl, hk 0 v l rfl rfl, ih U (by simpa using h) (fun i v l h1 h2 => hk (i + 1) v l (by simpa using h1) (by simpa using h2))⟩
  refine key vals U (hv.trans hU.symm) fun i v l h1 h2 => ?_
  obtain ⟨A, c, rfl, hs⟩ := aH.rN (Y := q.Z) (s2 i _ (aCp h1 h2)) (fun b hb => z2 b (g2 i b hb))
  exact ⟨A, l.length, c, rfl, rfl, hs⟩
 ·rw [show (vals.map fun v => [v]).flatten = vals by clear s1 s2 hv; induction vals <;> simp_all]
  exact aH.pE (c := 0) s1 z1 (by omega)
theorem aAJ (v : Nat) : ∀ (l : List Int) (s : List Int × List (List Int) × List Int), (l.foldl (hstep v) s).2.2.length ≤ s.2.2.length + l.length
 | [], s => by simp
 | u :: l, s => by
  have := aAJ v l (hstep v s u)
  have h2 : (hstep v s u).2.2.length ≤ s.2.2.length + 1 := by rw [aAG]; split <;> simp
  simp only [List.foldl_cons, List.length_cons]
  omega
theorem aGh {g : List (List Int)} (hg : sG g) {k j : Nat} {l : List Int} (hl : g[k]? = some l) {s : List Int × List (List Int) × List Int} (hs : s = (l.take j).foldl (hstep k) ((eD g k).1, (eD g k).2, [])) :
  s.1.length = g.length ∧ s.2.1.length = g.length ∧ s.1[k]? = some (s.2.2.length : Int) ∧ s.2.2.length ≤ j ∧ ∀ (u : Nat) x, s.2.1[u]? = some x → x.length ≤ k + 1 := by
 have hk : k < g.length := (List.getElem?_eq_some_iff.1 hl).1
 have h1 := Ub k (l.take j) ((eD g k).1, (eD g k).2, [])
 have h2 := Eu g k
 have h3 := Ke hg k (by omega)
 have hmem : ∀ u ∈ l, 0 ≤ u ∧ u < g.length := hg l (List.mem_of_getElem? hl)
 subst hs
 refine ⟨h1.1.trans h2.1, h1.2.trans h2.2, ?_, ?_, fun u x hx => ?_⟩
 ·exact Ua k _ _ (by rw [h2.1]; exact hk) (by rw [h3.1 k hk]; simp)
 ·have := aAJ k (l.take j) ((eD g k).1, (eD g k).2, [])
  simp only [List.length_nil, List.length_take] at this
  omega
 ·have hu : u < g.length := by
   have := (List.getElem?_eq_some_iff.1 hx).1
   rw [h1.2, h2.2] at this
   exact this
  have h4 := Tz k (l.take j) ((eD g k).1, (eD g k).2, []) u (fun y hy => by rw [h2.2]; exact hmem y (List.mem_of_mem_take hy)) (by rw [h2.2]; exact hu)
  rw [h4] at hx
  cases hx
  obtain ⟨z, hz⟩ : ∃ z, (eD g k).2[u]? = some z := ⟨_, List.getElem?_eq_getElem (by rw [h2.2]; exact hu)⟩
  have h5 := aGg hg (by omega : k ≤ g.length) hz
  simp only [hz, Option.getD_some, List.length_append]
  split <;> simp <;> omega
theorem aGe {g : List (List Int)} {k j : Nat} {l : List Int} {u : Int} (hu : l[j]? = some u) (s0 : List Int × List (List Int) × List Int) : (l.take (j + 1)).foldl (hstep k) s0 = hstep k ((l.take j).foldl (hstep k) s0) u := by
 rw [List.take_add_one, hu, Option.toList_some, List.foldl_append]; rfl
theorem aGd {g : List (List Int)} {k : Nat} {l : List Int} (hl : g[k]? = some l) : eD g (k + 1) = (((l.take l.length).foldl (hstep k) ((eD g k).1, (eD g k).2, [])).1, ((l.take l.length).foldl (hstep k) ((eD g k).1, (eD g k).2, [])).2.1) := by
 rw [List.take_length, eD, hl]; rfl
def aCn (g : List (List Int)) (n : Nat) (v : Value) (hs : List HP) (q : Piece) : Prop := ∃ gW gU : Nat, v = .tuple #[.slice (some ⟨gW, 0, none⟩) n n, .slice (some ⟨gU, 0, none⟩) n n] ∧ hs = [HP.aF gW 3 (aO (eD g n).1)] ∧ kT q (some ⟨gU, 0, none⟩) n (eD g n).2
theorem aGf (A : Option Addr) (n c : Nat) (g : List (List Int)) (w : World) (hg : kT (all w) A n g) (hn : n = g.length) (hn2 : n ≤ 100) (hin : sG g) (hlen : ∀ l ∈ g, (l.length : Int) ≤ 9223372036854775806) :
  Calls Tryz.prog 257 #[.slice A n c] w (fun y w' => (∃ v hs q, y = .returned v ∧ q.w = w' ∧ aCn g n v hs q ∧ kA w hs q) ∧ Below w.heap.size w w') := by
 refine XK.enter (vs := [.slice A n c]) Tryz.func257 rfl Tryz.ntmps257 (by simp) ?_
 refine XK.seq ?_
 refine XK.region ?_
 refine aL rfl (by decide) ?_
 refine aL rfl (by decide) ?_
 refine XK.aE ?_
 refine XK.seq ?_
 refine XK.region ?_
 refine aG rfl (by decide) ?_
 refine fX (el := 22) (by kernel_rfl) rfl (by decide) ?_
 refine kD 8 (el := 3) (z := .int .i64 0) (by kernel_rfl) (by kernel_rfl) rfl rfl rfl (by omega) (by omega) (by decide) fun gW => ?_
 refine aL rfl (by decide) ?_
 refine XK.aE ?_
 refine XK.seq ?_
 refine XK.region ?_
 refine aG rfl (by decide) ?_
 refine fX (el := 22) (by kernel_rfl) rfl (by decide) ?_
 refine kD 24 (el := 22) (z := .slice none 0 0) (by kernel_rfl) (by kernel_rfl) rfl rfl rfl (by omega) (by omega) (by decide) fun gU => ?_
 refine aL rfl (by decide) ?_
 refine XK.aE ?_
 refine XK.seq ?_
 refine XK.seq ?_
 refine XK.region ?_
 refine aG rfl (by decide) ?_
 refine fX (el := 22) (by kernel_rfl) rfl (by decide) ?_
 refine aG rfl (by decide) ?_
 refine XK.aE ?_
 refine XK.aK [(17, .int .i64 0), (16, .int .i64 n), (15, .slice A n c), (3, .slice (some ⟨gU, 0, none⟩) n n), (2, .slice (some ⟨gW, 0, none⟩) n n)] ?_
 refine XK.aE4 n 3 1 ?_
 refine XK.block ?_
 refine XK.loop (fun m e R H => ∃ (k : Nat) (vals : List Value), k ≤ n ∧ m = n - k ∧ vals.length = n ∧ e = [(17, .int .i64 k), (16, .int .i64 n), (15, .slice A n c), (3, .slice (some ⟨gU, 0, none⟩) n n), (2, .slice (some ⟨gW, 0, none⟩) n n)] ∧ R = [all w] ∧ H = [HP.many (HU vals (eD g k).2), HP.aF gU 22 vals, HP.aF gW 3 (aO (eD g k).1)]) n ⟨0, List.replicate n (.slice none 0 0), by omega, rfl, by simp, rfl, rfl, by rw [eD, ← hn, aIn, ← aFn]⟩ fun m e R H hI => ?_
 obtain ⟨k, vals, hk, rfl, hv, rfl, rfl, rfl⟩ := hI
 refine XK.seq ?_
 refine XK.region ?_
 refine hJ rfl rfl (by decide) ?_
 refine XK.aE ?_
 refine XK.seq ?_
 refine XK.if_ rfl (fun h => ?_) (fun h => ?_)
 ·
  refine XK.skip ?_
  refine XK.norm ?_
  refine XK.seq ?_
  refine XK.block ?_
  refine XK.seq ?_
  have hkn : k < n := by omega
  obtain ⟨l, hl⟩ : ∃ l, g[k]? = some l := ⟨g[k]'(by omega), List.getElem?_eq_getElem _⟩
  obtain ⟨b, off, B, c2, rfl, c1, pJ⟩ := hg.row hl
  have uM := hlen l (List.mem_of_getElem? hl)
  have hmem := hin l (List.mem_of_getElem? hl)
  refine XK.region ?_
  refine aG rfl (by decide) ?_
  refine dH (k) (off + k) (el := 22) (sz := 1) (by kernel_rfl) (by kernel_rfl) rfl rfl (by omega) (by omega) (by omega) (by decide) ?_
  refine cP rfl ?_
  refine aL rfl (by decide) ?_
  refine aL rfl (by decide) ?_
  refine XK.aE ?_
  refine XK.seq ?_
  refine XK.region ?_
  refine Ye (by decide) fun r => ?_
  refine aL rfl (by decide) ?_
  refine XK.aE ?_
  refine XK.seq ?_
  refine XK.region ?_
  refine aG rfl (by decide) ?_
  refine fX (el := 3) (by kernel_rfl) rfl (by decide) ?_
  refine aG rfl (by decide) ?_
  refine XK.aE ?_
  refine XK.aK [(25, .int .i64 0), (24, .int .i64 l.length), (23, .slice B l.length c2), (6, .map (some r)), (4, .int .i64 k), (17, .int .i64 k), (16, .int .i64 n), (15, .slice (some ⟨b, off, none⟩) n c), (3, .slice (some ⟨gU, 0, none⟩) n n), (2, .slice (some ⟨gW, 0, none⟩) n n)] ?_
  refine XK.block ?_
  refine XK.loop (fun m e R H => ∃ (j : Nat) (vals : List Value) (s : List Int × List (List Int) × List Int), j ≤ l.length ∧ m = l.length - j ∧ vals.length = n ∧ s = (l.take j).foldl (hstep k) ((eD g k).1, (eD g k).2, []) ∧ e = [(25, .int .i64 j), (24, .int .i64 l.length), (23, .slice B l.length c2), (6, .map (some r)), (4, .int .i64 k), (17, .int .i64 k), (16, .int .i64 n), (15, .slice (some ⟨b, off, none⟩) n c), (3, .slice (some ⟨gU, 0, none⟩) n n), (2, .slice (some ⟨gW, 0, none⟩) n n)] ∧ R = [all w] ∧ H = [HP.map r (jK s.2.2), HP.many (HU vals s.2.1), HP.aF gU 22 vals, HP.aF gW 3 (aO s.1)]) l.length ⟨0, vals, _, by omega, rfl, hv, rfl, rfl, rfl, rfl⟩ fun m e R H hI => ?_
  obtain ⟨j, vals, s, hj, rfl, hv, hs, rfl, rfl, rfl⟩ := hI
  refine XK.seq ?_
  refine XK.region ?_
  refine hJ rfl rfl (by decide) ?_
  refine XK.aE ?_
  refine XK.seq ?_
  refine XK.if_ rfl (fun h => ?_) (fun h => ?_)
  ·
   refine XK.skip ?_
   refine XK.norm ?_
   refine XK.seq ?_
   refine XK.block ?_
   refine XK.seq ?_
   have hjl : j < l.length := by omega
   obtain ⟨b2, off2, rfl, lG, uW⟩ := pJ.2 (by omega)
   obtain ⟨u, hu⟩ : ∃ u, l[j]? = some u := ⟨l[j]'(by omega), List.getElem?_eq_getElem _⟩
   have c3 : eW w b2 (off2 + j) (.int .i64 u) := ⟨lG, uW j _ (by simp [aO, hu])⟩
   obtain ⟨hW, hU, hWk, hM, hUl⟩ := aGh hin hl hs
   obtain ⟨hu0, hun⟩ := hmem u (List.mem_of_getElem? hu)
   obtain ⟨vu, hvu⟩ : ∃ v, vals[u.toNat]? = some v := ⟨_, List.getElem?_eq_getElem (by omega)⟩
   obtain ⟨Uu, Vi⟩ : ∃ x, s.2.1[u.toNat]? = some x := ⟨_, List.getElem?_eq_getElem (by omega)⟩
   have aI7 := hUl _ _ Vi
   have Jn := aGe (g := g) (k := k) hu ((eD g k).1, (eD g k).2, [])
   rw [← hs] at Jn
   refine XK.region ?_
   refine dH (j) (off2 + j) (el := 3) (sz := 1) (by kernel_rfl) (by kernel_rfl) rfl rfl (by omega) (by omega) (by omega) (by decide) ?_
   refine cP rfl ?_
   refine aL rfl (by decide) ?_
   refine XK.aE ?_
   refine XK.seq ?_
   refine XK.seq ?_
   refine XK.region ?_
   refine aG rfl (by decide) ?_
   refine aG rfl (by decide) ?_
   refine aY (f := 195) (fi := []) (ca := []) (by kernel_rfl) rfl rfl (by decide) (fun w1 st => aA0 r u s.2.2 w1 (st.map (i := 0) rfl)) ?_
   refine XK.aE ?_
   refine XK.cond rfl (fun h => ?_) (fun h => ?_)
   ·
    refine XK.exit ?_
    refine XK.norm ?_
    refine XK.region ?_
    refine dO rfl rfl (bA (by omega)) (by decide) ?_
    refine aG rfl (by decide) ?_
    refine XK.aE ?_
    exact XK.aK [(25, .int .i64 (j + 1)), (24, .int .i64 l.length), (23, .slice (some ⟨b2, off2, none⟩) l.length c2), (6, .map (some r)), (4, .int .i64 k), (17, .int .i64 k), (16, .int .i64 n), (15, .slice (some ⟨b, off, none⟩) n c), (3, .slice (some ⟨gU, 0, none⟩) n n), (2, .slice (some ⟨gW, 0, none⟩) n n)] (XK.round (l.length - (j + 1)) (by omega) ⟨j + 1, vals, _, by omega, rfl, hv, Jn.symm, rfl, rfl, by rw [hstep, if_pos h]⟩)
   ·
    refine XK.skip ?_
    refine XK.norm ?_
    refine XK.seq ?_
    refine XK.region ?_
    refine aG rfl (by decide) ?_
    refine aG rfl (by decide) ?_
    refine Qt (f := 194) (fi := []) (ca := []) 0 (HP.map r (jK (if s.2.2.contains u then s.2.2 else s.2.2 ++ [u]))) (by kernel_rfl) rfl rfl rfl ⟨by decide, rfl⟩ (fun w1 F st hp hF => aA1 r u s.2.2 w1 F hp hF) ?_
    dsimp only [List.set]
    refine XK.aE ?_
    refine XK.seq ?_
    refine XK.region ?_
    refine aG rfl (by decide) ?_
    refine aG rfl (by decide) ?_
    refine dH (k) (k) (el := 3) (sz := 1) (by kernel_rfl) (by kernel_rfl) rfl rfl (by omega) (by omega) (by omega) (by decide) ?_
    refine gA (by kernel_rfl) rfl (Rd.aF 3 rfl (Oe hWk)) (by decide) ?_
    refine dO rfl rfl (bA (by omega)) (by decide) ?_
    refine dH (k) (k) (el := 3) (sz := 1) (by kernel_rfl) (by kernel_rfl) rfl rfl (by omega) (by omega) (by omega) (by decide) ?_
    refine yT 3 rfl (by kernel_rfl) rfl rfl rfl (by simp [aO]; omega) ?_
    dsimp only [List.set]
    rw [aAA]
    refine XK.aE ?_
    refine XK.region ?_
    refine aG rfl (by decide) ?_
    refine aG rfl (by decide) ?_
    refine aG rfl (by decide) ?_
    refine aG rfl (by decide) ?_
    refine dH (u.toNat) (u.toNat) (el := 22) (sz := 1) (by kernel_rfl) (by kernel_rfl) rfl rfl (by omega) (by omega) (by omega) (by decide) ?_
    refine gA (by kernel_rfl) rfl (Rd.aF 2 rfl hvu) (by decide) ?_
    refine XK.take 1 u.toNat rfl (aCp hvu Vi) ?_
    dsimp only [List.set]
    refine aG rfl (by decide) ?_
    refine eP (el := 3) (sz := 1) (zs := [.int .i64 0]) (by kernel_rfl) (aM (by kernel_rfl)) (by kernel_rfl) rfl (by decide) (by decide) rfl (by simp [aR, aU, Value.cells, List.range_succ, List.set]; rfl) (by decide) fun g3 => ?_
    refine fI 1 1 8 1 (n' := Uu.length + 1) (el := 3) (by kernel_rfl) (by kernel_rfl) (by decide) rfl rfl rfl (kL 0 rfl rfl) (by simp [Value.oneCell']) rfl (by omega) (by omega) (by decide) fun A' k' => ?_
    dsimp only [List.set]
    rw [aA9]
    refine dH (u.toNat) (u.toNat) (el := 22) (sz := 1) (by kernel_rfl) (by kernel_rfl) rfl rfl (by omega) (by omega) (by omega) (by decide) ?_
    refine yT 4 rfl (by kernel_rfl) rfl rfl rfl (by omega) ?_
    dsimp only [List.set]
    refine XK.weak [1, 2, 3, 4, 5] rfl (by decide) (fun _ hp => hp) ?_
    refine XK.aX 1 u.toNat rfl (by rw [List.getElem?_set_self (by simp [HU]; omega)]) ?_
    dsimp only [List.set]
    rw [List.set_set, show Uu.length + 1 = (Uu ++ [(k : Int)]).length by simp, aCo]
    refine XK.aE ?_
    refine XK.region ?_
    refine dO rfl rfl (bA (by omega)) (by decide) ?_
    refine aG rfl (by decide) ?_
    refine XK.aE ?_
    exact XK.aK [(25, .int .i64 (j + 1)), (24, .int .i64 l.length), (23, .slice (some ⟨b2, off2, none⟩) l.length c2), (6, .map (some r)), (4, .int .i64 k), (17, .int .i64 k), (16, .int .i64 n), (15, .slice (some ⟨b, off, none⟩) n c), (3, .slice (some ⟨gU, 0, none⟩) n n), (2, .slice (some ⟨gW, 0, none⟩) n n)] (XK.round (l.length - (j + 1)) (by omega) ⟨j + 1, vals.set u.toNat (.slice A' (Uu ++ [(k : Int)]).length k'), _, by omega, rfl, by simpa using hv, Jn.symm, rfl, rfl, by rw [hstep, if_neg (by rw [h]; decide), if_neg (by rw [h]; decide), hWk, Vi]; rfl⟩)
  ·
   refine XK.exit ?_
   refine XK.norm ?_
   refine XK.region ?_
   obtain rfl : j = l.length := by omega
   have hrw := aGd hl
   rw [← hs] at hrw
   refine dO rfl rfl (bA (by omega)) (by decide) ?_
   refine aG rfl (by decide) ?_
   refine XK.aE ?_
   exact XK.weak [1, 2, 3] rfl (by decide) (by simp) (XK.aK [(17, .int .i64 (k + 1)), (16, .int .i64 n), (15, .slice (some ⟨b, off, none⟩) n c), (3, .slice (some ⟨gU, 0, none⟩) n n), (2, .slice (some ⟨gW, 0, none⟩) n n)] (XK.round (n - (k + 1)) (by omega) ⟨k + 1, vals, by omega, rfl, hv, rfl, rfl, by rw [hrw]⟩))
 ·
  refine XK.exit ?_
  refine XK.norm ?_
  refine XK.seq ?_
  obtain rfl : k = n := by omega
  have hUl := (Eu g k).2
  refine XK.region ?_
  refine aG rfl (by decide) ?_
  refine aG rfl (by decide) ?_
  refine aL rfl (by decide) ?_
  refine aL rfl (by decide) ?_
  refine XK.aE ?_
  refine XK.ret ?_
  refine XK.norm ?_
  refine XK.still [] [0, 1] [2] (by simp) rfl (by decide) (by decide) fun q hq _ hfr => ?_
  refine XK.fQ rfl rfl rfl fun w1 st => ⟨⟨_, _, ⟨w1, q.Z⟩, rfl, rfl, ⟨gW, gU, rfl, rfl, ?_⟩, st.newR (by simp) (by simp) (hfr (by simp) (by simp))⟩, st.below (by simp)⟩
  exact (kT.of (hq 1 _ (by simp) rfl) (hq 0 _ (by simp) rfl) hv (by omega)).le fun b hb => ⟨hb, st.ro (by simp) hb⟩
end
section
def fR (M : List Nat) : List Int := M.map Int.ofNat
def oZ (g : List (List Int)) (M : List Nat) (v : Nat) : Bool := !(M.contains v) && (g[v]?.getD []).all fun u => M.contains u.toNat
def qH (g : List (List Int)) (M : List Nat) (v : Nat) : Nat := ((yA (g[v]?.getD [])).filter fun u => !(M.contains u.toNat)).length
def rI (g : List (List Int)) (M : List Nat) : List Int := (List.range g.length).map fun v => (qH g M v : Int)
def nI (W : List Int) (us : List Int) : List Int := us.foldl (fun W u => W.set u.toNat (W[u.toNat]?.getD 0 - 1)) W
def iM (g : List (List Int)) (v : Nat) : List Int := ((List.range g.length).filter fun x => (g[x]?.getD []).contains (v : Int)).map Int.ofNat
def lC (g : List (List Int)) : Int × List Nat := if lZ g ≠ 0 then (lZ g, []) else match nV g g.length [] with
 | some M => (0, M)
 | none => (5, [])
theorem aAt (M : List Nat) (v : Nat) : (fR M).contains (v : Int) = M.contains v := by
 rw [Bool.eq_iff_iff]
 simp only [fR, List.contains_iff_mem, List.mem_map]
 constructor
 ·rintro ⟨a, h, e⟩
  have : a = v := Int.ofNat.inj e
  exact this ▸ h
 ·exact fun h => ⟨v, h, rfl⟩
theorem aAs (M : List Nat) (v : Nat) : fR (M ++ [v]) = fR M ++ [(v : Int)] := by simp [fR]
theorem Gn {g : List (List Int)} {M : List Nat} {v : Nat} (h : v < g.length) : (rI g M)[v]? = some (qH g M v : Int) := by simp [rI, h]
theorem Dm (g : List (List Int)) (M : List Nat) : (rI g M).length = g.length := by simp [rI]
theorem Wg (l : List Int) : ∀ (a : List Int), (∀ u, u ∈ l.foldl (fun a u => if a.contains u then a else a ++ [u]) a ↔ u ∈ a ∨ u ∈ l) ∧ (a.Nodup → (l.foldl (fun a u => if a.contains u then a else a ++ [u]) a).Nodup) ∧ (l.foldl (fun a u => if a.contains u then a else a ++ [u]) a).length ≤ a.length + l.length := by
 induction l with
 | nil => intro a; simp
 | cons x l ih =>
  intro a
  rw [List.foldl_cons]
  obtain ⟨h1, h2, h3⟩ := ih (if a.contains x then a else a ++ [x])
  refine ⟨fun u => ?_, fun hn => h2 ?_, ?_⟩
  ·rw [h1]
   split
   ·rename_i hc
    have : x ∈ a := by simpa using hc
    constructor
    ·rintro (h | h)
     ·exact .inl h
     ·exact .inr (by simp [h])
    ·rintro (h | h)
     ·exact .inl h
     ·rcases List.mem_cons.1 h with rfl | h
      ·exact .inl this
      ·exact .inr h
   ·simp [or_assoc]
  ·split
   ·exact hn
   ·rename_i hc
    have : x ∉ a := by simpa using hc
    rw [List.nodup_append]
    refine ⟨hn, by simp, fun y hy z hz => ?_⟩
    simp at hz
    subst hz
    exact fun e => this (e ▸ hy)
  ·refine Nat.le_trans h3 ?_
   split <;> simp <;> omega
theorem Pu (l : List Int) (u : Int) : u ∈ yA l ↔ u ∈ l := by have := (Wg l []).1 u; simpa [yA] using this
theorem aHa (l : List Int) : (yA l).Nodup := (Wg l []).2.1 List.nodup_nil
theorem aHb (l : List Int) : (yA l).length ≤ l.length := by have := (Wg l []).2.2; simpa [yA] using this
theorem aCJ (g : List (List Int)) (M : List Nat) (v : Nat) : qH g M v ≤ (g[v]?.getD []).length := Nat.le_trans (List.length_filter_le _ _) (aHb _)
theorem Yq (g : List (List Int)) (M : List Nat) (v : Nat) : qH g M v = 0 ↔ ((g[v]?.getD []).all fun u => M.contains u.toNat) = true := by
 unfold qH
 rw [List.length_eq_zero_iff, List.filter_eq_nil_iff, List.all_eq_true]
 constructor
 ·intro h u hu
  have := h u ((Pu _ _).2 hu)
  simpa using this
 ·intro h u hu
  have := h u ((Pu _ _).1 hu)
  simpa using this
theorem Sg {g : List (List Int)} {M : List Nat} {v : Nat} (h : M.contains v = true) : oZ g M v = false := by rw [oZ, h]; rfl
theorem aEt {g : List (List Int)} {M : List Nat} {v : Nat} (h : (qH g M v : Int) > 0) : oZ g M v = false := by
 have : ¬ qH g M v = 0 := by omega
 rw [Yq] at this
 rw [oZ]
 simp only [Bool.not_eq_true] at this
 rw [this, Bool.and_false]
theorem aEu {g : List (List Int)} {M : List Nat} {v : Nat} (h : M.contains v = false) (h2 : ¬ (qH g M v : Int) > 0) : oZ g M v = true := by
 have : qH g M v = 0 := by omega
 rw [Yq] at this
 rw [oZ, h, this]
 rfl
theorem aE6 {g : List (List Int)} {M : List Nat} (h : ∀ j, j < g.length → oZ g M j = false) : zF g M = none := by
 unfold zF
 rw [List.find?_eq_none]
 intro x hx
 have := h x (by simpa using hx)
 unfold oZ at this
 rw [this]
 simp
theorem aAr {g : List (List Int)} {M : List Nat} {v : Nat} (hv : v < g.length) (h : ∀ j, j < v → oZ g M j = false) (hk : oZ g M v = true) : zF g M = some v := by
 unfold zF
 rw [List.find?_range_eq_some]
 refine ⟨hk, by simpa using hv, fun j hj => ?_⟩
 have := h j hj
 unfold oZ at this
 rw [this]
 rfl
theorem aEn {g : List (List Int)} {M : List Nat} {v k : Nat} (h : zF g M = some v) : nV g (k + 1) M = nV g k (M ++ [v]) := by rw [nV, h]
theorem aEm {g : List (List Int)} {M : List Nat} {k : Nat} (h : zF g M = none) : nV g (k + 1) M = none := by rw [nV, h]
theorem Wo : ∀ (us W : List Int), (nI W us).length = W.length
 | [], W => rfl
 | u :: us, W => by rw [nI, List.foldl_cons]; have := Wo us (W.set u.toNat (W[u.toNat]?.getD 0 - 1)); rw [nI] at this; rw [this]; simp
theorem aH1 {us W : List Int} {j : Nat} {u : Int} (h : us[j]? = some u) : nI W (us.take (j + 1)) = (nI W (us.take j)).set u.toNat ((nI W (us.take j))[u.toNat]?.getD 0 - 1) := by
 rw [List.take_add_one, h, Option.toList_some, nI, List.foldl_append]; rfl
theorem Wp : ∀ (us W : List Int) (x : Nat), (∀ u ∈ us, 0 ≤ u) → x < W.length → (nI W us)[x]? = some (W[x]?.getD 0 - (us.count (x : Int) : Int))
 | [], W, x, _, h => by simp [nI, h]
 | u :: us, W, x, hu, h => by
  rw [nI, List.foldl_cons]
  have := Wp us (W.set u.toNat (W[u.toNat]?.getD 0 - 1)) x (fun y hy => hu y (by simp [hy])) (by simpa using h)
  rw [nI] at this
  rw [this]
  have h0 := hu u (by simp)
  congr 1
  by_cases e : u = (x : Int)
  ·subst e
   have e2 : ((x : Int)).toNat = x := by simp
   rw [e2, List.getElem?_set_self h, List.count_cons_self]
   simp only [Option.getD_some]
   omega
  ·have e2 : u.toNat ≠ x := by omega
   rw [List.getElem?_set_ne e2, List.count_cons_of_ne e]
theorem Rb {g : List (List Int)} {v : Nat} {u : Int} (h : u ∈ iM g v) : 0 ≤ u ∧ u < g.length := by
 simp only [iM, List.mem_map, List.mem_filter, List.mem_range] at h
 obtain ⟨a, ⟨h1, _⟩, rfl⟩ := h
 simp; omega
theorem aCM (g : List (List Int)) (v : Nat) : (iM g v).length ≤ g.length := by
 rw [iM, List.length_map]
 have := List.length_filter_le (fun x => (g[x]?.getD []).contains (v : Int)) (List.range g.length)
 simpa using this
theorem aCN {g : List (List Int)} {v x : Nat} (hx : x < g.length) : (iM g v).count (x : Int) = if (g[x]?.getD []).contains (v : Int) then 1 else 0 := by
 have hnd : (iM g v).Nodup := List.Pairwise.map _ (fun a b h e => h (Int.ofNat.inj e)) (List.Pairwise.filter _ List.nodup_range)
 rw [List.Nodup.count hnd]
 have : ((x : Int) ∈ iM g v) ↔ (g[x]?.getD []).contains (v : Int) = true := by
  simp only [iM, List.mem_map, List.mem_filter, List.mem_range]
  constructor
  ·rintro ⟨a, ⟨_, h⟩, e⟩
   have : a = x := Int.ofNat.inj e
   exact this ▸ h
  ·intro h; exact ⟨x, ⟨hx, h⟩, rfl⟩
 by_cases h : (g[x]?.getD []).contains (v : Int) = true
 ·rw [if_pos (this.2 h), if_pos h]
 ·rw [if_neg (fun e => h (this.1 e)), if_neg h]
theorem filter_one {l : List Int} (hn : l.Nodup) {p q : Int → Bool} {a : Int} (ha : p a = true) (hq : ∀ u ∈ l, q u = (p u && decide (u ≠ a))) : (l.filter p).length = (l.filter q).length + if l.contains a then 1 else 0 := by
 induction l with
 | nil => simp
 | cons x l ih =>
  have hn' := List.nodup_cons.1 hn
  have ih := ih hn'.2 (fun u hu => hq u (by simp [hu]))
  have hx := hq x (by simp)
  by_cases e : x = a
  ·subst e
   have hc : ¬ l.contains x = true := by simpa using hn'.1
   rw [if_neg hc] at ih
   have uW : (x :: l).contains x = true := by simp
   rw [if_pos uW, List.filter_cons_of_pos ha, List.filter_cons_of_neg (by rw [hx]; simp), List.length_cons, ih]
  ·have hc : (x :: l).contains a = l.contains a := by
    rw [List.contains_cons]
    have : (a == x) = false := by simp; exact fun h => e h.symm
    rw [this, Bool.false_or]
   rw [hc]
   by_cases hp : p x = true
   ·rw [List.filter_cons_of_pos hp, List.filter_cons_of_pos (by rw [hx, hp]; simp [e]), List.length_cons, List.length_cons, ih]
    omega
   ·rw [List.filter_cons_of_neg hp, List.filter_cons_of_neg (by rw [hx]; simp [hp]), ih]
theorem aCI {g : List (List Int)} (hg : sG g) {M : List Nat} {v x : Nat} (hv : M.contains v = false) (hx : x < g.length) : (qH g M x : Int) - (if (g[x]?.getD []).contains (v : Int) then 1 else 0) = qH g (M ++ [v]) x := by
 have hin : ∀ u ∈ g[x]?.getD [], 0 ≤ u := fun u hu => by
  have h1 : g[x]? = some (g[x]'hx) := List.getElem?_eq_getElem _
  rw [h1] at hu
  exact (hg _ (List.getElem_mem _) u hu).1
 have key := filter_one (aHa (g[x]?.getD [])) (p := fun u => !(M.contains u.toNat)) (q := fun u => !((M ++ [v]).contains u.toNat)) (a := (v : Int)) (by simp only [Int.toNat_natCast]; rw [hv]; rfl) (fun u hu => by
  have h0 := hin u ((Pu _ _).1 hu)
  have hiff : (u.toNat = v) ↔ u = (v : Int) := by omega
  simp only [List.contains_eq_mem, List.mem_append, List.mem_singleton, hiff, Bool.decide_or, Bool.not_or, decide_not])
 have hc : (yA (g[x]?.getD [])).contains (v : Int) = (g[x]?.getD []).contains (v : Int) := by
  rw [Bool.eq_iff_iff]; simp only [List.contains_iff_mem]; exact Pu _ _
 rw [hc] at key
 unfold qH
 rw [key]
 split <;> omega
theorem aCG {g : List (List Int)} (hg : sG g) {M : List Nat} {v : Nat} (hv : M.contains v = false) : nI (rI g M) (iM g v) = rI g (M ++ [v]) := by
 apply List.ext_getElem?
 intro x
 rcases Nat.lt_or_ge x g.length with hx | hx
 ·rw [Wp _ _ _ (fun u hu => (Rb hu).1) (by rw [Dm]; exact hx), Gn hx, Gn hx, aCN hx]
  congr 1
  have := aCI hg hv hx
  simp only [Option.getD_some]
  rw [← this]
  split <;> rfl
 ·rw [List.getElem?_eq_none (by rw [Wo, Dm]; exact hx), List.getElem?_eq_none (by rw [Dm]; exact hx)]
theorem aCF {g : List (List Int)} (hg : sG g) : (eD g g.length).1 = rI g [] := by
 apply List.ext_getElem?
 intro x
 rcases Nat.lt_or_ge x g.length with hx | hx
 ·rw [(Ke hg g.length (Nat.le_refl _)).1 x hx, Gn hx, if_pos hx]
  congr 2
  unfold qH
  rw [List.filter_eq_self.2 (by simp)]
 ·rw [List.getElem?_eq_none (by rw [(Eu g _).1]; exact hx), List.getElem?_eq_none (by rw [Dm]; exact hx)]
theorem aCL {g : List (List Int)} (hg : sG g) {v : Nat} (hv : v < g.length) : (eD g g.length).2[v]? = some (iM g v) := (Ke hg g.length (Nat.le_refl _)).2 v hv
end
section
theorem aCH (W us : List Int) (j : Nat) (u x : Int) (hj : us[j]? = some u) (hx : (nI W (us.take j))[u.toNat]? = some x) : (aO (nI W (us.take j))).set u.toNat (.int .i64 (x - 1)) = aO (nI W (us.take (j + 1))) := by
 rw [aAA, aH1 hj, hx]; rfl
theorem aEq {g : List (List Int)} (h : lZ g ≠ 0) : lC g = (lZ g, []) := by unfold lC; rw [if_pos h]
theorem aEp {g : List (List Int)} (h0 : lZ g = 0) (h : nV g g.length [] = none) : lC g = (5, []) := by unfold lC; rw [if_neg (by simp [h0]), h]
theorem aEo {g : List (List Int)} {M : List Nat} (h0 : lZ g = 0) (h : nV g g.length [] = some M) : lC g = (0, M) := by unfold lC; rw [if_neg (by simp [h0]), h]
theorem aEy {g : List (List Int)} (h : lZ g = 0) : g.length ≤ 100 ∧ sG g := by
 unfold lZ at h
 split at h
 ·cases h
 ·split at h
  ·cases h
  ·rename_i h1 h2; exact ⟨by omega, sG.of (by simpa using h2)⟩
def Md (w : World) (M : List Nat) (err : Int) (y : Ending) (w' : World) : Prop := (∃ A m c, y = .returned (.tuple #[.slice A m c, .int .i64 err]) ∧ m = M.length ∧ aH (fresh w w') 1 A m (aO (fR M))) ∧ Below w.heap.size w w'
theorem Md.nil {w w' : World} {err : Int} (h : Below w.heap.size w w') : Md w [] err (.returned (.tuple #[.slice none 0 0, .int .i64 err])) w' := ⟨⟨none, 0, 0, rfl, rfl, aH.nil _ 1⟩, h⟩
theorem aEl (A : Option Addr) (n c : Nat) (g : List (List Int)) (w : World) (hg : kT (all w) A n g) (hn : n = g.length) (hn2 : (n : Int) ≤ 9223372036854775806) (hlen : ∀ l ∈ g, (l.length : Int) ≤ 9223372036854775806) :
  Calls Tryz.prog 241 #[.slice A n c] w (Md w (lC g).2 (lC g).1) := by
 refine XK.enter (vs := [.slice A n c]) Tryz.func241 rfl Tryz.ntmps241 (by simp) ?_
 refine XK.seq ?_
 refine XK.region ?_
 refine aL rfl (by decide) ?_
 refine aL rfl (by decide) ?_
 refine XK.aE ?_
 refine XK.seq ?_
 refine XK.seq ?_
 refine XK.region ?_
 refine aG rfl (by decide) ?_
 refine aY (f := 256) (fi := []) (ca := []) (by kernel_rfl) rfl rfl (by decide) (fun w1 st => aEz A n c g w1 (hg.le (fU (st.started (by simp)))) hn hn2 hlen) ?_
 refine aL rfl (by decide) ?_
 refine XK.aE ?_
 refine XK.seq ?_
 refine XK.region ?_
 refine aG rfl (by decide) ?_
 refine oP rfl rfl (by decide) ?_
 refine XK.aE ?_
 refine XK.if_ rfl (fun h => ?_) (fun h => ?_)
 ·
  refine XK.seq ?_
  refine XK.region ?_
  refine aG rfl (by decide) ?_
  refine aL rfl (by decide) ?_
  refine aL rfl (by decide) ?_
  refine XK.aE ?_
  refine XK.ret ?_
  refine XK.norm ?_
  exact XK.fQ rfl rfl rfl fun w1 st => by
   rw [aEq h]
   exact Md.nil (st.below (by simp))
 ·
  have h0 : lZ g = 0 := Classical.byContradiction h
  obtain ⟨aIw, hin⟩ := aEy h0
  refine XK.skip ?_
  refine XK.norm ?_
  refine XK.seq ?_
  refine XK.region ?_
  refine aG rfl (by decide) ?_
  refine dZ (f := 257) (fi := []) (ca := []) (by kernel_rfl) rfl rfl (by decide) (aCn g n) (fun w1 st => aGf A n c g w1 (hg.le (fU (st.started (by simp)))) hn (by omega) hin hlen) ?_
  rintro _ _ q ⟨gW, gU, rfl, rfl, hq⟩ wG
  refine aG rfl (by decide) ?_
  refine sJ rfl rfl (by decide) ?_
  refine sJ rfl rfl (by decide) ?_
  refine aL rfl (by decide) ?_
  refine aL rfl (by decide) ?_
  refine XK.aE ?_
  refine XK.seq ?_
  refine XK.region ?_
  refine Ye (by decide) fun r => ?_
  refine aL rfl (by decide) ?_
  refine XK.aE ?_
  refine XK.seq ?_
  refine XK.region ?_
  refine aL rfl (by decide) ?_
  refine XK.aE ?_
  refine XK.seq ?_
  refine XK.kN 3 1 ?_
  refine XK.aK [(8, .slice none 0 0), (7, .map (some r)), (6, .slice (some ⟨gU, 0, none⟩) n n), (5, .slice (some ⟨gW, 0, none⟩) n n), (0, .slice A n c)] ?_
  refine XK.block ?_
  refine XK.loop (fun m e R H => ∃ (M : List Nat) (A' : Option Addr) (c' : Nat), M.length ≤ n ∧ m = n - M.length ∧ nV g (n - M.length) M = nV g g.length [] ∧ e = [(8, .slice A' M.length c'), (7, .map (some r)), (6, .slice (some ⟨gU, 0, none⟩) n n), (5, .slice (some ⟨gW, 0, none⟩) n n), (0, .slice A n c)] ∧ R = [q, all w] ∧ H = [HP.own 3 1 (.slice A' M.length c') M.length (aO (fR M)), HP.map r (jK (fR M)), HP.aF gW 3 (aO (rI g M))]) n ⟨[], none, 0, by simp, rfl, by rw [hn]; rfl, rfl, rfl, by rw [hn, aCF hin]; rfl⟩ fun m e R H hI => ?_
  obtain ⟨M, A', c', hM, rfl, Uh, rfl, rfl, rfl⟩ := hI
  refine XK.seq ?_
  refine XK.seq ?_
  refine XK.region ?_
  refine aG rfl (by decide) ?_
  refine fX (el := 3) (by kernel_rfl) rfl (by decide) ?_
  refine aG rfl (by decide) ?_
  refine fX (el := 22) (by kernel_rfl) rfl (by decide) ?_
  refine hJ rfl rfl (by decide) ?_
  refine XK.aE ?_
  refine XK.if_ rfl (fun h => ?_) (fun h => ?_)
  ·
   refine XK.skip ?_
   refine XK.norm ?_
   refine XK.block ?_
   refine XK.seq ?_
   refine XK.region ?_
   refine aL rfl (by decide) ?_
   refine XK.aE ?_
   refine XK.cut (fun e R H => ∃ v : Nat, v ≤ n ∧ (∀ j, j < v → oZ g M j = false) ∧ (v < n → oZ g M v = true) ∧ e = [(9, .int .i64 v), (8, .slice A' M.length c'), (7, .map (some r)), (6, .slice (some ⟨gU, 0, none⟩) n n), (5, .slice (some ⟨gW, 0, none⟩) n n), (0, .slice A n c)] ∧ R = [q, all w] ∧ H = [HP.own 3 1 (.slice A' M.length c') M.length (aO (fR M)), HP.map r (jK (fR M)), HP.aF gW 3 (aO (rI g M))]) ?_ ?_
   ·
    refine XK.aK [(9, .int .i64 0), (8, .slice A' M.length c'), (7, .map (some r)), (6, .slice (some ⟨gU, 0, none⟩) n n), (5, .slice (some ⟨gW, 0, none⟩) n n), (0, .slice A n c)] ?_
    refine XK.block ?_
    refine XK.loop (fun m e R H => ∃ v : Nat, v ≤ n ∧ m = n - v ∧ (∀ j, j < v → oZ g M j = false) ∧ e = [(9, .int .i64 v), (8, .slice A' M.length c'), (7, .map (some r)), (6, .slice (some ⟨gU, 0, none⟩) n n), (5, .slice (some ⟨gW, 0, none⟩) n n), (0, .slice A n c)] ∧ R = [q, all w] ∧ H = [HP.own 3 1 (.slice A' M.length c') M.length (aO (fR M)), HP.map r (jK (fR M)), HP.aF gW 3 (aO (rI g M))]) n ⟨0, by omega, rfl, fun j h => absurd h (by omega), rfl, rfl, rfl⟩ fun m e R H hI => ?_
    obtain ⟨v, hv, rfl, hno, rfl, rfl, rfl⟩ := hI
    refine XK.seq ?_
    refine XK.seq ?_
    refine XK.region ?_
    refine aG rfl (by decide) ?_
    refine aG rfl (by decide) ?_
    refine fX (el := 22) (by kernel_rfl) rfl (by decide) ?_
    refine hJ rfl rfl (by decide) ?_
    refine aG rfl (by decide) ?_
    refine bT (t := 32) rfl (fun hlt => ?_) (fun hlt => ?_)
    ·
     refine aS rfl rfl ?_; refine aG rfl (by decide) ?_
     refine aS rfl rfl ?_; refine aG rfl (by decide) ?_
     refine aS rfl rfl ?_; refine aY (f := 195) (fi := []) (ca := []) (by kernel_rfl) rfl rfl (by decide) (fun w1 st => (aAt M v) ▸ aA0 r v (fR M) w1 (st.map (i := 1) rfl)) ?_
     refine aS rfl rfl ?_; refine aG rfl (by decide) ?_
     refine jH (t := 36) rfl (fun hc => ?_) (fun hc => ?_)
     ·
      refine aP rfl rfl rfl (by decide) ?_
      refine aP rfl rfl rfl (by decide) ?_
      refine aP rfl rfl rfl (by decide) ?_
      refine aP rfl rfl rfl (by decide) ?_
      refine aP rfl rfl rfl (by decide) ?_
      refine aS rfl rfl ?_; (first | refine cL rfl rfl (by decide) ?_ | refine cM rfl rfl (by decide) ?_)
      (first | refine cL rfl rfl (by decide) ?_ | refine cM rfl rfl (by decide) ?_)
      refine XK.aE ?_
      refine XK.cond rfl (fun _ => ?_) (fun h => by cases h)
      refine XK.skip ?_
      refine XK.norm ?_
      refine XK.block ?_
      refine XK.region ?_
      refine aG rfl (by decide) ?_
      refine dO rfl rfl (bA (by omega)) (by decide) ?_
      refine aL rfl (by decide) ?_
      refine XK.aE ?_
      exact XK.aK [(9, .int .i64 (v + 1)), (8, .slice A' M.length c'), (7, .map (some r)), (6, .slice (some ⟨gU, 0, none⟩) n n), (5, .slice (some ⟨gW, 0, none⟩) n n), (0, .slice A n c)] (XK.round (n - (v + 1)) (by omega) ⟨v + 1, by omega, rfl, Qi hno (Sg hc), rfl, rfl, rfl⟩)
     ·
      refine aS rfl rfl ?_; refine aG rfl (by decide) ?_
      refine aS rfl rfl ?_; refine aG rfl (by decide) ?_
      have Tm : v < g.length := by omega
      refine aS rfl rfl ?_; refine dH (v) (v) (el := 3) (sz := 1) (by kernel_rfl) (by kernel_rfl) rfl rfl (by omega) (by omega) (by omega) (by decide) ?_
      refine aS rfl rfl ?_; refine gA (by kernel_rfl) rfl (Rd.aF 2 rfl (Oe (Gn Tm))) (by decide) ?_
      refine aS rfl rfl ?_; refine Dk rfl rfl (by decide) ?_
      refine aS rfl rfl ?_; (first | refine cL rfl rfl (by decide) ?_ | refine cM rfl rfl (by decide) ?_)
      (first | refine cL rfl rfl (by decide) ?_ | refine cM rfl rfl (by decide) ?_)
      refine XK.aE ?_
      refine XK.if_ rfl (fun h => ?_) (fun h => ?_)
      ·
       refine XK.skip ?_
       refine XK.norm ?_
       refine XK.block ?_
       refine XK.region ?_
       refine aG rfl (by decide) ?_
       refine dO rfl rfl (bA (by omega)) (by decide) ?_
       refine aL rfl (by decide) ?_
       refine XK.aE ?_
       exact XK.aK [(9, .int .i64 (v + 1)), (8, .slice A' M.length c'), (7, .map (some r)), (6, .slice (some ⟨gU, 0, none⟩) n n), (5, .slice (some ⟨gW, 0, none⟩) n n), (0, .slice A n c)] (XK.round (n - (v + 1)) (by omega) ⟨v + 1, by omega, rfl, Qi hno (aEt h), rfl, rfl, rfl⟩)
      ·
       refine XK.exit ?_
       refine XK.norm ?_
       exact XK.aK [(9, .int .i64 v), (8, .slice A' M.length c'), (7, .map (some r)), (6, .slice (some ⟨gU, 0, none⟩) n n), (5, .slice (some ⟨gW, 0, none⟩) n n), (0, .slice A n c)] (XK.meet ⟨v, hv, hno, fun _ => aEu hc h, rfl, rfl, rfl⟩)
    ·
     refine aP rfl rfl rfl (by decide) ?_
     refine aP rfl rfl rfl (by decide) ?_
     refine aP rfl rfl rfl (by decide) ?_
     refine aP rfl rfl rfl (by decide) ?_
     refine rG rfl rfl (by decide) ?_
     refine rG rfl rfl (by decide) ?_
     refine rG rfl rfl (by decide) ?_
     refine rG rfl rfl (by decide) ?_
     refine rG rfl rfl (by decide) ?_
     refine aP rfl rfl rfl (by decide) ?_
     (first | refine cL rfl rfl (by decide) ?_ | refine cM rfl rfl (by decide) ?_)
     refine XK.aE ?_
     refine XK.cond rfl (fun h => by cases h) (fun _ => ?_)
     refine XK.exit ?_
     refine XK.norm ?_
     exact XK.aK [(9, .int .i64 v), (8, .slice A' M.length c'), (7, .map (some r)), (6, .slice (some ⟨gU, 0, none⟩) n n), (5, .slice (some ⟨gW, 0, none⟩) n n), (0, .slice A n c)] (XK.meet ⟨v, hv, hno, fun h => absurd h (by omega), rfl, rfl, rfl⟩)
   rintro _ _ _ ⟨v, hv, hno, hok, rfl, rfl, rfl⟩
   refine XK.seq ?_
   refine XK.seq ?_
   refine XK.region ?_
   refine aG rfl (by decide) ?_
   refine aG rfl (by decide) ?_
   refine fX (el := 22) (by kernel_rfl) rfl (by decide) ?_
   refine iS rfl rfl (by decide) ?_
   refine XK.aE ?_
   refine XK.if_ rfl (fun h => ?_) (fun h => ?_)
   ·
    refine XK.seq ?_
    refine XK.region ?_
    refine aL rfl (by decide) ?_
    refine aL rfl (by decide) ?_
    refine XK.aE ?_
    refine XK.ret ?_
    refine XK.norm ?_
    exact XK.fQ rfl rfl rfl fun w1 st => by
     have hnone : nV g g.length [] = none := by
      rw [← Uh, show n - M.length = (n - M.length - 1) + 1 by omega]
      exact aEm (aE6 fun j hj => hno j (by omega))
     rw [aEp h0 hnone]
     exact Md.nil (st.below (by simp))
   ·
    have Tm : v < n := by omega
    have Ek := hok Tm
    have hMv : M.contains v = false := by
     cases hb : M.contains v with
     | false => rfl
     | true => rw [Sg hb] at Ek; cases Ek
    have Jn := aAr (by omega : v < g.length) hno Ek
    have hU := aCL hin (by omega : v < g.length)
    rw [← hn] at hU
    obtain ⟨b1, o1, B1, d1, Vn, lH, Cf, hs1⟩ := hq.xC hU
    cases Vn
    have hul := aCM g v
    refine XK.skip ?_
    refine XK.norm ?_
    refine XK.seq ?_
    refine XK.region ?_
    refine aG rfl (by decide) ?_
    refine aG rfl (by decide) ?_
    refine Qt (f := 194) (fi := []) (ca := []) 1 (HP.map r (jK (if (fR M).contains (v : Int) then fR M else fR M ++ [(v : Int)]))) (by kernel_rfl) rfl rfl rfl ⟨by decide, rfl⟩ (fun w1 F st hp hF => aA1 r v (fR M) w1 F hp hF) ?_
    dsimp only [List.set]
    rw [if_neg (by rw [aAt, hMv]; decide), ← aAs]
    refine XK.aE ?_
    refine XK.seq ?_
    refine XK.region ?_
    refine aG rfl (by decide) ?_
    refine aG rfl (by decide) ?_
    refine eP (el := 3) (sz := 1) (zs := [.int .i64 0]) (by kernel_rfl) (aM (by kernel_rfl)) (by kernel_rfl) rfl (by decide) (by decide) rfl (by simp [aR, aU, Value.cells, List.range_succ, List.set]; rfl) (by decide) fun g1 => ?_
    refine fI 1 1 8 1 (n' := (M ++ [v]).length) (el := 3) (by kernel_rfl) (by kernel_rfl) (by decide) rfl rfl rfl (kL 0 rfl rfl) (by simp [Value.oneCell']) (by simp) (by simp; omega) (by simp; omega) (by decide) fun A2 c2 => ?_
    dsimp only [List.set]
    rw [aA9, ← aAs]
    refine aL rfl (by decide) ?_
    refine XK.aE ?_
    refine XK.seq ?_
    refine XK.region ?_
    refine aG rfl (by decide) ?_
    refine aG rfl (by decide) ?_
    refine dH (v) (v) (el := 22) (sz := 1) (by kernel_rfl) (by kernel_rfl) rfl rfl (by omega) (by omega) (by omega) (by decide) ?_
    refine gA (by kernel_rfl) rfl (Rd.ro (p := q) (by simp) lH (by simpa using Cf)) (by decide) ?_
    refine fX (el := 3) (by kernel_rfl) rfl (by decide) ?_
    refine aG rfl (by decide) ?_
    refine XK.aE ?_
    refine XK.weak [1, 2, 3] rfl (by decide) (fun _ hp => hp) ?_
    refine XK.aK [(62, .int .i64 0), (61, .int .i64 (iM g v).length), (60, .slice B1 (iM g v).length d1), (8, .slice A2 (M ++ [v]).length c2), (7, .map (some r)), (6, .slice (some ⟨gU, 0, none⟩) n n), (5, .slice (some ⟨gW, 0, none⟩) n n), (0, .slice A n c)] ?_
    refine XK.block ?_
    refine XK.loop (fun m e R H => ∃ j : Nat, j ≤ (iM g v).length ∧ m = (iM g v).length - j ∧ e = [(62, .int .i64 j), (61, .int .i64 (iM g v).length), (60, .slice B1 (iM g v).length d1), (8, .slice A2 (M ++ [v]).length c2), (7, .map (some r)), (6, .slice (some ⟨gU, 0, none⟩) n n), (5, .slice (some ⟨gW, 0, none⟩) n n), (0, .slice A n c)] ∧ R = [q, all w] ∧ H = [HP.own 3 1 (.slice A2 (M ++ [v]).length c2) (M ++ [v]).length (aO (fR (M ++ [v]))), HP.map r (jK (fR (M ++ [v]))), HP.aF gW 3 (aO (nI (rI g M) ((iM g v).take j)))]) (iM g v).length ⟨0, by omega, rfl, rfl, rfl, rfl⟩ fun m e R H hI => ?_
    obtain ⟨j, hj, rfl, rfl, rfl, rfl⟩ := hI
    refine XK.seq ?_
    refine XK.region ?_
    refine hJ rfl rfl (by decide) ?_
    refine XK.aE ?_
    refine XK.seq ?_
    refine XK.if_ rfl (fun h => ?_) (fun h => ?_)
    ·
     refine XK.skip ?_
     refine XK.norm ?_
     refine XK.seq ?_
     refine XK.block ?_
     refine XK.seq ?_
     have hjl : j < (iM g v).length := by omega
     obtain ⟨b2, off2, rfl, lG, uW⟩ := hs1.2 (by omega)
     obtain ⟨u, hu⟩ : ∃ u, (iM g v)[j]? = some u := ⟨_, List.getElem?_eq_getElem hjl⟩
     have c3 := uW j _ (Oe hu)
     obtain ⟨hu0, hun⟩ := Rb (List.mem_of_getElem? hu)
     have On : u.toNat < g.length := by omega
     have hx := Wp ((iM g v).take j) (rI g M) u.toNat (fun y hy => (Rb (List.mem_of_mem_take hy)).1) (by rw [Dm]; exact On)
     rw [Gn On] at hx
     have aI4 : ((iM g v).take j).count ((u.toNat : Nat) : Int) ≤ j := Nat.le_trans List.count_le_length (by simp; omega)
     obtain ⟨x, hxe⟩ : ∃ x : Int, x = (some (qH g M u.toNat : Int)).getD 0 - (((iM g v).take j).count ((u.toNat : Nat) : Int) : Int) := ⟨_, rfl⟩
     rw [← hxe] at hx
     have Ja := aCJ g M u.toNat
     have nE : ((g[u.toNat]?.getD []).length : Int) ≤ 9223372036854775806 := by
      rw [List.getElem?_eq_getElem On]; exact hlen _ (List.getElem_mem _)
     simp only [Option.getD_some] at hxe
     refine XK.region ?_
     refine dH (j) (off2 + j) (el := 3) (sz := 1) (by kernel_rfl) (by kernel_rfl) rfl rfl (by omega) (by omega) (by omega) (by decide) ?_
     refine gA (by kernel_rfl) rfl (Rd.ro (p := q) (by simp) lG c3) (by decide) ?_
     refine aL rfl (by decide) ?_
     refine XK.aE ?_
     refine XK.region ?_
     refine aG rfl (by decide) ?_
     refine aG rfl (by decide) ?_
     refine dH (u.toNat) (u.toNat) (el := 3) (sz := 1) (by kernel_rfl) (by kernel_rfl) rfl rfl (by omega) (by omega) (by omega) (by decide) ?_
     refine gA (by kernel_rfl) rfl (Rd.aF 2 rfl (Oe hx)) (by decide) ?_
     refine Mk rfl rfl (bA (by omega)) (by decide) ?_
     refine dH (u.toNat) (u.toNat) (el := 3) (sz := 1) (by kernel_rfl) (by kernel_rfl) rfl rfl (by omega) (by omega) (by omega) (by decide) ?_
     refine yT 2 rfl (by kernel_rfl) rfl rfl rfl (by rw [show (aO (nI (rI g M) ((iM g v).take j))).length = g.length by simp [aO, Wo, Dm]]; exact On) ?_
     dsimp only [List.set]
     rw [aCH _ _ j u x hu hx]
     refine XK.aE ?_
     refine XK.region ?_
     refine dO rfl rfl (bA (by omega)) (by decide) ?_
     refine aG rfl (by decide) ?_
     refine XK.aE ?_
     exact XK.aK [(62, .int .i64 (j + 1)), (61, .int .i64 (iM g v).length), (60, .slice (some ⟨b2, off2, none⟩) (iM g v).length d1), (8, .slice A2 (M ++ [v]).length c2), (7, .map (some r)), (6, .slice (some ⟨gU, 0, none⟩) n n), (5, .slice (some ⟨gW, 0, none⟩) n n), (0, .slice A n c)] (XK.round ((iM g v).length - (j + 1)) (by omega) ⟨j + 1, by omega, rfl, rfl, rfl, rfl⟩)
    ·
     refine XK.exit ?_
     refine XK.norm ?_
     exact XK.aK [(8, .slice A2 (M ++ [v]).length c2), (7, .map (some r)), (6, .slice (some ⟨gU, 0, none⟩) n n), (5, .slice (some ⟨gW, 0, none⟩) n n), (0, .slice A n c)] (XK.round (n - (M ++ [v]).length) (by simp; omega) ⟨M ++ [v], A2, c2, (by simp; omega), rfl, by rw [← Uh, show n - M.length = (n - (M ++ [v]).length) + 1 by simp; omega, aEn Jn], rfl, rfl, by rw [show j = (iM g v).length by omega, List.take_length, aCG hin hMv]⟩)
  ·
   refine XK.exit ?_
   refine XK.norm ?_
   refine XK.seq ?_
   refine XK.region ?_
   refine aG rfl (by decide) ?_
   refine aL rfl (by decide) ?_
   refine aL rfl (by decide) ?_
   refine XK.aE ?_
   refine XK.ret ?_
   refine XK.norm ?_
   refine XK.still [] [0] [] (by simp) rfl (by decide) (by decide) fun p hp _ hfr => ?_
   refine XK.fQ rfl rfl rfl fun w1 st => ?_
   have hsome : nV g g.length [] = some M := by rw [← Uh, show n - M.length = 0 by omega]; rfl
   rw [aEo h0 hsome]
   exact ⟨⟨_, _, _, rfl, rfl, (aH.own (hp 0 _ (by simp) rfl)).le (st.lK (by simp) (hfr (by simp) (by simp)))⟩, st.below (by simp)⟩
end
section
set_option maxHeartbeats 4000000
set_option maxRecDepth 20000
theorem Di {es : List Int} {k : Nat} (hz : ∀ j, j < k → es[j]? = some 0) (h : es[k]? = some 0) : ∀ j, j < k + 1 → es[j]? = some 0 := fun j hj => by
 rcases Nat.lt_or_ge j k with h1 | h1
 ·exact hz j h1
 ·have : j = k := by omega
  rw [this]
  exact h
theorem qG (b : Bool) (e : Int) (w : World) :
  Calls Tryz.prog 199 #[.bool b, .int .i64 e] w (Rt (.int .i64 (eX b e)) w) := by
 refine XK.enter (vs := [.bool b, .int .i64 e]) Tryz.func199 rfl Tryz.ntmps199 (by simp) ?_
 refine XK.go ?_
 refine XK.cond rfl (fun h => ?_) (fun h => ?_)
 ·
  refine XK.go ?_
  exact XK.aI rfl rfl fun w1 st => ⟨by simp [eX, h], st.below (by simp)⟩
 ·
  refine XK.go ?_
  exact XK.aI rfl rfl fun w1 st => ⟨by simp [eX, h], st.below (by simp)⟩
theorem oQ (n lo hi : Int) (w : World) :
  Calls Tryz.prog 205 #[.int .i64 n, .int .i64 lo, .int .i64 hi] w (Rt (.bool (eT n lo hi)) w) := by
 refine XK.enter (vs := [.int .i64 n, .int .i64 lo, .int .i64 hi]) Tryz.func205 rfl Tryz.ntmps205 (by simp) ?_
 refine XK.go ?_
 refine bT (t := 10) rfl (fun hg => ?_) (fun hg => ?_)
 ·
  refine XK.go ?_
  exact XK.aI rfl rfl fun w1 st => ⟨by simp [eT, hg], st.below (by simp)⟩
 ·
  refine XK.go ?_
  exact XK.aI rfl rfl fun w1 st => ⟨by simp [eT, hg], st.below (by simp)⟩
theorem Pp (A : Option Addr) (n c : Nat) (fs : List (FuncId × List Value)) (es : List Int) (w : World) (hs : aH (all w) 1 A n (fs.map fun f => .func (.func f.1) #[] f.2.toArray)) (hn : fs.length = n) (hl : es.length = n) (hn2 : (n : Int) ≤ 9223372036854775806) (hc : ∀ f ∈ fs, fK Tryz.prog f.1 = true)
  (hf : ∀ (i : Nat) (f : FuncId × List Value) (e : Int), fs[i]? = some f → es[i]? = some e → ∀ w', Below w.heap.size w w' → Calls Tryz.prog f.1 f.2.toArray w' (Rt (.int .i64 e) w')) :
  Calls Tryz.prog 117 #[.slice A n c] w (Rt (.int .i64 (gL es)) w) := by
 refine XK.enter (vs := [.slice A n c]) Tryz.func117 rfl Tryz.ntmps117 (by simp) ?_
 refine XK.go ?_
 refine XK.aK [(8, .int .i64 0), (7, .int .i64 n), (6, .slice A n c)] ?_
 refine XK.go ?_
 refine XK.loop (fun m e R H => ∃ k : Nat, k ≤ n ∧ m = n - k ∧ (∀ j, j < k → es[j]? = some 0) ∧ e = [(8, .int .i64 k), (7, .int .i64 n), (6, .slice A n c)] ∧ R = [all w] ∧ H = []) n ⟨0, by omega, rfl, fun j hj => absurd hj (by omega), rfl, rfl, rfl⟩ fun m e R H hI => ?_
 obtain ⟨k, hk, rfl, hz, rfl, rfl, rfl⟩ := hI
 refine XK.go ?_
 refine XK.if_ rfl (fun h => ?_) (fun h => ?_)
 ·
  refine XK.go ?_
  have hkn : k < n := by omega
  obtain ⟨f, fG⟩ : ∃ f, fs[k]? = some f := ⟨fs[k]'(by omega), List.getElem?_eq_getElem _⟩
  obtain ⟨e1, kH⟩ : ∃ e, es[k]? = some e := ⟨es[k]'(by omega), List.getElem?_eq_getElem _⟩
  obtain ⟨b, off, rfl, fS, Vb⟩ := hs.2 (by omega)
  have c1 : eW w b (off + k) (.func (.func f.1) #[] f.2.toArray) := ⟨fS, Vb k _ (by simp [fG])⟩
  refine XK.go ?_
  refine dH (k) (off + k) (el := 113) (sz := 1) (by kernel_rfl) (by kernel_rfl) rfl rfl (by omega) (by omega) (by omega) (by decide) ?_
  refine XK.go ?_
  refine aY (f := f.1) (fi := []) (ca := f.2) (hc f (List.mem_of_getElem? fG)) rfl rfl (by decide) (fun w1 st => by have := hf k f e1 fG kH w1 (st.started (by simp)); simpa using this) ?_
  refine XK.go ?_
  refine XK.if_ rfl (fun h => ?_) (fun h => ?_)
  ·
   refine XK.go ?_
   exact XK.aI rfl rfl fun w1 st => ⟨by rw [Cp hz kH h], st.below (by simp)⟩
  ·
   refine XK.go ?_
   exact XK.aK [(8, .int .i64 (k + 1)), (7, .int .i64 n), (6, .slice (some ⟨b, off, none⟩) n c)] (XK.round (n - (k + 1)) (by omega) ⟨k + 1, by omega, rfl, (Di hz (by rw [kH, show e1 = 0 by omega])), rfl, rfl, rfl⟩)
 ·
  refine XK.go ?_
  exact XK.aI rfl rfl fun w1 st => ⟨by rw [zT (fun j hj => hz j (by omega))], st.below (by simp)⟩
theorem aB2 (A : Option Addr) (n c : Nat) (id : FuncId) (ca : List Value) (rows : List (List Value)) (es : List Int) (w : World) (hs : aH (all w) 1 A n rows.flatten) (hr : ∀ r ∈ rows, r.length = 1) (hn : rows.length = n) (hl : es.length = n) (hn2 : (n : Int) ≤ 9223372036854775806) (hc : fK Tryz.prog id = true)
  (hf : ∀ (i : Nat) (r : List Value) (e : Int), rows[i]? = some r → es[i]? = some e → ∀ w', Below w.heap.size w w' → Calls Tryz.prog id (r ++ ca).toArray w' (Rt (.int .i64 e) w')) :
  Calls Tryz.prog 203 #[.slice A n c, .func (.func id) #[] ca.toArray] w (Rt (.int .i64 (gL es)) w) := by
 refine XK.enter (vs := [.slice A n c, .func (.func id) #[] ca.toArray]) Tryz.func203 rfl Tryz.ntmps203 (by simp) ?_
 refine XK.go ?_
 refine XK.aK [(10, .int .i64 0), (9, .int .i64 n), (8, .slice A n c), (1, .func (.func id) #[] ca.toArray)] ?_
 refine XK.go ?_
 refine XK.loop (fun m e R H => ∃ k : Nat, k ≤ n ∧ m = n - k ∧ (∀ j, j < k → es[j]? = some 0) ∧ e = [(10, .int .i64 k), (9, .int .i64 n), (8, .slice A n c), (1, .func (.func id) #[] ca.toArray)] ∧ R = [all w] ∧ H = []) n ⟨0, by omega, rfl, fun j hj => absurd hj (by omega), rfl, rfl, rfl⟩ fun m e R H hI => ?_
 obtain ⟨k, hk, rfl, hz, rfl, rfl, rfl⟩ := hI
 refine XK.go ?_
 refine XK.if_ rfl (fun h => ?_) (fun h => ?_)
 ·
  refine XK.go ?_
  have hkn : k < n := by omega
  obtain ⟨r, dJ⟩ : ∃ r, rows[k]? = some r := ⟨rows[k]'(by omega), List.getElem?_eq_getElem _⟩
  obtain ⟨e1, kH⟩ : ∃ e, es[k]? = some e := ⟨es[k]'(by omega), List.getElem?_eq_getElem _⟩
  obtain ⟨b, off, rfl, c1⟩ := hs.row hr dJ hkn
  have eM := hr r (List.mem_of_getElem? dJ)
  obtain ⟨v, rfl⟩ : ∃ v, r = [v] := by match r, eM with | [v], _ => exact ⟨v, rfl⟩
  have c2 := c1.at_ (j := 0) rfl
  refine XK.go ?_
  refine dH (k) (off + k * 1) (el := 3) (sz := 1) (by kernel_rfl) (by kernel_rfl) rfl rfl (by omega) (by omega) (by omega) (by decide) ?_
  refine XK.go ?_
  refine aY (f := id) (fi := []) (ca := ca) hc rfl rfl (by decide) (fun w1 st => by have := hf k [v] e1 dJ kH w1 (st.started (by simp)); simpa using this) ?_
  refine XK.go ?_
  refine XK.if_ rfl (fun h => ?_) (fun h => ?_)
  ·
   refine XK.go ?_
   exact XK.aI rfl rfl fun w1 st => ⟨by rw [Cp hz kH h], st.below (by simp)⟩
  ·
   refine XK.go ?_
   exact XK.aK [(10, .int .i64 (k + 1)), (9, .int .i64 n), (8, .slice (some ⟨b, off, none⟩) n c), (1, .func (.func id) #[] ca.toArray)] (XK.round (n - (k + 1)) (by omega) ⟨k + 1, by omega, rfl, (Di hz (by rw [kH, show e1 = 0 by omega])), rfl, rfl, rfl⟩)
 ·
  refine XK.go ?_
  exact XK.aI rfl rfl fun w1 st => ⟨by rw [zT (fun j hj => hz j (by omega))], st.below (by simp)⟩
theorem aGV (A : Option Addr) (n c : Nat) (id : FuncId) (ca : List Value) (rows : List (List Value)) (es : List Int) (w : World) (hs : aH (all w) 6 A n rows.flatten) (hr : ∀ r ∈ rows, r.length = 6) (hone : ∀ r ∈ rows, ∀ u ∈ r, u.oneCell' = true) (hn : rows.length = n) (hl : es.length = n) (hn2 : (n : Int) ≤ 9223372036854775806) (hc : fK Tryz.prog id = true)
  (hf : ∀ (i : Nat) (r : List Value) (e : Int), rows[i]? = some r → es[i]? = some e → ∀ w', Below w.heap.size w w' → Calls Tryz.prog id ([Value.agg r.toArray] ++ ca).toArray w' (Rt (.int .i64 e) w')) :
  Calls Tryz.prog 121 #[.slice A n c, .func (.func id) #[] ca.toArray] w (Rt (.int .i64 (gL es)) w) := by
 refine XK.enter (vs := [.slice A n c, .func (.func id) #[] ca.toArray]) Tryz.func121 rfl Tryz.ntmps121 (by simp) ?_
 refine XK.seq ?_
 refine XK.region ?_
 refine aL rfl (by decide) ?_
 refine XK.aE ?_
 refine XK.seq ?_
 refine XK.seq ?_
 refine XK.region ?_
 refine aG rfl (by decide) ?_
 refine fX (el := 118) (by kernel_rfl) rfl (by decide) ?_
 refine aG rfl (by decide) ?_
 refine XK.aE ?_
 refine XK.aK [(10, .int .i64 0), (9, .int .i64 n), (8, .slice A n c), (1, .func (.func id) #[] ca.toArray)] ?_
 refine XK.block ?_
 refine XK.loop (fun m e R H => ∃ k : Nat, k ≤ n ∧ m = n - k ∧ (∀ j, j < k → es[j]? = some 0) ∧ e = [(10, .int .i64 k), (9, .int .i64 n), (8, .slice A n c), (1, .func (.func id) #[] ca.toArray)] ∧ R = [all w] ∧ H = []) n ⟨0, by omega, rfl, fun j hj => absurd hj (by omega), rfl, rfl, rfl⟩ fun m e R H hI => ?_
 obtain ⟨k, hk, rfl, hz, rfl, rfl, rfl⟩ := hI
 refine XK.seq ?_
 refine XK.region ?_
 refine hJ rfl rfl (by decide) ?_
 refine XK.aE ?_
 refine XK.seq ?_
 refine XK.if_ rfl (fun h => ?_) (fun h => ?_)
 ·
  refine XK.skip ?_
  refine XK.norm ?_
  refine XK.seq ?_
  refine XK.block ?_
  refine XK.seq ?_
  have hkn : k < n := by omega
  obtain ⟨r, dJ⟩ : ∃ r, rows[k]? = some r := ⟨rows[k]'(by omega), List.getElem?_eq_getElem _⟩
  obtain ⟨e1, kH⟩ : ∃ e, es[k]? = some e := ⟨es[k]'(by omega), List.getElem?_eq_getElem _⟩
  obtain ⟨b, off, rfl, c1⟩ := hs.row hr dJ hkn
  have eM := hr r (List.mem_of_getElem? dJ)
  refine XK.region ?_
  refine dH (k) (off + k * 6) (el := 118) (sz := 6) (by kernel_rfl) (by kernel_rfl) rfl rfl (by omega) (by omega) (by omega) (by decide) ?_
  refine tZ 6 (by kernel_rfl) rfl (by first | assumption | exact aD.whole 0 rfl | exact aD.whole 1 rfl | exact aD.whole 2 rfl | exact aD.whole 3 rfl | exact aD.whole 4 rfl | exact aD.whole 5 rfl | exact aD.whole 6 rfl | exact aD.whole 7 rfl | exact aD.whole 8 rfl | exact aD.fD (by simp) (by assumption)) eM (by decide) ?_
  refine bZ (cs := [.int .u8 0, .slice none 0 0, .int .u64 0, .int .i64 0, .int .i64 0, .int .i64 0]) (aM (by kernel_rfl)) (by decide) fun g1 => ?_
  refine kC 0 rfl rfl rfl (by rw [show (Value.agg r.toArray).cells.size = 6 by simp [Value.cells, eM]]; kernel_rfl) (hone r (List.mem_of_getElem? dJ)) (by simp [Value.cells, eM]) ?_
  rw [Hy (by simp [Value.cells, eM])]
  dsimp only [List.set, Value.cells]
  refine XK.aE ?_
  refine XK.seq ?_
  refine XK.region ?_
  refine aG rfl (by decide) ?_
  refine tZ 6 (by kernel_rfl) rfl (by first | assumption | exact aD.whole 0 rfl | exact aD.whole 1 rfl | exact aD.whole 2 rfl | exact aD.whole 3 rfl | exact aD.whole 4 rfl | exact aD.whole 5 rfl | exact aD.whole 6 rfl | exact aD.whole 7 rfl | exact aD.whole 8 rfl | exact aD.fD (by simp) (by assumption)) eM (by decide) ?_
  refine aY (f := id) (fi := []) (ca := ca) hc rfl rfl (by decide) (fun w1 st => by have := hf k r e1 dJ kH w1 (st.started (by simp)); simpa using this) ?_
  refine aL rfl (by decide) ?_
  refine XK.aE ?_
  refine XK.seq ?_
  refine XK.region ?_
  refine aG rfl (by decide) ?_
  refine oP rfl rfl (by decide) ?_
  refine XK.aE ?_
  refine XK.if_ rfl (fun h => ?_) (fun h => ?_)
  ·
   refine XK.seq ?_
   refine XK.region ?_
   refine aG rfl (by decide) ?_
   refine aL rfl (by decide) ?_
   refine XK.aE ?_
   refine XK.ret ?_
   refine XK.norm ?_
   exact XK.aI rfl rfl fun w1 st => ⟨by rw [Cp hz kH h], st.below (by simp)⟩
  ·
   refine XK.skip ?_
   refine XK.norm ?_
   refine XK.region ?_
   refine dO rfl rfl (bA (by omega)) (by decide) ?_
   refine aG rfl (by decide) ?_
   refine XK.aE ?_
   exact XK.weak [] rfl (by decide) (by simp) (XK.aK [(10, .int .i64 (k + 1)), (9, .int .i64 n), (8, .slice (some ⟨b, off, none⟩) n c), (1, .func (.func id) #[] ca.toArray)] (XK.round (n - (k + 1)) (by omega) ⟨k + 1, by omega, rfl, (Di hz (by rw [kH, show e1 = 0 by omega])), rfl, rfl, rfl⟩))
 ·
  refine XK.exit ?_
  refine XK.norm ?_
  refine XK.seq ?_
  refine XK.region ?_
  refine aL rfl (by decide) ?_
  refine XK.aE ?_
  refine XK.ret ?_
  refine XK.norm ?_
  exact XK.aI rfl rfl fun w1 st => ⟨by rw [zT (fun j hj => hz j (by omega))], st.below (by simp)⟩
theorem aGU (A : Option Addr) (n c : Nat) (id : FuncId) (ca : List Value) (rows : List (List Value)) (es : List Int) (w : World) (hs : aH (all w) 3 A n rows.flatten) (hr : ∀ r ∈ rows, r.length = 3) (hone : ∀ r ∈ rows, ∀ u ∈ r, u.oneCell' = true) (hn : rows.length = n) (hl : es.length = n) (hn2 : (n : Int) ≤ 9223372036854775806) (hc : fK Tryz.prog id = true)
  (hf : ∀ (i : Nat) (r : List Value) (e : Int), rows[i]? = some r → es[i]? = some e → ∀ w', Below w.heap.size w w' → Calls Tryz.prog id ([Value.agg r.toArray] ++ ca).toArray w' (Rt (.int .i64 e) w')) :
  Calls Tryz.prog 128 #[.slice A n c, .func (.func id) #[] ca.toArray] w (Rt (.int .i64 (gL es)) w) := by
 refine XK.enter (vs := [.slice A n c, .func (.func id) #[] ca.toArray]) Tryz.func128 rfl Tryz.ntmps128 (by simp) ?_
 refine XK.seq ?_
 refine XK.region ?_
 refine aL rfl (by decide) ?_
 refine XK.aE ?_
 refine XK.seq ?_
 refine XK.seq ?_
 refine XK.region ?_
 refine aG rfl (by decide) ?_
 refine fX (el := 75) (by kernel_rfl) rfl (by decide) ?_
 refine aG rfl (by decide) ?_
 refine XK.aE ?_
 refine XK.aK [(10, .int .i64 0), (9, .int .i64 n), (8, .slice A n c), (1, .func (.func id) #[] ca.toArray)] ?_
 refine XK.block ?_
 refine XK.loop (fun m e R H => ∃ k : Nat, k ≤ n ∧ m = n - k ∧ (∀ j, j < k → es[j]? = some 0) ∧ e = [(10, .int .i64 k), (9, .int .i64 n), (8, .slice A n c), (1, .func (.func id) #[] ca.toArray)] ∧ R = [all w] ∧ H = []) n ⟨0, by omega, rfl, fun j hj => absurd hj (by omega), rfl, rfl, rfl⟩ fun m e R H hI => ?_
 obtain ⟨k, hk, rfl, hz, rfl, rfl, rfl⟩ := hI
 refine XK.seq ?_
 refine XK.region ?_
 refine hJ rfl rfl (by decide) ?_
 refine XK.aE ?_
 refine XK.seq ?_
 refine XK.if_ rfl (fun h => ?_) (fun h => ?_)
 ·
  refine XK.skip ?_
  refine XK.norm ?_
  refine XK.seq ?_
  refine XK.block ?_
  refine XK.seq ?_
  have hkn : k < n := by omega
  obtain ⟨r, dJ⟩ : ∃ r, rows[k]? = some r := ⟨rows[k]'(by omega), List.getElem?_eq_getElem _⟩
  obtain ⟨e1, kH⟩ : ∃ e, es[k]? = some e := ⟨es[k]'(by omega), List.getElem?_eq_getElem _⟩
  obtain ⟨b, off, rfl, c1⟩ := hs.row hr dJ hkn
  have eM := hr r (List.mem_of_getElem? dJ)
  refine XK.region ?_
  refine dH (k) (off + k * 3) (el := 75) (sz := 3) (by kernel_rfl) (by kernel_rfl) rfl rfl (by omega) (by omega) (by omega) (by decide) ?_
  refine tZ 3 (by kernel_rfl) rfl (by first | assumption | exact aD.whole 0 rfl | exact aD.whole 1 rfl | exact aD.whole 2 rfl | exact aD.whole 3 rfl | exact aD.whole 4 rfl | exact aD.whole 5 rfl | exact aD.whole 6 rfl | exact aD.whole 7 rfl | exact aD.whole 8 rfl | exact aD.fD (by simp) (by assumption)) eM (by decide) ?_
  refine bZ (cs := [.int .i64 0, .int .i64 0, .bool false]) (aM (by kernel_rfl)) (by decide) fun g1 => ?_
  refine kC 0 rfl rfl rfl (by rw [show (Value.agg r.toArray).cells.size = 3 by simp [Value.cells, eM]]; kernel_rfl) (hone r (List.mem_of_getElem? dJ)) (by simp [Value.cells, eM]) ?_
  rw [Hy (by simp [Value.cells, eM])]
  dsimp only [List.set, Value.cells]
  refine XK.aE ?_
  refine XK.seq ?_
  refine XK.region ?_
  refine aG rfl (by decide) ?_
  refine tZ 3 (by kernel_rfl) rfl (by first | assumption | exact aD.whole 0 rfl | exact aD.whole 1 rfl | exact aD.whole 2 rfl | exact aD.whole 3 rfl | exact aD.whole 4 rfl | exact aD.whole 5 rfl | exact aD.whole 6 rfl | exact aD.whole 7 rfl | exact aD.whole 8 rfl | exact aD.fD (by simp) (by assumption)) eM (by decide) ?_
  refine aY (f := id) (fi := []) (ca := ca) hc rfl rfl (by decide) (fun w1 st => by have := hf k r e1 dJ kH w1 (st.started (by simp)); simpa using this) ?_
  refine aL rfl (by decide) ?_
  refine XK.aE ?_
  refine XK.seq ?_
  refine XK.region ?_
  refine aG rfl (by decide) ?_
  refine oP rfl rfl (by decide) ?_
  refine XK.aE ?_
  refine XK.if_ rfl (fun h => ?_) (fun h => ?_)
  ·
   refine XK.seq ?_
   refine XK.region ?_
   refine aG rfl (by decide) ?_
   refine aL rfl (by decide) ?_
   refine XK.aE ?_
   refine XK.ret ?_
   refine XK.norm ?_
   exact XK.aI rfl rfl fun w1 st => ⟨by rw [Cp hz kH h], st.below (by simp)⟩
  ·
   refine XK.skip ?_
   refine XK.norm ?_
   refine XK.region ?_
   refine dO rfl rfl (bA (by omega)) (by decide) ?_
   refine aG rfl (by decide) ?_
   refine XK.aE ?_
   exact XK.weak [] rfl (by decide) (by simp) (XK.aK [(10, .int .i64 (k + 1)), (9, .int .i64 n), (8, .slice (some ⟨b, off, none⟩) n c), (1, .func (.func id) #[] ca.toArray)] (XK.round (n - (k + 1)) (by omega) ⟨k + 1, by omega, rfl, (Di hz (by rw [kH, show e1 = 0 by omega])), rfl, rfl, rfl⟩))
 ·
  refine XK.exit ?_
  refine XK.norm ?_
  refine XK.seq ?_
  refine XK.region ?_
  refine aL rfl (by decide) ?_
  refine XK.aE ?_
  refine XK.ret ?_
  refine XK.norm ?_
  exact XK.aI rfl rfl fun w1 st => ⟨by rw [zT (fun j hj => hz j (by omega))], st.below (by simp)⟩
theorem aGT (A : Option Addr) (n c : Nat) (id : FuncId) (ca : List Value) (rows : List (List Value)) (es : List Int) (w : World) (hs : aH (all w) 1 A n rows.flatten) (hr : ∀ r ∈ rows, r.length = 1) (hone : ∀ r ∈ rows, ∀ u ∈ r, u.oneCell' = true) (hn : rows.length = n) (hl : es.length = n) (hn2 : (n : Int) ≤ 9223372036854775806) (hc : fK Tryz.prog id = true)
  (hf : ∀ (i : Nat) (r : List Value) (e : Int), rows[i]? = some r → es[i]? = some e → ∀ w', Below w.heap.size w w' → Calls Tryz.prog id ([Value.agg r.toArray] ++ ca).toArray w' (Rt (.int .i64 e) w')) :
  Calls Tryz.prog 134 #[.slice A n c, .func (.func id) #[] ca.toArray] w (Rt (.int .i64 (gL es)) w) := by
 refine XK.enter (vs := [.slice A n c, .func (.func id) #[] ca.toArray]) Tryz.func134 rfl Tryz.ntmps134 (by simp) ?_
 refine XK.seq ?_
 refine XK.region ?_
 refine aL rfl (by decide) ?_
 refine XK.aE ?_
 refine XK.seq ?_
 refine XK.seq ?_
 refine XK.region ?_
 refine aG rfl (by decide) ?_
 refine fX (el := 120) (by kernel_rfl) rfl (by decide) ?_
 refine aG rfl (by decide) ?_
 refine XK.aE ?_
 refine XK.aK [(10, .int .i64 0), (9, .int .i64 n), (8, .slice A n c), (1, .func (.func id) #[] ca.toArray)] ?_
 refine XK.block ?_
 refine XK.loop (fun m e R H => ∃ k : Nat, k ≤ n ∧ m = n - k ∧ (∀ j, j < k → es[j]? = some 0) ∧ e = [(10, .int .i64 k), (9, .int .i64 n), (8, .slice A n c), (1, .func (.func id) #[] ca.toArray)] ∧ R = [all w] ∧ H = []) n ⟨0, by omega, rfl, fun j hj => absurd hj (by omega), rfl, rfl, rfl⟩ fun m e R H hI => ?_
 obtain ⟨k, hk, rfl, hz, rfl, rfl, rfl⟩ := hI
 refine XK.seq ?_
 refine XK.region ?_
 refine hJ rfl rfl (by decide) ?_
 refine XK.aE ?_
 refine XK.seq ?_
 refine XK.if_ rfl (fun h => ?_) (fun h => ?_)
 ·
  refine XK.skip ?_
  refine XK.norm ?_
  refine XK.seq ?_
  refine XK.block ?_
  refine XK.seq ?_
  have hkn : k < n := by omega
  obtain ⟨r, dJ⟩ : ∃ r, rows[k]? = some r := ⟨rows[k]'(by omega), List.getElem?_eq_getElem _⟩
  obtain ⟨e1, kH⟩ : ∃ e, es[k]? = some e := ⟨es[k]'(by omega), List.getElem?_eq_getElem _⟩
  obtain ⟨b, off, rfl, c1⟩ := hs.row hr dJ hkn
  have eM := hr r (List.mem_of_getElem? dJ)
  refine XK.region ?_
  refine dH (k) (off + k * 1) (el := 120) (sz := 1) (by kernel_rfl) (by kernel_rfl) rfl rfl (by omega) (by omega) (by omega) (by decide) ?_
  refine tZ 1 (by kernel_rfl) rfl (by first | assumption | exact aD.whole 0 rfl | exact aD.whole 1 rfl | exact aD.whole 2 rfl | exact aD.whole 3 rfl | exact aD.whole 4 rfl | exact aD.whole 5 rfl | exact aD.whole 6 rfl | exact aD.whole 7 rfl | exact aD.whole 8 rfl | exact aD.fD (by simp) (by assumption)) eM (by decide) ?_
  refine bZ (cs := [.int .i64 0]) (aM (by kernel_rfl)) (by decide) fun g1 => ?_
  refine kC 0 rfl rfl rfl (by rw [show (Value.agg r.toArray).cells.size = 1 by simp [Value.cells, eM]]; kernel_rfl) (hone r (List.mem_of_getElem? dJ)) (by simp [Value.cells, eM]) ?_
  rw [Hy (by simp [Value.cells, eM])]
  dsimp only [List.set, Value.cells]
  refine XK.aE ?_
  refine XK.seq ?_
  refine XK.region ?_
  refine aG rfl (by decide) ?_
  refine tZ 1 (by kernel_rfl) rfl (by first | assumption | exact aD.whole 0 rfl | exact aD.whole 1 rfl | exact aD.whole 2 rfl | exact aD.whole 3 rfl | exact aD.whole 4 rfl | exact aD.whole 5 rfl | exact aD.whole 6 rfl | exact aD.whole 7 rfl | exact aD.whole 8 rfl | exact aD.fD (by simp) (by assumption)) eM (by decide) ?_
  refine aY (f := id) (fi := []) (ca := ca) hc rfl rfl (by decide) (fun w1 st => by have := hf k r e1 dJ kH w1 (st.started (by simp)); simpa using this) ?_
  refine aL rfl (by decide) ?_
  refine XK.aE ?_
  refine XK.seq ?_
  refine XK.region ?_
  refine aG rfl (by decide) ?_
  refine oP rfl rfl (by decide) ?_
  refine XK.aE ?_
  refine XK.if_ rfl (fun h => ?_) (fun h => ?_)
  ·
   refine XK.seq ?_
   refine XK.region ?_
   refine aG rfl (by decide) ?_
   refine aL rfl (by decide) ?_
   refine XK.aE ?_
   refine XK.ret ?_
   refine XK.norm ?_
   exact XK.aI rfl rfl fun w1 st => ⟨by rw [Cp hz kH h], st.below (by simp)⟩
  ·
   refine XK.skip ?_
   refine XK.norm ?_
   refine XK.region ?_
   refine dO rfl rfl (bA (by omega)) (by decide) ?_
   refine aG rfl (by decide) ?_
   refine XK.aE ?_
   exact XK.weak [] rfl (by decide) (by simp) (XK.aK [(10, .int .i64 (k + 1)), (9, .int .i64 n), (8, .slice (some ⟨b, off, none⟩) n c), (1, .func (.func id) #[] ca.toArray)] (XK.round (n - (k + 1)) (by omega) ⟨k + 1, by omega, rfl, (Di hz (by rw [kH, show e1 = 0 by omega])), rfl, rfl, rfl⟩))
 ·
  refine XK.exit ?_
  refine XK.norm ?_
  refine XK.seq ?_
  refine XK.region ?_
  refine aL rfl (by decide) ?_
  refine XK.aE ?_
  refine XK.ret ?_
  refine XK.norm ?_
  exact XK.aI rfl rfl fun w1 st => ⟨by rw [zT (fun j hj => hz j (by omega))], st.below (by simp)⟩
theorem aB3 (A : Option Addr) (n c : Nat) (id : FuncId) (ca : List Value) (rows : List (List Value)) (es : List Int) (w : World) (hs : aH (all w) 6 A n rows.flatten) (hr : ∀ r ∈ rows, r.length = 6) (hone : ∀ r ∈ rows, ∀ u ∈ r, u.oneCell' = true) (hn : rows.length = n) (hl : es.length = n) (hn2 : (n : Int) ≤ 9223372036854775806) (hc : fK Tryz.prog id = true)
  (hf : ∀ (i : Nat) (r : List Value) (e : Int), rows[i]? = some r → es[i]? = some e → ∀ w', Below w.heap.size w w' → Calls Tryz.prog id ([Value.agg r.toArray] ++ ca).toArray w' (Rt (.int .i64 e) w')) :
  Calls Tryz.prog 137 #[.slice A n c, .func (.func id) #[] ca.toArray] w (Rt (.int .i64 (gL es)) w) := by
 refine XK.enter (vs := [.slice A n c, .func (.func id) #[] ca.toArray]) Tryz.func137 rfl Tryz.ntmps137 (by simp) ?_
 refine XK.seq ?_
 refine XK.region ?_
 refine aL rfl (by decide) ?_
 refine XK.aE ?_
 refine XK.seq ?_
 refine XK.seq ?_
 refine XK.region ?_
 refine aG rfl (by decide) ?_
 refine fX (el := 78) (by kernel_rfl) rfl (by decide) ?_
 refine aG rfl (by decide) ?_
 refine XK.aE ?_
 refine XK.aK [(10, .int .i64 0), (9, .int .i64 n), (8, .slice A n c), (1, .func (.func id) #[] ca.toArray)] ?_
 refine XK.block ?_
 refine XK.loop (fun m e R H => ∃ k : Nat, k ≤ n ∧ m = n - k ∧ (∀ j, j < k → es[j]? = some 0) ∧ e = [(10, .int .i64 k), (9, .int .i64 n), (8, .slice A n c), (1, .func (.func id) #[] ca.toArray)] ∧ R = [all w] ∧ H = []) n ⟨0, by omega, rfl, fun j hj => absurd hj (by omega), rfl, rfl, rfl⟩ fun m e R H hI => ?_
 obtain ⟨k, hk, rfl, hz, rfl, rfl, rfl⟩ := hI
 refine XK.seq ?_
 refine XK.region ?_
 refine hJ rfl rfl (by decide) ?_
 refine XK.aE ?_
 refine XK.seq ?_
 refine XK.if_ rfl (fun h => ?_) (fun h => ?_)
 ·
  refine XK.skip ?_
  refine XK.norm ?_
  refine XK.seq ?_
  refine XK.block ?_
  refine XK.seq ?_
  have hkn : k < n := by omega
  obtain ⟨r, dJ⟩ : ∃ r, rows[k]? = some r := ⟨rows[k]'(by omega), List.getElem?_eq_getElem _⟩
  obtain ⟨e1, kH⟩ : ∃ e, es[k]? = some e := ⟨es[k]'(by omega), List.getElem?_eq_getElem _⟩
  obtain ⟨b, off, rfl, c1⟩ := hs.row hr dJ hkn
  have eM := hr r (List.mem_of_getElem? dJ)
  refine XK.region ?_
  refine dH (k) (off + k * 6) (el := 78) (sz := 6) (by kernel_rfl) (by kernel_rfl) rfl rfl (by omega) (by omega) (by omega) (by decide) ?_
  refine tZ 6 (by kernel_rfl) rfl (by first | assumption | exact aD.whole 0 rfl | exact aD.whole 1 rfl | exact aD.whole 2 rfl | exact aD.whole 3 rfl | exact aD.whole 4 rfl | exact aD.whole 5 rfl | exact aD.whole 6 rfl | exact aD.whole 7 rfl | exact aD.whole 8 rfl | exact aD.fD (by simp) (by assumption)) eM (by decide) ?_
  refine bZ (cs := [.int .i64 0, .int .i64 0, .int .i64 0, .int .u32 0, .slice none 0 0, .slice none 0 0]) (aM (by kernel_rfl)) (by decide) fun g1 => ?_
  refine kC 0 rfl rfl rfl (by rw [show (Value.agg r.toArray).cells.size = 6 by simp [Value.cells, eM]]; kernel_rfl) (hone r (List.mem_of_getElem? dJ)) (by simp [Value.cells, eM]) ?_
  rw [Hy (by simp [Value.cells, eM])]
  dsimp only [List.set, Value.cells]
  refine XK.aE ?_
  refine XK.seq ?_
  refine XK.region ?_
  refine aG rfl (by decide) ?_
  refine tZ 6 (by kernel_rfl) rfl (by first | assumption | exact aD.whole 0 rfl | exact aD.whole 1 rfl | exact aD.whole 2 rfl | exact aD.whole 3 rfl | exact aD.whole 4 rfl | exact aD.whole 5 rfl | exact aD.whole 6 rfl | exact aD.whole 7 rfl | exact aD.whole 8 rfl | exact aD.fD (by simp) (by assumption)) eM (by decide) ?_
  refine aY (f := id) (fi := []) (ca := ca) hc rfl rfl (by decide) (fun w1 st => by have := hf k r e1 dJ kH w1 (st.started (by simp)); simpa using this) ?_
  refine aL rfl (by decide) ?_
  refine XK.aE ?_
  refine XK.seq ?_
  refine XK.region ?_
  refine aG rfl (by decide) ?_
  refine oP rfl rfl (by decide) ?_
  refine XK.aE ?_
  refine XK.if_ rfl (fun h => ?_) (fun h => ?_)
  ·
   refine XK.seq ?_
   refine XK.region ?_
   refine aG rfl (by decide) ?_
   refine aL rfl (by decide) ?_
   refine XK.aE ?_
   refine XK.ret ?_
   refine XK.norm ?_
   exact XK.aI rfl rfl fun w1 st => ⟨by rw [Cp hz kH h], st.below (by simp)⟩
  ·
   refine XK.skip ?_
   refine XK.norm ?_
   refine XK.region ?_
   refine dO rfl rfl (bA (by omega)) (by decide) ?_
   refine aG rfl (by decide) ?_
   refine XK.aE ?_
   exact XK.weak [] rfl (by decide) (by simp) (XK.aK [(10, .int .i64 (k + 1)), (9, .int .i64 n), (8, .slice (some ⟨b, off, none⟩) n c), (1, .func (.func id) #[] ca.toArray)] (XK.round (n - (k + 1)) (by omega) ⟨k + 1, by omega, rfl, (Di hz (by rw [kH, show e1 = 0 by omega])), rfl, rfl, rfl⟩))
 ·
  refine XK.exit ?_
  refine XK.norm ?_
  refine XK.seq ?_
  refine XK.region ?_
  refine aL rfl (by decide) ?_
  refine XK.aE ?_
  refine XK.ret ?_
  refine XK.norm ?_
  exact XK.aI rfl rfl fun w1 st => ⟨by rw [zT (fun j hj => hz j (by omega))], st.below (by simp)⟩
end
section
set_option maxHeartbeats 4000000
set_option maxRecDepth 20000
def iB (kind : Int) (n : Nat) : Bool := if kind = 111 then decide (n = 0) else if kind = 112 ∨ kind = 100 ∨ kind = 103 then decide (n = 1) else if kind = 109 then eT n 1 4 else false
def nW (kind rate mul div lock : Int) : Bool :=
 if kind = 111 then decide (1 ≤ rate) && decide (rate ≤ 1099511627776) else if kind = 112 then eT mul 1 1000 && eT div 1 1000 && eT lock 0 20 else if kind = 100 then eT div 1 1000 else true
def Cw (n1 : Nat) (c : dG) : Int := gL [eX (!iB c.kind c.src.length) 1, gL (c.src.map fun f => eX (!eT f 0 ((n1 : Int) - 1)) 4), eX (!nW c.kind c.rate c.mul c.div c.lock) 3]
def Fh (n2 : Nat) (d : Dom) : Int := gL [eX (decide (¬ d.above = -1) && !eT d.above 0 ((n2 : Int) - 1)) 4, eX (!eT d.delay 0 20) 3]
def Nc (r : Int) : Int := eX (!eT r 0 20) 3
def Fm (n1 n2 n3 n4 : Nat) (d : bB) : Int :=
 gL [eX (!eT d.clock 0 ((n1 : Int) - 1)) 4, eX (!eT d.domain 0 ((n2 : Int) - 1)) 4, eX (!eT d.reset 0 ((n3 : Int) - 1)) 4, gL (d.iO.map fun f => eX (!eT f 0 ((n4 : Int) - 1)) 4)]
def Ed (d : bB) : Int := eX (decide ((8 : Int) < d.aQ.length) || decide ((6 : Int) < d.iO.length)) 8
theorem aBr (l : List Value) : (l.map fun v => [v]).flatten = l := by induction l <;> simp_all
theorem aDd (kind rate mul div lock : Int) (A : Option Addr) (n k : Nat) (w : World) :
  Calls Tryz.prog 201 #[.agg #[.int .u8 kind, .slice A n k, .int .u64 rate, .int .i64 mul, .int .i64 div, .int .i64 lock]] w (Rt (.bool (iB kind n)) w) := by
 refine XK.enter (vs := [.agg #[.int .u8 kind, .slice A n k, .int .u64 rate, .int .i64 mul, .int .i64 div, .int .i64 lock]]) Tryz.func201 rfl Tryz.ntmps201 (by simp) ?_
 refine XK.go ?_
 refine bY rfl (by decide) fun g1 => ?_
 refine XK.go ?_
 refine XK.if_ rfl (fun h => ?_) (fun h => ?_)
 ·
  refine XK.go ?_
  exact XK.aI rfl rfl fun w1 st => ⟨by first | (exfalso; omega) | (simp [iB, *]; done) | (simp [iB, *]; omega), st.below (by simp)⟩
 ·
  refine XK.go ?_
  refine XK.if_ rfl (fun h => ?_) (fun h => ?_)
  ·
   refine XK.go ?_
   refine XK.if_ rfl (fun h => ?_) (fun h => ?_)
   ·
    refine XK.go ?_
    exact XK.aI rfl rfl fun w1 st => ⟨by first | (exfalso; omega) | (simp [iB, *]; done) | (simp [iB, *]; omega), st.below (by simp)⟩
   ·
    refine XK.go ?_
    refine XK.if_ rfl (fun h => ?_) (fun h => ?_)
    ·
     refine XK.go ?_
     refine aY (f := 205) (fi := []) (ca := []) (by kernel_rfl) rfl rfl (by decide) (fun w1 st => oQ _ _ _ w1) ?_
     refine XK.go ?_
     exact XK.aI rfl rfl fun w1 st => ⟨by first | (exfalso; omega) | (simp [iB, *]; done) | (simp [iB, *]; omega), st.below (by simp)⟩
    ·
     refine XK.go ?_
     exact XK.aI rfl rfl fun w1 st => ⟨by first | (exfalso; omega) | (simp [iB, *]; done) | (simp [iB, *]; omega), st.below (by simp)⟩
  ·
   refine XK.go ?_
   refine XK.if_ rfl (fun h => ?_) (fun h => ?_)
   ·
    refine XK.go ?_
    refine XK.if_ rfl (fun h => ?_) (fun h => ?_)
    ·
     refine XK.go ?_
     exact XK.aI rfl rfl fun w1 st => ⟨by first | (exfalso; omega) | (simp [iB, *]; done) | (simp [iB, *]; omega), st.below (by simp)⟩
    ·
     refine XK.go ?_
     refine XK.if_ rfl (fun h => ?_) (fun h => ?_)
     ·
      refine XK.go ?_
      refine aY (f := 205) (fi := []) (ca := []) (by kernel_rfl) rfl rfl (by decide) (fun w1 st => oQ _ _ _ w1) ?_
      refine XK.go ?_
      exact XK.aI rfl rfl fun w1 st => ⟨by first | (exfalso; omega) | (simp [iB, *]; done) | (simp [iB, *]; omega), st.below (by simp)⟩
     ·
      refine XK.go ?_
      exact XK.aI rfl rfl fun w1 st => ⟨by first | (exfalso; omega) | (simp [iB, *]; done) | (simp [iB, *]; omega), st.below (by simp)⟩
   ·
    refine XK.go ?_
    refine XK.if_ rfl (fun h => ?_) (fun h => ?_)
    ·
     refine XK.go ?_
     exact XK.aI rfl rfl fun w1 st => ⟨by first | (exfalso; omega) | (simp [iB, *]; done) | (simp [iB, *]; omega), st.below (by simp)⟩
    ·
     refine XK.go ?_
     refine XK.if_ rfl (fun h => ?_) (fun h => ?_)
     ·
      refine XK.go ?_
      refine aY (f := 205) (fi := []) (ca := []) (by kernel_rfl) rfl rfl (by decide) (fun w1 st => oQ _ _ _ w1) ?_
      refine XK.go ?_
      exact XK.aI rfl rfl fun w1 st => ⟨by first | (exfalso; omega) | (simp [iB, *]; done) | (simp [iB, *]; omega), st.below (by simp)⟩
     ·
      refine XK.go ?_
      exact XK.aI rfl rfl fun w1 st => ⟨by first | (exfalso; omega) | (simp [iB, *]; done) | (simp [iB, *]; omega), st.below (by simp)⟩
theorem aEx (kind rate mul div lock : Int) (A : Option Addr) (n k : Nat) (w : World) :
  Calls Tryz.prog 207 #[.agg #[.int .u8 kind, .slice A n k, .int .u64 rate, .int .i64 mul, .int .i64 div, .int .i64 lock]] w (Rt (.bool (nW kind rate mul div lock)) w) := by
 refine XK.enter (vs := [.agg #[.int .u8 kind, .slice A n k, .int .u64 rate, .int .i64 mul, .int .i64 div, .int .i64 lock]]) Tryz.func207 rfl Tryz.ntmps207 (by simp) ?_
 refine XK.seq ?_
 refine XK.region ?_
 refine bY rfl (by decide) fun g1 => ?_
 refine aL rfl (by decide) ?_
 refine XK.aE ?_
 refine XK.seq ?_
 refine XK.seq ?_
 refine XK.region ?_
 refine bL (off := 0) (by kernel_rfl) rfl (by decide) ?_
 refine cP rfl ?_
 refine XK.aE ?_
 refine XK.block ?_
 refine XK.seq ?_
 refine XK.region ?_
 refine iS rfl rfl (by decide) ?_
 refine aL rfl (by decide) ?_
 refine XK.aE ?_
 refine XK.if_ rfl (fun h => ?_) (fun h => ?_)
 ·
  refine XK.seq ?_
  refine XK.region ?_
  refine bL (off := 2) (by kernel_rfl) rfl (by decide) ?_
  refine cP rfl ?_
  refine yW rfl rfl (by decide) ?_
  refine aG rfl (by decide) ?_
  refine jH (t := 10) rfl (fun hg => ?_) (fun hg => ?_)
  ·
   refine aS rfl rfl ?_; refine bL (off := 2) (by kernel_rfl) rfl (by decide) ?_
   refine aS rfl rfl ?_; refine cP rfl ?_
   refine aS rfl rfl ?_; refine Yg rfl rfl (by decide) ?_
   (first | refine cL rfl rfl (by decide) ?_ | refine cM rfl rfl (by decide) ?_)
   refine aL rfl (by decide) ?_
   refine XK.aE ?_
   refine XK.ret ?_
   refine XK.norm ?_
   exact XK.aI rfl rfl fun w1 st => ⟨by simp [nW, *], st.below (by simp)⟩
  ·
   refine aP rfl rfl rfl (by decide) ?_
   refine aP rfl rfl rfl (by decide) ?_
   refine aP rfl rfl rfl (by decide) ?_
   (first | refine cL rfl rfl (by decide) ?_ | refine cM rfl rfl (by decide) ?_)
   refine aL rfl (by decide) ?_
   refine XK.aE ?_
   refine XK.ret ?_
   refine XK.norm ?_
   exact XK.aI rfl rfl fun w1 st => ⟨by simp [nW, *], st.below (by simp)⟩
 ·
  refine XK.seq ?_
  refine XK.region ?_
  refine iS rfl rfl (by decide) ?_
  refine aL rfl (by decide) ?_
  refine XK.aE ?_
  refine XK.if_ rfl (fun h => ?_) (fun h => ?_)
  ·
   refine XK.seq ?_
   refine XK.region ?_
   refine bL (off := 3) (by kernel_rfl) rfl (by decide) ?_
   refine cP rfl ?_
   refine aY (f := 205) (fi := []) (ca := []) (by kernel_rfl) rfl rfl (by decide) (fun w1 st => oQ _ _ _ w1) ?_
   refine aG rfl (by decide) ?_
   refine jH (t := 20) rfl (fun hg => ?_) (fun hg => ?_)
   ·
    refine aS rfl rfl ?_; refine bL (off := 4) (by kernel_rfl) rfl (by decide) ?_
    refine aS rfl rfl ?_; refine cP rfl ?_
    refine aS rfl rfl ?_; refine aY (f := 205) (fi := []) (ca := []) (by kernel_rfl) rfl rfl (by decide) (fun w1 st => oQ _ _ _ w1) ?_
    (first | refine cL rfl rfl (by decide) ?_ | refine cM rfl rfl (by decide) ?_)
    refine aG rfl (by decide) ?_
    refine jH (t := 25) rfl (fun hg => ?_) (fun hg => ?_)
    ·
     refine aS rfl rfl ?_; refine bL (off := 5) (by kernel_rfl) rfl (by decide) ?_
     refine aS rfl rfl ?_; refine cP rfl ?_
     refine aS rfl rfl ?_; refine aY (f := 205) (fi := []) (ca := []) (by kernel_rfl) rfl rfl (by decide) (fun w1 st => oQ _ _ _ w1) ?_
     (first | refine cL rfl rfl (by decide) ?_ | refine cM rfl rfl (by decide) ?_)
     refine aL rfl (by decide) ?_
     refine XK.aE ?_
     refine XK.ret ?_
     refine XK.norm ?_
     exact XK.aI rfl rfl fun w1 st => ⟨by simp [nW, *], st.below (by simp)⟩
    ·
     refine aP rfl rfl rfl (by decide) ?_
     refine aP rfl rfl rfl (by decide) ?_
     refine aP rfl rfl rfl (by decide) ?_
     (first | refine cL rfl rfl (by decide) ?_ | refine cM rfl rfl (by decide) ?_)
     refine aL rfl (by decide) ?_
     refine XK.aE ?_
     refine XK.ret ?_
     refine XK.norm ?_
     exact XK.aI rfl rfl fun w1 st => ⟨by simp [nW, *], st.below (by simp)⟩
   ·
    refine aP rfl rfl rfl (by decide) ?_
    refine aP rfl rfl rfl (by decide) ?_
    refine aP rfl rfl rfl (by decide) ?_
    (first | refine cL rfl rfl (by decide) ?_ | refine cM rfl rfl (by decide) ?_)
    refine aG rfl (by decide) ?_
    refine aP rfl rfl rfl (by decide) ?_
    refine aP rfl rfl rfl (by decide) ?_
    refine aP rfl rfl rfl (by decide) ?_
    (first | refine cL rfl rfl (by decide) ?_ | refine cM rfl rfl (by decide) ?_)
    refine aL rfl (by decide) ?_
    refine XK.aE ?_
    refine XK.ret ?_
    refine XK.norm ?_
    exact XK.aI rfl rfl fun w1 st => ⟨by simp [nW, *], st.below (by simp)⟩
  ·
   refine XK.seq ?_
   refine XK.region ?_
   refine iS rfl rfl (by decide) ?_
   refine aL rfl (by decide) ?_
   refine XK.aE ?_
   refine XK.if_ rfl (fun h => ?_) (fun h => ?_)
   ·
    refine XK.seq ?_
    refine XK.region ?_
    refine bL (off := 4) (by kernel_rfl) rfl (by decide) ?_
    refine cP rfl ?_
    refine aY (f := 205) (fi := []) (ca := []) (by kernel_rfl) rfl rfl (by decide) (fun w1 st => oQ _ _ _ w1) ?_
    refine aL rfl (by decide) ?_
    refine XK.aE ?_
    refine XK.ret ?_
    refine XK.norm ?_
    exact XK.aI rfl rfl fun w1 st => ⟨by simp [nW, *], st.below (by simp)⟩
   ·
    refine XK.skip ?_
    refine XK.norm ?_
    refine XK.seq ?_
    refine XK.region ?_
    refine aL rfl (by decide) ?_
    refine XK.aE ?_
    refine XK.ret ?_
    refine XK.norm ?_
    exact XK.aI rfl rfl fun w1 st => ⟨by simp [nW, *], st.below (by simp)⟩
theorem aH8 (kind rate mul div lock : Int) (A : Option Addr) (n k : Nat) (gc : Nat) (w : World) (hb : cZ w gc 0 [.int .u8 kind, .slice A n k, .int .u64 rate, .int .i64 mul, .int .i64 div, .int .i64 lock]) :
  Calls Tryz.prog 200 #[.pointer (some ⟨gc, 0, none⟩)] w (Rt (.int .i64 (eX (!iB kind n) 1)) w) := by
 refine XK.enter (vs := [.pointer (some ⟨gc, 0, none⟩)]) Tryz.func200 rfl Tryz.ntmps200 (by simp) ?_
 refine XK.go ?_
 refine aY (f := 201) (fi := []) (ca := []) (by kernel_rfl) rfl rfl (by decide) (fun w1 st => aDd _ _ _ _ _ _ _ _ w1) ?_
 refine XK.go ?_
 refine aY (f := 199) (fi := []) (ca := []) (by kernel_rfl) rfl rfl (by decide) (fun w1 st => qG _ _ w1) ?_
 refine XK.go ?_
 exact XK.aI rfl rfl fun w1 st => ⟨rfl, st.below (by simp)⟩
theorem aH5 (kind rate mul div lock : Int) (A : Option Addr) (n k : Nat) (gc : Nat) (w : World) (hb : cZ w gc 0 [.int .u8 kind, .slice A n k, .int .u64 rate, .int .i64 mul, .int .i64 div, .int .i64 lock]) :
  Calls Tryz.prog 206 #[.pointer (some ⟨gc, 0, none⟩)] w (Rt (.int .i64 (eX (!nW kind rate mul div lock) 3)) w) := by
 refine XK.enter (vs := [.pointer (some ⟨gc, 0, none⟩)]) Tryz.func206 rfl Tryz.ntmps206 (by simp) ?_
 refine XK.go ?_
 refine aY (f := 207) (fi := []) (ca := []) (by kernel_rfl) rfl rfl (by decide) (fun w1 st => aEx _ _ _ _ _ _ _ _ w1) ?_
 refine XK.go ?_
 refine aY (f := 199) (fi := []) (ca := []) (by kernel_rfl) rfl rfl (by decide) (fun w1 st => qG _ _ w1) ?_
 refine XK.go ?_
 exact XK.aI rfl rfl fun w1 st => ⟨rfl, st.below (by simp)⟩
theorem aH6 (f : Int) (A1 A2 A3 A4 : Option Addr) (n1 k1 n2 k2 n3 k3 n4 k4 : Nat) (gs : Nat) (w : World) (hs : cZ w gs 0 [.slice A1 n1 k1, .slice A2 n2 k2, .slice A3 n3 k3, .slice A4 n4 k4]) (lH : (n1 : Int) ≤ 9223372036854775806) :
  Calls Tryz.prog 204 #[.int .i64 f, .pointer (some ⟨gs, 0, none⟩)] w (Rt (.int .i64 (eX (!eT f 0 ((n1 : Int) - 1)) 4)) w) := by
 refine XK.enter (vs := [.int .i64 f, .pointer (some ⟨gs, 0, none⟩)]) Tryz.func204 rfl Tryz.ntmps204 (by simp) ?_
 refine XK.go ?_
 refine aY (f := 205) (fi := []) (ca := []) (by kernel_rfl) rfl rfl (by decide) (fun w1 st => oQ _ _ _ w1) ?_
 refine XK.go ?_
 refine aY (f := 199) (fi := []) (ca := []) (by kernel_rfl) rfl rfl (by decide) (fun w1 st => qG _ _ w1) ?_
 refine XK.go ?_
 exact XK.aI rfl rfl fun w1 st => ⟨rfl, st.below (by simp)⟩
theorem aH7 (kind rate mul div lock : Int) (A : Option Addr) (n k : Nat) (A1 A2 A3 A4 : Option Addr) (n1 k1 n2 k2 n3 k3 n4 k4 : Nat) (gc gs : Nat) (w : World) (hb : cZ w gc 0 [.int .u8 kind, .slice A n k, .int .u64 rate, .int .i64 mul, .int .i64 div, .int .i64 lock]) (hs : cZ w gs 0 [.slice A1 n1 k1, .slice A2 n2 k2, .slice A3 n3 k3, .slice A4 n4 k4]) (lH : (n1 : Int) ≤ 9223372036854775806) (zs : List Int) (hA : aH (all w) 1 A n (aO zs)) (hn : n = zs.length) (hz : (n : Int) ≤ 9223372036854775806) :
  Calls Tryz.prog 202 #[.pointer (some ⟨gc, 0, none⟩), .pointer (some ⟨gs, 0, none⟩)] w (Rt (.int .i64 (gL (zs.map fun f => eX (!eT f 0 ((n1 : Int) - 1)) 4))) w) := by
 refine XK.enter (vs := [.pointer (some ⟨gc, 0, none⟩), .pointer (some ⟨gs, 0, none⟩)]) Tryz.func202 rfl Tryz.ntmps202 (by simp) ?_
 refine XK.go ?_
 refine iL (vf := []) (vc := [.pointer (some ⟨gs, 0, none⟩)]) rfl rfl (by decide) ?_
 refine aY (f := 203) (fi := []) (ca := []) (by kernel_rfl) rfl rfl (by decide) (fun w1 st => aB2 _ _ _ 204 [.pointer (some ⟨gs, 0, none⟩)] ((aO zs).map fun v => [v]) (zs.map fun f => eX (!eT f 0 ((n1 : Int) - 1)) 4) w1 (by rw [aBr]; exact hA.le (fU (st.started (by simp)))) (by simp) (by simp [aO]; omega) (by simp; omega) (by omega) (by kernel_rfl) (fun i r x hr hx w2 cX => by
  obtain ⟨f, hf, rfl⟩ : ∃ f, zs[i]? = some f ∧ r = [.int .i64 f] := by
   rw [List.getElem?_map, aO, List.getElem?_map] at hr
   cases hq : zs[i]? with
   | none => simp [hq] at hr
   | some f => simp [hq] at hr; exact ⟨f, rfl, hr.symm⟩
  rw [List.getElem?_map, hf] at hx
  cases hx
  exact aH6 f A1 A2 A3 A4 n1 k1 n2 k2 n3 k3 n4 k4 gs w2 ((hs.below (st.started (by simp))).below cX) lH)) ?_
 refine XK.go ?_
 exact XK.aI rfl rfl fun w1 st => ⟨rfl, st.below (by simp)⟩
theorem aH4 (kind rate mul div lock : Int) (A : Option Addr) (n k : Nat) (A1 A2 A3 A4 : Option Addr) (n1 k1 n2 k2 n3 k3 n4 k4 : Nat) (w : World) (lH : (n1 : Int) ≤ 9223372036854775806) (zs : List Int) (hA : aH (all w) 1 A n (aO zs)) (hn : n = zs.length) (hz : (n : Int) ≤ 9223372036854775806) :
  Calls Tryz.prog 123 #[.agg #[.slice A1 n1 k1, .slice A2 n2 k2, .slice A3 n3 k3, .slice A4 n4 k4], .agg #[.int .u8 kind, .slice A n k, .int .u64 rate, .int .i64 mul, .int .i64 div, .int .i64 lock]] w (Rt (.int .i64 (Cw n1 ⟨kind, zs, rate, mul, div, lock⟩)) w) := by
 refine XK.enter (vs := [.agg #[.slice A1 n1 k1, .slice A2 n2 k2, .slice A3 n3 k3, .slice A4 n4 k4], .agg #[.int .u8 kind, .slice A n k, .int .u64 rate, .int .i64 mul, .int .i64 div, .int .i64 lock]]) Tryz.func123 rfl Tryz.ntmps123 (by simp) ?_
 refine XK.seq ?_
 refine XK.region ?_
 refine bY rfl (by decide) fun g1 => ?_
 refine bY rfl (by decide) fun g2 => ?_
 refine aL rfl (by decide) ?_
 refine XK.aE ?_
 refine XK.seq ?_
 refine XK.region ?_
 refine iL (vf := []) (vc := [.pointer (some ⟨g2, 0, none⟩)]) rfl rfl (by decide) ?_
 refine iL (vf := []) (vc := [.pointer (some ⟨g2, 0, none⟩), .pointer (some ⟨g1, 0, none⟩)]) rfl rfl (by decide) ?_
 refine iL (vf := []) (vc := [.pointer (some ⟨g2, 0, none⟩)]) rfl rfl (by decide) ?_
 refine eP (el := 113) (sz := 1) (zs := [.nilFunc]) (by kernel_rfl) (aM (by kernel_rfl)) (by kernel_rfl) rfl (by decide) (by decide) rfl (by simp [aR, aU, Value.cells, List.range_succ, List.set]; rfl) (by decide) fun g3 => ?_
 refine aY (f := 117) (fi := []) (ca := []) (by kernel_rfl) rfl rfl (by decide) (fun w1 st => Pp _ _ _ [(200, [.pointer (some ⟨g2, 0, none⟩)]), (202, [.pointer (some ⟨g2, 0, none⟩), .pointer (some ⟨g1, 0, none⟩)]), (206, [.pointer (some ⟨g2, 0, none⟩)])] [eX (!iB kind n) 1, gL (zs.map fun f => eX (!eT f 0 ((n1 : Int) - 1)) 4), eX (!nW kind rate mul div lock) 3] w1 (st.uF (i := 0) (n := 3) (sz := 1) (cs := [.func (.func 200) #[] #[.pointer (some ⟨g2, 0, none⟩)], .func (.func 202) #[] #[.pointer (some ⟨g2, 0, none⟩), .pointer (some ⟨g1, 0, none⟩)], .func (.func 206) #[] #[.pointer (some ⟨g2, 0, none⟩)]]) rfl rfl) rfl rfl (by decide) (by simp only [List.mem_cons, List.not_mem_nil, or_false]; rintro f (rfl | rfl | rfl) <;> kernel_rfl) (fun i f x hf hx w2 cX => by
  have gK := (st.started (by simp)).trans (cX.mono st.size)
  match i, hf, hx with
  | 0, hf, hx => cases hf; cases hx; exact aH8 kind rate mul div lock A n k g2 w2 (st.box (cs := [.int .u8 kind, .slice A n k, .int .u64 rate, .int .i64 mul, .int .i64 div, .int .i64 lock]) (i := 1) rfl |>.below cX)
  | 1, hf, hx => cases hf; cases hx; exact aH7 kind rate mul div lock A n k A1 A2 A3 A4 n1 k1 n2 k2 n3 k3 n4 k4 g2 g1 w2 (st.box (cs := [.int .u8 kind, .slice A n k, .int .u64 rate, .int .i64 mul, .int .i64 div, .int .i64 lock]) (i := 1) rfl |>.below cX) (st.box (cs := [.slice A1 n1 k1, .slice A2 n2 k2, .slice A3 n3 k3, .slice A4 n4 k4]) (i := 2) rfl |>.below cX) lH zs (hA.le (fU gK)) hn hz
  | 2, hf, hx => cases hf; cases hx; exact aH5 kind rate mul div lock A n k g2 w2 (st.box (cs := [.int .u8 kind, .slice A n k, .int .u64 rate, .int .i64 mul, .int .i64 div, .int .i64 lock]) (i := 1) rfl |>.below cX)
  | i + 3, hf, _ => simp at hf)) ?_
 refine aL rfl (by decide) ?_
 refine XK.aE ?_
 refine XK.ret ?_
 refine XK.norm ?_
 exact XK.aI rfl rfl fun w1 st => ⟨by simp [Cw, hn], st.below (by simp)⟩
theorem aHh (above delay : Int) (ret : Bool) (A1 A2 A3 A4 : Option Addr) (n1 k1 n2 k2 n3 k3 n4 k4 : Nat) (gd gs : Nat) (w : World) (hd : cZ w gd 0 [.int .i64 above, .int .i64 delay, .bool ret]) (hs : cZ w gs 0 [.slice A1 n1 k1, .slice A2 n2 k2, .slice A3 n3 k3, .slice A4 n4 k4]) (lG : (n2 : Int) ≤ 9223372036854775806) :
  Calls Tryz.prog 209 #[.pointer (some ⟨gd, 0, none⟩), .pointer (some ⟨gs, 0, none⟩)] w (Rt (.int .i64 (eX (decide (¬ above = -1) && !eT above 0 ((n2 : Int) - 1)) 4)) w) := by
 refine XK.enter (vs := [.pointer (some ⟨gd, 0, none⟩), .pointer (some ⟨gs, 0, none⟩)]) Tryz.func209 rfl Tryz.ntmps209 (by simp) ?_
 refine XK.seq ?_
 refine XK.region ?_
 refine aL rfl (by decide) ?_
 refine XK.aE ?_
 refine XK.seq ?_
 refine XK.region ?_
 refine bL (off := 0) (by kernel_rfl) rfl (by decide) ?_
 refine cP rfl ?_
 refine oP rfl rfl (by decide) ?_
 refine aG rfl (by decide) ?_
 refine bT (t := 6) rfl (fun hg => ?_) (fun hg => ?_)
 ·
  refine aS rfl rfl ?_; refine bL (off := 0) (by kernel_rfl) rfl (by decide) ?_
  refine aS rfl rfl ?_; refine cP rfl ?_
  refine aS rfl rfl ?_; refine bL (off := 1) (by kernel_rfl) rfl (by decide) ?_
  refine aS rfl rfl ?_; refine cP rfl ?_
  refine aS rfl rfl ?_; refine fX (el := 75) (by kernel_rfl) rfl (by decide) ?_
  refine aS rfl rfl ?_; refine Mk rfl rfl (bA (by omega)) (by decide) ?_
  refine aS rfl rfl ?_; refine aY (f := 205) (fi := []) (ca := []) (by kernel_rfl) rfl rfl (by decide) (fun w1 st => oQ _ _ _ w1) ?_
  refine aS rfl rfl ?_; (first | refine yU rfl (by decide) ?_ | refine yV rfl (by decide) ?_)
  (first | refine cL rfl rfl (by decide) ?_ | refine cM rfl rfl (by decide) ?_)
  refine aY (f := 199) (fi := []) (ca := []) (by kernel_rfl) rfl rfl (by decide) (fun w1 st => qG _ _ w1) ?_
  refine aL rfl (by decide) ?_
  refine XK.aE ?_
  refine XK.ret ?_
  refine XK.norm ?_
  exact XK.aI rfl rfl fun w1 st => ⟨by simp [hg], st.below (by simp)⟩
 ·
  refine aP rfl rfl rfl (by decide) ?_
  refine aP rfl rfl rfl (by decide) ?_
  refine aP rfl rfl rfl (by decide) ?_
  refine aP rfl rfl rfl (by decide) ?_
  refine aP rfl rfl rfl (by decide) ?_
  refine aP rfl rfl rfl (by decide) ?_
  refine aP rfl rfl rfl (by decide) ?_
  refine aP rfl rfl rfl (by decide) ?_
  (first | refine cL rfl rfl (by decide) ?_ | refine cM rfl rfl (by decide) ?_)
  refine aY (f := 199) (fi := []) (ca := []) (by kernel_rfl) rfl rfl (by decide) (fun w1 st => qG _ _ w1) ?_
  refine aL rfl (by decide) ?_
  refine XK.aE ?_
  refine XK.ret ?_
  refine XK.norm ?_
  exact XK.aI rfl rfl fun w1 st => ⟨by simp [hg], st.below (by simp)⟩
theorem aHg (above delay : Int) (ret : Bool) (gd : Nat) (w : World) (hd : cZ w gd 0 [.int .i64 above, .int .i64 delay, .bool ret]) :
  Calls Tryz.prog 210 #[.pointer (some ⟨gd, 0, none⟩)] w (Rt (.int .i64 (eX (!eT delay 0 20) 3)) w) := by
 refine XK.enter (vs := [.pointer (some ⟨gd, 0, none⟩)]) Tryz.func210 rfl Tryz.ntmps210 (by simp) ?_
 refine XK.go ?_
 refine aY (f := 205) (fi := []) (ca := []) (by kernel_rfl) rfl rfl (by decide) (fun w1 st => oQ _ _ _ w1) ?_
 refine XK.go ?_
 refine aY (f := 199) (fi := []) (ca := []) (by kernel_rfl) rfl rfl (by decide) (fun w1 st => qG _ _ w1) ?_
 refine XK.go ?_
 exact XK.aI rfl rfl fun w1 st => ⟨rfl, st.below (by simp)⟩
theorem aHf (above delay : Int) (ret : Bool) (A1 A2 A3 A4 : Option Addr) (n1 k1 n2 k2 n3 k3 n4 k4 : Nat) (w : World) (lG : (n2 : Int) ≤ 9223372036854775806) :
  Calls Tryz.prog 130 #[.agg #[.slice A1 n1 k1, .slice A2 n2 k2, .slice A3 n3 k3, .slice A4 n4 k4], .agg #[.int .i64 above, .int .i64 delay, .bool ret]] w (Rt (.int .i64 (Fh n2 ⟨above, delay, ret⟩)) w) := by
 refine XK.enter (vs := [.agg #[.slice A1 n1 k1, .slice A2 n2 k2, .slice A3 n3 k3, .slice A4 n4 k4], .agg #[.int .i64 above, .int .i64 delay, .bool ret]]) Tryz.func130 rfl Tryz.ntmps130 (by simp) ?_
 refine XK.seq ?_
 refine XK.region ?_
 refine bY rfl (by decide) fun g1 => ?_
 refine bY rfl (by decide) fun g2 => ?_
 refine aL rfl (by decide) ?_
 refine XK.aE ?_
 refine XK.seq ?_
 refine XK.region ?_
 refine iL (vf := []) (vc := [.pointer (some ⟨g2, 0, none⟩), .pointer (some ⟨g1, 0, none⟩)]) rfl rfl (by decide) ?_
 refine iL (vf := []) (vc := [.pointer (some ⟨g2, 0, none⟩)]) rfl rfl (by decide) ?_
 refine eP (el := 113) (sz := 1) (zs := [.nilFunc]) (by kernel_rfl) (aM (by kernel_rfl)) (by kernel_rfl) rfl (by decide) (by decide) rfl (by simp [aR, aU, Value.cells, List.range_succ, List.set]; rfl) (by decide) fun g3 => ?_
 refine aY (f := 117) (fi := []) (ca := []) (by kernel_rfl) rfl rfl (by decide) (fun w1 st => Pp _ _ _ [(209, [.pointer (some ⟨g2, 0, none⟩), .pointer (some ⟨g1, 0, none⟩)]), (210, [.pointer (some ⟨g2, 0, none⟩)])] [eX (decide (¬ above = -1) && !eT above 0 ((n2 : Int) - 1)) 4, eX (!eT delay 0 20) 3] w1 (st.uF (i := 0) (n := 2) (sz := 1) (cs := [.func (.func 209) #[] #[.pointer (some ⟨g2, 0, none⟩), .pointer (some ⟨g1, 0, none⟩)], .func (.func 210) #[] #[.pointer (some ⟨g2, 0, none⟩)]]) rfl rfl) rfl rfl (by decide) (by simp only [List.mem_cons, List.not_mem_nil, or_false]; rintro f (rfl | rfl) <;> kernel_rfl) (fun i f x hf hx w2 cX => by
  have gK := (st.started (by simp)).trans (cX.mono st.size)
  match i, hf, hx with
  | 0, hf, hx => cases hf; cases hx; exact aHh above delay ret A1 A2 A3 A4 n1 k1 n2 k2 n3 k3 n4 k4 g2 g1 w2 (st.box (cs := [.int .i64 above, .int .i64 delay, .bool ret]) (i := 1) rfl |>.below cX) (st.box (cs := [.slice A1 n1 k1, .slice A2 n2 k2, .slice A3 n3 k3, .slice A4 n4 k4]) (i := 2) rfl |>.below cX) lG
  | 1, hf, hx => cases hf; cases hx; exact aHg above delay ret g2 w2 (st.box (cs := [.int .i64 above, .int .i64 delay, .bool ret]) (i := 1) rfl |>.below cX)
  | i + 2, hf, _ => simp at hf)) ?_
 refine aL rfl (by decide) ?_
 refine XK.aE ?_
 refine XK.ret ?_
 refine XK.norm ?_
 exact XK.aI rfl rfl fun w1 st => ⟨rfl, st.below (by simp)⟩
theorem aD8 (r : Int) (w : World) :
  Calls Tryz.prog 135 #[.agg #[.int .i64 r]] w (Rt (.int .i64 (Nc r)) w) := by
 refine XK.enter (vs := [.agg #[.int .i64 r]]) Tryz.func135 rfl Tryz.ntmps135 (by simp) ?_
 refine XK.go ?_
 refine bY rfl (by decide) fun g1 => ?_
 refine XK.go ?_
 refine aY (f := 205) (fi := []) (ca := []) (by kernel_rfl) rfl rfl (by decide) (fun w1 st => oQ _ _ _ w1) ?_
 refine XK.go ?_
 refine aY (f := 199) (fi := []) (ca := []) (by kernel_rfl) rfl rfl (by decide) (fun w1 st => qG _ _ w1) ?_
 refine XK.go ?_
 exact XK.aI rfl rfl fun w1 st => ⟨rfl, st.below (by simp)⟩
theorem aHu (clock domain reset eS : Int) (A B : Option Addr) (n k nb kb : Nat) (A1 A2 A3 A4 : Option Addr) (n1 k1 n2 k2 n3 k3 n4 k4 : Nat) (gd gs : Nat) (w : World) (hd : cZ w gd 0 [.int .i64 clock, .int .i64 domain, .int .i64 reset, .int .u32 eS, .slice B nb kb, .slice A n k]) (hs : cZ w gs 0 [.slice A1 n1 k1, .slice A2 n2 k2, .slice A3 n3 k3, .slice A4 n4 k4]) (lH : (n1 : Int) ≤ 9223372036854775806) :
  Calls Tryz.prog 211 #[.pointer (some ⟨gd, 0, none⟩), .pointer (some ⟨gs, 0, none⟩)] w (Rt (.int .i64 (eX (!eT clock 0 ((n1 : Int) - 1)) 4)) w) := by
 refine XK.enter (vs := [.pointer (some ⟨gd, 0, none⟩), .pointer (some ⟨gs, 0, none⟩)]) Tryz.func211 rfl Tryz.ntmps211 (by simp) ?_
 refine XK.go ?_
 refine aY (f := 205) (fi := []) (ca := []) (by kernel_rfl) rfl rfl (by decide) (fun w1 st => oQ _ _ _ w1) ?_
 refine XK.go ?_
 refine aY (f := 199) (fi := []) (ca := []) (by kernel_rfl) rfl rfl (by decide) (fun w1 st => qG _ _ w1) ?_
 refine XK.go ?_
 exact XK.aI rfl rfl fun w1 st => ⟨rfl, st.below (by simp)⟩
theorem aHt (clock domain reset eS : Int) (A B : Option Addr) (n k nb kb : Nat) (A1 A2 A3 A4 : Option Addr) (n1 k1 n2 k2 n3 k3 n4 k4 : Nat) (gd gs : Nat) (w : World) (hd : cZ w gd 0 [.int .i64 clock, .int .i64 domain, .int .i64 reset, .int .u32 eS, .slice B nb kb, .slice A n k]) (hs : cZ w gs 0 [.slice A1 n1 k1, .slice A2 n2 k2, .slice A3 n3 k3, .slice A4 n4 k4]) (lG : (n2 : Int) ≤ 9223372036854775806) :
  Calls Tryz.prog 212 #[.pointer (some ⟨gd, 0, none⟩), .pointer (some ⟨gs, 0, none⟩)] w (Rt (.int .i64 (eX (!eT domain 0 ((n2 : Int) - 1)) 4)) w) := by
 refine XK.enter (vs := [.pointer (some ⟨gd, 0, none⟩), .pointer (some ⟨gs, 0, none⟩)]) Tryz.func212 rfl Tryz.ntmps212 (by simp) ?_
 refine XK.go ?_
 refine aY (f := 205) (fi := []) (ca := []) (by kernel_rfl) rfl rfl (by decide) (fun w1 st => oQ _ _ _ w1) ?_
 refine XK.go ?_
 refine aY (f := 199) (fi := []) (ca := []) (by kernel_rfl) rfl rfl (by decide) (fun w1 st => qG _ _ w1) ?_
 refine XK.go ?_
 exact XK.aI rfl rfl fun w1 st => ⟨rfl, st.below (by simp)⟩
theorem aHs (clock domain reset eS : Int) (A B : Option Addr) (n k nb kb : Nat) (A1 A2 A3 A4 : Option Addr) (n1 k1 n2 k2 n3 k3 n4 k4 : Nat) (gd gs : Nat) (w : World) (hd : cZ w gd 0 [.int .i64 clock, .int .i64 domain, .int .i64 reset, .int .u32 eS, .slice B nb kb, .slice A n k]) (hs : cZ w gs 0 [.slice A1 n1 k1, .slice A2 n2 k2, .slice A3 n3 k3, .slice A4 n4 k4]) (Of : (n3 : Int) ≤ 9223372036854775806) :
  Calls Tryz.prog 213 #[.pointer (some ⟨gd, 0, none⟩), .pointer (some ⟨gs, 0, none⟩)] w (Rt (.int .i64 (eX (!eT reset 0 ((n3 : Int) - 1)) 4)) w) := by
 refine XK.enter (vs := [.pointer (some ⟨gd, 0, none⟩), .pointer (some ⟨gs, 0, none⟩)]) Tryz.func213 rfl Tryz.ntmps213 (by simp) ?_
 refine XK.go ?_
 refine aY (f := 205) (fi := []) (ca := []) (by kernel_rfl) rfl rfl (by decide) (fun w1 st => oQ _ _ _ w1) ?_
 refine XK.go ?_
 refine aY (f := 199) (fi := []) (ca := []) (by kernel_rfl) rfl rfl (by decide) (fun w1 st => qG _ _ w1) ?_
 refine XK.go ?_
 exact XK.aI rfl rfl fun w1 st => ⟨rfl, st.below (by simp)⟩
theorem aHq (f : Int) (A1 A2 A3 A4 : Option Addr) (n1 k1 n2 k2 n3 k3 n4 k4 : Nat) (gs : Nat) (w : World) (hs : cZ w gs 0 [.slice A1 n1 k1, .slice A2 n2 k2, .slice A3 n3 k3, .slice A4 n4 k4]) (Ej : (n4 : Int) ≤ 9223372036854775806) :
  Calls Tryz.prog 215 #[.int .i64 f, .pointer (some ⟨gs, 0, none⟩)] w (Rt (.int .i64 (eX (!eT f 0 ((n4 : Int) - 1)) 4)) w) := by
 refine XK.enter (vs := [.int .i64 f, .pointer (some ⟨gs, 0, none⟩)]) Tryz.func215 rfl Tryz.ntmps215 (by simp) ?_
 refine XK.go ?_
 refine aY (f := 205) (fi := []) (ca := []) (by kernel_rfl) rfl rfl (by decide) (fun w1 st => oQ _ _ _ w1) ?_
 refine XK.go ?_
 refine aY (f := 199) (fi := []) (ca := []) (by kernel_rfl) rfl rfl (by decide) (fun w1 st => qG _ _ w1) ?_
 refine XK.go ?_
 exact XK.aI rfl rfl fun w1 st => ⟨rfl, st.below (by simp)⟩
theorem aHr (clock domain reset eS : Int) (A B : Option Addr) (n k nb kb : Nat) (A1 A2 A3 A4 : Option Addr) (n1 k1 n2 k2 n3 k3 n4 k4 : Nat) (gd gs : Nat) (w : World) (hd : cZ w gd 0 [.int .i64 clock, .int .i64 domain, .int .i64 reset, .int .u32 eS, .slice B nb kb, .slice A n k]) (hs : cZ w gs 0 [.slice A1 n1 k1, .slice A2 n2 k2, .slice A3 n3 k3, .slice A4 n4 k4]) (Ej : (n4 : Int) ≤ 9223372036854775806) (zs : List Int) (hA : aH (all w) 1 A n (aO zs)) (hn : n = zs.length) (hz : (n : Int) ≤ 9223372036854775806) :
  Calls Tryz.prog 214 #[.pointer (some ⟨gd, 0, none⟩), .pointer (some ⟨gs, 0, none⟩)] w (Rt (.int .i64 (gL (zs.map fun f => eX (!eT f 0 ((n4 : Int) - 1)) 4))) w) := by
 refine XK.enter (vs := [.pointer (some ⟨gd, 0, none⟩), .pointer (some ⟨gs, 0, none⟩)]) Tryz.func214 rfl Tryz.ntmps214 (by simp) ?_
 refine XK.go ?_
 refine iL (vf := []) (vc := [.pointer (some ⟨gs, 0, none⟩)]) rfl rfl (by decide) ?_
 refine aY (f := 203) (fi := []) (ca := []) (by kernel_rfl) rfl rfl (by decide) (fun w1 st => aB2 _ _ _ 215 [.pointer (some ⟨gs, 0, none⟩)] ((aO zs).map fun v => [v]) (zs.map fun f => eX (!eT f 0 ((n4 : Int) - 1)) 4) w1 (by rw [aBr]; exact hA.le (fU (st.started (by simp)))) (by simp) (by simp [aO]; omega) (by simp; omega) (by omega) (by kernel_rfl) (fun i r x hr hx w2 cX => by
  obtain ⟨f, hf, rfl⟩ : ∃ f, zs[i]? = some f ∧ r = [.int .i64 f] := by
   rw [List.getElem?_map, aO, List.getElem?_map] at hr
   cases hq : zs[i]? with
   | none => simp [hq] at hr
   | some f => simp [hq] at hr; exact ⟨f, rfl, hr.symm⟩
  rw [List.getElem?_map, hf] at hx
  cases hx
  exact aHq f A1 A2 A3 A4 n1 k1 n2 k2 n3 k3 n4 k4 gs w2 ((hs.below (st.started (by simp))).below cX) Ej)) ?_
 refine XK.go ?_
 exact XK.aI rfl rfl fun w1 st => ⟨rfl, st.below (by simp)⟩
theorem aHp (rg : List Rg) (clock domain reset eS : Int) (A B : Option Addr) (n k nb kb : Nat) (A1 A2 A3 A4 : Option Addr) (n1 k1 n2 k2 n3 k3 n4 k4 : Nat) (w : World) (lH : (n1 : Int) ≤ 9223372036854775806) (lG : (n2 : Int) ≤ 9223372036854775806) (Of : (n3 : Int) ≤ 9223372036854775806) (Ej : (n4 : Int) ≤ 9223372036854775806) (zs : List Int) (hA : aH (all w) 1 A n (aO zs)) (hn : n = zs.length) (hz : (n : Int) ≤ 9223372036854775806) :
  Calls Tryz.prog 139 #[.agg #[.slice A1 n1 k1, .slice A2 n2 k2, .slice A3 n3 k3, .slice A4 n4 k4], .agg #[.int .i64 clock, .int .i64 domain, .int .i64 reset, .int .u32 eS, .slice B nb kb, .slice A n k]] w (Rt (.int .i64 (Fm n1 n2 n3 n4 ⟨clock, domain, reset, eS, rg, zs⟩)) w) := by
 refine XK.enter (vs := [.agg #[.slice A1 n1 k1, .slice A2 n2 k2, .slice A3 n3 k3, .slice A4 n4 k4], .agg #[.int .i64 clock, .int .i64 domain, .int .i64 reset, .int .u32 eS, .slice B nb kb, .slice A n k]]) Tryz.func139 rfl Tryz.ntmps139 (by simp) ?_
 refine XK.seq ?_
 refine XK.region ?_
 refine bY rfl (by decide) fun g1 => ?_
 refine bY rfl (by decide) fun g2 => ?_
 refine aL rfl (by decide) ?_
 refine XK.aE ?_
 refine XK.seq ?_
 refine XK.region ?_
 refine iL (vf := []) (vc := [.pointer (some ⟨g2, 0, none⟩), .pointer (some ⟨g1, 0, none⟩)]) rfl rfl (by decide) ?_
 refine iL (vf := []) (vc := [.pointer (some ⟨g2, 0, none⟩), .pointer (some ⟨g1, 0, none⟩)]) rfl rfl (by decide) ?_
 refine iL (vf := []) (vc := [.pointer (some ⟨g2, 0, none⟩), .pointer (some ⟨g1, 0, none⟩)]) rfl rfl (by decide) ?_
 refine iL (vf := []) (vc := [.pointer (some ⟨g2, 0, none⟩), .pointer (some ⟨g1, 0, none⟩)]) rfl rfl (by decide) ?_
 refine eP (el := 113) (sz := 1) (zs := [.nilFunc]) (by kernel_rfl) (aM (by kernel_rfl)) (by kernel_rfl) rfl (by decide) (by decide) rfl (by simp [aR, aU, Value.cells, List.range_succ, List.set]; rfl) (by decide) fun g3 => ?_
 refine aY (f := 117) (fi := []) (ca := []) (by kernel_rfl) rfl rfl (by decide) (fun w1 st => Pp _ _ _ [(211, [.pointer (some ⟨g2, 0, none⟩), .pointer (some ⟨g1, 0, none⟩)]), (212, [.pointer (some ⟨g2, 0, none⟩), .pointer (some ⟨g1, 0, none⟩)]), (213, [.pointer (some ⟨g2, 0, none⟩), .pointer (some ⟨g1, 0, none⟩)]), (214, [.pointer (some ⟨g2, 0, none⟩), .pointer (some ⟨g1, 0, none⟩)])] [eX (!eT clock 0 ((n1 : Int) - 1)) 4, eX (!eT domain 0 ((n2 : Int) - 1)) 4, eX (!eT reset 0 ((n3 : Int) - 1)) 4, gL (zs.map fun f => eX (!eT f 0 ((n4 : Int) - 1)) 4)] w1 (st.uF (i := 0) (n := 4) (sz := 1) (cs := [.func (.func 211) #[] #[.pointer (some ⟨g2, 0, none⟩), .pointer (some ⟨g1, 0, none⟩)], .func (.func 212) #[] #[.pointer (some ⟨g2, 0, none⟩), .pointer (some ⟨g1, 0, none⟩)], .func (.func 213) #[] #[.pointer (some ⟨g2, 0, none⟩), .pointer (some ⟨g1, 0, none⟩)], .func (.func 214) #[] #[.pointer (some ⟨g2, 0, none⟩), .pointer (some ⟨g1, 0, none⟩)]]) rfl rfl) rfl rfl (by decide) (by simp only [List.mem_cons, List.not_mem_nil, or_false]; rintro f (rfl | rfl | rfl | rfl) <;> kernel_rfl) (fun i f x hf hx w2 cX => by
  have gK := (st.started (by simp)).trans (cX.mono st.size)
  match i, hf, hx with
  | 0, hf, hx => cases hf; cases hx; exact aHu clock domain reset eS A B n k nb kb A1 A2 A3 A4 n1 k1 n2 k2 n3 k3 n4 k4 g2 g1 w2 (st.box (cs := [.int .i64 clock, .int .i64 domain, .int .i64 reset, .int .u32 eS, .slice B nb kb, .slice A n k]) (i := 1) rfl |>.below cX) (st.box (cs := [.slice A1 n1 k1, .slice A2 n2 k2, .slice A3 n3 k3, .slice A4 n4 k4]) (i := 2) rfl |>.below cX) lH
  | 1, hf, hx => cases hf; cases hx; exact aHt clock domain reset eS A B n k nb kb A1 A2 A3 A4 n1 k1 n2 k2 n3 k3 n4 k4 g2 g1 w2 (st.box (cs := [.int .i64 clock, .int .i64 domain, .int .i64 reset, .int .u32 eS, .slice B nb kb, .slice A n k]) (i := 1) rfl |>.below cX) (st.box (cs := [.slice A1 n1 k1, .slice A2 n2 k2, .slice A3 n3 k3, .slice A4 n4 k4]) (i := 2) rfl |>.below cX) lG
  | 2, hf, hx => cases hf; cases hx; exact aHs clock domain reset eS A B n k nb kb A1 A2 A3 A4 n1 k1 n2 k2 n3 k3 n4 k4 g2 g1 w2 (st.box (cs := [.int .i64 clock, .int .i64 domain, .int .i64 reset, .int .u32 eS, .slice B nb kb, .slice A n k]) (i := 1) rfl |>.below cX) (st.box (cs := [.slice A1 n1 k1, .slice A2 n2 k2, .slice A3 n3 k3, .slice A4 n4 k4]) (i := 2) rfl |>.below cX) Of
  | 3, hf, hx => cases hf; cases hx; exact aHr clock domain reset eS A B n k nb kb A1 A2 A3 A4 n1 k1 n2 k2 n3 k3 n4 k4 g2 g1 w2 (st.box (cs := [.int .i64 clock, .int .i64 domain, .int .i64 reset, .int .u32 eS, .slice B nb kb, .slice A n k]) (i := 1) rfl |>.below cX) (st.box (cs := [.slice A1 n1 k1, .slice A2 n2 k2, .slice A3 n3 k3, .slice A4 n4 k4]) (i := 2) rfl |>.below cX) Ej zs (hA.le (fU gK)) hn hz
  | i + 4, hf, _ => simp at hf)) ?_
 refine aL rfl (by decide) ?_
 refine XK.aE ?_
 refine XK.ret ?_
 refine XK.norm ?_
 exact XK.aI rfl rfl fun w1 st => ⟨rfl, st.below (by simp)⟩
theorem aGs (rg : List Rg) (zs : List Int) (clock domain reset eS : Int) (A B : Option Addr) (n k nb kb : Nat) (w : World) (hrg : nb = rg.length) (hn : n = zs.length) :
  Calls Tryz.prog 198 #[.agg #[.int .i64 clock, .int .i64 domain, .int .i64 reset, .int .u32 eS, .slice B nb kb, .slice A n k]] w (Rt (.int .i64 (Ed ⟨clock, domain, reset, eS, rg, zs⟩)) w) := by
 refine XK.enter (vs := [.agg #[.int .i64 clock, .int .i64 domain, .int .i64 reset, .int .u32 eS, .slice B nb kb, .slice A n k]]) Tryz.func198 rfl Tryz.ntmps198 (by simp) ?_
 refine XK.go ?_
 refine bY rfl (by decide) fun g1 => ?_
 refine XK.go ?_
 refine bT (t := 7) rfl (fun hg => ?_) (fun hg => ?_)
 ·
  refine XK.go ?_
  refine aY (f := 199) (fi := []) (ca := []) (by kernel_rfl) rfl rfl (by decide) (fun w1 st => qG _ _ w1) ?_
  refine XK.go ?_
  exact XK.aI rfl rfl fun w1 st => ⟨by subst hrg hn; simp [Ed, hg], st.below (by simp)⟩
 ·
  refine XK.go ?_
  refine aY (f := 199) (fi := []) (ca := []) (by kernel_rfl) rfl rfl (by decide) (fun w1 st => qG _ _ w1) ?_
  refine XK.go ?_
  exact XK.aI rfl rfl fun w1 st => ⟨by subst hrg hn; simp [Ed, hg], st.below (by simp)⟩
end
section
set_option maxHeartbeats 4000000
set_option maxRecDepth 20000
def aC.small (s : aC) : Prop := s.aB.length ≤ 1000000 ∧ s.domains.length ≤ 1000000 ∧ s.aW.length ≤ 1000000 ∧ s.aA.length ≤ 1000000 ∧ (∀ c ∈ s.aB, c.src.length ≤ 1000000) ∧ ∀ d ∈ s.aA, d.iO.length ≤ 1000000
structure fA (w : World) (s : aC) (A1 : Option Addr) (n1 : Nat) (A2 : Option Addr) (n2 : Nat) (A3 : Option Addr) (n3 : Nat) (A4 : Option Addr) (n4 : Nat) : Prop where
 fH : eO (dU (all w)) (iX (dU (all w))) 118 6 A1 n1 s.aB
 dom : eO (dU (all w)) tS 75 3 A2 n2 s.domains
 rL : eO (dU (all w)) tO 120 1 A3 n3 s.aW
 dev : eO (dU (all w)) (jQ (dU (all w))) 78 6 A4 n4 s.aA
 small : s.small
section
variable {w w' : World} {s : aC} {A1 A2 A3 A4 : Option Addr} {n1 n2 n3 n4 : Nat}
theorem fA.le (h : fA w s A1 n1 A2 n2 A3 n3 A4 n4) (hb : Below w.heap.size w w') : fA w' s A1 n1 A2 n2 A3 n3 A4 n4 :=
 ⟨h.fH.mono (gE (fU hb)) (fun _ _ => iX.mono (gE (fU hb))), h.dom.mono (gE (fU hb)) (fun _ _ h => h), h.rL.mono (gE (fU hb)) (fun _ _ h => h), h.dev.mono (gE (fU hb)) (fun _ _ => jQ.mono (gE (fU hb))), h.small⟩
theorem fA.qN (h : fA w s A1 n1 A2 n2 A3 n3 A4 n4) : n1 = s.aB.length := by obtain ⟨_, _, h, _⟩ := h.fH; exact h
theorem fA.rO (h : fA w s A1 n1 A2 n2 A3 n3 A4 n4) : n2 = s.domains.length := by obtain ⟨_, _, h, _⟩ := h.dom; exact h
theorem fA.uI (h : fA w s A1 n1 A2 n2 A3 n3 A4 n4) : n3 = s.aW.length := by obtain ⟨_, _, h, _⟩ := h.rL; exact h
theorem fA.sS (h : fA w s A1 n1 A2 n2 A3 n3 A4 n4) : n4 = s.aA.length := by obtain ⟨_, _, h, _⟩ := h.dev; exact h
end
theorem eO.row {α : Type} {w : World} {R : α → List Value → Prop} {t : TypeId} {sz n : Nat} {A : Option Addr} {es : List α} (h : eO (dU (all w)) R t sz A n es) {k : Nat} {e : α} (hk : es[k]? = some e) :
  ∃ b off r, A = some ⟨b, off, none⟩ ∧ r.length = sz ∧ R e r ∧ cZ w b (off + k * sz) r := by
 obtain ⟨rows, h1, h2, h3⟩ := h
 have hke := (List.getElem?_eq_some_iff.1 hk).1
 have hl := h1.len.1
 obtain ⟨r, hr⟩ : ∃ r, rows[k]? = some r := ⟨_, List.getElem?_eq_getElem (by omega)⟩
 obtain ⟨e', he, hrl, hR⟩ := h1.at_ hr
 rw [hk] at he
 cases he
 obtain ⟨b, off, hA, hro⟩ := aH.row h3 h1.aCb hr (by omega)
 exact ⟨b, off, r, hA, hrl, hR, hro⟩
def mI (s : aC) : List (List Int) := s.aB.map (·.src)
def mH (s : aC) : List (List Int) := s.domains.map fun d => if d.above = -1 then [] else [d.above]
def mA (s : aC) : List (List Int) := s.aA.map (·.iO)
def wQ (g : List (List Int)) : Int := eX (decide ((lC g).1 = 5)) 5
theorem Vx {vs : List Value} {v z : Value} {k n : Nat} (h : vs.length = k) (hk : k < n) : (vs ++ List.replicate (n - k) z).set k v = (vs ++ [v]) ++ List.replicate (n - (k + 1)) z := by
 rw [List.set_append_right _ _ (by omega), h, Nat.sub_self, show n - k = (n - (k + 1)) + 1 by omega, List.replicate_succ, List.set_cons_zero, List.append_assoc]; rfl
theorem aGH {vs : List Value} {z : Value} {k n : Nat} (hk : k < n) : vs ++ List.replicate (n - k) z = (vs ++ [z]) ++ List.replicate (n - (k + 1)) z := by
 rw [show n - k = (n - (k + 1)) + 1 by omega, List.replicate_succ, List.append_assoc]; rfl
theorem Na {g : List (List Int)} {k : Nat} {vs : List Value} {q q' : Piece} {l : List Int} {v : Value} (h : Rows (oK (dU q)) 1 (g.take k) (vs.map fun v => [v])) (hl : q.Le q') (hg : g[k]? = some l) (hv : oK (dU q') l [v]) : Rows (oK (dU q')) 1 (g.take (k + 1)) ((vs ++ [v]).map fun v => [v]) := by
 rw [List.take_add_one, hg, Option.toList_some, List.map_append]
 exact (h.mono (fun _ _ => oK.mono (gE hl))).snoc rfl hv
theorem kT.Sh {q q2 : Piece} {g : List (List Int)} {vs : List Value} {gG n : Nat} {t : TypeId} (h : Rows (oK (dU q)) 1 g (vs.map fun v => [v])) (hl : q.Le q2) (h1 : ∃ F, (HP.aF gG t vs).sat F q2.w ∧ ∀ b, F b → q2.Z b) (hn : n = g.length) : kT q2 (some ⟨gG, 0, none⟩) n g := by
 obtain ⟨F, hs, hz⟩ := h1
 refine ⟨_, h.mono (fun _ _ => oK.mono (gE hl)), hn, ?_⟩
 rw [show (vs.map fun v => [v]).flatten = vs by clear h hs; induction vs <;> simp_all]
 refine aH.pE (c := 0) hs hz ?_
 have := h.len.1
 simp at this
 omega
def Xh (zs : List Int) (v : Value) (w w' : World) : Prop := ∃ A c, v = .slice A zs.length c ∧ aH (fresh w w') 1 A zs.length (aO zs)
def Gb (g : List (List Int)) (v : Value) (w w' : World) : Prop := ∃ A c, v = .slice A g.length c ∧ kT (fresh w w') A g.length g
theorem aHJ (A : Option Addr) (n c : Nat) (g : List (List Int)) (w : World) (hg : kT (all w) A n g) (hn : n = g.length) (hn2 : (n : Int) ≤ 9223372036854775806) (hlen : ∀ l ∈ g, (l.length : Int) ≤ 9223372036854775806) :
  Calls Tryz.prog 208 #[.slice A n c] w (Rt (.int .i64 (lC g).1) w) := by
 refine XK.enter (vs := [.slice A n c]) Tryz.func208 rfl Tryz.ntmps208 (by simp) ?_
 refine XK.go ?_
 refine Mn (f := 241) (fi := []) (ca := []) (by kernel_rfl) rfl rfl (by decide) (fun v => ∃ A m c, v = .tuple #[.slice A m c, .int .i64 (lC g).1]) (fun w1 st => (aEl A n c g w1 (hg.le (fU (st.started (by simp)))) hn hn2 hlen).mono fun y w2 h => ?_) ?_
 ·obtain ⟨⟨A', m, c', hy, _, _⟩, hb⟩ := h
  exact ⟨⟨_, hy, A', m, c', rfl⟩, hb⟩
 rintro _ ⟨A', m, c', rfl⟩
 refine XK.go ?_
 exact XK.aI rfl rfl fun w1 st => ⟨rfl, st.below (by simp)⟩
theorem Wq (A : Option Addr) (n c : Nat) (g : List (List Int)) (w : World) (hg : kT (all w) A n g) (hn : n = g.length) (hn2 : (n : Int) ≤ 9223372036854775806) (hlen : ∀ l ∈ g, (l.length : Int) ≤ 9223372036854775806) :
  Calls Tryz.prog 125 #[.slice A n c] w (Rt (.int .i64 (wQ g)) w) := by
 refine XK.enter (vs := [.slice A n c]) Tryz.func125 rfl Tryz.ntmps125 (by simp) ?_
 refine XK.go ?_
 refine aY (f := 208) (fi := []) (ca := []) (by kernel_rfl) rfl rfl (by decide) (fun w1 st => aHJ A n c g w1 (hg.le (fU (st.started (by simp)))) hn hn2 hlen) ?_
 refine XK.go ?_
 refine aY (f := 199) (fi := []) (ca := []) (by kernel_rfl) rfl rfl (by decide) (fun w1 st => qG _ _ w1) ?_
 refine XK.go ?_
 exact XK.aI rfl rfl fun w1 st => ⟨rfl, st.below (by simp)⟩
theorem aAk (A : Option Addr) (n c : Nat) (zs : List Int) (w : World) (hs : aH (all w) 1 A n (aO zs)) (hn : n = zs.length) (hn2 : n ≤ 1000000) :
  Calls Tryz.prog 147 #[.slice A n c] w (fun y w' => (∃ v, y = .returned v ∧ Xh zs v w w') ∧ Below w.heap.size w w') := by
 refine XK.enter (vs := [.slice A n c]) Tryz.func147 rfl Tryz.ntmps147 (by simp) ?_
 refine XK.seq ?_
 refine XK.region ?_
 refine aL rfl (by decide) ?_
 refine XK.aE ?_
 refine XK.seq ?_
 refine XK.region ?_
 refine aG rfl (by decide) ?_
 refine XK.kN 3 1 ?_
 refine fI 0 1 8 n (n' := n) (v := .slice none 0 0) (el := 3) (by kernel_rfl) (by kernel_rfl) (by decide) rfl rfl rfl (qI (by simp) hs) (by simp [aO, Value.oneCell']) (by omega) (by omega) (by omega) (by decide) fun A' k' => ?_
 refine aL rfl (by decide) ?_
 refine XK.aE ?_
 refine XK.ret ?_
 refine XK.norm ?_
 refine XK.still [] [0] [] (by simp) rfl (by decide) (by decide) fun q hq _ hfr => ?_
 subst hn
 exact XK.aI rfl rfl fun w1 st => ⟨⟨_, rfl, A', k', rfl, (aH.own (hq 0 _ (by simp) rfl)).le (st.lK (by simp) (hfr (by simp) (by simp)))⟩, st.below (by simp)⟩
theorem aH3 (s : aC) (A1 A2 A3 A4 : Option Addr) (n1 k1 n2 k2 n3 k3 n4 k4 : Nat) (w : World) (hW : fA w s A1 n1 A2 n2 A3 n3 A4 n4) :
  Calls Tryz.prog 126 #[.agg #[.slice A1 n1 k1, .slice A2 n2 k2, .slice A3 n3 k3, .slice A4 n4 k4]] w (fun y w' => (∃ v, y = .returned v ∧ Gb (mI s) v w w') ∧ Below w.heap.size w w') := by
 have hn := hW.qN
 have cU := hW.small
 unfold aC.small at cU
 obtain ⟨hs1, fF, kY, mB, lI, qP⟩ := cU
 refine XK.enter (vs := [.agg #[.slice A1 n1 k1, .slice A2 n2 k2, .slice A3 n3 k3, .slice A4 n4 k4]]) Tryz.func126 rfl Tryz.ntmps126 (by simp) ?_
 refine XK.seq ?_
 refine XK.region ?_
 refine bY rfl (by decide) fun g1 => ?_
 refine aL rfl (by decide) ?_
 refine XK.aE ?_
 refine XK.seq ?_
 refine XK.region ?_
 refine bL (off := 0) (by kernel_rfl) rfl (by decide) ?_
 refine cP rfl ?_
 refine fX (el := 118) (by kernel_rfl) rfl (by decide) ?_
 refine kD 24 (el := 22) (z := .slice none 0 0) (by kernel_rfl) (by kernel_rfl) rfl rfl rfl (by omega) (by omega) (by decide) fun g2 => ?_
 refine aL rfl (by decide) ?_
 refine XK.aE ?_
 refine XK.seq ?_
 refine XK.seq ?_
 refine XK.region ?_
 refine bL (off := 0) (by kernel_rfl) rfl (by decide) ?_
 refine cP rfl ?_
 refine fX (el := 118) (by kernel_rfl) rfl (by decide) ?_
 refine aG rfl (by decide) ?_
 refine XK.aE ?_
 refine XK.aK [(13, .int .i64 0), (12, .int .i64 n1), (11, .slice A1 n1 k1), (3, .slice (some ⟨g2, 0, none⟩) n1 n1), (1, .pointer (some ⟨g1, 0, none⟩))] ?_
 refine XK.still [] [] [0, 1] (by simp) rfl (by decide) (by decide) fun q0 _ _ Jv => ?_
 refine XK.block ?_
 refine XK.loop (fun m e R H => ∃ (k : Nat) (vs : List Value) (q : Piece), k ≤ n1 ∧ m = n1 - k ∧ lA w q ∧ Rows (oK (dU q)) 1 ((mI s).take k) (vs.map fun v => [v]) ∧ vs.length = k ∧ e = [(13, .int .i64 k), (12, .int .i64 n1), (11, .slice A1 n1 k1), (3, .slice (some ⟨g2, 0, none⟩) n1 n1), (1, .pointer (some ⟨g1, 0, none⟩))] ∧ R = [q, all w] ∧ H = [HP.aF g2 22 (vs ++ List.replicate (n1 - k) (.slice none 0 0)), HP.aF g1 29 [.slice A1 n1 k1, .slice A2 n2 k2, .slice A3 n3 k3, .slice A4 n4 k4]]) n1 ⟨0, [], _, by omega, rfl, Jv (by simp) (by simp), trivial, rfl, rfl, rfl, rfl⟩ fun m e R H hI => ?_
 obtain ⟨k, vs, q, hk, rfl, wG, hrows, hvl, rfl, rfl, rfl⟩ := hI
 refine XK.seq ?_
 refine XK.region ?_
 refine hJ rfl rfl (by decide) ?_
 refine XK.aE ?_
 refine XK.seq ?_
 refine XK.if_ rfl (fun h => ?_) (fun h => ?_)
 ·
  refine XK.skip ?_
  refine XK.norm ?_
  refine XK.seq ?_
  refine XK.block ?_
  refine XK.seq ?_
  have hkn : k < s.aB.length := by omega
  obtain ⟨e, he⟩ : ∃ e, s.aB[k]? = some e := ⟨_, List.getElem?_eq_getElem hkn⟩
  obtain ⟨b, off, r, rfl, hrl, hR, hro⟩ := hW.fH.row he
  obtain ⟨Af, nf, kf, rfl, hnf, sX⟩ := hR
  have Es : (mI s)[k]? = some (e.src) := by simp [mI, he]
  refine XK.region ?_
  refine aG rfl (by decide) ?_
  refine dH (k) (off + k * 6) (el := 118) (sz := 6) (by kernel_rfl) (by kernel_rfl) rfl rfl (by omega) (by omega) (by omega) (by decide) ?_
  refine iK 6 rfl ?_
  refine bZ (cs := [.int .u8 0, .slice none 0 0, .int .u64 0, .int .i64 0, .int .i64 0, .int .i64 0]) (aM (by kernel_rfl)) (by decide) fun g3 => ?_
  refine aL rfl (by decide) ?_
  refine eJ rfl rfl ?_; simp only [cC, Value.cells, List.set, List.take, List.drop, List.nil_append, List.append_nil, List.length_cons, List.length_nil, List.cons_append, Nat.reduceAdd]
  refine XK.aE ?_
  refine XK.region ?_
  refine aG rfl (by decide) ?_
  refine aG rfl (by decide) ?_
  refine bL (off := 1) (by kernel_rfl) rfl (by decide) ?_
  refine cP rfl ?_
  refine iY [q] (f := 147) (fi := []) (ca := []) (by kernel_rfl) rfl rfl (by decide) (by simp) (Xh e.src) (fun w1 st => aAk Af nf kf e.src w1 (aH.le sX (fU (st.started (by simp)))) hnf (by have := lI e (List.mem_of_getElem? he); omega)) ?_
  rintro _ w1 q' ⟨Ao, co, rfl, Br⟩ hf' hle Uv
  refine dH (k) (k) (el := 22) (sz := 1) (by kernel_rfl) (by kernel_rfl) rfl rfl (by omega) (by omega) (by omega) (by decide) ?_
  refine yT 1 rfl (by kernel_rfl) rfl rfl rfl (by simp; omega) ?_
  dsimp only [List.set]
  rw [Vx hvl (by omega)]
  refine XK.aE ?_
  refine XK.region ?_
  refine dO rfl rfl (bA (by omega)) (by decide) ?_
  refine aG rfl (by decide) ?_
  refine XK.aE ?_
  exact XK.weak [1, 2] rfl (by decide) (by simp) (XK.aK [(13, .int .i64 (k + 1)), (12, .int .i64 n1), (11, .slice (some ⟨b, off, none⟩) n1 k1), (3, .slice (some ⟨g2, 0, none⟩) n1 n1), (1, .pointer (some ⟨g1, 0, none⟩))] (XK.round (n1 - (k + 1)) (by omega) ⟨k + 1, vs ++ [_], q', by omega, rfl, Uv (by simpa using wG), Na hrows (hle q (by simp)) Es ⟨Ao, _, co, rfl, rfl, aH.le Br hf'⟩, by simp [hvl], rfl, rfl, rfl⟩))
 ·
  refine XK.exit ?_
  refine XK.norm ?_
  refine XK.seq ?_
  obtain rfl : k = n1 := by omega
  rw [Nat.sub_self, List.replicate_zero, List.append_nil]
  rw [List.take_of_length_le (by simp [mI]; omega)] at hrows
  refine XK.region ?_
  refine aG rfl (by decide) ?_
  refine aL rfl (by decide) ?_
  refine XK.aE ?_
  refine XK.ret ?_
  refine XK.norm ?_
  refine XK.still [q] [0] [] (by simp) rfl (by decide) (by decide) fun q2 hq hle hfr => ?_
  have nE : k = (mI s).length := by simp [mI]; omega
  exact XK.aI rfl rfl fun w1 st => ⟨⟨_, rfl, some ⟨g2, 0, none⟩, k, by rw [← nE], by rw [← nE]; exact (kT.Sh hrows (hle q (by simp)) (hq 0 _ (by simp) rfl) nE).le (st.lK (by simp) (hfr (by simp) (by simpa using wG)))⟩, st.below (by simp)⟩
theorem aE8 (s : aC) (A1 A2 A3 A4 : Option Addr) (n1 k1 n2 k2 n3 k3 n4 k4 : Nat) (w : World) (hW : fA w s A1 n1 A2 n2 A3 n3 A4 n4) :
  Calls Tryz.prog 112 #[.agg #[.slice A1 n1 k1, .slice A2 n2 k2, .slice A3 n3 k3, .slice A4 n4 k4]] w (fun y w' => (∃ v, y = .returned v ∧ Gb (mA s) v w w') ∧ Below w.heap.size w w') := by
 have hn := hW.sS
 have cU := hW.small
 unfold aC.small at cU
 obtain ⟨hs1, fF, kY, mB, lI, qP⟩ := cU
 refine XK.enter (vs := [.agg #[.slice A1 n1 k1, .slice A2 n2 k2, .slice A3 n3 k3, .slice A4 n4 k4]]) Tryz.func112 rfl Tryz.ntmps112 (by simp) ?_
 refine XK.seq ?_
 refine XK.region ?_
 refine bY rfl (by decide) fun g1 => ?_
 refine aL rfl (by decide) ?_
 refine XK.aE ?_
 refine XK.seq ?_
 refine XK.region ?_
 refine bL (off := 3) (by kernel_rfl) rfl (by decide) ?_
 refine cP rfl ?_
 refine fX (el := 78) (by kernel_rfl) rfl (by decide) ?_
 refine kD 24 (el := 22) (z := .slice none 0 0) (by kernel_rfl) (by kernel_rfl) rfl rfl rfl (by omega) (by omega) (by decide) fun g2 => ?_
 refine aL rfl (by decide) ?_
 refine XK.aE ?_
 refine XK.seq ?_
 refine XK.seq ?_
 refine XK.region ?_
 refine bL (off := 3) (by kernel_rfl) rfl (by decide) ?_
 refine cP rfl ?_
 refine fX (el := 78) (by kernel_rfl) rfl (by decide) ?_
 refine aG rfl (by decide) ?_
 refine XK.aE ?_
 refine XK.aK [(13, .int .i64 0), (12, .int .i64 n4), (11, .slice A4 n4 k4), (3, .slice (some ⟨g2, 0, none⟩) n4 n4), (1, .pointer (some ⟨g1, 0, none⟩))] ?_
 refine XK.still [] [] [0, 1] (by simp) rfl (by decide) (by decide) fun q0 _ _ Jv => ?_
 refine XK.block ?_
 refine XK.loop (fun m e R H => ∃ (k : Nat) (vs : List Value) (q : Piece), k ≤ n4 ∧ m = n4 - k ∧ lA w q ∧ Rows (oK (dU q)) 1 ((mA s).take k) (vs.map fun v => [v]) ∧ vs.length = k ∧ e = [(13, .int .i64 k), (12, .int .i64 n4), (11, .slice A4 n4 k4), (3, .slice (some ⟨g2, 0, none⟩) n4 n4), (1, .pointer (some ⟨g1, 0, none⟩))] ∧ R = [q, all w] ∧ H = [HP.aF g2 22 (vs ++ List.replicate (n4 - k) (.slice none 0 0)), HP.aF g1 29 [.slice A1 n1 k1, .slice A2 n2 k2, .slice A3 n3 k3, .slice A4 n4 k4]]) n4 ⟨0, [], _, by omega, rfl, Jv (by simp) (by simp), trivial, rfl, rfl, rfl, rfl⟩ fun m e R H hI => ?_
 obtain ⟨k, vs, q, hk, rfl, wG, hrows, hvl, rfl, rfl, rfl⟩ := hI
 refine XK.seq ?_
 refine XK.region ?_
 refine hJ rfl rfl (by decide) ?_
 refine XK.aE ?_
 refine XK.seq ?_
 refine XK.if_ rfl (fun h => ?_) (fun h => ?_)
 ·
  refine XK.skip ?_
  refine XK.norm ?_
  refine XK.seq ?_
  refine XK.block ?_
  refine XK.seq ?_
  have hkn : k < s.aA.length := by omega
  obtain ⟨e, he⟩ : ∃ e, s.aA[k]? = some e := ⟨_, List.getElem?_eq_getElem hkn⟩
  obtain ⟨b, off, r, rfl, hrl, hR, hro⟩ := hW.dev.row he
  obtain ⟨Ar, nr, kr, Af, nf, kf, rfl, _, hnf, _, sX⟩ := hR
  have Es : (mA s)[k]? = some (e.iO) := by simp [mA, he]
  refine XK.region ?_
  refine aG rfl (by decide) ?_
  refine dH (k) (off + k * 6) (el := 78) (sz := 6) (by kernel_rfl) (by kernel_rfl) rfl rfl (by omega) (by omega) (by omega) (by decide) ?_
  refine iK 6 rfl ?_
  refine bZ (cs := [.int .i64 0, .int .i64 0, .int .i64 0, .int .u32 0, .slice none 0 0, .slice none 0 0]) (aM (by kernel_rfl)) (by decide) fun g3 => ?_
  refine aL rfl (by decide) ?_
  refine eJ rfl rfl ?_; simp only [cC, Value.cells, List.set, List.take, List.drop, List.nil_append, List.append_nil, List.length_cons, List.length_nil, List.cons_append, Nat.reduceAdd]
  refine XK.aE ?_
  refine XK.region ?_
  refine aG rfl (by decide) ?_
  refine aG rfl (by decide) ?_
  refine bL (off := 5) (by kernel_rfl) rfl (by decide) ?_
  refine cP rfl ?_
  refine iY [q] (f := 147) (fi := []) (ca := []) (by kernel_rfl) rfl rfl (by decide) (by simp) (Xh e.iO) (fun w1 st => aAk Af nf kf e.iO w1 (aH.le sX (fU (st.started (by simp)))) hnf (by have := qP e (List.mem_of_getElem? he); omega)) ?_
  rintro _ w1 q' ⟨Ao, co, rfl, Br⟩ hf' hle Uv
  refine dH (k) (k) (el := 22) (sz := 1) (by kernel_rfl) (by kernel_rfl) rfl rfl (by omega) (by omega) (by omega) (by decide) ?_
  refine yT 1 rfl (by kernel_rfl) rfl rfl rfl (by simp; omega) ?_
  dsimp only [List.set]
  rw [Vx hvl (by omega)]
  refine XK.aE ?_
  refine XK.region ?_
  refine dO rfl rfl (bA (by omega)) (by decide) ?_
  refine aG rfl (by decide) ?_
  refine XK.aE ?_
  exact XK.weak [1, 2] rfl (by decide) (by simp) (XK.aK [(13, .int .i64 (k + 1)), (12, .int .i64 n4), (11, .slice (some ⟨b, off, none⟩) n4 k4), (3, .slice (some ⟨g2, 0, none⟩) n4 n4), (1, .pointer (some ⟨g1, 0, none⟩))] (XK.round (n4 - (k + 1)) (by omega) ⟨k + 1, vs ++ [_], q', by omega, rfl, Uv (by simpa using wG), Na hrows (hle q (by simp)) Es ⟨Ao, _, co, rfl, rfl, aH.le Br hf'⟩, by simp [hvl], rfl, rfl, rfl⟩))
 ·
  refine XK.exit ?_
  refine XK.norm ?_
  refine XK.seq ?_
  obtain rfl : k = n4 := by omega
  rw [Nat.sub_self, List.replicate_zero, List.append_nil]
  rw [List.take_of_length_le (by simp [mA]; omega)] at hrows
  refine XK.region ?_
  refine aG rfl (by decide) ?_
  refine aL rfl (by decide) ?_
  refine XK.aE ?_
  refine XK.ret ?_
  refine XK.norm ?_
  refine XK.still [q] [0] [] (by simp) rfl (by decide) (by decide) fun q2 hq hle hfr => ?_
  have nE : k = (mA s).length := by simp [mA]; omega
  exact XK.aI rfl rfl fun w1 st => ⟨⟨_, rfl, some ⟨g2, 0, none⟩, k, by rw [← nE], by rw [← nE]; exact (kT.Sh hrows (hle q (by simp)) (hq 0 _ (by simp) rfl) nE).le (st.lK (by simp) (hfr (by simp) (by simpa using wG)))⟩, st.below (by simp)⟩
theorem aHe (s : aC) (A1 A2 A3 A4 : Option Addr) (n1 k1 n2 k2 n3 k3 n4 k4 : Nat) (w : World) (hW : fA w s A1 n1 A2 n2 A3 n3 A4 n4) :
  Calls Tryz.prog 132 #[.agg #[.slice A1 n1 k1, .slice A2 n2 k2, .slice A3 n3 k3, .slice A4 n4 k4]] w (fun y w' => (∃ v, y = .returned v ∧ Gb (mH s) v w w') ∧ Below w.heap.size w w') := by
 have hn := hW.rO
 have cU := hW.small
 unfold aC.small at cU
 obtain ⟨hs1, fF, kY, mB, lI, qP⟩ := cU
 refine XK.enter (vs := [.agg #[.slice A1 n1 k1, .slice A2 n2 k2, .slice A3 n3 k3, .slice A4 n4 k4]]) Tryz.func132 rfl Tryz.ntmps132 (by simp) ?_
 refine XK.seq ?_
 refine XK.region ?_
 refine bY rfl (by decide) fun g1 => ?_
 refine aL rfl (by decide) ?_
 refine XK.aE ?_
 refine XK.seq ?_
 refine XK.region ?_
 refine bL (off := 1) (by kernel_rfl) rfl (by decide) ?_
 refine cP rfl ?_
 refine fX (el := 75) (by kernel_rfl) rfl (by decide) ?_
 refine kD 24 (el := 22) (z := .slice none 0 0) (by kernel_rfl) (by kernel_rfl) rfl rfl rfl (by omega) (by omega) (by decide) fun g2 => ?_
 refine aL rfl (by decide) ?_
 refine XK.aE ?_
 refine XK.seq ?_
 refine XK.seq ?_
 refine XK.region ?_
 refine bL (off := 1) (by kernel_rfl) rfl (by decide) ?_
 refine cP rfl ?_
 refine fX (el := 75) (by kernel_rfl) rfl (by decide) ?_
 refine aG rfl (by decide) ?_
 refine XK.aE ?_
 refine XK.aK [(13, .int .i64 0), (12, .int .i64 n2), (11, .slice A2 n2 k2), (3, .slice (some ⟨g2, 0, none⟩) n2 n2), (1, .pointer (some ⟨g1, 0, none⟩))] ?_
 refine XK.still [] [] [0, 1] (by simp) rfl (by decide) (by decide) fun q0 _ _ Jv => ?_
 refine XK.block ?_
 refine XK.loop (fun m e R H => ∃ (k : Nat) (vs : List Value) (q : Piece), k ≤ n2 ∧ m = n2 - k ∧ lA w q ∧ Rows (oK (dU q)) 1 ((mH s).take k) (vs.map fun v => [v]) ∧ vs.length = k ∧ e = [(13, .int .i64 k), (12, .int .i64 n2), (11, .slice A2 n2 k2), (3, .slice (some ⟨g2, 0, none⟩) n2 n2), (1, .pointer (some ⟨g1, 0, none⟩))] ∧ R = [q, all w] ∧ H = [HP.aF g2 22 (vs ++ List.replicate (n2 - k) (.slice none 0 0)), HP.aF g1 29 [.slice A1 n1 k1, .slice A2 n2 k2, .slice A3 n3 k3, .slice A4 n4 k4]]) n2 ⟨0, [], _, by omega, rfl, Jv (by simp) (by simp), trivial, rfl, rfl, rfl, rfl⟩ fun m e R H hI => ?_
 obtain ⟨k, vs, q, hk, rfl, wG, hrows, hvl, rfl, rfl, rfl⟩ := hI
 refine XK.seq ?_
 refine XK.region ?_
 refine hJ rfl rfl (by decide) ?_
 refine XK.aE ?_
 refine XK.seq ?_
 refine XK.if_ rfl (fun h => ?_) (fun h => ?_)
 ·
  refine XK.skip ?_
  refine XK.norm ?_
  refine XK.seq ?_
  refine XK.block ?_
  refine XK.seq ?_
  have hkn : k < s.domains.length := by omega
  obtain ⟨e, he⟩ : ∃ e, s.domains[k]? = some e := ⟨_, List.getElem?_eq_getElem hkn⟩
  obtain ⟨b, off, r, rfl, hrl, hR, hro⟩ := hW.dom.row he
  obtain rfl := hR
  have Es : (mH s)[k]? = some (if e.above = -1 then [] else [e.above]) := by simp [mH, he]
  refine XK.region ?_
  refine aG rfl (by decide) ?_
  refine dH (k) (off + k * 3) (el := 75) (sz := 3) (by kernel_rfl) (by kernel_rfl) rfl rfl (by omega) (by omega) (by omega) (by decide) ?_
  refine iK 3 rfl ?_
  refine bZ (cs := [.int .i64 0, .int .i64 0, .bool false]) (aM (by kernel_rfl)) (by decide) fun g3 => ?_
  refine aL rfl (by decide) ?_
  refine eJ rfl rfl ?_; simp only [cC, Value.cells, List.set, List.take, List.drop, List.nil_append, List.append_nil, List.length_cons, List.length_nil, List.cons_append, Nat.reduceAdd]
  refine XK.aE ?_
  refine XK.seq ?_
  refine XK.region ?_
  refine bL (off := 0) (by kernel_rfl) rfl (by decide) ?_
  refine cP rfl ?_
  refine oP rfl rfl (by decide) ?_
  refine XK.aE ?_
  refine XK.if_ rfl (fun h => ?_) (fun h => ?_)
  ·
   refine XK.region ?_
   refine aG rfl (by decide) ?_
   refine aG rfl (by decide) ?_
   refine bL (off := 0) (by kernel_rfl) rfl (by decide) ?_
   refine cP rfl ?_
   refine eP (el := 3) (sz := 1) (zs := [.int .i64 0]) (by kernel_rfl) (aM (by kernel_rfl)) (by kernel_rfl) rfl (by decide) (by decide) rfl (by simp [aR, aU, Value.cells, List.range_succ, List.set]; rfl) (by decide) fun g4 => ?_
   refine dH (k) (k) (el := 22) (sz := 1) (by kernel_rfl) (by kernel_rfl) rfl rfl (by omega) (by omega) (by omega) (by decide) ?_
   refine yT 2 rfl (by kernel_rfl) rfl rfl rfl (by simp; omega) ?_
   dsimp only [List.set]
   rw [Vx hvl (by omega)]
   refine XK.aE ?_
   refine XK.region ?_
   refine dO rfl rfl (bA (by omega)) (by decide) ?_
   refine aG rfl (by decide) ?_
   refine XK.aE ?_
   refine XK.still [q] [0] [2, 3] (by simp) rfl (by decide) (by decide) fun q' mE hle Pb => ?_
   obtain ⟨Fg, hsg, hzg⟩ := mE 0 _ (by simp) rfl
   have Br := aH.pE (n := 1) (sz := 1) (c := 0) hsg hzg rfl
   exact XK.weak [0, 1] rfl (by decide) (by simp) (XK.aK [(13, .int .i64 (k + 1)), (12, .int .i64 n2), (11, .slice (some ⟨b, off, none⟩) n2 k2), (3, .slice (some ⟨g2, 0, none⟩) n2 n2), (1, .pointer (some ⟨g1, 0, none⟩))] (XK.round (n2 - (k + 1)) (by omega) ⟨k + 1, vs ++ [_], q', by omega, rfl, Pb (by simp) (by simpa using wG), Na hrows (hle q (by simp)) Es (by rw [if_neg h]; exact ⟨_, 1, 1, rfl, rfl, Br⟩), by simp [hvl], rfl, rfl, rfl⟩))
  ·
   refine XK.skip ?_
   refine XK.norm ?_
   refine XK.region ?_
   refine dO rfl rfl (bA (by omega)) (by decide) ?_
   refine aG rfl (by decide) ?_
   refine XK.aE ?_
   rw [aGH (k := k) (by omega)]
   exact XK.weak [1, 2] rfl (by decide) (by simp) (XK.aK [(13, .int .i64 (k + 1)), (12, .int .i64 n2), (11, .slice (some ⟨b, off, none⟩) n2 k2), (3, .slice (some ⟨g2, 0, none⟩) n2 n2), (1, .pointer (some ⟨g1, 0, none⟩))] (XK.round (n2 - (k + 1)) (by omega) ⟨k + 1, vs ++ [_], q, by omega, rfl, wG, Na hrows (fun b hb => ⟨hb, rfl⟩) Es (by rw [if_pos (Classical.not_not.1 h)]; exact ⟨_, 0, 0, rfl, rfl, aH.nil _ 1⟩), by simp [hvl], rfl, rfl, rfl⟩))
 ·
  refine XK.exit ?_
  refine XK.norm ?_
  refine XK.seq ?_
  obtain rfl : k = n2 := by omega
  rw [Nat.sub_self, List.replicate_zero, List.append_nil]
  rw [List.take_of_length_le (by simp [mH]; omega)] at hrows
  refine XK.region ?_
  refine aG rfl (by decide) ?_
  refine aL rfl (by decide) ?_
  refine XK.aE ?_
  refine XK.ret ?_
  refine XK.norm ?_
  refine XK.still [q] [0] [] (by simp) rfl (by decide) (by decide) fun q2 hq hle hfr => ?_
  have nE : k = (mH s).length := by simp [mH]; omega
  exact XK.aI rfl rfl fun w1 st => ⟨⟨_, rfl, some ⟨g2, 0, none⟩, k, by rw [← nE], by rw [← nE]; exact (kT.Sh hrows (hle q (by simp)) (hq 0 _ (by simp) rfl) nE).le (st.lK (by simp) (hfr (by simp) (by simpa using wG)))⟩, st.below (by simp)⟩
end
section
set_option maxHeartbeats 4000000
set_option maxRecDepth 20000
def xX (s : aC) : Int := if (12 : Int) < s.aB.length ∨ (6 : Int) < s.domains.length ∨ (6 : Int) < s.aW.length ∨ (6 : Int) < s.aA.length then 8 else gL (s.aA.map Ed)
def Py (s : aC) : List Int := [xX s, gL (s.aB.map (Cw s.aB.length)), wQ (mI s), gL (s.domains.map (Fh s.domains.length)), wQ (mH s), gL (s.aW.map Nc),
 gL (s.aA.map (Fm s.aB.length s.domains.length s.aW.length s.aA.length)), wQ (mA s)]
def Px (s : aC) : Int := gL (Py s)
theorem eO.rows {α : Type} {w : World} {R : α → List Value → Prop} {t : TypeId} {sz n : Nat} {A : Option Addr} {es : List α} (h : eO (dU (all w)) R t sz A n es) (h1 : ∀ e r, R e r → ∀ u ∈ r, u.oneCell' = true) :
  ∃ rows : List (List Value), aH (all w) sz A n rows.flatten ∧ (∀ r ∈ rows, r.length = sz) ∧ (∀ r ∈ rows, ∀ u ∈ r, u.oneCell' = true) ∧ rows.length = n ∧ n = es.length ∧ ∀ (i : Nat) (r : List Value), rows[i]? = some r → ∃ e, es[i]? = some e ∧ R e r := by
 obtain ⟨rows, h2, h3, h4⟩ := h
 refine ⟨rows, h4, h2.aCb, fun r hr => ?_, by rw [h2.len.1, h3], h3, fun i r hr => ?_⟩
 ·obtain ⟨i, hi⟩ := List.getElem?_of_mem hr
  obtain ⟨e, _, _, hR⟩ := h2.at_ hi
  exact h1 e r hR
 ·obtain ⟨e, he, _, hR⟩ := h2.at_ hr
  exact ⟨e, he, hR⟩
theorem iX.one {S : oJ} (e : dG) (r : List Value) (h : iX S e r) : ∀ u ∈ r, u.oneCell' = true := by obtain ⟨A, n, k, rfl, _⟩ := h; simp [Value.oneCell']
theorem tS.one (e : Dom) (r : List Value) (h : tS e r) : ∀ u ∈ r, u.oneCell' = true := by cases h; simp [Value.oneCell']
theorem tO.one (e : Int) (r : List Value) (h : tO e r) : ∀ u ∈ r, u.oneCell' = true := by cases h; simp [Value.oneCell']
theorem jQ.one {S : oJ} (e : bB) (r : List Value) (h : jQ S e r) : ∀ u ∈ r, u.oneCell' = true := by obtain ⟨A, n, k, A', n', k', rfl, _⟩ := h; simp [Value.oneCell']
theorem aGr (s : aC) (A1 A2 A3 A4 : Option Addr) (n1 k1 n2 k2 n3 k3 n4 k4 : Nat) (w : World) (hW : fA w s A1 n1 A2 n2 A3 n3 A4 n4) :
    Calls Tryz.prog 119 #[.agg #[.slice A1 n1 k1, .slice A2 n2 k2, .slice A3 n3 k3, .slice A4 n4 k4]] w (Rt (.int .i64 (xX s)) w) := by
  have rS := hW.qN
  have hn2 := hW.rO
  have qU := hW.uI
  have qS := hW.sS
  have cU := hW.small
  unfold aC.small at cU
  obtain ⟨hs1, fF, kY, mB, lI, qP⟩ := cU
  obtain ⟨rows, dJ, eM, sY, xO, Oo, xN⟩ := hW.dev.rows jQ.one
  refine XK.enter (vs := [.agg #[.slice A1 n1 k1, .slice A2 n2 k2, .slice A3 n3 k3, .slice A4 n4 k4]]) Tryz.func119 rfl Tryz.ntmps119 (by simp) ?_
  refine XK.go ?_
  refine bY rfl (by decide) fun g1 => ?_
  refine XK.go ?_
  refine bT (t := 7) rfl (fun hg => ?_) (fun hg => ?_)
  ·
    refine XK.go ?_
    exact XK.aI rfl rfl fun w1 st => ⟨by rw [xX, if_pos (by omega)], st.below (by simp)⟩
  ·
    refine XK.go ?_
    refine bT (t := 13) rfl (fun hg => ?_) (fun hg => ?_)
    ·
      refine XK.go ?_
      exact XK.aI rfl rfl fun w1 st => ⟨by rw [xX, if_pos (by omega)], st.below (by simp)⟩
    ·
      refine XK.go ?_
      refine bT (t := 19) rfl (fun hg => ?_) (fun hg => ?_)
      ·
        refine XK.go ?_
        exact XK.aI rfl rfl fun w1 st => ⟨by rw [xX, if_pos (by omega)], st.below (by simp)⟩
      ·
        refine XK.go ?_
        refine XK.if_ rfl (fun h => ?_) (fun h => ?_)
        ·
          refine XK.go ?_
          exact XK.aI rfl rfl fun w1 st => ⟨by rw [xX, if_pos (by omega)], st.below (by simp)⟩
        ·
          refine XK.go ?_
          refine aY (f := 137) (fi := []) (ca := []) (by kernel_rfl) rfl rfl (by decide) (fun w1 st => aB3 A4 n4 k4 198 [] rows (s.aA.map Ed) w1 (dJ.le (fU (st.started (by simp)))) eM sY xO (by simp; omega) (by omega) (by kernel_rfl) (fun i r x hr hx w2 cX => by
    have gK := (st.started (by simp)).trans (cX.mono st.size)
    obtain ⟨e, he, hR⟩ := xN i r hr
    rw [List.getElem?_map, he] at hx
    cases hx
    obtain ⟨Ar, nr, kr, Af, nf, kf, rfl, fM, hnf, _, sX⟩ := hR
    exact aGs e.aQ e.iO _ _ _ _ _ _ _ _ _ _ w2 fM hnf)) ?_
          refine XK.go ?_
          exact XK.aI rfl rfl fun w1 st => ⟨by rw [xX, if_neg (by omega)], st.below (by simp)⟩
theorem check_1 (s : aC) (A1 A2 A3 A4 : Option Addr) (n1 k1 n2 k2 n3 k3 n4 k4 : Nat) (w : World) (hW : fA w s A1 n1 A2 n2 A3 n3 A4 n4) (gs : Nat) (hs : cZ w gs 0 [.slice A1 n1 k1, .slice A2 n2 k2, .slice A3 n3 k3, .slice A4 n4 k4]) :
  Calls Tryz.prog 118 #[.pointer (some ⟨gs, 0, none⟩)] w (Rt (.int .i64 (xX s)) w) := by
 have rS := hW.qN
 have hn2 := hW.rO
 have qU := hW.uI
 have qS := hW.sS
 have cU := hW.small
 unfold aC.small at cU
 obtain ⟨hs1, fF, kY, mB, lI, qP⟩ := cU
 refine XK.enter (vs := [.pointer (some ⟨gs, 0, none⟩)]) Tryz.func118 rfl Tryz.ntmps118 (by simp) ?_
 refine XK.seq ?_
 refine XK.region ?_
 refine aL rfl (by decide) ?_
 refine XK.aE ?_
 refine XK.seq ?_
 refine XK.region ?_
 refine iK 4 rfl ?_
 refine aY (f := 119) (fi := []) (ca := []) (by kernel_rfl) rfl rfl (by decide) (fun w1 st => aGr s A1 A2 A3 A4 n1 k1 n2 k2 n3 k3 n4 k4 w1 (hW.le (st.started (by simp)))) ?_
 refine aL rfl (by decide) ?_
 refine XK.aE ?_
 refine XK.ret ?_
 refine XK.norm ?_
 exact XK.aI rfl rfl fun w1 st => ⟨rfl, st.below (by simp)⟩
theorem aHS (kind rate mul div lock : Int) (A : Option Addr) (n k : Nat) (A1 A2 A3 A4 : Option Addr) (n1 k1 n2 k2 n3 k3 n4 k4 : Nat) (gs : Nat) (w : World) (hs : cZ w gs 0 [.slice A1 n1 k1, .slice A2 n2 k2, .slice A3 n3 k3, .slice A4 n4 k4]) (lH : (n1 : Int) ≤ 9223372036854775806) (zs : List Int) (hA : aH (all w) 1 A n (aO zs)) (hn : n = zs.length) (hz : (n : Int) ≤ 9223372036854775806) :
  Calls Tryz.prog 122 #[.agg #[.int .u8 kind, .slice A n k, .int .u64 rate, .int .i64 mul, .int .i64 div, .int .i64 lock], .pointer (some ⟨gs, 0, none⟩)] w (Rt (.int .i64 (Cw n1 ⟨kind, zs, rate, mul, div, lock⟩)) w) := by
 refine XK.enter (vs := [.agg #[.int .u8 kind, .slice A n k, .int .u64 rate, .int .i64 mul, .int .i64 div, .int .i64 lock], .pointer (some ⟨gs, 0, none⟩)]) Tryz.func122 rfl Tryz.ntmps122 (by simp) ?_
 refine XK.seq ?_
 refine XK.region ?_
 refine bY rfl (by decide) fun g1 => ?_
 refine aL rfl (by decide) ?_
 refine XK.aE ?_
 refine XK.seq ?_
 refine XK.region ?_
 refine iK 4 rfl ?_
 refine iK 6 rfl ?_
 refine aY (f := 123) (fi := []) (ca := []) (by kernel_rfl) rfl rfl (by decide) (fun w1 st => aH4 kind rate mul div lock A n k A1 A2 A3 A4 n1 k1 n2 k2 n3 k3 n4 k4 w1 lH zs (hA.le (fU (st.started (by simp)))) hn hz) ?_
 refine aL rfl (by decide) ?_
 refine XK.aE ?_
 refine XK.ret ?_
 refine XK.norm ?_
 exact XK.aI rfl rfl fun w1 st => ⟨rfl, st.below (by simp)⟩
theorem aHP (above delay : Int) (ret : Bool) (A1 A2 A3 A4 : Option Addr) (n1 k1 n2 k2 n3 k3 n4 k4 : Nat) (gs : Nat) (w : World) (hs : cZ w gs 0 [.slice A1 n1 k1, .slice A2 n2 k2, .slice A3 n3 k3, .slice A4 n4 k4]) (lG : (n2 : Int) ≤ 9223372036854775806) :
  Calls Tryz.prog 129 #[.agg #[.int .i64 above, .int .i64 delay, .bool ret], .pointer (some ⟨gs, 0, none⟩)] w (Rt (.int .i64 (Fh n2 ⟨above, delay, ret⟩)) w) := by
 refine XK.enter (vs := [.agg #[.int .i64 above, .int .i64 delay, .bool ret], .pointer (some ⟨gs, 0, none⟩)]) Tryz.func129 rfl Tryz.ntmps129 (by simp) ?_
 refine XK.seq ?_
 refine XK.region ?_
 refine bY rfl (by decide) fun g1 => ?_
 refine aL rfl (by decide) ?_
 refine XK.aE ?_
 refine XK.seq ?_
 refine XK.region ?_
 refine iK 4 rfl ?_
 refine iK 3 rfl ?_
 refine aY (f := 130) (fi := []) (ca := []) (by kernel_rfl) rfl rfl (by decide) (fun w1 st => aHf above delay ret A1 A2 A3 A4 n1 k1 n2 k2 n3 k3 n4 k4 w1 lG) ?_
 refine aL rfl (by decide) ?_
 refine XK.aE ?_
 refine XK.ret ?_
 refine XK.norm ?_
 exact XK.aI rfl rfl fun w1 st => ⟨rfl, st.below (by simp)⟩
theorem aHL (rg : List Rg) (clock domain reset eS : Int) (A B : Option Addr) (n k nb kb : Nat) (A1 A2 A3 A4 : Option Addr) (n1 k1 n2 k2 n3 k3 n4 k4 : Nat) (gs : Nat) (w : World) (hs : cZ w gs 0 [.slice A1 n1 k1, .slice A2 n2 k2, .slice A3 n3 k3, .slice A4 n4 k4]) (lH : (n1 : Int) ≤ 9223372036854775806) (lG : (n2 : Int) ≤ 9223372036854775806) (Of : (n3 : Int) ≤ 9223372036854775806) (Ej : (n4 : Int) ≤ 9223372036854775806) (zs : List Int) (hA : aH (all w) 1 A n (aO zs)) (hn : n = zs.length) (hz : (n : Int) ≤ 9223372036854775806) :
  Calls Tryz.prog 138 #[.agg #[.int .i64 clock, .int .i64 domain, .int .i64 reset, .int .u32 eS, .slice B nb kb, .slice A n k], .pointer (some ⟨gs, 0, none⟩)] w (Rt (.int .i64 (Fm n1 n2 n3 n4 ⟨clock, domain, reset, eS, rg, zs⟩)) w) := by
 refine XK.enter (vs := [.agg #[.int .i64 clock, .int .i64 domain, .int .i64 reset, .int .u32 eS, .slice B nb kb, .slice A n k], .pointer (some ⟨gs, 0, none⟩)]) Tryz.func138 rfl Tryz.ntmps138 (by simp) ?_
 refine XK.seq ?_
 refine XK.region ?_
 refine bY rfl (by decide) fun g1 => ?_
 refine aL rfl (by decide) ?_
 refine XK.aE ?_
 refine XK.seq ?_
 refine XK.region ?_
 refine iK 4 rfl ?_
 refine iK 6 rfl ?_
 refine aY (f := 139) (fi := []) (ca := []) (by kernel_rfl) rfl rfl (by decide) (fun w1 st => aHp rg clock domain reset eS A B n k nb kb A1 A2 A3 A4 n1 k1 n2 k2 n3 k3 n4 k4 w1 lH lG Of Ej zs (hA.le (fU (st.started (by simp)))) hn hz) ?_
 refine aL rfl (by decide) ?_
 refine XK.aE ?_
 refine XK.ret ?_
 refine XK.norm ?_
 exact XK.aI rfl rfl fun w1 st => ⟨rfl, st.below (by simp)⟩
theorem aHT (s : aC) (A1 A2 A3 A4 : Option Addr) (n1 k1 n2 k2 n3 k3 n4 k4 : Nat) (w : World) (hW : fA w s A1 n1 A2 n2 A3 n3 A4 n4) (gs : Nat) (hs : cZ w gs 0 [.slice A1 n1 k1, .slice A2 n2 k2, .slice A3 n3 k3, .slice A4 n4 k4]) :
  Calls Tryz.prog 120 #[.pointer (some ⟨gs, 0, none⟩)] w (Rt (.int .i64 (gL (s.aB.map (Cw s.aB.length)))) w) := by
 have rS := hW.qN
 have hn2 := hW.rO
 have qU := hW.uI
 have qS := hW.sS
 have cU := hW.small
 unfold aC.small at cU
 obtain ⟨hs1, fF, kY, mB, lI, qP⟩ := cU
 obtain ⟨rows, dJ, eM, sY, xO, Oo, xN⟩ := hW.fH.rows iX.one
 rw [← rS]
 refine XK.enter (vs := [.pointer (some ⟨gs, 0, none⟩)]) Tryz.func120 rfl Tryz.ntmps120 (by simp) ?_
 refine XK.go ?_
 refine iL (vf := []) (vc := [.pointer (some ⟨gs, 0, none⟩)]) rfl rfl (by decide) ?_
 refine aY (f := 121) (fi := []) (ca := []) (by kernel_rfl) rfl rfl (by decide) (fun w1 st => aGV A1 n1 k1 122 [.pointer (some ⟨gs, 0, none⟩)] rows (s.aB.map (Cw n1)) w1 (dJ.le (fU (st.started (by simp)))) eM sY xO (by simp; omega) (by omega) (by kernel_rfl) (fun i r x hr hx w2 cX => by
  have gK := (st.started (by simp)).trans (cX.mono st.size)
  obtain ⟨e, he, hR⟩ := xN i r hr
  rw [List.getElem?_map, he] at hx
  cases hx
  obtain ⟨Af, nf, kf, rfl, hnf, sX⟩ := hR
  exact aHS _ _ _ _ _ _ _ _ A1 A2 A3 A4 n1 k1 n2 k2 n3 k3 n4 k4 gs w2 (hs.below gK) (by omega) e.src (aH.le sX (fU gK)) hnf (by have := lI e (List.mem_of_getElem? he); omega))) ?_
 refine XK.go ?_
 exact XK.aI rfl rfl fun w1 st => ⟨rfl, st.below (by simp)⟩
theorem aHQ (s : aC) (A1 A2 A3 A4 : Option Addr) (n1 k1 n2 k2 n3 k3 n4 k4 : Nat) (w : World) (hW : fA w s A1 n1 A2 n2 A3 n3 A4 n4) (gs : Nat) (hs : cZ w gs 0 [.slice A1 n1 k1, .slice A2 n2 k2, .slice A3 n3 k3, .slice A4 n4 k4]) :
  Calls Tryz.prog 127 #[.pointer (some ⟨gs, 0, none⟩)] w (Rt (.int .i64 (gL (s.domains.map (Fh s.domains.length)))) w) := by
 have rS := hW.qN
 have hn2 := hW.rO
 have qU := hW.uI
 have qS := hW.sS
 have cU := hW.small
 unfold aC.small at cU
 obtain ⟨hs1, fF, kY, mB, lI, qP⟩ := cU
 obtain ⟨rows, dJ, eM, sY, xO, Oo, xN⟩ := hW.dom.rows tS.one
 rw [← hn2]
 refine XK.enter (vs := [.pointer (some ⟨gs, 0, none⟩)]) Tryz.func127 rfl Tryz.ntmps127 (by simp) ?_
 refine XK.go ?_
 refine iL (vf := []) (vc := [.pointer (some ⟨gs, 0, none⟩)]) rfl rfl (by decide) ?_
 refine aY (f := 128) (fi := []) (ca := []) (by kernel_rfl) rfl rfl (by decide) (fun w1 st => aGU A2 n2 k2 129 [.pointer (some ⟨gs, 0, none⟩)] rows (s.domains.map (Fh n2)) w1 (dJ.le (fU (st.started (by simp)))) eM sY xO (by simp; omega) (by omega) (by kernel_rfl) (fun i r x hr hx w2 cX => by
  have gK := (st.started (by simp)).trans (cX.mono st.size)
  obtain ⟨e, he, hR⟩ := xN i r hr
  rw [List.getElem?_map, he] at hx
  cases hx
  obtain rfl := hR
  exact aHP _ _ _ A1 A2 A3 A4 n1 k1 n2 k2 n3 k3 n4 k4 gs w2 (hs.below gK) (by omega))) ?_
 refine XK.go ?_
 exact XK.aI rfl rfl fun w1 st => ⟨rfl, st.below (by simp)⟩
theorem aHN (s : aC) (A1 A2 A3 A4 : Option Addr) (n1 k1 n2 k2 n3 k3 n4 k4 : Nat) (w : World) (hW : fA w s A1 n1 A2 n2 A3 n3 A4 n4) (gs : Nat) (hs : cZ w gs 0 [.slice A1 n1 k1, .slice A2 n2 k2, .slice A3 n3 k3, .slice A4 n4 k4]) :
  Calls Tryz.prog 133 #[.pointer (some ⟨gs, 0, none⟩)] w (Rt (.int .i64 (gL (s.aW.map Nc))) w) := by
 have rS := hW.qN
 have hn2 := hW.rO
 have qU := hW.uI
 have qS := hW.sS
 have cU := hW.small
 unfold aC.small at cU
 obtain ⟨hs1, fF, kY, mB, lI, qP⟩ := cU
 obtain ⟨rows, dJ, eM, sY, xO, Oo, xN⟩ := hW.rL.rows tO.one
 refine XK.enter (vs := [.pointer (some ⟨gs, 0, none⟩)]) Tryz.func133 rfl Tryz.ntmps133 (by simp) ?_
 refine XK.go ?_
 refine aY (f := 134) (fi := []) (ca := []) (by kernel_rfl) rfl rfl (by decide) (fun w1 st => aGT A3 n3 k3 135 [] rows (s.aW.map Nc) w1 (dJ.le (fU (st.started (by simp)))) eM sY xO (by simp; omega) (by omega) (by kernel_rfl) (fun i r x hr hx w2 cX => by
  have gK := (st.started (by simp)).trans (cX.mono st.size)
  obtain ⟨e, he, hR⟩ := xN i r hr
  rw [List.getElem?_map, he] at hx
  cases hx
  obtain rfl := hR
  exact aD8 _ w2)) ?_
 refine XK.go ?_
 exact XK.aI rfl rfl fun w1 st => ⟨rfl, st.below (by simp)⟩
theorem aHM (s : aC) (A1 A2 A3 A4 : Option Addr) (n1 k1 n2 k2 n3 k3 n4 k4 : Nat) (w : World) (hW : fA w s A1 n1 A2 n2 A3 n3 A4 n4) (gs : Nat) (hs : cZ w gs 0 [.slice A1 n1 k1, .slice A2 n2 k2, .slice A3 n3 k3, .slice A4 n4 k4]) :
  Calls Tryz.prog 136 #[.pointer (some ⟨gs, 0, none⟩)] w (Rt (.int .i64 (gL (s.aA.map (Fm s.aB.length s.domains.length s.aW.length s.aA.length)))) w) := by
 have rS := hW.qN
 have hn2 := hW.rO
 have qU := hW.uI
 have qS := hW.sS
 have cU := hW.small
 unfold aC.small at cU
 obtain ⟨hs1, fF, kY, mB, lI, qP⟩ := cU
 obtain ⟨rows, dJ, eM, sY, xO, Oo, xN⟩ := hW.dev.rows jQ.one
 rw [← rS, ← hn2, ← qU, ← qS]
 refine XK.enter (vs := [.pointer (some ⟨gs, 0, none⟩)]) Tryz.func136 rfl Tryz.ntmps136 (by simp) ?_
 refine XK.go ?_
 refine iL (vf := []) (vc := [.pointer (some ⟨gs, 0, none⟩)]) rfl rfl (by decide) ?_
 refine aY (f := 137) (fi := []) (ca := []) (by kernel_rfl) rfl rfl (by decide) (fun w1 st => aB3 A4 n4 k4 138 [.pointer (some ⟨gs, 0, none⟩)] rows (s.aA.map (Fm n1 n2 n3 n4)) w1 (dJ.le (fU (st.started (by simp)))) eM sY xO (by simp; omega) (by omega) (by kernel_rfl) (fun i r x hr hx w2 cX => by
  have gK := (st.started (by simp)).trans (cX.mono st.size)
  obtain ⟨e, he, hR⟩ := xN i r hr
  rw [List.getElem?_map, he] at hx
  cases hx
  obtain ⟨Ar, nr, kr, Af, nf, kf, rfl, fM, hnf, _, sX⟩ := hR
  exact aHL e.aQ _ _ _ _ _ _ _ _ _ _ A1 A2 A3 A4 n1 k1 n2 k2 n3 k3 n4 k4 gs w2 (hs.below gK) (by omega) (by omega) (by omega) (by omega) e.iO (aH.le sX (fU gK)) hnf (by have := qP e (List.mem_of_getElem? he); omega))) ?_
 refine XK.go ?_
 exact XK.aI rfl rfl fun w1 st => ⟨rfl, st.below (by simp)⟩
theorem aHR (s : aC) (A1 A2 A3 A4 : Option Addr) (n1 k1 n2 k2 n3 k3 n4 k4 : Nat) (w : World) (hW : fA w s A1 n1 A2 n2 A3 n3 A4 n4) (gs : Nat) (hs : cZ w gs 0 [.slice A1 n1 k1, .slice A2 n2 k2, .slice A3 n3 k3, .slice A4 n4 k4]) :
  Calls Tryz.prog 124 #[.pointer (some ⟨gs, 0, none⟩)] w (Rt (.int .i64 (wQ (mI s))) w) := by
 have rS := hW.qN
 have hn2 := hW.rO
 have qU := hW.uI
 have qS := hW.sS
 have cU := hW.small
 unfold aC.small at cU
 obtain ⟨hs1, fF, kY, mB, lI, qP⟩ := cU
 refine XK.enter (vs := [.pointer (some ⟨gs, 0, none⟩)]) Tryz.func124 rfl Tryz.ntmps124 (by simp) ?_
 refine XK.seq ?_
 refine XK.region ?_
 refine aL rfl (by decide) ?_
 refine XK.aE ?_
 refine XK.seq ?_
 refine XK.region ?_
 refine iK 4 rfl ?_
 refine iY [] (f := 126) (fi := []) (ca := []) (by kernel_rfl) rfl rfl (by decide) (by simp) (Gb (mI s)) (fun w1 st => aH3 s A1 A2 A3 A4 n1 k1 n2 k2 n3 k3 n4 k4 w1 (hW.le (st.started (by simp)))) ?_
 rintro _ w1 q ⟨Ag, cg, rfl, Js⟩ hf' _ Pb
 have Jt := Js.le hf'
 have nE : (mI s).length = n1 := by simp [mI]; omega
 refine aY (f := 125) (fi := []) (ca := []) (by kernel_rfl) rfl rfl (by decide) (fun w1 st => Wq Ag _ cg (mI s) w1 (Jt.le (st.le (by simp))) rfl (by omega) (fun l hl => by
  simp only [mI, List.mem_map] at hl
  obtain ⟨x, hx, rfl⟩ := hl
  have := lI x hx; omega)) ?_
 refine aL rfl (by decide) ?_
 refine XK.aE ?_
 refine XK.ret ?_
 refine XK.norm ?_
 exact XK.aI rfl rfl fun w1 st => ⟨rfl, st.below (by simp)⟩
theorem aHO (s : aC) (A1 A2 A3 A4 : Option Addr) (n1 k1 n2 k2 n3 k3 n4 k4 : Nat) (w : World) (hW : fA w s A1 n1 A2 n2 A3 n3 A4 n4) (gs : Nat) (hs : cZ w gs 0 [.slice A1 n1 k1, .slice A2 n2 k2, .slice A3 n3 k3, .slice A4 n4 k4]) :
  Calls Tryz.prog 131 #[.pointer (some ⟨gs, 0, none⟩)] w (Rt (.int .i64 (wQ (mH s))) w) := by
 have rS := hW.qN
 have hn2 := hW.rO
 have qU := hW.uI
 have qS := hW.sS
 have cU := hW.small
 unfold aC.small at cU
 obtain ⟨hs1, fF, kY, mB, lI, qP⟩ := cU
 refine XK.enter (vs := [.pointer (some ⟨gs, 0, none⟩)]) Tryz.func131 rfl Tryz.ntmps131 (by simp) ?_
 refine XK.seq ?_
 refine XK.region ?_
 refine aL rfl (by decide) ?_
 refine XK.aE ?_
 refine XK.seq ?_
 refine XK.region ?_
 refine iK 4 rfl ?_
 refine iY [] (f := 132) (fi := []) (ca := []) (by kernel_rfl) rfl rfl (by decide) (by simp) (Gb (mH s)) (fun w1 st => aHe s A1 A2 A3 A4 n1 k1 n2 k2 n3 k3 n4 k4 w1 (hW.le (st.started (by simp)))) ?_
 rintro _ w1 q ⟨Ag, cg, rfl, Js⟩ hf' _ Pb
 have Jt := Js.le hf'
 have nE : (mH s).length = n2 := by simp [mH]; omega
 refine aY (f := 125) (fi := []) (ca := []) (by kernel_rfl) rfl rfl (by decide) (fun w1 st => Wq Ag _ cg (mH s) w1 (Jt.le (st.le (by simp))) rfl (by omega) (fun l hl => by
  simp only [mH, List.mem_map] at hl
  obtain ⟨x, hx, rfl⟩ := hl
  split <;> simp)) ?_
 refine aL rfl (by decide) ?_
 refine XK.aE ?_
 refine XK.ret ?_
 refine XK.norm ?_
 exact XK.aI rfl rfl fun w1 st => ⟨rfl, st.below (by simp)⟩
theorem aHK (s : aC) (A1 A2 A3 A4 : Option Addr) (n1 k1 n2 k2 n3 k3 n4 k4 : Nat) (w : World) (hW : fA w s A1 n1 A2 n2 A3 n3 A4 n4) (gs : Nat) (hs : cZ w gs 0 [.slice A1 n1 k1, .slice A2 n2 k2, .slice A3 n3 k3, .slice A4 n4 k4]) :
  Calls Tryz.prog 140 #[.pointer (some ⟨gs, 0, none⟩)] w (Rt (.int .i64 (wQ (mA s))) w) := by
 have rS := hW.qN
 have hn2 := hW.rO
 have qU := hW.uI
 have qS := hW.sS
 have cU := hW.small
 unfold aC.small at cU
 obtain ⟨hs1, fF, kY, mB, lI, qP⟩ := cU
 refine XK.enter (vs := [.pointer (some ⟨gs, 0, none⟩)]) Tryz.func140 rfl Tryz.ntmps140 (by simp) ?_
 refine XK.seq ?_
 refine XK.region ?_
 refine aL rfl (by decide) ?_
 refine XK.aE ?_
 refine XK.seq ?_
 refine XK.region ?_
 refine iK 4 rfl ?_
 refine iY [] (f := 112) (fi := []) (ca := []) (by kernel_rfl) rfl rfl (by decide) (by simp) (Gb (mA s)) (fun w1 st => aE8 s A1 A2 A3 A4 n1 k1 n2 k2 n3 k3 n4 k4 w1 (hW.le (st.started (by simp)))) ?_
 rintro _ w1 q ⟨Ag, cg, rfl, Js⟩ hf' _ Pb
 have Jt := Js.le hf'
 have nE : (mA s).length = n4 := by simp [mA]; omega
 refine aY (f := 125) (fi := []) (ca := []) (by kernel_rfl) rfl rfl (by decide) (fun w1 st => Wq Ag _ cg (mA s) w1 (Jt.le (st.le (by simp))) rfl (by omega) (fun l hl => by
  simp only [mA, List.mem_map] at hl
  obtain ⟨x, hx, rfl⟩ := hl
  have := qP x hx; omega)) ?_
 refine aL rfl (by decide) ?_
 refine XK.aE ?_
 refine XK.ret ?_
 refine XK.norm ?_
 exact XK.aI rfl rfl fun w1 st => ⟨rfl, st.below (by simp)⟩
theorem aBK (s : aC) (A1 A2 A3 A4 : Option Addr) (n1 k1 n2 k2 n3 k3 n4 k4 : Nat) (w : World) (hW : fA w s A1 n1 A2 n2 A3 n3 A4 n4) :
  Calls Tryz.prog 59 #[.agg #[.slice A1 n1 k1, .slice A2 n2 k2, .slice A3 n3 k3, .slice A4 n4 k4]] w (Rt (.int .i64 (Px s)) w) := by
 refine XK.enter (vs := [.agg #[.slice A1 n1 k1, .slice A2 n2 k2, .slice A3 n3 k3, .slice A4 n4 k4]]) Tryz.func59 rfl Tryz.ntmps59 (by simp) ?_
 refine XK.seq ?_
 refine XK.region ?_
 refine bY rfl (by decide) fun g1 => ?_
 refine aL rfl (by decide) ?_
 refine XK.aE ?_
 refine XK.seq ?_
 refine XK.region ?_
 refine iL (vf := []) (vc := [.pointer (some ⟨g1, 0, none⟩)]) rfl rfl (by decide) ?_
 refine iL (vf := []) (vc := [.pointer (some ⟨g1, 0, none⟩)]) rfl rfl (by decide) ?_
 refine iL (vf := []) (vc := [.pointer (some ⟨g1, 0, none⟩)]) rfl rfl (by decide) ?_
 refine iL (vf := []) (vc := [.pointer (some ⟨g1, 0, none⟩)]) rfl rfl (by decide) ?_
 refine iL (vf := []) (vc := [.pointer (some ⟨g1, 0, none⟩)]) rfl rfl (by decide) ?_
 refine iL (vf := []) (vc := [.pointer (some ⟨g1, 0, none⟩)]) rfl rfl (by decide) ?_
 refine iL (vf := []) (vc := [.pointer (some ⟨g1, 0, none⟩)]) rfl rfl (by decide) ?_
 refine iL (vf := []) (vc := [.pointer (some ⟨g1, 0, none⟩)]) rfl rfl (by decide) ?_
 refine eP (el := 113) (sz := 1) (zs := [.nilFunc]) (by kernel_rfl) (aM (by kernel_rfl)) (by kernel_rfl) rfl (by decide) (by decide) rfl (by simp [aR, aU, Value.cells, List.range_succ, List.set]; rfl) (by decide) fun g2 => ?_
 refine aY (f := 117) (fi := []) (ca := []) (by kernel_rfl) rfl rfl (by decide) (fun w1 st => Pp _ _ _ [(118, [.pointer (some ⟨g1, 0, none⟩)]), (120, [.pointer (some ⟨g1, 0, none⟩)]), (124, [.pointer (some ⟨g1, 0, none⟩)]), (127, [.pointer (some ⟨g1, 0, none⟩)]), (131, [.pointer (some ⟨g1, 0, none⟩)]), (133, [.pointer (some ⟨g1, 0, none⟩)]), (136, [.pointer (some ⟨g1, 0, none⟩)]), (140, [.pointer (some ⟨g1, 0, none⟩)])] (Py s) w1 (st.uF (i := 0) (n := 8) (sz := 1) (cs := [.func (.func 118) #[] #[.pointer (some ⟨g1, 0, none⟩)], .func (.func 120) #[] #[.pointer (some ⟨g1, 0, none⟩)], .func (.func 124) #[] #[.pointer (some ⟨g1, 0, none⟩)], .func (.func 127) #[] #[.pointer (some ⟨g1, 0, none⟩)], .func (.func 131) #[] #[.pointer (some ⟨g1, 0, none⟩)], .func (.func 133) #[] #[.pointer (some ⟨g1, 0, none⟩)], .func (.func 136) #[] #[.pointer (some ⟨g1, 0, none⟩)], .func (.func 140) #[] #[.pointer (some ⟨g1, 0, none⟩)]]) rfl rfl) rfl rfl (by decide) (by simp only [List.mem_cons, List.not_mem_nil, or_false]; rintro f (rfl | rfl | rfl | rfl | rfl | rfl | rfl | rfl) <;> kernel_rfl) (fun i f x hf hx w2 cX => by
  have gK := (st.started (by simp)).trans (cX.mono st.size)
  unfold Py at hx
  match i, hf, hx with
  | 0, hf, hx => cases hf; cases hx; exact check_1 s A1 A2 A3 A4 n1 k1 n2 k2 n3 k3 n4 k4 w2 (hW.le gK) g1 (st.box (cs := [.slice A1 n1 k1, .slice A2 n2 k2, .slice A3 n3 k3, .slice A4 n4 k4]) (i := 1) rfl |>.below cX)
  | 1, hf, hx => cases hf; cases hx; exact aHT s A1 A2 A3 A4 n1 k1 n2 k2 n3 k3 n4 k4 w2 (hW.le gK) g1 (st.box (cs := [.slice A1 n1 k1, .slice A2 n2 k2, .slice A3 n3 k3, .slice A4 n4 k4]) (i := 1) rfl |>.below cX)
  | 2, hf, hx => cases hf; cases hx; exact aHR s A1 A2 A3 A4 n1 k1 n2 k2 n3 k3 n4 k4 w2 (hW.le gK) g1 (st.box (cs := [.slice A1 n1 k1, .slice A2 n2 k2, .slice A3 n3 k3, .slice A4 n4 k4]) (i := 1) rfl |>.below cX)
  | 3, hf, hx => cases hf; cases hx; exact aHQ s A1 A2 A3 A4 n1 k1 n2 k2 n3 k3 n4 k4 w2 (hW.le gK) g1 (st.box (cs := [.slice A1 n1 k1, .slice A2 n2 k2, .slice A3 n3 k3, .slice A4 n4 k4]) (i := 1) rfl |>.below cX)
  | 4, hf, hx => cases hf; cases hx; exact aHO s A1 A2 A3 A4 n1 k1 n2 k2 n3 k3 n4 k4 w2 (hW.le gK) g1 (st.box (cs := [.slice A1 n1 k1, .slice A2 n2 k2, .slice A3 n3 k3, .slice A4 n4 k4]) (i := 1) rfl |>.below cX)
  | 5, hf, hx => cases hf; cases hx; exact aHN s A1 A2 A3 A4 n1 k1 n2 k2 n3 k3 n4 k4 w2 (hW.le gK) g1 (st.box (cs := [.slice A1 n1 k1, .slice A2 n2 k2, .slice A3 n3 k3, .slice A4 n4 k4]) (i := 1) rfl |>.below cX)
  | 6, hf, hx => cases hf; cases hx; exact aHM s A1 A2 A3 A4 n1 k1 n2 k2 n3 k3 n4 k4 w2 (hW.le gK) g1 (st.box (cs := [.slice A1 n1 k1, .slice A2 n2 k2, .slice A3 n3 k3, .slice A4 n4 k4]) (i := 1) rfl |>.below cX)
  | 7, hf, hx => cases hf; cases hx; exact aHK s A1 A2 A3 A4 n1 k1 n2 k2 n3 k3 n4 k4 w2 (hW.le gK) g1 (st.box (cs := [.slice A1 n1 k1, .slice A2 n2 k2, .slice A3 n3 k3, .slice A4 n4 k4]) (i := 1) rfl |>.below cX)
  | i + 8, hf, _ => simp at hf)) ?_
 refine aL rfl (by decide) ?_
 refine XK.aE ?_
 refine XK.ret ?_
 refine XK.norm ?_
 exact XK.aI rfl rfl fun w1 st => ⟨rfl, st.below (by simp)⟩
end
section
attribute [local irreducible] KC KI KQ
def bP (l : List Bool) : List Value := l.map .bool
theorem aIe {l : List Bool} {i : Nat} {b : Bool} (h : l[i]? = some b) : (bP l)[i]? = some (.bool b) := by simp [bP, h]
def hasB (l : List Bool) (i : Nat) : Bool := l[i]?.getD false
def RP (p : Piece) (g o : Nat) (v : Value) : Prop := p.Z g ∧ p.w.cell? ⟨g, o, none⟩ = some v
theorem RP.le {p q : Piece} {g o : Nat} {v : Value} (h : RP p g o v) (hl : p.Le q) : RP q g o v := ⟨(hl g h.1).1, (World.cell?_of_block (w := p.w) (a := ⟨g, o, none⟩) (hl g h.1).2).trans h.2⟩
theorem RP.rd {w0 : World} {R : List Piece} {H : List HP} {p : Piece} {g o : Nat} {v : Value} (h : RP p g o v) (hp : p ∈ R) : Rd w0 R H g o v := Rd.ro hp h.1 h.2
theorem Iter.le {P : Program} {g : FuncId} {lb : List Value} {encs : List (List Value)} {p q : Piece} (h : Iter P g lb encs p) (hl : p.Le q) : Iter P g lb encs q := fun l J Jx W F hq hd => h l J Jx W F (fun b hb => ⟨(hq b (hl b hb).1).1, ((hq b (hl b hb).1).2).trans (hl b hb).2⟩) (fun b hb => hd b (hl b hb).1)
end
section
def Fc (ops : Array Oper) : Bool := (List.range ops.size).all fun j => match ops[j]? with
 | some o => o.after.toList.all fun x => !(Region.binds .any x) || decide (x.on < j)
 | none => true
def Vq (l : List Oper) (m : Nat) : Bool := (l.take m).all fun o => match o.guard with
 | some (j, _) => decide (j < m)
 | none => true
theorem Pr {ops : Array Oper} (h : Fc ops = true) {j : Nat} {o : Oper} (ho : ops[j]? = some o) : ∀ x ∈ o.after, Region.binds .any x = true → x.on < j := fun x hx hb => by
 have hj := (Array.getElem?_eq_some_iff.1 ho).1
 unfold Fc at h
 simp only [List.all_eq_true, List.mem_range] at h
 have := h j hj
 rw [ho] at this
 simp only [List.all_eq_true] at this
 have := this x (by simpa using hx)
 simpa [hb] using this
theorem Cl {l : Array Bool} {i : Nat} (h : i < l.size) : l.getD i true = l.getD i false := by simp [h]
def Dc (k : Nat) (listed : Array Bool) : Prop := (∀ i, i < k → listed.getD i false = true) ∧ ∀ i, k ≤ i → listed.getD i false = false
theorem aDD {ops : Array Oper} {k : Nat} {listed : Array Bool} (hE : Fc ops = true) (hd : Down ops listed) (hk : k < ops.size) (ht : ∀ j, k ≤ j → j < ops.size → Bc ops j = true) (hsz : listed.size = ops.size) (hu : Dc k listed) : k ∈ Region.ready .any ops listed ∧ ∀ i ∈ Region.ready .any ops listed, i = k := by
 constructor
 ·refine mem_ready.2 ⟨?_, _, Array.getElem?_eq_getElem hk, fun x hx hb => hu.1 _ (Pr hE (Array.getElem?_eq_getElem hk) x hx hb)⟩
  rw [Cl (by omega)]
  exact hu.2 k (Nat.le_refl _)
 ·intro i hi
  obtain ⟨h1, o, ho, h2⟩ := mem_ready.1 hi
  have hlt := (Array.getElem?_eq_some_iff.1 ho).1
  rw [Cl (by omega)] at h1
  rcases Nat.lt_trichotomy i k with h | h | h
  ·rw [hu.1 i h] at h1; cases h1
  ·exact h
  ·have := Ri hd hi (ht i (by omega) hlt) h
   rw [hu.2 k (Nat.le_refl _)] at this; cases this
theorem Dc.next {k : Nat} {listed : Array Bool} (h : Dc k listed) (hk : k < listed.size) : Dc (k + 1) (listed.setIfInBounds k true) := by
 refine ⟨fun i hi => ?_, fun i hi => ?_⟩
 ·by_cases e : k = i
  ·subst e; simp [hk]
  ·rw [getD_set_ne false e]; exact h.1 i (by omega)
 ·rw [getD_set_ne false (by omega)]; exact h.2 i (by omega)
section
variable {P : Program} {nn : Nat} {w0 : World} {e : Env} {R : List Piece} {H : List HP} {Q : Exit → Act → World → Prop} {r : Option Nat} {L : List Nat}
theorem aCY {ops : Array Oper} (hE : Fc ops = true) : ∀ (fuel k : Nat) (listed : Array Bool) (a : Act) (w : World), k ≤ ops.size → ops.size ≤ k + fuel → Down ops listed → (∀ j, k ≤ j → j < ops.size → Bc ops j = true) → listed.size = ops.size → Dc k listed →
  wpListIn (Fr r) 9 P ops Q (ops.toList.drop k) a w → wpAnyIn (Fr r) 9 P .any ops Q fuel listed a w := by
 have none : ∀ (k : Nat) (listed : Array Bool), k = ops.size → listed.size = ops.size → Dc k listed → Region.ready .any ops listed = [] := by
  intro k listed hk hsz hu
  cases hr : Region.ready .any ops listed with
  | nil => rfl
  | cons i is =>
   exfalso
   obtain ⟨h1, o, ho, _⟩ := mem_ready.1 (by rw [hr]; simp : i ∈ Region.ready .any ops listed)
   have hlt := (Array.getElem?_eq_some_iff.1 ho).1
   rw [Cl (by omega), hu.1 i (by omega)] at h1
   cases h1
 intro fuel
 induction fuel with
 | zero =>
  intro k listed a w hk hk2 hd ht hsz hu h
  rw [List.drop_eq_nil_of_le (by simp; omega)] at h
  exact ⟨none k listed (by omega) hsz hu, h⟩
 | succ fuel ih =>
  intro k listed a w hk hk2 hd ht hsz hu h
  by_cases hkn : k < ops.size
  ·obtain ⟨h1, h2⟩ := aDD hE hd hkn ht hsz hu
   refine ⟨fun hn => absurd h1 (by rw [hn]; simp), fun i hi => ?_⟩
   have := h2 i hi
   subst this
   have Ca : ops[i]? = some (ops[i]'hkn) := Array.getElem?_eq_getElem hkn
   have Ux : ops.toList.drop i = ops[i]'hkn :: ops.toList.drop (i + 1) := by
    rw [← List.getElem_cons_drop (by simpa using hkn)]; simp
   rw [Ux] at h
   unfold wpListIn at h
   unfold wpOpIn
   rw [Ca]
   have key : ∀ a w, wpListIn (Fr r) 9 P ops Q (ops.toList.drop (i + 1)) a w → wpAnyIn (Fr r) 9 P .any ops Q fuel (listed.setIfInBounds i true) a w := fun a w h => ih (i + 1) _ a w (by omega) (by omega) (hd.gH hi) (fun j hj => ht j (by omega)) (by simpa using hsz) (hu.next (by omega)) h
   dsimp only
   split
   ·rename_i hw
    rw [if_pos hw] at h
    exact Oper.wpIn_mono key h
   ·rename_i hw
    rw [if_neg hw] at h
    exact ⟨h.1, key _ _ h.2⟩
  ·rw [List.drop_eq_nil_of_le (by simp; omega)] at h
   have hn := none k listed (by omega) hsz hu
   exact ⟨fun _ => h, fun i hi => by rw [hn] at hi; cases hi⟩
structure Rel (ops : Array Oper) (m : Nat) (listed l' : Array Bool) : Prop where
 lo : ∀ i, i < m → listed.getD i false = l'.getD i false
 hi : ∀ i, m ≤ i → listed.getD i false = false
 s1 : listed.size = ops.size
 s2 : l'.size = m
 le : m ≤ ops.size
theorem Rel.gH {ops : Array Oper} {m i : Nat} {listed l' : Array Bool} (h : Rel ops m listed l') (hi : i < m) : Rel ops m (listed.setIfInBounds i true) (l'.setIfInBounds i true) := by
 have hle := h.le
 have hs := h.s1
 have fF := h.s2
 refine ⟨fun j hj => ?_, fun j hj => ?_, by simpa using h.s1, by simpa using h.s2, h.le⟩
 ·by_cases e : i = j
  ·subst e
   have h1 : i < l'.size := by omega
   have h2 : i < listed.size := by omega
   simp [h1, h2]
  ·rw [getD_set_ne false e, getD_set_ne false e]; exact h.lo j hj
 ·rw [getD_set_ne false (by omega)]; exact h.hi j hj
theorem aCD {o : Oper} {a : Act} {w : World} {K K1 K2 : Act → World → Prop} (h : o.wp P a w K (Fx K1)) : o.wp P a w K (Fx K2) := by
 unfold Oper.wp at h ⊢
 generalize (execOp a.eval o).run P w = res at h ⊢
 cases res with
 | ok n w' => cases n <;> first | exact h | exact Calls.mono h (fun x w'' hx => by cases x <;> first | exact hx | exact hx.elim | (obtain ⟨_, _, hf⟩ := hx; exact hf.elim))
 | halt x w' => cases x <;> exact h
theorem aIh {l : List Oper} {m : Nat} (hm : m ≤ l.length) (hE : Fc l.toArray = true) (hT : yZ l.toArray m = true) (hG : Vq l m = true) (hp : (l.take m).all Bi = true) :
  ∀ (fuel : Nat) (listed l' : Array Bool) (a : Act) (w : World), Rel l.toArray m listed l' → Down l.toArray listed → wpAny P .any (l.take m).toArray (Fx (KI r L P l.toArray Q (l.drop m))) fuel l' a w →
   wpAnyIn (Fr r) 9 P .any l.toArray Q (fuel + (l.length - m)) listed (mk L a) w := by
 have Ca : ∀ i, i < m → (l.take m).toArray[i]? = l.toArray[i]? := fun i hi => by simp [List.getElem?_take, hi]
 have Ud : ∀ {listed l' : Array Bool}, Rel l.toArray m listed l' → ∀ i, i < m → (i ∈ Region.ready .any l.toArray listed ↔ i ∈ Region.ready .any (l.take m).toArray l') := by
  intro listed l' hr i hi
  have hs1 := hr.s1
  have fF := hr.s2
  have hle := hr.le
  rw [mem_ready, mem_ready, Cl (l := listed) (by omega), Cl (l := l') (by omega), hr.lo i hi, Ca i hi]
  constructor
  ·rintro ⟨h1, o, ho, h2⟩
   exact ⟨h1, o, ho, fun x hx hb => by have := Pr hE ho x hx hb; rw [← hr.lo _ (by omega)]; exact h2 x hx hb⟩
  ·rintro ⟨h1, o, ho, h2⟩
   exact ⟨h1, o, ho, fun x hx hb => by have := Pr hE ho x hx hb; rw [hr.lo _ (by omega)]; exact h2 x hx hb⟩
 have xM : ∀ j, m ≤ j → j < l.toArray.size → Bc l.toArray j = true := fun j hj hlt => by
  unfold yZ at hT
  simp only [List.all_eq_true, List.mem_range, Bool.or_eq_true, decide_eq_true_eq] at hT
  exact (hT j hlt).resolve_left (by omega)
 have hdone : ∀ {listed l' : Array Bool}, Rel l.toArray m listed l' → Region.ready .any (l.take m).toArray l' = [] → Dc m listed := by
  intro listed l' hr hn
  refine ⟨fun i => ?_, hr.hi⟩
  induction i using Nat.strongRecOn with
  | _ i ih =>
   intro hi
   cases hb : listed.getD i false with
   | true => rfl
   | false =>
    exfalso
    have hs1 := hr.s1
    have hle := hr.le
    have hil : i < l.toArray.size := by omega
    have : i ∈ Region.ready .any l.toArray listed := mem_ready.2 ⟨by rw [Cl (by omega)]; exact hb, _, Array.getElem?_eq_getElem hil, fun x hx hxb => by
     have := Pr hE (Array.getElem?_eq_getElem hil) x hx hxb
     exact ih x.on this (by omega)⟩
    rw [Ud hr i hi, hn] at this
    cases this
 have fin : ∀ {fuel : Nat} {listed l' : Array Bool} {a : Act} {w : World}, Rel l.toArray m listed l' → Down l.toArray listed → Region.ready .any (l.take m).toArray l' = [] → KI r L P l.toArray Q (l.drop m) a w → wpAnyIn (Fr r) 9 P .any l.toArray Q (fuel + (l.length - m)) listed (mk L a) w := by
  intro fuel listed l' a w hr hd hn hk
  refine aCY hE _ m listed _ w (by simpa using hm) (by simp; omega) hd xM hr.s1 (hdone hr hn) ?_
  unfold KI at hk
  simpa using hk
 intro fuel
 induction fuel with
 | zero =>
  intro listed l' a w hr hd h
  exact fin hr hd h.1 h.2
 | succ fuel ih =>
  intro listed l' a w hr hd h
  cases hne : Region.ready .any (l.take m).toArray l' with
  | nil => exact fin hr hd hne (h.1 hne)
  | cons i0 is =>
   have nD : i0 ∈ Region.ready .any (l.take m).toArray l' := by rw [hne]; simp
   have aFC : i0 < m := by
    obtain ⟨_, o, ho, _⟩ := mem_ready.1 nD
    have := (Array.getElem?_eq_some_iff.1 ho).1
    simp at this
    omega
   have aAT := (Ud hr i0 aFC).2 nD
   rw [show fuel + 1 + (l.length - m) = (fuel + (l.length - m)) + 1 by omega]
   refine ⟨fun hn => absurd aAT (by rw [hn]; simp), fun i hi => ?_⟩
   obtain ⟨h1, o, ho, _⟩ := mem_ready.1 hi
   have hlt := (Array.getElem?_eq_some_iff.1 ho).1
   by_cases uN : i < m
   ·have hi' := (Ud hr i uN).1 hi
    have h2 := h.2 i hi'
    unfold wpOp at h2
    unfold wpOpIn
    rw [Ca i uN, ho] at h2
    rw [ho]
    dsimp only at h2 ⊢
    have aFv : Region.wanted o (yielded l.toArray (mk L a).tmps) = Region.wanted o (yielded (l.take m).toArray a.tmps) := by
     show Region.wanted o (yielded l.toArray a.tmps) = _
     cases hgd : o.guard with
     | none => simp [Region.wanted, hgd]
     | some g =>
      obtain ⟨j, b⟩ := g
      have hj : j < m := by
       unfold Vq at hG
       simp only [List.all_eq_true] at hG
       have hmem : o ∈ l.take m := by
        have : (l.take m)[i]? = some o := by simpa [List.getElem?_take, uN] using ho
        exact List.mem_of_getElem? this
       have := hG o hmem
       rw [hgd] at this
       simpa using this
      simp only [Region.wanted, hgd, yielded, Ca j hj]
    rw [aFv]
    have hpo : Bi o = true := by
     simp only [List.all_eq_true] at hp
     have : (l.take m)[i]? = some o := by simpa [List.getElem?_take, uN] using ho
     exact hp o (List.mem_of_getElem? this)
    have key : ∀ a' w', wpAny P .any (l.take m).toArray (Fx (KI r L P l.toArray Q (l.drop m))) fuel (l'.setIfInBounds i true) a' w' → wpAnyIn (Fr r) 9 P .any l.toArray Q (fuel + (l.length - m)) (listed.setIfInBounds i true) (mk L a') w' := fun a' w' hh => ih _ _ a' w' (hr.gH uN) (hd.gH hi) hh
    split
    ·rename_i hw
     rw [if_pos hw] at h2
     rcases h2 with h2 | ⟨_, _, _, h2⟩
     ·exact aAm hpo key (aCD h2)
     ·exact h2.elim
    ·rename_i hw
     rw [if_neg hw] at h2
     refine ⟨fun _ _ => trivial, ?_⟩
     rw [xF]
     exact key _ _ h2
   ·exfalso
    have := Ri hd hi (xM i (by omega) hlt) (show i0 < i by omega)
    obtain ⟨h3, _⟩ := mem_ready.1 aAT
    have hs1 := hr.s1
    rw [Cl (by omega), this] at h3
    cases h3
theorem XC.draw (m : Nat) {id : Nat} {l : List Oper} (hm : P.follows .mixedOrders = true) (hc : (Region.noSelect (l.take m).toArray && Fc l.toArray && yZ l.toArray m && yZ (l.take m).toArray m && Vq l m && (l.take m).all Bi && decide (m ≤ l.length)) = true)
  (h : XA P ⟨nn, []⟩ w0 (l.take m).toArray (Fx (KI r L P l.toArray Q (l.drop m))) R H m m (Array.replicate m false) e R H) : XK ⟨nn, []⟩ w0 (KC r L P (Code.region id l.toArray true) Q) e R H := fun a w hr st => by
 simp only [Bool.and_eq_true, decide_eq_true_eq] at hc
 obtain ⟨⟨⟨⟨⟨⟨c1, c2⟩, c3⟩, c4⟩, c5⟩, c6⟩, c7⟩ := hc
 have h1 := h ⟨Down.start _ _, c1, c4⟩ a w.drew hr st.drew
 have h2 := aIh (r := r) (L := L) (Q := Q) c7 c2 c3 c5 c6 m (Array.replicate l.length false) _ a w.drew ⟨fun i hi => by simp [hi, Nat.lt_of_lt_of_le hi c7], fun i hi => by simp [Array.getElem?_replicate]; split <;> rfl, by simp, by simp, by simpa using c7⟩ (Down.start _ _) (Qx _ _ _ _ h1)
 unfold KC
 refine wpIn_region_any hm ?_
 rw [show m + (l.length - m) = l.length by omega] at h2
 simpa using h2
end
end
section
attribute [local irreducible] KC KI KQ
def Xe (p : Piece) (Mo : FuncId) (Mp : List Value) (ids : List Nat) (val : Nat → Int) : Prop := ∀ i ∈ ids, ∀ w', p.Le (all w') → Calls Tryz.prog Mo (Value.int .i64 (i : Int) :: Mp).toArray w' (Rt (.int .u32 (val i)) w')
theorem Piece.Le.trans' {p q r : Piece} (h : p.Le q) (k : q.Le r) : p.Le r := fun b hb => ⟨(k b (h b hb).1).1, (k b (h b hb).1).2.trans (h b hb).2⟩
theorem Xe.le {p q : Piece} {Mo : FuncId} {Mp : List Value} {ids : List Nat} {val : Nat → Int} (h : Xe p Mo Mp ids val) (hl : p.Le q) : Xe q Mo Mp ids val := fun i hi w' hq => h i hi w' (hl.trans' hq)
theorem RP.pE {q : Piece} {g o : Nat} {t : TypeId} {cs : List Value} {v : Value} (h : ∃ F, (HP.aF g t cs).sat F q.w ∧ ∀ b, F b → q.Z b) (hv : cs[o]? = some v) : RP q g o v := by
 obtain ⟨F, hs, hz⟩ := h
 refine ⟨hz g hs.1, ?_⟩
 have : dQ q.w g t cs.toArray := hs.2
 rw [this.cell]
 simpa using hv
end
section
attribute [local irreducible] KC KI KQ
structure sD where
 pr : Int
 msg : Int
 id : Int
 v : Int
def sD.cells (s : sD) : List Value := [.int .i64 s.pr, .int .i64 s.msg, .int .u32 s.id, .int .u32 s.v]
structure aCg where
 gf : FuncId
 lb : List Value
 sts : List sD
def aCg.fn (r : aCg) : Value := .func (.func r.gf) #[] r.lb.toArray
end
end Go.Proofs.YticjkhagldkejaaGreatDoor
